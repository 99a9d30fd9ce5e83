import Derived.Test.YtfpckpgnnplhnaaGreatSwTlSrL
import Derived.Test.YtfpckpgnnplhnaaGreatSwTlSrB
import Derived.Test.YtfpckpgnnplhnaaGreatSwTlSpM
import Derived.Test.YtfpckpgnnplhnaaGreatSwTlSqM
import Derived.Test.YtfpckpgnnplhnaaGreatSwTlSqL
import Derived.Test.YtfpckpgnnplhnaaGreatSwTlGenA
import Derived.Test.YtfpckpgnnplhnaaGreatSwTlAli
set_option linter.all false
set_option maxRecDepth 20000
namespace TL
open Go Go.Proofs
theorem Bm:Tryz.f5.body.isNone=false:=rfl
theorem Cg:(Tryz.f5.name== "runtime.NumGoroutine")=false:=by decide+kernel
theorem BL:Tryz.f6.body.isNone=false:=rfl
theorem CD:(Tryz.f6.name== "runtime.NumGoroutine")=false:=by decide+kernel
theorem C4:Tryz.f7.body.isNone=false:=rfl
theorem C0:(Tryz.f7.name== "runtime.NumGoroutine")=false:=by decide+kernel
theorem Cd:Tryz.f8.body.isNone=false:=rfl
theorem BC:(Tryz.f8.name== "runtime.NumGoroutine")=false:=by decide+kernel
theorem BP:Tryz.f9.body.isNone=false:=rfl
theorem BV:(Tryz.f9.name== "runtime.NumGoroutine")=false:=by decide+kernel
theorem zf:Tryz.f11.body.isNone=false:=rfl
theorem Ad:(Tryz.f11.name== "runtime.NumGoroutine")=false:=by decide+kernel
theorem xK:Tryz.f12.body.isNone=false:=rfl
theorem zQ:(Tryz.f12.name== "runtime.NumGoroutine")=false:=by decide+kernel
attribute [local irreducible] cQ aT cL ci bw dB c7
set_option maxHeartbeats 8000000 in
theorem pW(w0:World)(n:Int):
    Calls Tryz.prog 3 #[vi n] w0 (λee w=>ee= .returned (vb true)/\eK w0.heap.size w0 w):=by
 refine ah Tryz.func3 rfl nq ?_
 have bH:=aW.start w0
 refine a7 (a6 rfl (ma (vb false) (ab (a7 (a7 (a6 rfl (cy rfl (bI (v:=vb true) (aB (vals:=[]) Tryz.func5 Bm Cg rfl) (uI w0) ?_))))))))
 intro w1 hb2
 replace hb2:=aG hb2 c0
 refine lx (fM (b:=true) rfl) (ab (af rfl rfl (am (a7 (a7 (a6 rfl (mi n (lx (br (m:=n) (n:=3) rfl rfl) (mv (vb (decide (n<3))) ?_)))))))))
 by_cases q37:n<3
 ·
  refine au (wn (dt q37)) (au (wn (dt q37)) (lw (vb true) (bh rfl (dt q37) rfl) (ab (ag rfl rfl (a7 (a6 rfl (ma (vb true) (ab (az (vs:=[vb true]) Tryz.func3 (.tmp rfl .nil) ?_)))))))))
  have e0:(true:Bool)=(true):=by
    rfl
  exact⟨rb e0,bH.t.below⟩
 refine lv (vi n) (wy (df q37)) (ar rfl) (lv (vb (decide (14<n))) (wy (df q37)) (eX (m:=n) (n:=14) rfl rfl) (lw (vb (decide (14<n))) (bo rfl (df q37) rfl) (ab ?_)))
 by_cases p3:14<n
 ·
  refine ag rfl (dt p3) (a7 (a6 rfl (ma (vb true) (ab (az (vs:=[vb true]) Tryz.func3 (.tmp rfl .nil) ?_)))))
  have e0:(true:Bool)=(true):=by
    rfl
  exact⟨rb e0,bH.t.below⟩
 refine af rfl (df p3) (am (a7 ?_))
 have hn3:3<=n/\n<=14:=⟨by omega,by omega⟩
 obtain⟨hkc,hkb,hkw,hkm,hkg,hlv⟩:=known hn3.1 hn3.2
 obtain⟨hfc1,hfc2,hfc3,hfc4⟩:=hkc.four
 obtain⟨hfb1,hfb2,hfb3,hfb4⟩:=hkb.four
 obtain⟨hfw1,hfw2,hfw3,hfw4⟩:=hkw.four
 obtain⟨hfm1,hfm2,hfm3,hfm4⟩:=hkm.four
 obtain⟨hfg1,hfg2,hfg3,hfg4⟩:=hkg.four
 refine a6 rfl (mi n (lo (bB (aB (vals:=[vi n]) Tryz.func6 BL CD rfl) (uA w1 n (by exact⟨by omega,by omega⟩)) ?_)))
 rintro⟨d4,v6⟩ w3 ⟨fr5,o7⟩
 obtain⟨g8,ch9,G8⟩:=hU c0 fr5 (λn=>if n=1 then 1 else 0)
 replace o7:=o7.gl G8 1
 refine mv (vt [vg [vi ((cL n).1),v6],vi 0]) (lx (ay rfl rfl) (lx (ay rfl rfl) (lo (aZ g8 (is 2) (2,0) rfl aK ?_))))
 intro g13 w10 b12 ch11 bx14
 refine lo ?_
 refine aA (cs':=[vi ((cL n).1),v6]) aK rfl rfl bx14 rfl nq (AllOne.all (.cons rfl (.cons (aM o7.t.flat) .nil))) rfl ?_
 intro w15 ch16 bx17
 refine ai 0 (ab (a7 (a6 rfl (mi n (lo (bB (aB (vals:=[vi n]) Tryz.func7 C4 C0 rfl) (zW w15 n (by exact⟨by omega,by omega⟩)) ?_))))))
 rintro⟨d19,v21⟩ w18 ⟨fr20,o22⟩
 obtain⟨g23,ch24,G23⟩:=hU g13 fr20 (λn=>if n=1 then 3 else 0)
 replace o22:=o22.gl G23 3
 refine mv (vt [vg [vi ((ci n).1),v21],vi 0]) (lx (ay rfl rfl) (lx (ay rfl rfl) (lo (aZ g23 (is 4) (4,0) rfl aK ?_))))
 intro g28 w25 b27 ch26 bx29
 refine lo ?_
 refine aA (cs':=[vi ((ci n).1),v21]) aK rfl rfl bx29 rfl nq (AllOne.all (.cons rfl (.cons (aM o22.t.flat) .nil))) rfl ?_
 intro w30 ch31 bx32
 refine ai 0 (ab (a7 (a6 rfl (mi n (lo (bB (aB (vals:=[vi n]) Tryz.func8 Cd BC rfl) (uD w30 n (by exact⟨by omega,by omega⟩)) ?_))))))
 rintro⟨d34,v36⟩ w33 ⟨fr35,o37⟩
 obtain⟨g38,ch39,G38⟩:=hU g28 fr35 (λn=>if n=1 then 5 else 0)
 replace o37:=o37.gl G38 5
 refine mv (vt [vg [vi ((bw n).1),v36],vi 0]) (lx (ay rfl rfl) (lx (ay rfl rfl) (lo (aZ g38 (is 6) (6,0) rfl aK ?_))))
 intro g43 w40 b42 ch41 bx44
 refine lo ?_
 refine aA (cs':=[vi ((bw n).1),v36]) aK rfl rfl bx44 rfl nq (AllOne.all (.cons rfl (.cons (aM o37.t.flat) .nil))) rfl ?_
 intro w45 ch46 bx47
 refine ai 0 (ab (a7 (a6 rfl (mi n (lx (aJ (m:=n) (n:=1) rfl rfl (by omega)) (lw (vi (min (n+1) 7)) (io rfl rfl) (lo (bB (aB (vals:=[vi (min (n+1) 7)]) Tryz.func9 BP BV rfl) (pC w45 (min (n+1) 7) (by exact⟨by omega,by omega⟩)) ?_))))))))
 rintro⟨d49,v51⟩ w48 ⟨fr50,o52⟩
 obtain⟨g53,ch54,G53⟩:=hU g43 fr50 (λn=>if n=1 then 7 else 0)
 replace o52:=o52.gl G53 7
 refine mv (vt [vg [vi ((dB (min (n+1) 7)).1),v51],vi 0]) (lx (ay rfl rfl) (lx (ay rfl rfl) (lo (aZ g53 (is 8) (8,0) rfl aK ?_))))
 intro g58 w55 b57 ch56 bx59
 refine lo ?_
 refine aA (cs':=[vi ((dB (min (n+1) 7)).1),v51]) aK rfl rfl bx59 rfl nq (AllOne.all (.cons rfl (.cons (aM o52.t.flat) .nil))) rfl ?_
 intro w60 ch61 bx62
 refine ai 0 (ab (a7 (a6 rfl ?_)))
 refine lx (av (ds:=[vi ((cL n).1),v6]) aK rfl bx17.t rfl rfl) ?_
 refine lo (bI (v:=vt [vi ((aT (cL n)).1),vi ((aT (cL n)).2.1),vi ((aT (cL n)).2.2.1),vi ((aT (cL n)).2.2.2)]) (aB (vals:=[vg [vi ((cL n).1),v6]]) Tryz.func10 iA iv rfl) (iD w60 (cL n) v6 (o7.t.flat).ro (by exact λ_ _ _=>hkc.ok) (by exact hkc.kd)) ?_)
 intro w65 hb66
 replace hb66:=aG hb66 g58
 refine mv (vt [vi ((aT (cL n)).1),vi ((aT (cL n)).2.1),vi ((aT (cL n)).2.2.1),vi ((aT (cL n)).2.2.2)]) (lx (ay rfl rfl) (lx (ay rfl rfl) (lx (ay rfl rfl) (lx (ay rfl rfl) (ai ((aT (cL n)).1) (ai ((aT (cL n)).2.1) (ai ((aT (cL n)).2.2.1) (ai ((aT (cL n)).2.2.2) (ab (a7 ?_))))))))))
 refine a6 rfl ?_
 refine lx (av (ds:=[vi ((ci n).1),v21]) aK rfl bx32.t rfl rfl) ?_
 refine lo (bI (v:=vt [vi ((aT (ci n)).1),vi ((aT (ci n)).2.1),vi ((aT (ci n)).2.2.1),vi ((aT (ci n)).2.2.2)]) (aB (vals:=[vg [vi ((ci n).1),v21]]) Tryz.func10 iA iv rfl) (iD w65 (ci n) v21 (o22.t.flat).ro (by exact λ_ _ _=>hkb.ok) (by exact hkb.kd)) ?_)
 intro w69 hb70
 replace hb70:=aG hb70 g58
 refine mv (vt [vi ((aT (ci n)).1),vi ((aT (ci n)).2.1),vi ((aT (ci n)).2.2.1),vi ((aT (ci n)).2.2.2)]) (lx (ay rfl rfl) (lx (ay rfl rfl) (lx (ay rfl rfl) (lx (ay rfl rfl) (ai ((aT (ci n)).1) (ai ((aT (ci n)).2.1) (ai ((aT (ci n)).2.2.1) (ai ((aT (ci n)).2.2.2) (ab (a7 ?_))))))))))
 refine a6 rfl ?_
 refine lx (av (ds:=[vi ((bw n).1),v36]) aK rfl bx47.t rfl rfl) ?_
 refine lo (bI (v:=vt [vi ((aT (bw n)).1),vi ((aT (bw n)).2.1),vi ((aT (bw n)).2.2.1),vi ((aT (bw n)).2.2.2)]) (aB (vals:=[vg [vi ((bw n).1),v36]]) Tryz.func10 iA iv rfl) (iD w69 (bw n) v36 (o37.t.flat).ro (by exact λ_ _ _=>hkw.ok) (by exact hkw.kd)) ?_)
 intro w73 hb74
 replace hb74:=aG hb74 g58
 refine mv (vt [vi ((aT (bw n)).1),vi ((aT (bw n)).2.1),vi ((aT (bw n)).2.2.1),vi ((aT (bw n)).2.2.2)]) (lx (ay rfl rfl) (lx (ay rfl rfl) (lx (ay rfl rfl) (lx (ay rfl rfl) (ai ((aT (bw n)).1) (ai ((aT (bw n)).2.1) (ai ((aT (bw n)).2.2.1) (ai ((aT (bw n)).2.2.2) (ab (a7 (a6 rfl ?_)))))))))))
 refine lx (av (ds:=[vi ((dB (min (n+1) 7)).1),v51]) aK rfl bx62.t rfl rfl) ?_
 refine lo (bI (v:=vt [vi ((aT (dB (min (n+1) 7))).1),vi ((aT (dB (min (n+1) 7))).2.1),vi ((aT (dB (min (n+1) 7))).2.2.1),vi ((aT (dB (min (n+1) 7))).2.2.2)]) (aB (vals:=[vg [vi ((dB (min (n+1) 7)).1),v51]]) Tryz.func10 iA iv rfl) (iD w73 (dB (min (n+1) 7)) v51 (o52.t.flat).ro (by exact λ_ _ _=>hkm.ok) (by exact hkm.kd)) ?_)
 intro w77 hb78
 replace hb78:=aG hb78 g58
 refine mv (vt [vi ((aT (dB (min (n+1) 7))).1),vi ((aT (dB (min (n+1) 7))).2.1),vi ((aT (dB (min (n+1) 7))).2.2.1),vi ((aT (dB (min (n+1) 7))).2.2.2)]) (lx (ay rfl rfl) (lx (ay rfl rfl) (lx (ay rfl rfl) (lx (ay rfl rfl) (ai ((aT (dB (min (n+1) 7))).1) (ai ((aT (dB (min (n+1) 7))).2.1) (ai ((aT (dB (min (n+1) 7))).2.2.1) (ai ((aT (dB (min (n+1) 7))).2.2.2) (ab (a7 ?_))))))))))
 refine a6 rfl (mi n (lo (bB (aB (vals:=[vi n,vi 2]) Tryz.func11 zf Ad rfl) (BB w77 n 2 (by exact⟨by omega,by omega⟩) (by exact⟨by omega,by omega⟩)) ?_)))
 rintro⟨d80,v82⟩ w79 ⟨fr81,o83⟩
 obtain⟨g84,ch85,G84⟩:=hU g58 fr81 (λn=>if n=1 then 9 else 0)
 replace o83:=o83.gl G84 9
 refine mv (vt [vg [vi ((c7 n 2).1),v82],vi 0]) (lx (ay rfl rfl) (lx (ay rfl rfl) (lo (aZ g84 (is 10) (10,0) rfl aK ?_))))
 intro g89 w86 b88 ch87 bx90
 refine lo ?_
 refine aA (cs':=[vi ((c7 n 2).1),v82]) aK rfl rfl bx90 rfl nq (AllOne.all (.cons rfl (.cons (aM o83.t.flat) .nil))) rfl ?_
 intro w91 ch92 bx93
 refine ai 0 (ab (a7 (a6 rfl (lx (av (ds:=[vi ((c7 n 2).1),v82]) aK rfl bx93 rfl rfl) ?_))))
 refine lo (bI (v:=vt [vi ((aT (c7 n 2)).1),vi ((aT (c7 n 2)).2.1),vi ((aT (c7 n 2)).2.2.1),vi ((aT (c7 n 2)).2.2.2)]) (aB (vals:=[vg [vi ((c7 n 2).1),v82]]) Tryz.func10 iA iv rfl) (iD w91 (c7 n 2) v82 (o83.t.flat).ro (by exact λ_ _ _=>hkg.ok) (by exact hkg.kd)) ?_)
 intro w94 hb95
 replace hb95:=aG hb95 g89
 refine mv (vt [vi ((aT (c7 n 2)).1),vi ((aT (c7 n 2)).2.1),vi ((aT (c7 n 2)).2.2.1),vi ((aT (c7 n 2)).2.2.2)]) (lx (ay rfl rfl) (lx (ay rfl rfl) (lx (ay rfl rfl) (lx (ay rfl rfl) (ai ((aT (c7 n 2)).1) (ai ((aT (c7 n 2)).2.1) (ai ((aT (c7 n 2)).2.2.1) (ai ((aT (c7 n 2)).2.2.2) (ab (a7 ?_))))))))))
 refine a6 rfl (mi ((aT (cL n)).1) (lx (dd (m:=(aT (cL n)).1) (n:=1) rfl rfl) (mv (vb (decide (((aT (cL n)).1)=1))) ?_)))
 have q105:((aT (cL n)).1)=1:=by omega
 refine lv (vi ((aT (cL n)).2.1)) (wy (dt q105)) (ar rfl) (lv (vi ((aT (cL n)).2.2.1)) (wy (dt q105)) (ar rfl) (lv (vi (((aT (cL n)).2.1)+((aT (cL n)).2.2.1))) (wy (dt q105)) (aJ (m:=(aT (cL n)).2.1) (n:=(aT (cL n)).2.2.1) rfl rfl (by omega)) (lv (vb (decide ((((aT (cL n)).2.1)+((aT (cL n)).2.2.1))=0))) (wy (dt q105)) (dd (m:=((aT (cL n)).2.1)+((aT (cL n)).2.2.1)) (n:=0) rfl rfl) (lw (vb (decide ((((aT (cL n)).2.1)+((aT (cL n)).2.2.1))=0))) (bh rfl (dt q105) rfl) (mv (vb (decide ((((aT (cL n)).2.1)+((aT (cL n)).2.2.1))=0))) ?_)))))
 have q111:(((aT (cL n)).2.1)+((aT (cL n)).2.2.1))=0:=by omega
 refine lv (vi ((aT (ci n)).2.1)) (wy (dt q111)) (ar rfl) (lv (vb (decide (((aT (ci n)).2.1)=1))) (wy (dt q111)) (dd (m:=(aT (ci n)).2.1) (n:=1) rfl rfl) (lw (vb (decide (((aT (ci n)).2.1)=1))) (bh rfl (dt q111) rfl) (mv (vb (decide (((aT (ci n)).2.1)=1))) ?_)))
 have q115:((aT (ci n)).2.1)=1:=by omega
 refine lv (vi ((aT (ci n)).1)) (wy (dt q115)) (ar rfl) (lv (vi ((aT (ci n)).2.2.1)) (wy (dt q115)) (ar rfl) (lv (vi (((aT (ci n)).1)+((aT (ci n)).2.2.1))) (wy (dt q115)) (aJ (m:=(aT (ci n)).1) (n:=(aT (ci n)).2.2.1) rfl rfl (by omega)) (lv (vb (decide ((((aT (ci n)).1)+((aT (ci n)).2.2.1))=0))) (wy (dt q115)) (dd (m:=((aT (ci n)).1)+((aT (ci n)).2.2.1)) (n:=0) rfl rfl) (lw (vb (decide ((((aT (ci n)).1)+((aT (ci n)).2.2.1))=0))) (bh rfl (dt q115) rfl) (mv (vb (decide ((((aT (ci n)).1)+((aT (ci n)).2.2.1))=0))) ?_)))))
 have q121:(((aT (ci n)).1)+((aT (ci n)).2.2.1))=0:=by omega
 refine lv (vi ((aT (bw n)).2.2.1)) (wy (dt q121)) (ar rfl) (lv (vb (decide (((aT (bw n)).2.2.1)=1))) (wy (dt q121)) (dd (m:=(aT (bw n)).2.2.1) (n:=1) rfl rfl) (lw (vb (decide (((aT (bw n)).2.2.1)=1))) (bh rfl (dt q121) rfl) (mv (vb (decide (((aT (bw n)).2.2.1)=1))) ?_)))
 have q125:((aT (bw n)).2.2.1)=1:=by omega
 refine lv (vi ((aT (bw n)).1)) (wy (dt q125)) (ar rfl) (lv (vi ((aT (bw n)).2.1)) (wy (dt q125)) (ar rfl) (lv (vi (((aT (bw n)).1)+((aT (bw n)).2.1))) (wy (dt q125)) (aJ (m:=(aT (bw n)).1) (n:=(aT (bw n)).2.1) rfl rfl (by omega)) (lv (vb (decide ((((aT (bw n)).1)+((aT (bw n)).2.1))=0))) (wy (dt q125)) (dd (m:=((aT (bw n)).1)+((aT (bw n)).2.1)) (n:=0) rfl rfl) (lw (vb (decide ((((aT (bw n)).1)+((aT (bw n)).2.1))=0))) (bh rfl (dt q125) rfl) (mv (vb (decide ((((aT (bw n)).1)+((aT (bw n)).2.1))=0))) ?_)))))
 have q131:(((aT (bw n)).1)+((aT (bw n)).2.1))=0:=by omega
 refine lv (vi ((aT (dB (min (n+1) 7))).2.2.1)) (wy (dt q131)) (ar rfl) (lv (vb (decide (((aT (dB (min (n+1) 7))).2.2.1)=1))) (wy (dt q131)) (dd (m:=(aT (dB (min (n+1) 7))).2.2.1) (n:=1) rfl rfl) (lw (vb (decide (((aT (dB (min (n+1) 7))).2.2.1)=1))) (bh rfl (dt q131) rfl) (mv (vb (decide (((aT (dB (min (n+1) 7))).2.2.1)=1))) ?_)))
 have q135:((aT (dB (min (n+1) 7))).2.2.1)=1:=by omega
 refine lv (vi ((aT (dB (min (n+1) 7))).1)) (wy (dt q135)) (ar rfl) (lv (vi ((aT (dB (min (n+1) 7))).2.1)) (wy (dt q135)) (ar rfl) (lv (vi (((aT (dB (min (n+1) 7))).1)+((aT (dB (min (n+1) 7))).2.1))) (wy (dt q135)) (aJ (m:=(aT (dB (min (n+1) 7))).1) (n:=(aT (dB (min (n+1) 7))).2.1) rfl rfl (by omega)) (lv (vb (decide ((((aT (dB (min (n+1) 7))).1)+((aT (dB (min (n+1) 7))).2.1))=0))) (wy (dt q135)) (dd (m:=((aT (dB (min (n+1) 7))).1)+((aT (dB (min (n+1) 7))).2.1)) (n:=0) rfl rfl) (lw (vb (decide ((((aT (dB (min (n+1) 7))).1)+((aT (dB (min (n+1) 7))).2.1))=0))) (bh rfl (dt q135) rfl) ?_))))
 refine mv (vb (decide ((((aT (dB (min (n+1) 7))).1)+((aT (dB (min (n+1) 7))).2.1))=0))) ?_
 have q141:(((aT (dB (min (n+1) 7))).1)+((aT (dB (min (n+1) 7))).2.1))=0:=by omega
 refine lv (vi ((aT (c7 n 2)).2.2.1)) (wy (dt q141)) (ar rfl) (lv (vb (decide (((aT (c7 n 2)).2.2.1)=0))) (wy (dt q141)) (dd (m:=(aT (c7 n 2)).2.2.1) (n:=0) rfl rfl) (lw (vb (decide (((aT (c7 n 2)).2.2.1)=0))) (bh rfl (dt q141) rfl) (mv (vb (decide (((aT (c7 n 2)).2.2.1)=0))) ?_)))
 have q145:((aT (c7 n 2)).2.2.1)=0:=by omega
 refine lv (vi ((aT (c7 n 2)).1)) (wy (dt q145)) (ar rfl) (lv (vi n) (wy (dt q145)) (ar rfl) (lv (vi (n-1)) (wy (dt q145)) (da (m:=n) (n:=1) rfl rfl (by omega)) (lv (vb (decide (((aT (c7 n 2)).1)=(n-1)))) (wy (dt q145)) (dd (m:=(aT (c7 n 2)).1) (n:=n-1) rfl rfl) (lw (vb (decide (((aT (c7 n 2)).1)=(n-1)))) (bh rfl (dt q145) rfl) (mv (vb (decide (((aT (c7 n 2)).1)=(n-1)))) ?_)))))
 have q151:((aT (c7 n 2)).1)=(n-1):=by omega
 refine lv (vi ((aT (c7 n 2)).2.1)) (wy (dt q151)) (ar rfl) (lv (vi n) (wy (dt q151)) (ar rfl) (lv (vi (n-2)) (wy (dt q151)) (da (m:=n) (n:=2) rfl rfl (by omega)) (lv (vb (decide (((aT (c7 n 2)).2.1)=(n-2)))) (wy (dt q151)) (dd (m:=(aT (c7 n 2)).2.1) (n:=n-2) rfl rfl) (lw (vb (decide (((aT (c7 n 2)).2.1)=(n-2)))) (bh rfl (dt q151) rfl) (mv (vb (decide (((aT (c7 n 2)).2.1)=(n-2)))) ?_)))))
 have q157:((aT (c7 n 2)).2.1)=(n-2):=by omega
 refine lv (vg [vi ((bw n).1),v36]) (wy (dt q157)) (av (ds:=[vi ((bw n).1),v36]) aK rfl bx47.t rfl rfl) ?_
 refine cy (wy (dt q157)) (bI (v:=vi 3) (aB (vals:=[vg [vi ((bw n).1),v36]]) Tryz.func12 xK zQ rfl) (sO w94 (bw n) v36 (o37.t.flat).ro (by exact hlv)) ?_)
 intro w97 hb98
 replace hb98:=aG hb98 g89
 refine lv (vb true) (wy (dt q157)) (dd (m:=3) (n:=3) rfl rfl) (lw (vb true) (bh rfl (dt q157) rfl) (ma (vb true) (ab (az (vs:=[vb true]) Tryz.func3 (.tmp rfl .nil) ?_))))
 have e0:(true:Bool)=(true):=by
   rfl
 exact⟨rb e0,bH.t.below⟩
end TL
