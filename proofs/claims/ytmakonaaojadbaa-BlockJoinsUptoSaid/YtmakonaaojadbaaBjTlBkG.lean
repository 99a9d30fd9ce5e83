import Derived.Test.YtmakonaaojadbaaBjTlP3
import Derived.Test.YtmakonaaojadbaaBjTlGmA
import Derived.Test.YtmakonaaojadbaaBjTlGenA
import Derived.Test.YtmakonaaojadbaaBjTlBkE
import Derived.Test.YtmakonaaojadbaaBjTlBkT
import Derived.Test.YtmakonaaojadbaaProg
import Derived.Test.YtmakonaaojadbaaBjTlAli
set_option linter.all false
set_option maxRecDepth 20000
namespace TL
open Go Go.Proofs
theorem ji:Try.f11.body.isNone=false:=rfl
theorem je:(Try.f11.name== "runtime.NumGoroutine")=false:=by decide+kernel
theorem po:Try.f12.body.isNone=false:=rfl
theorem o4:(Try.f12.name== "runtime.NumGoroutine")=false:=by decide+kernel
theorem pk:Try.f13.body.isNone=false:=rfl
theorem pc:(Try.f13.name== "runtime.NumGoroutine")=false:=by decide+kernel
theorem ol:Try.f14.body.isNone=false:=rfl
theorem o3:(Try.f14.name== "runtime.NumGoroutine")=false:=by decide+kernel
theorem lQ:Try.f16.body.isNone=false:=rfl
theorem lk:(Try.f16.name== "runtime.NumGoroutine")=false:=by decide+kernel
theorem oL:Try.f26.body.isNone=false:=rfl
theorem oM:(Try.f26.name== "runtime.NumGoroutine")=false:=by decide+kernel
theorem jh:Try.f35.body.isNone=false:=rfl
theorem iY:(Try.f35.name== "runtime.NumGoroutine")=false:=by decide+kernel
theorem g8(w0:World):
    Calls Try.prog 35 #[] w0 (λee w=>∃xx:aC×Value,ee= .returned ((λ⟨δ,rv0⟩=>vg [vi aO.1,rv0]) xx)/\(λ(⟨δ,rv0⟩:aC×Value) (w:World)=>fi w0 δ w/\Ow δ (is 1) (is 1) w rv0 aO.2) xx w):=by
 refine ar Try.func35 rfl nq ?_
 have bH:=bj.start w0
 refine a6 (a0 rfl (dG rfl (bf c0 (is 1) (1,0) rfl bn ?_)))
 intro g4 w1 b3 ch2 bx5
 replace bx5:Bx g4 (is 1) w1 b3 [vi 0,vn]:=bx5
 refine aa (a6 (a0 rfl (lw (vg [vi 0,vi 1]) (bh (vs:=[(0,vi 0),(1,vi 1)]) rfl (by kernel_rfl)) (lw (vg [vi 1,vi 2]) (bh (vs:=[(0,vi 1),(1,vi 2)]) rfl (by kernel_rfl)) (lw (vg [vi 2,vi 0]) (bh (vs:=[(0,vi 2),(1,vi 0)]) rfl (by kernel_rfl)) (lw (vg [vi 2,vi 3]) (bh (vs:=[(0,vi 2),(1,vi 3)]) rfl (by kernel_rfl)) (lw (vg [vi 3,vi 3]) (bh (vs:=[(0,vi 3),(1,vi 3)]) rfl (by kernel_rfl)) (lo ?_))))))))
 refine aL (α:=Pt) g4 (is 2) (is 2) (2,0) rfl [(0,1),(1,2),(2,0),(2,3),(3,3)] dB aE (by decide) (by decide) (vs:=[(0,vg [vi 0,vi 1]),(1,vg [vi 1,vi 2]),(2,vg [vi 2,vi 0]),(3,vg [vi 2,vi 3]),(4,vg [vi 3,vi 3])]) rfl rfl (.cons rfl (.cons rfl (.cons rfl (.cons rfl (.cons rfl .nil))))) ?_
 intro g6 w7 v8 ch9 o10
 refine lw (vg [vi 4,v8]) (bh (vs:=[(0,vi 4),(1,v8)]) rfl (by rw[Sl.form o10.flat];kernel_rfl)) (lo ?_)
 replace bx5:=bx5.cn ch9
 refine aw (cs':=[vi 4,v8]) bn rfl rfl bx5 rfl nq (AllOne.all (.cons rfl (.cons (bp o10.flat) .nil))) rfl ?_
 intro w11 ch12 bx13
 clear bx5
 refine aa (aA (vs:=[vg [vi 4,v8]]) Try.func35 (.cell rfl (d7 (ds:=[vi 4,v8]) bn bx13 rfl rfl) .nil) ?_)
 have C14:=cg [1] (ch2.n.seq (ch9.n.seq (ch12.l rfl)))
 replace bH:=bH.ca C14
 replace o10:=o10.ce ch12
 have e0:((4,[(0,1),(1,2),(2,0),(2,3),(3,3)]):(Int)×(List Pt))=(aO):=by
   rfl
 exact⟨(fin w0 g6 (λn=>if n=2 then 1 else 0),v8),(congrArg (a₁:=(4,[(0,1),(1,2),(2,0),(2,3),(3,3)])) (λ(z0:(Int)×(List Pt))=>Ending.returned (vg [vi z0.1,v8])) e0),bH.fresh _,((congrArg (λ(z:(Int)×(List Pt))=>z.2) e0)▸(o10.glue (γ:=c0) (ren:=(λn=>if n=2 then 1 else 0)) (k:=1) bH.col rfl rfl))⟩
set_option maxHeartbeats 4000000 in
theorem me(w0:World):
    Calls Try.prog 8 #[] w0 (λee w=>ee= .returned (vb true)/\dE w0.heap.size w0 w):=by
 refine ar Try.func8 rfl nq ?_
 have bH:=bj.start w0
 refine a6 (a0 rfl (ma (vb false) (aa (a6 (a0 rfl (dG rfl (cw (aV (vals:=[]) Try.func35 jh iY rfl) (g8 w0) ?_)))))))
 rintro⟨d2,v4⟩ w1 ⟨fr3,o5⟩
 obtain⟨g6,ch7,G6⟩:=js c0 fr3 (λn=>if n=1 then 1 else 0)
 replace o5:=o5.gl G6 1
 refine lo (cw (aV (vals:=[vg [vi aO.1,v4]]) Try.func11 ji je rfl) (fW w1 aO v4 (o5.flat).ro) ?_)
 rintro⟨d9,v11,v13⟩ w8 ⟨fr10,o12,o14⟩
 obtain⟨g15,ch16,G15⟩:=js g6 fr10 (λn=>if n=1 then 2 else if n=2 then 3 else 0)
 replace o12:=o12.gl G15 2
 replace o14:=o14.gl G15 3
 refine mv (vt [vg [v11,v13,vi ((((ao aO).1).2).2)],vi ((ao aO).2)]) (lx (aH rfl rfl) (lx (aH rfl rfl) (lo (bf g15 (is 4) (4,0) rfl cv ?_))))
 intro g20 w17 b19 ch18 bx21
 replace bx21:Bx g20 (is 4) w17 b19 [vn,vn,vi 0]:=bx21
 refine lo ?_
 replace o14:=o14.cn ch18
 replace o12:=o12.cn ch18
 refine aw (cs':=[v11,v13,vi ((((ao aO).1).2).2)]) cv rfl rfl bx21 rfl nq (AllOne.all (.cons (bp o12.flat) (.cons (bp o14.flat) (.cons rfl .nil)))) rfl ?_
 intro w22 ch23 bx24
 clear bx21
 refine ai ((ao aO).2) (aa (a6 ?_))
 clear o5
 refine a0 rfl (dG rfl (cw (aV (vals:=[]) Try.func35 jh iY rfl) (g8 w22) ?_))
 rintro⟨d26,v28⟩ w25 ⟨fr27,o29⟩
 obtain⟨g30,ch31,G30⟩:=js g20 fr27 (λn=>if n=1 then 5 else 0)
 replace o29:=o29.gl G30 5
 refine lo (cw (aV (vals:=[vg [vi aO.1,v28]]) Try.func12 po o4 rfl) (kO w25 aO v28 (o29.flat).ro) ?_)
 rintro⟨d33,v35⟩ w32 ⟨fr34,o36⟩
 obtain⟨g37,ch38,G37⟩:=js g30 fr34 (λn=>if n=1 then 6 else 0)
 replace o36:=o36.gl G37 6
 refine mv (vt [v35,vi ((bz aO).2)]) (lx (aH rfl rfl) (lx (aH rfl rfl) (ma v35 (ai ((bz aO).2) (aa (a6 ?_))))))
 clear o29
 refine a0 rfl (dG rfl (cw (aV (vals:=[]) Try.func35 jh iY rfl) (g8 w32) ?_))
 rintro⟨d40,v42⟩ w39 ⟨fr41,o43⟩
 obtain⟨g44,ch45,G44⟩:=js g37 fr41 (λn=>if n=1 then 7 else 0)
 replace o43:=o43.gl G44 7
 refine lo (cw (aV (vals:=[vg [vi aO.1,v42]]) Try.func13 pk pc rfl) (oE w39 aO v42 (o43.flat).ro (by exact nI)) ?_)
 rintro⟨d47,v49⟩ w46 ⟨fr48,o50⟩
 obtain⟨g51,ch52,G51⟩:=js g44 fr48 (λn=>if n=1 then 8 else 0)
 replace o50:=o50.gl G51 8
 refine mv (vt [vg [vi (((cI aO).1).1),v49],vi ((cI aO).2)]) (lx (aH rfl rfl) (lx (aH rfl rfl) (lo (bf g51 (is 9) (9,0) rfl bn ?_))))
 intro g56 w53 b55 ch54 bx57
 replace bx57:Bx g56 (is 9) w53 b55 [vi 0,vn]:=bx57
 refine lo ?_
 replace o50:=o50.cn ch54
 refine aw (cs':=[vi (((cI aO).1).1),v49]) bn rfl rfl bx57 rfl nq (AllOne.all (.cons rfl (.cons (bp o50.flat) .nil))) rfl ?_
 intro w58 ch59 bx60
 clear bx57
 refine ai ((cI aO).2) (aa (a6 ?_))
 clear o43
 refine a0 rfl (lw (vg [vi 0,vi 1]) (bh (vs:=[(0,vi 0),(1,vi 1)]) rfl (by kernel_rfl)) (lo (aL (α:=Pt) g56 (is 10) (is 10) (10,0) rfl ([(0,1)]:List Pt) dB aE (by decide) (by decide) (vs:=[(0,vg [vi 0,vi 1])]) rfl rfl (.cons rfl .nil) ?_)))
 intro g61 w62 v63 ch64 o65
 refine lw (vg [vi 2,v63]) (bh (vs:=[(0,vi 2),(1,v63)]) rfl (by rw[Sl.form o65.flat];kernel_rfl)) (lo (d4 (v:=vt [vb ((cm (2,([(0,1)]:List Pt))).1),vi ((cm (2,([(0,1)]:List Pt))).2)]) (aV (vals:=[vg [vi 2,v63]]) Try.func14 ol o3 rfl) (mI w62 (2,([(0,1)]:List Pt)) v63 (o65.flat).ro) ?_))
 intro w66 hb67
 replace hb67:=aY hb67 g61
 refine mv (vt [vb ((cm (2,([(0,1)]:List Pt))).1),vi ((cm (2,([(0,1)]:List Pt))).2)]) (lx (aH rfl rfl) (lx (aH rfl rfl) (ma (vb ((cm (2,([(0,1)]:List Pt))).1)) (ai ((cm (2,([(0,1)]:List Pt))).2) (aa (a6 ?_))))))
 clear o65
 refine a0 rfl (lw (vg [vi 0,vi 1]) (bh (vs:=[(0,vi 0),(1,vi 1)]) rfl (by kernel_rfl)) (lw (vg [vi 0,vi 1]) (bh (vs:=[(0,vi 0),(1,vi 1)]) rfl (by kernel_rfl)) (lo (aL (α:=Pt) g61 (is 11) (is 11) (11,0) rfl ([(0,1),(0,1)]:List Pt) dB aE (by decide) (by decide) (vs:=[(0,vg [vi 0,vi 1]),(1,vg [vi 0,vi 1])]) rfl rfl (.cons rfl (.cons rfl .nil)) ?_))))
 intro g68 w69 v70 ch71 o72
 refine lw (vg [vi 2,v70]) (bh (vs:=[(0,vi 2),(1,v70)]) rfl (by rw[Sl.form o72.flat];kernel_rfl)) (lo (cw (aV (vals:=[vg [vi 2,v70]]) Try.func26 oL oM rfl) (pS w69 (2,([(0,1),(0,1)]:List Pt)) v70 (o72.flat).ro (by exact oQ)) ?_))
 rintro⟨d74,v76⟩ w73 ⟨fr75,o77⟩
 obtain⟨g78,ch79,G78⟩:=js g68 fr75 (λn=>if n=1 then 12 else 0)
 replace o77:=o77.gl G78 12
 refine mv (vt [v76,vi ((dp (2,([(0,1),(0,1)]:List Pt))).2)]) (lx (aH rfl rfl) (lx (aH rfl rfl) (ma v76 (ai ((dp (2,([(0,1),(0,1)]:List Pt))).2) (aa (a6 ?_))))))
 clear o72
 refine a0 rfl (lx (a7 eE rfl rfl rfl rfl) ?_)
 have C80:=cg [9] (ch31.n.seq (ch38.n.seq (ch45.n.seq (ch52.n.seq (ch54.n.seq ((ch59.l rfl).seq (ch64.n.seq (hb67.n.seq (ch71.n.seq ch79.n)))))))))
 replace bx24:=bx24.ca C80
 refine lx (a8 ab rfl bx24 rfl) (lx (cF (m:=(((ao aO).1).2).2) (n:=3) rfl rfl) (mv (vb (decide (((((ao aO).1).2).2)=3))) ?_))
 have q44:((((ao aO).1).2).2)=3:=by rfl
 refine lv (vp b19 1) (wy (dt q44)) (a7 eE rfl rfl rfl rfl) (lv (v13) (wy (dt q44)) (a8 aj rfl bx24 rfl) ?_)
 have C81:=cg [4,9] ((ch23.l rfl).seq (ch31.n.seq (ch38.n.seq (ch45.n.seq (ch52.n.seq (ch54.n.seq ((ch59.l rfl).seq (ch64.n.seq (hb67.n.seq (ch71.n.seq ch79.n))))))))))
 replace o14:=o14.ca C81
 have len82:=(o14.flat).small
 refine lv (vi (List.length ((((ao aO).1).2).1):Int)) (wy (dt q44)) (bC b6 rfl o14.flat) (lv (vb (decide ((List.length ((((ao aO).1).2).1):Int)=2))) (wy (dt q44)) (cF (m:=(List.length ((((ao aO).1).2).1):Int)) (n:=2) rfl rfl) (lw (vb (decide ((List.length ((((ao aO).1).2).1):Int)=2))) (aI rfl (dt q44) rfl) (mv (vb (decide ((List.length ((((ao aO).1).2).1):Int)=2))) ?_)))
 have q50:(List.length ((((ao aO).1).2).1):Int)=2:=by rfl
 refine lv (vi ((ao aO).2)) (wy (dt q50)) (ak rfl) (lv (vb (decide (((ao aO).2)=0))) (wy (dt q50)) (cF (m:=(ao aO).2) (n:=0) rfl rfl) (lw (vb (decide (((ao aO).2)=0))) (aI rfl (dt q50) rfl) (mv (vb (decide (((ao aO).2)=0))) ?_)))
 have q54:((ao aO).2)=0:=by rfl
 refine lv (v35) (wy (dt q54)) (ak rfl) ?_
 have C83:=cg [9] (ch45.n.seq (ch52.n.seq (ch54.n.seq ((ch59.l rfl).seq (ch64.n.seq (hb67.n.seq (ch71.n.seq ch79.n)))))))
 replace o36:=o36.ca C83
 have len84:=(o36.flat).small
 refine lv (vi (List.length ((bz aO).1):Int)) (wy (dt q54)) (bC b6 rfl o36.flat) (lv (vb (decide ((List.length ((bz aO).1):Int)=1))) (wy (dt q54)) (cF (m:=(List.length ((bz aO).1):Int)) (n:=1) rfl rfl) (lw (vb (decide ((List.length ((bz aO).1):Int)=1))) (aI rfl (dt q54) rfl) (mv (vb (decide ((List.length ((bz aO).1):Int)=1))) ?_)))
 have q59:(List.length ((bz aO).1):Int)=1:=by rfl
 refine lv (v35) (wy (dt q59)) (ak rfl) (lv (Value.pointer (some (aP v35 1 (Int.toNat 0)))) (wy (dt q59)) (a9 (α:=Int) (xs:=(bz aO).1) (v:=v35) (i:=0) b6 rfl rfl o36.flat rfl (by omega) (by omega)) (lv (vi (gI ((bz aO).1) 0)) (wy (dt q59)) (ah (α:=Int) (xs:=(bz aO).1) (v:=v35) (i:=0) ab rfl o36.flat (by omega) (by omega) (by decide) rfl) (lv (vb (decide ((gI ((bz aO).1) 0)=3))) (wy (dt q59)) (cF (m:=(gI ((bz aO).1) 0)) (n:=3) rfl rfl) (lw (vb (decide ((gI ((bz aO).1) 0)=3))) (aI rfl (dt q59) rfl) (mv (vb (decide ((gI ((bz aO).1) 0)=3))) ?_)))))
 have q65:(gI ((bz aO).1) 0)=3:=by rfl
 refine lv (vi ((bz aO).2)) (wy (dt q65)) (ak rfl) (lv (vb (decide (((bz aO).2)=0))) (wy (dt q65)) (cF (m:=(bz aO).2) (n:=0) rfl rfl) (lw (vb (decide (((bz aO).2)=0))) (aI rfl (dt q65) rfl) (mv (vb (decide (((bz aO).2)=0))) ?_)))
 have q69:((bz aO).2)=0:=by rfl
 refine lv (vp b55 0) (wy (dt q69)) (a7 d5 rfl rfl rfl rfl) ?_
 have C85:=cg [] (ch64.n.seq (hb67.n.seq (ch71.n.seq ch79.n)))
 replace bx60:=bx60.ca C85
 refine lv (vi (((cI aO).1).1)) (wy (dt q69)) (a8 ab rfl bx60 rfl) (lv (vb (decide ((((cI aO).1).1)=5))) (wy (dt q69)) (cF (m:=((cI aO).1).1) (n:=5) rfl rfl) (lw (vb (decide ((((cI aO).1).1)=5))) (aI rfl (dt q69) rfl) (mv (vb (decide ((((cI aO).1).1)=5))) ?_)))
 have q74:(((cI aO).1).1)=5:=by rfl
 refine lv (vi ((cI aO).2)) (wy (dt q74)) (ak rfl) (lv (vb (decide (((cI aO).2)=0))) (wy (dt q74)) (cF (m:=(cI aO).2) (n:=0) rfl rfl) (lw (vb (decide (((cI aO).2)=0))) (aI rfl (dt q74) rfl) (mv (vb (decide (((cI aO).2)=0))) ?_)))
 have q78:((cI aO).2)=0:=by rfl
 refine lv (vb ((cm (2,([(0,1)]:List Pt))).1)) (wy (dt q78)) (ak rfl) (lw (vb ((cm (2,([(0,1)]:List Pt))).1)) (aI rfl (dt q78) rfl) (mv (vb ((cm (2,([(0,1)]:List Pt))).1)) ?_))
 have q81:((cm (2,([(0,1)]:List Pt))).1)=true:=by rfl
 refine lv (vi ((cm (2,([(0,1)]:List Pt))).2)) (wy q81) (ak rfl) (lv (vb (decide (((cm (2,([(0,1)]:List Pt))).2)=0))) (wy q81) (cF (m:=(cm (2,([(0,1)]:List Pt))).2) (n:=0) rfl rfl) (lw (vb (decide (((cm (2,([(0,1)]:List Pt))).2)=0))) (aI rfl q81 rfl) (mv (vb (decide (((cm (2,([(0,1)]:List Pt))).2)=0))) ?_)))
 have q85:((cm (2,([(0,1)]:List Pt))).2)=0:=by rfl
 refine lv (v76) (wy (dt q85)) (ak rfl) ?_
 have len86:=(o77.sl).small
 refine lv (vi (List.length ((dp (2,([(0,1),(0,1)]:List Pt))).1):Int)) (wy (dt q85)) (bC f6 rfl o77.sl) (lv (vb (decide ((List.length ((dp (2,([(0,1),(0,1)]:List Pt))).1):Int)=1))) (wy (dt q85)) (cF (m:=(List.length ((dp (2,([(0,1),(0,1)]:List Pt))).1):Int)) (n:=1) rfl rfl) (lw (vb (decide ((List.length ((dp (2,([(0,1),(0,1)]:List Pt))).1):Int)=1))) (aI rfl (dt q85) rfl) (mv (vb (decide ((List.length ((dp (2,([(0,1),(0,1)]:List Pt))).1):Int)=1))) ?_)))
 have q90:(List.length ((dp (2,([(0,1),(0,1)]:List Pt))).1):Int)=1:=by rfl
 refine lv (vi ((dp (2,([(0,1),(0,1)]:List Pt))).2)) (wy (dt q90)) (ak rfl) (lv (vb (decide (((dp (2,([(0,1),(0,1)]:List Pt))).2)=0))) (wy (dt q90)) (cF (m:=(dp (2,([(0,1),(0,1)]:List Pt))).2) (n:=0) rfl rfl) (lw (vb (decide (((dp (2,([(0,1),(0,1)]:List Pt))).2)=0))) (aI rfl (dt q90) rfl) (ma (vb (decide (((dp (2,([(0,1),(0,1)]:List Pt))).2)=0))) (aa (aA (vs:=[vb (decide (((dp (2,([(0,1),(0,1)]:List Pt))).2)=0))]) Try.func8 (.tmp rfl .nil) ?_)))))
 have e0:(decide (((dp (2,([(0,1),(0,1)]:List Pt))).2)=0):Bool)=(true):=by
   rfl
 have C87:=cg [4,9] (ch7.n.seq (ch16.n.seq (ch18.n.seq ((ch23.l rfl).seq (ch31.n.seq (ch38.n.seq (ch45.n.seq (ch52.n.seq (ch54.n.seq ((ch59.l rfl).seq (ch64.n.seq (hb67.n.seq (ch71.n.seq ch79.n)))))))))))))
 replace bH:=bH.ca C87
 exact⟨(congrArg (a₁:=decide (((dp (2,([(0,1),(0,1)]:List Pt))).2)=0)) (λ(z0:Bool)=>Ending.returned (vb z0)) e0),bH.below⟩
theorem lW(w0:World)(g:(Int)×(List Pt))(g_v:Value)(hg_v:Ro w0 g_v g.2):
    Calls Try.prog 9 #[vg [vi g.1,g_v]] w0 (λee w=>ee= .returned (vb (decide (¬ba g\/(g.1<=40/\g.2.length<=60))))/\dE w0.heap.size w0 w):=by
 refine ar Try.func9 rfl nq ?_
 have bH:=bj.start w0
 have Rg:=hg_v.sl
 refine a6 (a0 rfl (dG rfl (d8 c0 (is 1) (1,0) rfl rfl ?_)))
 intro g4 w1 b3 ch2 bx5
 replace bx5:Bx g4 (is 1) w1 b3 [vi g.1,g_v]:=bx5
 refine ma (vb false) (aa (a6 (a0 rfl (lx (aB (ds:=[vi g.1,g_v]) bn rfl bx5 rfl rfl) ?_))))
 replace Rg:=Rg.cn ch2
 refine lo (d4 (v:=vb (cd g)) (aV (vals:=[vg [vi g.1,g_v]]) Try.func16 lQ lk rfl) (kS w1 g g_v (Rg).ro) ?_)
 intro w6 hb7
 replace hb7:=aY hb7 g4
 refine lx (dQ (b:=(cd g)) rfl) (mv (vb (!(cd g))) ?_)
 by_cases q6:(cd g)=true
 ·
  refine lv (vp b3 0) (wy (congrArg Bool.not q6)) (a7 d5 rfl rfl rfl rfl) ?_
  replace bx5:=bx5.cn hb7
  refine lv (vi g.1) (wy (congrArg Bool.not q6)) (a8 ab rfl bx5 rfl) (lv (vb (decide (g.1<=40))) (wy (congrArg Bool.not q6)) (n5 (m:=g.1) (n:=40) rfl rfl) (lv (vb (decide (g.1<=40))) (wy (congrArg Bool.not q6)) (ak rfl) ?_))
  by_cases q10:g.1<=40
  ·
   refine lv (vp b3 1) (wy (dt q10)) (a7 d5 rfl rfl rfl rfl) (lv (g_v) (wy (dt q10)) (a8 bD rfl bx5 rfl) ?_)
   replace Rg:=Rg.cn hb7
   have eL:=(Rg).small
   refine lv (vi (g.2.length:Int)) (wy (dt q10)) (bC dB rfl Rg) (lv (vb (decide ((g.2.length:Int)<=60))) (wy (dt q10)) (n5 (m:=(g.2.length:Int)) (n:=60) rfl rfl) (lv (vb (decide ((g.2.length:Int)<=60))) (wy (congrArg Bool.not q6)) (aI rfl (dt q10) rfl) (lw (vb (decide ((g.2.length:Int)<=60))) (b9 rfl (congrArg Bool.not q6) rfl) (ma (vb (decide ((g.2.length:Int)<=60))) (aa (aA (vs:=[vb (decide ((g.2.length:Int)<=60))]) Try.func9 (.tmp rfl .nil) ?_))))))
   have e0:(decide ((g.2.length:Int)<=60):Bool)=(decide (¬ba g\/(g.1<=40/\g.2.length<=60))):=by
     exact mN ‹_› ‹_›
   replace bH:=bH.cn ch2
   replace bH:=bH.cn hb7
   exact⟨(congrArg (a₁:=decide ((g.2.length:Int)<=60)) (λ(z0:Bool)=>Ending.returned (vb z0)) e0),bH.below⟩
  refine aq (wn (df q10)) (aq (wn (df q10)) (aq (wn (df q10)) (aq (wn (df q10)) (lv (vb false) (wy (congrArg Bool.not q6)) (b9 rfl (df q10) rfl) (lw (vb false) (b9 rfl (congrArg Bool.not q6) rfl) (ma (vb false) (aa (aA (vs:=[vb false]) Try.func9 (.tmp rfl .nil) ?_))))))))
  have e0:(false:Bool)=(decide (¬ba g\/(g.1<=40/\g.2.length<=60))):=by
    exact mO ‹_› ‹_›
  replace bH:=bH.cn ch2
  replace bH:=bH.cn hb7
  exact⟨rb e0,bH.below⟩
 refine aq (wn (congrArg Bool.not (Bool.eq_false_iff.2 q6))) (aq (wn (congrArg Bool.not (Bool.eq_false_iff.2 q6))) (aq (wn (congrArg Bool.not (Bool.eq_false_iff.2 q6))) (aq (wn (congrArg Bool.not (Bool.eq_false_iff.2 q6))) (aq (bB rfl rfl rfl) (aq (bB rfl rfl rfl) (aq (bB rfl rfl rfl) (aq (bB rfl rfl rfl) (aq (wn (congrArg Bool.not (Bool.eq_false_iff.2 q6))) (lw (vb true) (aI rfl (congrArg Bool.not (Bool.eq_false_iff.2 q6)) rfl) ?_)))))))))
 refine ma (vb true) (aa (aA (vs:=[vb true]) Try.func9 (.tmp rfl .nil) ?_))
 have e0:(true:Bool)=(decide (¬ba g\/(g.1<=40/\g.2.length<=60))):=by
   exact n7 ‹_›
 replace bH:=bH.cn ch2
 replace bH:=bH.cn hb7
 exact⟨rb e0,bH.below⟩
end TL
