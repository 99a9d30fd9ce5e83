import Derived.Test.YtcblhagfadineaaJpTlP4
import Derived.Test.YtcblhagfadineaaJpTlGenA
import Derived.Test.YtcblhagfadineaaJpTlGenI
import Derived.Test.YtcblhagfadineaaJpTlGenJ
import Derived.Test.YtcblhagfadineaaJpTlGenX
import Derived.Test.YtcblhagfadineaaJpTlGjA
import Derived.Test.YtcblhagfadineaaJpTlGjB
import Derived.Test.YtcblhagfadineaaJpTlGjC
import Derived.Test.YtcblhagfadineaaJpTlGjD
import Derived.Test.YtcblhagfadineaaJpTlGjE
import Derived.Test.YtcblhagfadineaaJpTlGjT
import Derived.Test.YtcblhagfadineaaProg
import Derived.Test.YtcblhagfadineaaJpTlAli
set_option linter.all false
set_option maxRecDepth 20000
namespace TL
open Go Go.Proofs
theorem ya:Try.f4.body.isNone=false:=rfl
theorem yU:(Try.f4.name== "runtime.NumGoroutine")=false:=by decide+kernel
theorem yG:Try.f5.body.isNone=false:=rfl
theorem yf:(Try.f5.name== "runtime.NumGoroutine")=false:=by decide+kernel
theorem yy:Try.f9.body.isNone=false:=rfl
theorem yI:(Try.f9.name== "runtime.NumGoroutine")=false:=by decide+kernel
theorem vx:Try.f10.body.isNone=false:=rfl
theorem vC:(Try.f10.name== "runtime.NumGoroutine")=false:=by decide+kernel
set_option maxHeartbeats 4000000 in
theorem ls(w0:World)(g:(Int)×(List Pt))(g_v:Value)(hg_v:Ro w0 g_v g.2)(p:(List Pt)×(List (List Pt)))(p_v p_v1:Value)(hp_v:Ro w0 p_v p.1)(hp_v1:Ro w0 p_v1 p.2)(hb:yr p):
    Calls Try.prog 3 #[vg [vi g.1,g_v],vg [p_v,p_v1]] w0 (λee w=>ee= .returned (vb true)/\dd w0.heap.size w0 w):=by
 refine av Try.func3 rfl nq ?_
 have bH:=aX.start w0
 have Rg:=hg_v.sl
 have Rp:=hp_v.sl
 have r_p_v1:=hp_v1.sl
 obtain⟨⟨hb1,hb2,hb3⟩,hb4,hb5⟩:=hb
 refine aa (a8 rfl (cj rfl (bj c0 (is 1) (1,0) rfl rfl ?_)))
 intro g4 w1 b3 ch2 bx5
 replace bx5:Bx g4 (is 1) w1 b3 [vi g.1,g_v]:=bx5
 refine lo (bj g4 (is 2) (2,0) rfl rfl ?_)
 intro g9 w6 b8 ch7 bx10
 replace bx10:Bx g9 (is 2) w6 b8 [p_v,p_v1]:=bx10
 refine ma (vb false) (ab (aa (aa (a8 rfl (cj rfl (aK (v:=vb true) (aA (vals:=[]) Try.func4 ya yU rfl) (pE w6) ?_))))))
 intro w11 hb12
 replace hb12:=ar hb12 g9
 refine lx (dj (b:=true) rfl) (ab (aj rfl rfl (am (aa (aa (a8 rfl ?_))))))
 replace bx5:=(bx5.cn ch7).cn hb12
 refine lx (ak (ds:=[vi g.1,g_v]) eY rfl bx5 rfl rfl) ?_
 replace bx10:=bx10.cn hb12
 refine lx (ak (ds:=[p_v,p_v1]) cP rfl bx10 rfl rfl) ?_
 have C13:=cg [] (ch2.n.seq (ch7.n.seq hb12.n))
 replace Rg:=Rg.ca C13
 replace Rp:=Rp.ca C13
 replace r_p_v1:=r_p_v1.ca C13
 refine lo (aK (v:=vb (decide (eh g p))) (aA (vals:=[vg [vi g.1,g_v],vg [p_v,p_v1]]) Try.func5 yG yf rfl) (pJ w11 g g_v (Rg).ro p p_v p_v1 (Rp).ro (r_p_v1).ro ‹_› ‹_› ‹_›) ?_)
 intro w14 hb15
 replace hb15:=ar hb15 g9
 refine lx (dj (b:=(decide (eh g p))) rfl) (ab ?_)
 by_cases p3:(decide (eh g p))=true
 ·
  obtain⟨hfew,⟨hp4,hp5⟩,hp6⟩:=sC (of_decide_eq_true p3)
  refine aj rfl (congrArg Bool.not p3) (am (aa (a8 rfl ?_)))
  replace bx5:=bx5.cn hb15
  refine lx (ak (ds:=[vi g.1,g_v]) eY rfl bx5 rfl rfl) ?_
  replace bx10:=bx10.cn hb15
  refine lx (ak (ds:=[p_v,p_v1]) cP rfl bx10 rfl rfl) ?_
  replace Rg:=Rg.cn hb15
  replace Rp:=Rp.cn hb15
  replace r_p_v1:=r_p_v1.cn hb15
  refine lo (c3 (aA (vals:=[vg [vi g.1,g_v],vg [p_v,p_v1]]) Try.func6 u6 ua rfl) (oU w14 g g_v (Rg).ro p p_v p_v1 (Rp).ro (r_p_v1).ro (by exact hfew)) ?_)
  rintro⟨d17,v19⟩ w16 ⟨fr18,o20⟩
  obtain⟨g21,ch22,G21⟩:=nH g9 fr18 (λn=>if n=1 then 3 else 0)
  replace o20:=o20.gl G21 3
  refine mv (vt [v19,vi ((turnsR g p).2)]) (lx (aV rfl rfl) (lx (aV rfl rfl) (ma v19 (ai ((turnsR g p).2) (ab (aa (aa (a8 rfl (mi ((turnsR g p).2) (lx (dU (m:=(turnsR g p).2) (n:=0) rfl rfl) (ab ?_)))))))))))
  by_cases p6:((turnsR g p).2)=0
  ·
   have hL:=vo p6 hfew
   refine aj rfl (congrArg Bool.not (dt p6)) (am (aa (a8 rfl ?_)))
   replace bx5:=bx5.cn ch22
   refine lx (ak (ds:=[vi g.1,g_v]) eY rfl bx5 rfl rfl) ?_
   replace bx10:=bx10.cn ch22
   refine lx (ak (ds:=[p_v,p_v1]) cP rfl bx10 rfl rfl) ?_
   replace Rg:=Rg.cn ch22
   replace Rp:=Rp.cn ch22
   replace r_p_v1:=r_p_v1.cn ch22
   refine lo (c3 (aA (vals:=[vg [vi g.1,g_v],vg [p_v,p_v1]]) Try.func7 pR pz rfl) (lj w16 g g_v (Rg).ro p p_v p_v1 (Rp).ro (r_p_v1).ro) ?_)
   rintro⟨d24,v26⟩ w23 ⟨fr25,o27⟩
   obtain⟨g28,ch29,G28⟩:=nH g21 fr25 (λn=>if n=1 then 4 else 0)
   replace o27:=o27.gl G28 4
   refine mv (vt [v26,vi ((aU g p).2)]) (lx (aV rfl rfl) (lx (aV rfl rfl) (ma v26 (ai ((aU g p).2) (ab (aa ?_))))))
   clear bx10
   refine a8 rfl ?_
   replace bx5:=bx5.cn ch29
   refine lx (ak (ds:=[vi g.1,g_v]) eY rfl bx5 rfl rfl) ?_
   replace Rg:=Rg.cn ch29
   refine lo (c3 (aA (vals:=[vg [vi g.1,g_v],vn,vn]) Try.func8 xC xA rfl) (mS w23 g g_v (Rg).ro (by exact hL.may)) ?_)
   rintro⟨d31,v33⟩ w30 ⟨fr32,o34⟩
   obtain⟨g35,ch36,G35⟩:=nH g28 fr32 (λn=>if n=1 then 5 else 0)
   replace o34:=o34.gl G35 5
   refine mv (vt [v33,vi ((bE g).2.1)]) (lx (aV rfl rfl) (lx (aV rfl rfl) (ma v33 (ai ((bE g).2.1) (ab (aa (aa ?_)))))))
   clear o34
   refine a8 rfl (mi ((aU g p).2) (lx (dU (m:=(aU g p).2) (n:=0) rfl rfl) (mv (vb (!(decide (((aU g p).2)=0)))) ?_)))
   have q41:((aU g p).2)=0:=by(rw[hL.ck];done)
   refine lv (v26) (wy (congrArg Bool.not (dt q41))) (aD rfl) ?_
   replace o27:=o27.cn ch36
   have len37:=(o27.flat).small
   refine lv (vi (List.length ((aU g p).1):Int)) (wy (congrArg Bool.not (dt q41))) (aT gB rfl o27.flat) (lv (vb (!(decide ((List.length ((aU g p).1):Int)=0)))) (wy (congrArg Bool.not (dt q41))) (dU (m:=(List.length ((aU g p).1):Int)) (n:=0) rfl rfl) (lw (vb (!(decide ((List.length ((aU g p).1):Int)=0)))) (aC rfl (congrArg Bool.not (dt q41)) rfl) (mv (vb (!(decide ((List.length ((aU g p).1):Int)=0)))) ?_)))
   have q46:(List.length ((aU g p).1):Int)=0:=by(rw[hL.ck];rfl)
   replace bx5:=bx5.cn ch36
   refine lv (vg [vi g.1,g_v]) (wy (congrArg Bool.not (dt q46))) (ak (ds:=[vi g.1,g_v]) eY rfl bx5 rfl rfl) (lv (v19) (wy (congrArg Bool.not (dt q46))) (aD rfl) ?_)
   replace Rg:=Rg.cn ch36
   replace o20:=(o20.cn ch29).cn ch36
   refine cj (wy (congrArg Bool.not (dt q46))) (aK (v:=vi (bR g ((turnsR g p).1))) (aA (vals:=[vg [vi g.1,g_v],v19]) Try.func9 yy yI rfl) (uf w30 g g_v (Rg).ro ((turnsR g p).1) v19 (o20.sl).ro) ?_)
   intro w38 hb39
   replace hb39:=ar hb39 g35
   refine lv (vb (!(decide ((bR g ((turnsR g p).1))=0)))) (wy (congrArg Bool.not (dt q46))) (dU (m:=bR g ((turnsR g p).1)) (n:=0) rfl rfl) (lw (vb (!(decide ((bR g ((turnsR g p).1))=0)))) (aC rfl (congrArg Bool.not (dt q46)) rfl) (ab ?_))
   have p10:(bR g ((turnsR g p).1))=0:=by exact jy hL.may hL.rot
   refine aj rfl (congrArg Bool.not (dt p10)) (am (aa ?_))
   clear o27
   refine a8 rfl (mi ((bE g).2.1) (lx (e8 (m:=(bE g).2.1) (n:=1) rfl rfl) (mv (vb (decide (1<((bE g).2.1)))) ?_)))
   by_cases q54:1<((bE g).2.1)
   ·
    refine ae (wn (dt q54)) (ae (wn (dt q54)) (ae (wn (dt q54)) (ae (wn (dt q54)) (lw (vb true) (aE rfl (dt q54) rfl) (ma (vb true) (ab (au (vs:=[vb true]) Try.func3 (.tmp rfl .nil) ?_)))))))
    have e0:(true:Bool)=(true):=by
      rfl
    have C40:=cg [] (ch2.n.seq (ch7.n.seq (hb12.n.seq (hb15.n.seq (ch22.n.seq (ch29.n.seq (ch36.n.seq hb39.n)))))))
    replace bH:=bH.ca C40
    exact⟨rb e0,bH.below⟩
   replace bx5:=bx5.cn hb39
   refine lv (vg [vi g.1,g_v]) (wy (df q54)) (ak (ds:=[vi g.1,g_v]) eY rfl bx5 rfl rfl) (lv (v19) (wy (df q54)) (aD rfl) ?_)
   replace Rg:=Rg.cn hb39
   replace o20:=o20.cn hb39
   refine cj (wy (df q54)) (aK (v:=vi (fk g ((turnsR g p).1))) (aA (vals:=[vg [vi g.1,g_v],v19]) Try.func10 vx vC rfl) (s6 w38 g g_v (Rg).ro ((turnsR g p).1) v19 (o20.sl).ro (by exact hL.may) (by exact hL.rot)) ?_)
   intro w41 hb42
   replace hb42:=ar hb42 g35
   refine lv (vb (decide ((fk g ((turnsR g p).1))=0))) (wy (df q54)) (cq (m:=fk g ((turnsR g p).1)) (n:=0) rfl rfl) (lw (vb (decide ((fk g ((turnsR g p).1))=0))) (aC rfl (df q54) rfl) (ma (vb (decide ((fk g ((turnsR g p).1))=0))) (ab (au (vs:=[vb (decide ((fk g ((turnsR g p).1))=0))]) Try.func3 (.tmp rfl .nil) ?_))))
   have e0:(decide ((fk g ((turnsR g p).1))=0):Bool)=(true):=by
     exact dt (hL.gen ‹_›)
   have C43:=cg [] (ch2.n.seq (ch7.n.seq (hb12.n.seq (hb15.n.seq (ch22.n.seq (ch29.n.seq (ch36.n.seq (hb39.n.seq hb42.n))))))))
   replace bH:=bH.ca C43
   exact⟨(congrArg (a₁:=decide ((fk g ((turnsR g p).1))=0)) (λ(z0:Bool)=>Ending.returned (vb z0)) e0),bH.below⟩
  have hbad:=za p6
  refine ag rfl (congrArg Bool.not (df p6)) (aa ?_)
  clear bx5 bx10
  refine a8 rfl (mv v19 ?_)
  have len44:=(o20.sl).small
  refine lx (aT kr rfl o20.sl) (lx (cq (m:=(List.length ((turnsR g p).1):Int)) (n:=0) rfl rfl) (ma (vb (decide ((List.length ((turnsR g p).1):Int)=0))) (ab (au (vs:=[vb (decide ((List.length ((turnsR g p).1):Int)=0))]) Try.func3 (.tmp rfl .nil) ?_))))
  have e0:(decide ((List.length ((turnsR g p).1):Int)=0):Bool)=(true):=by
    (rw[hbad];rfl)
  have C45:=cg [] (ch2.n.seq (ch7.n.seq (hb12.n.seq (hb15.n.seq ch22.n))))
  replace bH:=bH.ca C45
  exact⟨(congrArg (a₁:=decide ((List.length ((turnsR g p).1):Int)=0)) (λ(z0:Bool)=>Ending.returned (vb z0)) e0),bH.below⟩
 refine ag rfl (congrArg Bool.not (Bool.eq_false_iff.2 p3)) (aa ?_)
 clear bx5 bx10
 refine a8 rfl (ma (vb true) (ab (au (vs:=[vb true]) Try.func3 (.tmp rfl .nil) ?_)))
 have e0:(true:Bool)=(true):=by
   rfl
 have C46:=cg [] (ch2.n.seq (ch7.n.seq (hb12.n.seq hb15.n)))
 replace bH:=bH.ca C46
 exact⟨rb e0,bH.below⟩
end TL
