import Derived.Test.YtgneelmmomohdaaSmTlP4
import Derived.Test.YtgneelmmomohdaaSmTlSpL
import Derived.Test.YtgneelmmomohdaaSmTlSpS
import Derived.Test.YtgneelmmomohdaaSmTlSpM
import Derived.Test.YtgneelmmomohdaaSmTlGenA
import Derived.Test.YtgneelmmomohdaaProg
import Derived.Test.YtgneelmmomohdaaSmTlAli
set_option linter.all false
set_option maxRecDepth 20000
namespace TL
open Go Go.Proofs
theorem mQ:Try.f9.body.isNone=false:=rfl
theorem mH:(Try.f9.name== "runtime.NumGoroutine")=false:=by decide+kernel
theorem lm:Try.f10.body.isNone=false:=rfl
theorem kV:(Try.f10.name== "runtime.NumGoroutine")=false:=by decide+kernel
theorem rA:Try.f11.body.isNone=false:=rfl
theorem tB:(Try.f11.name== "runtime.NumGoroutine")=false:=by decide+kernel
theorem tH:Try.f12.body.isNone=false:=rfl
theorem rU:(Try.f12.name== "runtime.NumGoroutine")=false:=by decide+kernel
theorem nE:Try.f14.body.isNone=false:=rfl
theorem og:(Try.f14.name== "runtime.NumGoroutine")=false:=by decide+kernel
theorem tT:Try.f26.body.isNone=false:=rfl
theorem sC:(Try.f26.name== "runtime.NumGoroutine")=false:=by decide+kernel
theorem ss:Try.f27.body.isNone=false:=rfl
theorem tA:(Try.f27.name== "runtime.NumGoroutine")=false:=by decide+kernel
attribute [local irreducible] aX b6 bq bN
set_option maxHeartbeats 8000000 in
theorem qF(w0:World):
    Calls Try.prog 6 #[] w0 (λee w=>ee= .returned (vb true)/\dU w0.heap.size w0 w):=by
 refine ap Try.func6 rfl nq ?_
 have bH:=bm.start w0
 obtain⟨hb1,hb2,hb3,hb4,hb5,hb6,hb7,hb8,hb9⟩:=vk
 refine aa (a8 rfl (ma (vb false) (ad (aa (a8 rfl (cA rfl (c6 (aP (vals:=[vi 4]) Try.func26 tT sC rfl) (mu w0 4 (by exact⟨by decide,by decide⟩)) ?_)))))))
 rintro⟨d2,v4⟩ w1 ⟨fr3,o5⟩
 obtain⟨g6,ch7,G6⟩:=jL c0 fr3 (λn=>if n=1 then 1 else 0)
 replace o5:=o5.gl G6 1
 refine mv (vt [vg [vi ((dX 4).1),v4],vi 0]) (lx (aB rfl rfl) (lx (aB rfl rfl) (lo (bn g6 (is 2) (2,0) rfl aF ?_))))
 intro g11 w8 b10 ch9 bx12
 replace bx12:Bx g11 (is 2) w8 b10 [vi 0,vn]:=bx12
 refine lo ?_
 replace o5:=o5.cn ch9
 refine aH (cs':=[vi ((dX 4).1),v4]) aF rfl rfl bx12 rfl nq (AllOne.all (.cons rfl (.cons (b9 o5.flat) .nil))) rfl ?_
 intro w13 ch14 bx15
 clear bx12
 refine ai 0 (ad (aa (a8 rfl (cA rfl (c6 (aP (vals:=[vi 4]) Try.func27 ss tA rfl) (r4 w13 4 (by exact⟨by decide,by decide⟩)) ?_)))))
 rintro⟨d17,v19⟩ w16 ⟨fr18,o20⟩
 obtain⟨g21,ch22,G21⟩:=jL g11 fr18 (λn=>if n=1 then 3 else 0)
 replace o20:=o20.gl G21 3
 refine mv (vt [vg [vi ((bU 4).1),v19],vi 0]) (lx (aB rfl rfl) (lx (aB rfl rfl) (lo (bn g21 (is 4) (4,0) rfl aF ?_))))
 intro g26 w23 b25 ch24 bx27
 replace bx27:Bx g26 (is 4) w23 b25 [vi 0,vn]:=bx27
 refine lo ?_
 replace o20:=o20.cn ch24
 refine aH (cs':=[vi ((bU 4).1),v19]) aF rfl rfl bx27 rfl nq (AllOne.all (.cons rfl (.cons (b9 o20.flat) .nil))) rfl ?_
 intro w28 ch29 bx30
 clear bx27
 refine ai 0 (ad (aa (a8 rfl ?_)))
 have C31:=cg [4] (ch22.n.seq (ch24.n.seq (ch29.l rfl)))
 replace bx15:=bx15.ca C31
 refine lx (aA (ds:=[vi ((dX 4).1),v4]) aF rfl bx15 rfl rfl) ?_
 have C32:=cg [2,4] ((ch14.l rfl).seq (ch22.n.seq (ch24.n.seq (ch29.l rfl))))
 replace o5:=o5.ca C32
 refine lo (bT (v:=vt [vi ((aX (dX 4)).1),vi ((aX (dX 4)).2)]) (aP (vals:=[vg [vi ((dX 4).1),v4]]) Try.func9 mQ mH rfl) (jo w28 (dX 4) v4 (o5.flat).ro) ?_)
 intro w33 hb34
 replace hb34:=aY hb34 g26
 refine mv (vt [vi ((aX (dX 4)).1),vi ((aX (dX 4)).2)]) (lx (aB rfl rfl) (lx (aB rfl rfl) (ai ((aX (dX 4)).1) (ai ((aX (dX 4)).2) (ad (aa ?_))))))
 clear o5 bx15
 refine a8 rfl ?_
 replace bx30:=bx30.cn hb34
 refine lx (aA (ds:=[vi ((bU 4).1),v19]) aF rfl bx30 rfl rfl) ?_
 replace o20:=(o20.ce ch29).cn hb34
 refine lo (c6 (aP (vals:=[vg [vi ((bU 4).1),v19]]) Try.func10 lm kV rfl) (iM w33 (bU 4) v19 (o20.flat).ro) ?_)
 rintro⟨d36,v38⟩ w35 ⟨fr37,o39⟩
 obtain⟨g40,ch41,G40⟩:=jL g26 fr37 (λn=>if n=1 then 5 else 0)
 replace o39:=o39.gl G40 5
 refine mv (vt [v38,vi ((b6 (bU 4)).2)]) (lx (aB rfl rfl) (lx (aB rfl rfl) (ma v38 (ai ((b6 (bU 4)).2) (ad (aa (a8 rfl ?_)))))))
 replace bx30:=bx30.cn ch41
 refine lx (aA (ds:=[vi ((bU 4).1),v19]) aF rfl bx30 rfl rfl) ?_
 replace o20:=o20.cn ch41
 refine lo (c6 (aP (vals:=[vg [vi ((bU 4).1),v19],vi 0,vi 2]) Try.func11 rA tB rfl) (mg w35 (bU 4) v19 (o20.flat).ro 0 2) ?_)
 rintro⟨d43,v45⟩ w42 ⟨fr44,o46⟩
 obtain⟨g47,ch48,G47⟩:=jL g40 fr44 (λn=>if n=1 then 6 else 0)
 replace o46:=o46.gl G47 6
 refine mv (vt [v45,vi ((bq (bU 4) 0 2).2)]) (lx (aB rfl rfl) (lx (aB rfl rfl) (ma v45 (ai ((bq (bU 4) 0 2).2) (ad (aa (a8 rfl ?_)))))))
 replace bx30:=bx30.cn ch48
 refine lx (aA (ds:=[vi ((bU 4).1),v19]) aF rfl bx30 rfl rfl) ?_
 replace o20:=o20.cn ch48
 refine lo (c6 (aP (vals:=[vg [vi ((bU 4).1),v19]]) Try.func12 tH rU rfl) (oL w42 (bU 4) v19 (o20.flat).ro) ?_)
 rintro⟨d50,v52⟩ w49 ⟨fr51,o53⟩
 obtain⟨g54,ch55,G54⟩:=jL g47 fr51 (λn=>if n=1 then 7 else 0)
 replace o53:=o53.gl G54 7
 refine mv (vt [v52,vi ((bN (bU 4)).2)]) (lx (aB rfl rfl) (lx (aB rfl rfl) (ma v52 (ai ((bN (bU 4)).2) (ad (aa ?_))))))
 clear o20 bx30
 refine a8 rfl (mi ((aX (dX 4)).1) (lx (d8 (m:=(aX (dX 4)).1) (n:=3) rfl rfl) (mv (vb (decide (((aX (dX 4)).1)=3))) ?_)))
 have q43:((aX (dX 4)).1)=3:=hb1
 refine lv (vi ((aX (dX 4)).2)) (wy (dt q43)) (au rfl) (lv (vb (decide (((aX (dX 4)).2)=0))) (wy (dt q43)) (d8 (m:=(aX (dX 4)).2) (n:=0) rfl rfl) (lw (vb (decide (((aX (dX 4)).2)=0))) (aN rfl (dt q43) rfl) (mv (vb (decide (((aX (dX 4)).2)=0))) ?_)))
 have q47:((aX (dX 4)).2)=0:=hb2
 refine lv (v38) (wy (dt q47)) (au rfl) ?_
 replace o39:=(o39.cn ch48).cn ch55
 have len56:=(o39.flat).small
 refine lv (vi (List.length ((b6 (bU 4)).1):Int)) (wy (dt q47)) (bO de rfl o39.flat) (lv (vb (decide ((List.length ((b6 (bU 4)).1):Int)=2))) (wy (dt q47)) (d8 (m:=(List.length ((b6 (bU 4)).1):Int)) (n:=2) rfl rfl) (lw (vb (decide ((List.length ((b6 (bU 4)).1):Int)=2))) (aN rfl (dt q47) rfl) (mv (vb (decide ((List.length ((b6 (bU 4)).1):Int)=2))) ?_)))
 have q52:(List.length ((b6 (bU 4)).1):Int)=2:=hb3
 refine lv (v38) (wy (dt q52)) (au rfl) (lv (Value.pointer (some (bJ v38 2 (Int.toNat 1)))) (wy (dt q52)) (ag (α:=Pt) (xs:=(b6 (bU 4)).1) (v:=v38) (i:=1) de rfl rfl o39.flat rfl (by omega) (by omega)) (lv (vg [vi ((gI ((b6 (bU 4)).1) 1).1),vi ((gI ((b6 (bU 4)).1) 1).2)]) (wy (dt q52)) (cJ (α:=Pt) (xs:=(b6 (bU 4)).1) (v:=v38) (i:=1) aU rfl o39.flat (by omega) (by omega) rfl) (lv (vg [vi 1,vi 3]) (wy (dt q52)) (br (vs:=[(0,vi 1),(1,vi 3)]) rfl (by kernel_rfl)) ?_)))
 refine lv (vb (decide ((gI ((b6 (bU 4)).1) 1)=(1,3)))) (wy (dt q52)) (oz (a:=(gI ((b6 (bU 4)).1) 1)) (b:=(1,3)) d6 U3 ak (by kernel_rfl) rfl rfl) (lw (vb (decide ((gI ((b6 (bU 4)).1) 1)=(1,3)))) (aN rfl (dt q52) rfl) (mv (vb (decide ((gI ((b6 (bU 4)).1) 1)=(1,3)))) ?_))
 have q59:(gI ((b6 (bU 4)).1) 1)=(1,3):=hb4
 refine lv (vi ((b6 (bU 4)).2)) (wy (dt q59)) (au rfl) (lv (vb (decide (((b6 (bU 4)).2)=0))) (wy (dt q59)) (d8 (m:=(b6 (bU 4)).2) (n:=0) rfl rfl) (lw (vb (decide (((b6 (bU 4)).2)=0))) (aN rfl (dt q59) rfl) (mv (vb (decide (((b6 (bU 4)).2)=0))) ?_)))
 have q63:((b6 (bU 4)).2)=0:=hb5
 refine lv (v45) (wy (dt q63)) (au rfl) ?_
 replace o46:=o46.cn ch55
 have len57:=(o46.sl).small
 refine lv (vi (List.length ((bq (bU 4) 0 2).1):Int)) (wy (dt q63)) (bO eC rfl o46.sl) (lv (vb (decide ((List.length ((bq (bU 4) 0 2).1):Int)=2))) (wy (dt q63)) (d8 (m:=(List.length ((bq (bU 4) 0 2).1):Int)) (n:=2) rfl rfl) (lw (vb (decide ((List.length ((bq (bU 4) 0 2).1):Int)=2))) (aN rfl (dt q63) rfl) (mv (vb (decide ((List.length ((bq (bU 4) 0 2).1):Int)=2))) ?_)))
 have q68:(List.length ((bq (bU 4) 0 2).1):Int)=2:=hb6
 refine lv (vi ((bq (bU 4) 0 2).2)) (wy (dt q68)) (au rfl) (lv (vb (decide (((bq (bU 4) 0 2).2)=0))) (wy (dt q68)) (d8 (m:=(bq (bU 4) 0 2).2) (n:=0) rfl rfl) (lw (vb (decide (((bq (bU 4) 0 2).2)=0))) (aN rfl (dt q68) rfl) (mv (vb (decide (((bq (bU 4) 0 2).2)=0))) ?_)))
 have q72:((bq (bU 4) 0 2).2)=0:=hb7
 refine lv (v52) (wy (dt q72)) (au rfl) ?_
 have len58:=(o53.flat).small
 refine lv (vi (List.length ((bN (bU 4)).1):Int)) (wy (dt q72)) (bO de rfl o53.flat) (lv (vb (decide ((List.length ((bN (bU 4)).1):Int)=2))) (wy (dt q72)) (d8 (m:=(List.length ((bN (bU 4)).1):Int)) (n:=2) rfl rfl) (lw (vb (decide ((List.length ((bN (bU 4)).1):Int)=2))) (aN rfl (dt q72) rfl) (mv (vb (decide ((List.length ((bN (bU 4)).1):Int)=2))) ?_)))
 have q77:(List.length ((bN (bU 4)).1):Int)=2:=hb8
 refine lv (vi ((bN (bU 4)).2)) (wy (dt q77)) (au rfl) (lv (vb (decide (((bN (bU 4)).2)=0))) (wy (dt q77)) (d8 (m:=(bN (bU 4)).2) (n:=0) rfl rfl) (lw (vb (decide (((bN (bU 4)).2)=0))) (aN rfl (dt q77) rfl) (ma (vb (decide (((bN (bU 4)).2)=0))) (ad (aw (vs:=[vb (decide (((bN (bU 4)).2)=0))]) Try.func6 (.tmp rfl .nil) ?_)))))
 have e0:(decide (((bN (bU 4)).2)=0):Bool)=(true):=by
   exact decide_eq_true hb9
 have C59:=cg [2,4] (ch7.n.seq (ch9.n.seq ((ch14.l rfl).seq (ch22.n.seq (ch24.n.seq ((ch29.l rfl).seq (hb34.n.seq (ch41.n.seq (ch48.n.seq ch55.n)))))))))
 replace bH:=bH.ca C59
 exact⟨(congrArg (a₁:=decide (((bN (bU 4)).2)=0)) (λ(z0:Bool)=>Ending.returned (vb z0)) e0),bH.below⟩
theorem qq(w0:World)(g:(Int)×(List Pt))(g_v:Value)(hg_v:Ro w0 g_v g.2):
    Calls Try.prog 7 #[vg [vi g.1,g_v]] w0 (λee w=>ee= .returned (vb (decide (¬aV g\/(g.1<=16/\g.2.length<=40))))/\dU w0.heap.size w0 w):=by
 refine ap Try.func7 rfl nq ?_
 have bH:=bm.start w0
 have Rg:=hg_v.sl
 refine aa (a8 rfl (cA rfl (cq c0 (is 1) (1,0) rfl rfl ?_)))
 intro g4 w1 b3 ch2 bx5
 replace bx5:Bx g4 (is 1) w1 b3 [vi g.1,g_v]:=bx5
 refine ma (vb false) (ad (aa (a8 rfl (lx (aA (ds:=[vi g.1,g_v]) aF rfl bx5 rfl rfl) ?_))))
 replace Rg:=Rg.cn ch2
 refine lo (bT (v:=vb (cE g)) (aP (vals:=[vg [vi g.1,g_v]]) Try.func14 nE og rfl) (pT w1 g g_v (Rg).ro) ?_)
 intro w6 hb7
 replace hb7:=aY hb7 g4
 refine lx (e8 (b:=(cE g)) rfl) (mv (vb (!(cE g))) ?_)
 by_cases q6:(cE g)=true
 ·
  refine lv (vp b3 0) (wy (congrArg Bool.not q6)) (af cR rfl rfl rfl rfl) ?_
  replace bx5:=bx5.cn hb7
  refine lv (vi g.1) (wy (congrArg Bool.not q6)) (ae ak rfl bx5 rfl) (lv (vb (decide (g.1<=16))) (wy (congrArg Bool.not q6)) (nV (m:=g.1) (n:=16) rfl rfl) (lv (vb (decide (g.1<=16))) (wy (congrArg Bool.not q6)) (au rfl) ?_))
  by_cases q10:g.1<=16
  ·
   refine lv (vp b3 1) (wy (dt q10)) (af cR rfl rfl rfl rfl) (lv (g_v) (wy (dt q10)) (ae bp rfl bx5 rfl) ?_)
   replace Rg:=Rg.cn hb7
   have xq:=(Rg).small
   refine lv (vi (g.2.length:Int)) (wy (dt q10)) (bO de rfl Rg) (lv (vb (decide ((g.2.length:Int)<=40))) (wy (dt q10)) (nV (m:=(g.2.length:Int)) (n:=40) rfl rfl) (lv (vb (decide ((g.2.length:Int)<=40))) (wy (congrArg Bool.not q6)) (aN rfl (dt q10) rfl) (lw (vb (decide ((g.2.length:Int)<=40))) (aW rfl (congrArg Bool.not q6) rfl) (ma (vb (decide ((g.2.length:Int)<=40))) (ad (aw (vs:=[vb (decide ((g.2.length:Int)<=40))]) Try.func7 (.tmp rfl .nil) ?_))))))
   have e0:(decide ((g.2.length:Int)<=40):Bool)=(decide (¬aV g\/(g.1<=16/\g.2.length<=40))):=by
     (rw[decide_eq_decide];exact⟨λq=>.inr ⟨by omega,by omega⟩,λh=>by rcases h with h|h;exact absurd (of_decide_eq_true ‹_›) h;omega⟩)
   replace bH:=bH.cn ch2
   replace bH:=bH.cn hb7
   exact⟨(congrArg (a₁:=decide ((g.2.length:Int)<=40)) (λ(z0:Bool)=>Ending.returned (vb z0)) e0),bH.below⟩
  refine am (wn (df q10)) (am (wn (df q10)) (am (wn (df q10)) (am (wn (df q10)) (lv (vb false) (wy (congrArg Bool.not q6)) (aW rfl (df q10) rfl) (lw (vb false) (aW rfl (congrArg Bool.not q6) rfl) (ma (vb false) (ad (aw (vs:=[vb false]) Try.func7 (.tmp rfl .nil) ?_))))))))
  have e0:(false:Bool)=(decide (¬aV g\/(g.1<=16/\g.2.length<=40))):=by
    exact(df λh=>by rcases h with h|h;exact h (of_decide_eq_true ‹_›);omega).symm
  replace bH:=bH.cn ch2
  replace bH:=bH.cn hb7
  exact⟨rb e0,bH.below⟩
 refine am (wn (congrArg Bool.not (Bool.eq_false_iff.2 q6))) (am (wn (congrArg Bool.not (Bool.eq_false_iff.2 q6))) (am (wn (congrArg Bool.not (Bool.eq_false_iff.2 q6))) (am (wn (congrArg Bool.not (Bool.eq_false_iff.2 q6))) (am (bt rfl rfl rfl) (am (bt rfl rfl rfl) (am (bt rfl rfl rfl) (am (bt rfl rfl rfl) (am (wn (congrArg Bool.not (Bool.eq_false_iff.2 q6))) (lw (vb true) (aN rfl (congrArg Bool.not (Bool.eq_false_iff.2 q6)) rfl) ?_)))))))))
 refine ma (vb true) (ad (aw (vs:=[vb true]) Try.func7 (.tmp rfl .nil) ?_))
 have e0:(true:Bool)=(decide (¬aV g\/(g.1<=16/\g.2.length<=40))):=by
   exact(dt (.inl λh=>absurd (dt h) ‹_›)).symm
 replace bH:=bH.cn ch2
 replace bH:=bH.cn hb7
 exact⟨rb e0,bH.below⟩
end TL
