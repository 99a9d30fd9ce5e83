import Derived.Test.YtgneelmmomohdaaSqTlP4
import Derived.Test.YtgneelmmomohdaaSqTlSpL
import Derived.Test.YtgneelmmomohdaaSqTlSpS
import Derived.Test.YtgneelmmomohdaaSqTlSpM
import Derived.Test.YtgneelmmomohdaaSqTlGenA
import Derived.Test.YtgneelmmomohdaaProg
import Derived.Test.YtgneelmmomohdaaSqTlAli
set_option linter.all false
set_option maxRecDepth 20000
namespace TL
open Go Go.Proofs
theorem r5:Try.f9.body.isNone=false:=rfl
theorem rJ:(Try.f9.name== "runtime.NumGoroutine")=false:=by decide+kernel
theorem ov:Try.f10.body.isNone=false:=rfl
theorem pT:(Try.f10.name== "runtime.NumGoroutine")=false:=by decide+kernel
theorem pB:Try.f11.body.isNone=false:=rfl
theorem pb:(Try.f11.name== "runtime.NumGoroutine")=false:=by decide+kernel
theorem pJ:Try.f12.body.isNone=false:=rfl
theorem po:(Try.f12.name== "runtime.NumGoroutine")=false:=by decide+kernel
theorem oT:Try.f14.body.isNone=false:=rfl
theorem pk:(Try.f14.name== "runtime.NumGoroutine")=false:=by decide+kernel
theorem tG:Try.f26.body.isNone=false:=rfl
theorem ue:(Try.f26.name== "runtime.NumGoroutine")=false:=by decide+kernel
theorem vM:Try.f27.body.isNone=false:=rfl
theorem u4:(Try.f27.name== "runtime.NumGoroutine")=false:=by decide+kernel
attribute [local irreducible] bp bn aq aY
set_option maxHeartbeats 8000000 in
theorem sr(w0:World):
    Calls Try.prog 6 #[] w0 (λee w=>ee= .returned (vb true)/\e8 w0.heap.size w0 w):=by
 refine ar Try.func6 rfl nq ?_
 have bH:=bq.start w0
 obtain⟨hb1,hb2,hb3,hb4,hb5,hb6,hb7,hb8,hb9⟩:=wX
 refine aa (a8 rfl (ma (vb false) (ad (aa (a8 rfl (cF rfl (cd (aQ (vals:=[vi 4]) Try.func26 tG ue rfl) (nS w0 4 (by exact⟨by decide,by decide⟩)) ?_)))))))
 rintro⟨d2,v4⟩ w1 ⟨fr3,o5⟩
 obtain⟨g6,ch7,G6⟩:=jK c0 fr3 (λn=>if n=1 then 1 else 0)
 replace o5:=o5.gl G6 1
 refine mv (vt [vg [vi ((ep 4).1),v4],vi 0]) (lx (aG rfl rfl) (lx (aG rfl rfl) (lo (bz g6 (is 2) (2,0) rfl aK ?_))))
 intro g11 w8 b10 ch9 bx12
 replace bx12:Bx g11 (is 2) w8 b10 [vi 0,vn]:=bx12
 refine lo ?_
 replace o5:=o5.cn ch9
 refine aF (cs':=[vi ((ep 4).1),v4]) aK rfl rfl bx12 rfl nq (AllOne.all (.cons rfl (.cons (bm o5.flat) .nil))) rfl ?_
 intro w13 ch14 bx15
 clear bx12
 refine ai 0 (ad (aa (a8 rfl (cF rfl (cd (aQ (vals:=[vi 4]) Try.func27 vM u4 rfl) (sV w13 4 (by exact⟨by decide,by decide⟩)) ?_)))))
 rintro⟨d17,v19⟩ w16 ⟨fr18,o20⟩
 obtain⟨g21,ch22,G21⟩:=jK g11 fr18 (λn=>if n=1 then 3 else 0)
 replace o20:=o20.gl G21 3
 refine mv (vt [vg [vi ((c6 4).1),v19],vi 0]) (lx (aG rfl rfl) (lx (aG rfl rfl) (lo (bz g21 (is 4) (4,0) rfl aK ?_))))
 intro g26 w23 b25 ch24 bx27
 replace bx27:Bx g26 (is 4) w23 b25 [vi 0,vn]:=bx27
 refine lo ?_
 replace o20:=o20.cn ch24
 refine aF (cs':=[vi ((c6 4).1),v19]) aK rfl rfl bx27 rfl nq (AllOne.all (.cons rfl (.cons (bm o20.flat) .nil))) rfl ?_
 intro w28 ch29 bx30
 clear bx27
 refine ai 0 (ad (aa (a8 rfl ?_)))
 have C31:=cg [4] (ch22.n.seq (ch24.n.seq (ch29.l rfl)))
 replace bx15:=bx15.ca C31
 refine lx (aB (ds:=[vi ((ep 4).1),v4]) aK rfl bx15 rfl rfl) ?_
 have C32:=cg [2,4] ((ch14.l rfl).seq (ch22.n.seq (ch24.n.seq (ch29.l rfl))))
 replace o5:=o5.ca C32
 refine lo (bT (v:=vt [vi ((bp (ep 4)).1),vi ((bp (ep 4)).2)]) (aQ (vals:=[vg [vi ((ep 4).1),v4]]) Try.func9 r5 rJ rfl) (ng w28 (ep 4) v4 (o5.flat).ro) ?_)
 intro w33 hb34
 replace hb34:=aT hb34 g26
 refine mv (vt [vi ((bp (ep 4)).1),vi ((bp (ep 4)).2)]) (lx (aG rfl rfl) (lx (aG rfl rfl) (ai ((bp (ep 4)).1) (ai ((bp (ep 4)).2) (ad (aa ?_))))))
 clear o5 bx15
 refine a8 rfl ?_
 replace bx30:=bx30.cn hb34
 refine lx (aB (ds:=[vi ((c6 4).1),v19]) aK rfl bx30 rfl rfl) ?_
 replace o20:=(o20.ce ch29).cn hb34
 refine lo (cd (aQ (vals:=[vg [vi ((c6 4).1),v19]]) Try.func10 ov pT rfl) (lg w33 (c6 4) v19 (o20.flat).ro) ?_)
 rintro⟨d36,v38⟩ w35 ⟨fr37,o39⟩
 obtain⟨g40,ch41,G40⟩:=jK g26 fr37 (λn=>if n=1 then 5 else 0)
 replace o39:=o39.gl G40 5
 refine mv (vt [v38,vi ((bn (c6 4)).2)]) (lx (aG rfl rfl) (lx (aG rfl rfl) (ma v38 (ai ((bn (c6 4)).2) (ad (aa (a8 rfl ?_)))))))
 replace bx30:=bx30.cn ch41
 refine lx (aB (ds:=[vi ((c6 4).1),v19]) aK rfl bx30 rfl rfl) ?_
 replace o20:=o20.cn ch41
 refine lo (cd (aQ (vals:=[vg [vi ((c6 4).1),v19],vi 0,vi 2]) Try.func11 pB pb rfl) (jx w35 (c6 4) v19 (o20.flat).ro 0 2) ?_)
 rintro⟨d43,v45⟩ w42 ⟨fr44,o46⟩
 obtain⟨g47,ch48,G47⟩:=jK g40 fr44 (λn=>if n=1 then 6 else 0)
 replace o46:=o46.gl G47 6
 refine mv (vt [v45,vi ((aq (c6 4) 0 2).2)]) (lx (aG rfl rfl) (lx (aG rfl rfl) (ma v45 (ai ((aq (c6 4) 0 2).2) (ad (aa (a8 rfl ?_)))))))
 replace bx30:=bx30.cn ch48
 refine lx (aB (ds:=[vi ((c6 4).1),v19]) aK rfl bx30 rfl rfl) ?_
 replace o20:=o20.cn ch48
 refine lo (cd (aQ (vals:=[vg [vi ((c6 4).1),v19]]) Try.func12 pJ po rfl) (lD w42 (c6 4) v19 (o20.flat).ro) ?_)
 rintro⟨d50,v52⟩ w49 ⟨fr51,o53⟩
 obtain⟨g54,ch55,G54⟩:=jK g47 fr51 (λn=>if n=1 then 7 else 0)
 replace o53:=o53.gl G54 7
 refine mv (vt [v52,vi ((aY (c6 4)).2)]) (lx (aG rfl rfl) (lx (aG rfl rfl) (ma v52 (ai ((aY (c6 4)).2) (ad (aa ?_))))))
 clear o20 bx30
 refine a8 rfl (mi ((bp (ep 4)).1) (lx (cK (m:=(bp (ep 4)).1) (n:=3) rfl rfl) (mv (vb (decide (((bp (ep 4)).1)=3))) ?_)))
 have q43:((bp (ep 4)).1)=3:=hb1
 refine lv (vi ((bp (ep 4)).2)) (wy (dt q43)) (av rfl) (lv (vb (decide (((bp (ep 4)).2)=0))) (wy (dt q43)) (cK (m:=(bp (ep 4)).2) (n:=0) rfl rfl) (lw (vb (decide (((bp (ep 4)).2)=0))) (aV rfl (dt q43) rfl) (mv (vb (decide (((bp (ep 4)).2)=0))) ?_)))
 have q47:((bp (ep 4)).2)=0:=hb2
 refine lv (v38) (wy (dt q47)) (av rfl) ?_
 replace o39:=(o39.cn ch48).cn ch55
 have len56:=(o39.flat).small
 refine lv (vi (List.length ((bn (c6 4)).1):Int)) (wy (dt q47)) (bJ dg rfl o39.flat) (lv (vb (decide ((List.length ((bn (c6 4)).1):Int)=2))) (wy (dt q47)) (cK (m:=(List.length ((bn (c6 4)).1):Int)) (n:=2) rfl rfl) (lw (vb (decide ((List.length ((bn (c6 4)).1):Int)=2))) (aV rfl (dt q47) rfl) (mv (vb (decide ((List.length ((bn (c6 4)).1):Int)=2))) ?_)))
 have q52:(List.length ((bn (c6 4)).1):Int)=2:=hb3
 refine lv (v38) (wy (dt q52)) (av rfl) (lv (Value.pointer (some (bA v38 2 (Int.toNat 1)))) (wy (dt q52)) (ag (α:=Pt) (xs:=(bn (c6 4)).1) (v:=v38) (i:=1) dg rfl rfl o39.flat rfl (by omega) (by omega)) (lv (vg [vi ((gI ((bn (c6 4)).1) 1).1),vi ((gI ((bn (c6 4)).1) 1).2)]) (wy (dt q52)) (cv (α:=Pt) (xs:=(bn (c6 4)).1) (v:=v38) (i:=1) aW rfl o39.flat (by omega) (by omega) rfl) (lv (vg [vi 1,vi 3]) (wy (dt q52)) (bC (vs:=[(0,vi 1),(1,vi 3)]) rfl (by kernel_rfl)) ?_)))
 refine lv (vb (decide ((gI ((bn (c6 4)).1) 1)=(1,3)))) (wy (dt q52)) (lF (a:=(gI ((bn (c6 4)).1) 1)) (b:=(1,3)) da U3 ak (by kernel_rfl) rfl rfl) (lw (vb (decide ((gI ((bn (c6 4)).1) 1)=(1,3)))) (aV rfl (dt q52) rfl) (mv (vb (decide ((gI ((bn (c6 4)).1) 1)=(1,3)))) ?_))
 have q59:(gI ((bn (c6 4)).1) 1)=(1,3):=hb4
 refine lv (vi ((bn (c6 4)).2)) (wy (dt q59)) (av rfl) (lv (vb (decide (((bn (c6 4)).2)=0))) (wy (dt q59)) (cK (m:=(bn (c6 4)).2) (n:=0) rfl rfl) (lw (vb (decide (((bn (c6 4)).2)=0))) (aV rfl (dt q59) rfl) (mv (vb (decide (((bn (c6 4)).2)=0))) ?_)))
 have q63:((bn (c6 4)).2)=0:=hb5
 refine lv (v45) (wy (dt q63)) (av rfl) ?_
 replace o46:=o46.cn ch55
 have len57:=(o46.sl).small
 refine lv (vi (List.length ((aq (c6 4) 0 2).1):Int)) (wy (dt q63)) (bJ dU rfl o46.sl) (lv (vb (decide ((List.length ((aq (c6 4) 0 2).1):Int)=2))) (wy (dt q63)) (cK (m:=(List.length ((aq (c6 4) 0 2).1):Int)) (n:=2) rfl rfl) (lw (vb (decide ((List.length ((aq (c6 4) 0 2).1):Int)=2))) (aV rfl (dt q63) rfl) (mv (vb (decide ((List.length ((aq (c6 4) 0 2).1):Int)=2))) ?_)))
 have q68:(List.length ((aq (c6 4) 0 2).1):Int)=2:=hb6
 refine lv (vi ((aq (c6 4) 0 2).2)) (wy (dt q68)) (av rfl) (lv (vb (decide (((aq (c6 4) 0 2).2)=0))) (wy (dt q68)) (cK (m:=(aq (c6 4) 0 2).2) (n:=0) rfl rfl) (lw (vb (decide (((aq (c6 4) 0 2).2)=0))) (aV rfl (dt q68) rfl) (mv (vb (decide (((aq (c6 4) 0 2).2)=0))) ?_)))
 have q72:((aq (c6 4) 0 2).2)=0:=hb7
 refine lv (v52) (wy (dt q72)) (av rfl) ?_
 have len58:=(o53.flat).small
 refine lv (vi (List.length ((aY (c6 4)).1):Int)) (wy (dt q72)) (bJ dg rfl o53.flat) (lv (vb (decide ((List.length ((aY (c6 4)).1):Int)=2))) (wy (dt q72)) (cK (m:=(List.length ((aY (c6 4)).1):Int)) (n:=2) rfl rfl) (lw (vb (decide ((List.length ((aY (c6 4)).1):Int)=2))) (aV rfl (dt q72) rfl) (mv (vb (decide ((List.length ((aY (c6 4)).1):Int)=2))) ?_)))
 have q77:(List.length ((aY (c6 4)).1):Int)=2:=hb8
 refine lv (vi ((aY (c6 4)).2)) (wy (dt q77)) (av rfl) (lv (vb (decide (((aY (c6 4)).2)=0))) (wy (dt q77)) (cK (m:=(aY (c6 4)).2) (n:=0) rfl rfl) (lw (vb (decide (((aY (c6 4)).2)=0))) (aV rfl (dt q77) rfl) (ma (vb (decide (((aY (c6 4)).2)=0))) (ad (aD (vs:=[vb (decide (((aY (c6 4)).2)=0))]) Try.func6 (.tmp rfl .nil) ?_)))))
 have e0:(decide (((aY (c6 4)).2)=0):Bool)=(true):=by
   exact decide_eq_true hb9
 have C59:=cg [2,4] (ch7.n.seq (ch9.n.seq ((ch14.l rfl).seq (ch22.n.seq (ch24.n.seq ((ch29.l rfl).seq (hb34.n.seq (ch41.n.seq (ch48.n.seq ch55.n)))))))))
 replace bH:=bH.ca C59
 exact⟨(congrArg (a₁:=decide (((aY (c6 4)).2)=0)) (λ(z0:Bool)=>Ending.returned (vb z0)) e0),bH.below⟩
theorem si(w0:World)(g:(Int)×(List Pt))(g_v:Value)(hg_v:Ro w0 g_v g.2):
    Calls Try.prog 7 #[vg [vi g.1,g_v]] w0 (λee w=>ee= .returned (vb (decide (¬b7 g\/(g.1<=16/\g.2.length<=40))))/\e8 w0.heap.size w0 w):=by
 refine ar Try.func7 rfl nq ?_
 have bH:=bq.start w0
 have Rg:=hg_v.sl
 refine aa (a8 rfl (cF rfl (cA c0 (is 1) (1,0) rfl rfl ?_)))
 intro g4 w1 b3 ch2 bx5
 replace bx5:Bx g4 (is 1) w1 b3 [vi g.1,g_v]:=bx5
 refine ma (vb false) (ad (aa (a8 rfl (lx (aB (ds:=[vi g.1,g_v]) aK rfl bx5 rfl rfl) ?_))))
 replace Rg:=Rg.cn ch2
 refine lo (bT (v:=vb (cS g)) (aQ (vals:=[vg [vi g.1,g_v]]) Try.func14 oT pk rfl) (rc w1 g g_v (Rg).ro) ?_)
 intro w6 hb7
 replace hb7:=aT hb7 g4
 refine lx (eF (b:=(cS g)) rfl) (mv (vb (!(cS g))) ?_)
 by_cases q6:(cS g)=true
 ·
  refine lv (vp b3 0) (wy (congrArg Bool.not q6)) (af d4 rfl rfl rfl rfl) ?_
  replace bx5:=bx5.cn hb7
  refine lv (vi g.1) (wy (congrArg Bool.not q6)) (ae ak rfl bx5 rfl) (lv (vb (decide (g.1<=16))) (wy (congrArg Bool.not q6)) (ru (m:=g.1) (n:=16) rfl rfl) (lv (vb (decide (g.1<=16))) (wy (congrArg Bool.not q6)) (av rfl) ?_))
  by_cases q10:g.1<=16
  ·
   refine lv (vp b3 1) (wy (dt q10)) (af d4 rfl rfl rfl rfl) (lv (g_v) (wy (dt q10)) (ae bu rfl bx5 rfl) ?_)
   replace Rg:=Rg.cn hb7
   have zq:=(Rg).small
   refine lv (vi (g.2.length:Int)) (wy (dt q10)) (bJ dg rfl Rg) (lv (vb (decide ((g.2.length:Int)<=40))) (wy (dt q10)) (ru (m:=(g.2.length:Int)) (n:=40) rfl rfl) (lv (vb (decide ((g.2.length:Int)<=40))) (wy (congrArg Bool.not q6)) (aV rfl (dt q10) rfl) (lw (vb (decide ((g.2.length:Int)<=40))) (aS rfl (congrArg Bool.not q6) rfl) (ma (vb (decide ((g.2.length:Int)<=40))) (ad (aD (vs:=[vb (decide ((g.2.length:Int)<=40))]) Try.func7 (.tmp rfl .nil) ?_))))))
   have e0:(decide ((g.2.length:Int)<=40):Bool)=(decide (¬b7 g\/(g.1<=16/\g.2.length<=40))):=by
     (rw[decide_eq_decide];exact⟨λq=>.inr ⟨by omega,by omega⟩,λh=>by rcases h with h|h;exact absurd (of_decide_eq_true ‹_›) h;omega⟩)
   replace bH:=bH.cn ch2
   replace bH:=bH.cn hb7
   exact⟨(congrArg (a₁:=decide ((g.2.length:Int)<=40)) (λ(z0:Bool)=>Ending.returned (vb z0)) e0),bH.below⟩
  refine az (wn (df q10)) (az (wn (df q10)) (az (wn (df q10)) (az (wn (df q10)) (lv (vb false) (wy (congrArg Bool.not q6)) (aS rfl (df q10) rfl) (lw (vb false) (aS rfl (congrArg Bool.not q6) rfl) (ma (vb false) (ad (aD (vs:=[vb false]) Try.func7 (.tmp rfl .nil) ?_))))))))
  have e0:(false:Bool)=(decide (¬b7 g\/(g.1<=16/\g.2.length<=40))):=by
    exact(df λh=>by rcases h with h|h;exact h (of_decide_eq_true ‹_›);omega).symm
  replace bH:=bH.cn ch2
  replace bH:=bH.cn hb7
  exact⟨rb e0,bH.below⟩
 refine az (wn (congrArg Bool.not (Bool.eq_false_iff.2 q6))) (az (wn (congrArg Bool.not (Bool.eq_false_iff.2 q6))) (az (wn (congrArg Bool.not (Bool.eq_false_iff.2 q6))) (az (wn (congrArg Bool.not (Bool.eq_false_iff.2 q6))) (az (bF rfl rfl rfl) (az (bF rfl rfl rfl) (az (bF rfl rfl rfl) (az (bF rfl rfl rfl) (az (wn (congrArg Bool.not (Bool.eq_false_iff.2 q6))) (lw (vb true) (aV rfl (congrArg Bool.not (Bool.eq_false_iff.2 q6)) rfl) ?_)))))))))
 refine ma (vb true) (ad (aD (vs:=[vb true]) Try.func7 (.tmp rfl .nil) ?_))
 have e0:(true:Bool)=(decide (¬b7 g\/(g.1<=16/\g.2.length<=40))):=by
   exact(dt (.inl λh=>absurd (dt h) ‹_›)).symm
 replace bH:=bH.cn ch2
 replace bH:=bH.cn hb7
 exact⟨rb e0,bH.below⟩
end TL
