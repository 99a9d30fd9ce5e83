import Derived.Test.YtgneelmmomohdaaSaTlP5
import Derived.Test.YtgneelmmomohdaaSaTlSpL
import Derived.Test.YtgneelmmomohdaaSaTlSpS
import Derived.Test.YtgneelmmomohdaaSaTlSpM
import Derived.Test.YtgneelmmomohdaaSaTlGenA
import Derived.Test.YtgneelmmomohdaaProg
import Derived.Test.YtgneelmmomohdaaSaTlAli
set_option linter.all false
set_option maxRecDepth 20000
namespace TL
open Go Go.Proofs
theorem vz:Try.prog.follows .mixedOrders=true:=by kernel_rfl
theorem uP:Try.f9.body.isNone=false:=rfl
theorem tE:(Try.f9.name== "runtime.NumGoroutine")=false:=by decide+kernel
theorem rP:Try.f10.body.isNone=false:=rfl
theorem s9:(Try.f10.name== "runtime.NumGoroutine")=false:=by decide+kernel
theorem mL:Try.f11.body.isNone=false:=rfl
theorem mU:(Try.f11.name== "runtime.NumGoroutine")=false:=by decide+kernel
theorem rU:Try.f12.body.isNone=false:=rfl
theorem qW:(Try.f12.name== "runtime.NumGoroutine")=false:=by decide+kernel
theorem rJ:Try.f14.body.isNone=false:=rfl
theorem sb:(Try.f14.name== "runtime.NumGoroutine")=false:=by decide+kernel
theorem yU:Try.f26.body.isNone=false:=rfl
theorem ww:(Try.f26.name== "runtime.NumGoroutine")=false:=by decide+kernel
theorem xP:Try.f27.body.isNone=false:=rfl
theorem yB:(Try.f27.name== "runtime.NumGoroutine")=false:=by decide+kernel
attribute [local irreducible] bc b6 aF aW
set_option maxHeartbeats 8000000 in
theorem vR(w0:World):
    Calls Try.prog 6 #[] w0 (λee w=>ee= .returned (vb true)/\ep w0.heap.size w0 w):=by
 refine av Try.func6 rfl nq ?_
 have bH:=bn.start w0
 obtain⟨hb1,hb2,hb3,hb4,hb5,hb6,hb7,hb8,hb9⟩:=zF
 refine aa (a8 rfl (ma (vb false) (ab (aa (a8 rfl (cB rfl (bQ (aN (vals:=[vi 4]) Try.func26 yU ww rfl) (qg w0 4 (by exact⟨by decide,by decide⟩)) ?_)))))))
 rintro⟨d2,v4⟩ w1 ⟨fr3,o5⟩
 obtain⟨g6,ch7,G6⟩:=ia c0 fr3 (λn=>if n=1 then 1 else 0)
 replace o5:=o5.gl G6 1
 refine mv (vt [vg [vi ((fk 4).1),v4],vi 0]) (lx (aJ rfl rfl) (lx (aJ rfl rfl) (lo (bP g6 (is 2) (2,0) rfl aK ?_))))
 intro g11 w8 b10 ch9 bx12
 replace bx12:Bx g11 (is 2) w8 b10 [vi 0,vn]:=bx12
 refine lo ?_
 replace o5:=o5.cn ch9
 refine aT (cs':=[vi ((fk 4).1),v4]) aK rfl rfl bx12 rfl nq (AllOne.all (.cons rfl (.cons (bK o5.flat) .nil))) rfl ?_
 intro w13 ch14 bx15
 clear bx12
 refine ai 0 (ab (aa (a8 rfl (cB rfl (bQ (aN (vals:=[vi 4]) Try.func27 xP yB rfl) (uW w13 4 (by exact⟨by decide,by decide⟩)) ?_)))))
 rintro⟨d17,v19⟩ w16 ⟨fr18,o20⟩
 obtain⟨g21,ch22,G21⟩:=ia g11 fr18 (λn=>if n=1 then 3 else 0)
 replace o20:=o20.gl G21 3
 refine mv (vt [vg [vi ((cz 4).1),v19],vi 0]) (lx (aJ rfl rfl) (lx (aJ rfl rfl) (lo (bP g21 (is 4) (4,0) rfl aK ?_))))
 intro g26 w23 b25 ch24 bx27
 replace bx27:Bx g26 (is 4) w23 b25 [vi 0,vn]:=bx27
 refine lo ?_
 replace o20:=o20.cn ch24
 refine aT (cs':=[vi ((cz 4).1),v19]) aK rfl rfl bx27 rfl nq (AllOne.all (.cons rfl (.cons (bK o20.flat) .nil))) rfl ?_
 intro w28 ch29 bx30
 clear bx27
 refine ai 0 (ab (aa (a8 rfl ?_)))
 have C31:=cg [4] (ch22.n.seq (ch24.n.seq (ch29.l rfl)))
 replace bx15:=bx15.ca C31
 refine lx (aB (ds:=[vi ((fk 4).1),v4]) aK rfl bx15 rfl rfl) ?_
 have C32:=cg [2,4] ((ch14.l rfl).seq (ch22.n.seq (ch24.n.seq (ch29.l rfl))))
 replace o5:=o5.ca C32
 refine lo (bW (v:=vt [vi ((bc (fk 4)).1),vi ((bc (fk 4)).2)]) (aN (vals:=[vg [vi ((fk 4).1),v4]]) Try.func9 uP tE rfl) (oZ w28 (fk 4) v4 (o5.flat).ro) ?_)
 intro w33 hb34
 replace hb34:=aS hb34 g26
 refine mv (vt [vi ((bc (fk 4)).1),vi ((bc (fk 4)).2)]) (lx (aJ rfl rfl) (lx (aJ rfl rfl) (ai ((bc (fk 4)).1) (ai ((bc (fk 4)).2) (ab (aa ?_))))))
 clear o5 bx15
 refine a8 rfl ?_
 replace bx30:=bx30.cn hb34
 refine lx (aB (ds:=[vi ((cz 4).1),v19]) aK rfl bx30 rfl rfl) ?_
 replace o20:=(o20.ce ch29).cn hb34
 refine lo (bQ (aN (vals:=[vg [vi ((cz 4).1),v19]]) Try.func10 rP s9 rfl) (nz w33 (cz 4) v19 (o20.flat).ro) ?_)
 rintro⟨d36,v38⟩ w35 ⟨fr37,o39⟩
 obtain⟨g40,ch41,G40⟩:=ia g26 fr37 (λn=>if n=1 then 5 else 0)
 replace o39:=o39.gl G40 5
 refine mv (vt [v38,vi ((b6 (cz 4)).2)]) (lx (aJ rfl rfl) (lx (aJ rfl rfl) (ma v38 (ai ((b6 (cz 4)).2) (ab (aa (a8 rfl ?_)))))))
 replace bx30:=bx30.cn ch41
 refine lx (aB (ds:=[vi ((cz 4).1),v19]) aK rfl bx30 rfl rfl) ?_
 replace o20:=o20.cn ch41
 refine lo (bQ (aN (vals:=[vg [vi ((cz 4).1),v19],vi 0,vi 2]) Try.func11 mL mU rfl) (iS w35 (cz 4) v19 (o20.flat).ro 0 2) ?_)
 rintro⟨d43,v45⟩ w42 ⟨fr44,o46⟩
 obtain⟨g47,ch48,G47⟩:=ia g40 fr44 (λn=>if n=1 then 6 else 0)
 replace o46:=o46.gl G47 6
 refine mv (vt [v45,vi ((aF (cz 4) 0 2).2)]) (lx (aJ rfl rfl) (lx (aJ rfl rfl) (ma v45 (ai ((aF (cz 4) 0 2).2) (ab (aa (a8 rfl ?_)))))))
 replace bx30:=bx30.cn ch48
 refine lx (aB (ds:=[vi ((cz 4).1),v19]) aK rfl bx30 rfl rfl) ?_
 replace o20:=o20.cn ch48
 refine lo (bQ (aN (vals:=[vg [vi ((cz 4).1),v19]]) Try.func12 rU qW rfl) (nI w42 (cz 4) v19 (o20.flat).ro) ?_)
 rintro⟨d50,v52⟩ w49 ⟨fr51,o53⟩
 obtain⟨g54,ch55,G54⟩:=ia g47 fr51 (λn=>if n=1 then 7 else 0)
 replace o53:=o53.gl G54 7
 refine mv (vt [v52,vi ((aW (cz 4)).2)]) (lx (aJ rfl rfl) (lx (aJ rfl rfl) (ma v52 (ai ((aW (cz 4)).2) (ab (aa ?_))))))
 clear o20 bx30
 refine a8 rfl (mi ((bc (fk 4)).1) (lx (cZ (m:=(bc (fk 4)).1) (n:=3) rfl rfl) (mv (vb (decide (((bc (fk 4)).1)=3))) ?_)))
 have q43:((bc (fk 4)).1)=3:=by assumption
 refine lv (vi ((bc (fk 4)).2)) (wy (dt q43)) (au rfl) (lv (vb (decide (((bc (fk 4)).2)=0))) (wy (dt q43)) (cZ (m:=(bc (fk 4)).2) (n:=0) rfl rfl) (lw (vb (decide (((bc (fk 4)).2)=0))) (aO rfl (dt q43) rfl) (mv (vb (decide (((bc (fk 4)).2)=0))) ?_)))
 have q47:((bc (fk 4)).2)=0:=by assumption
 refine lv (v38) (wy (dt q47)) (au rfl) ?_
 replace o39:=(o39.cn ch48).cn ch55
 have len56:=(o39.flat).small
 refine lv (vi (List.length ((b6 (cz 4)).1):Int)) (wy (dt q47)) (bq dc rfl o39.flat) (lv (vb (decide ((List.length ((b6 (cz 4)).1):Int)=2))) (wy (dt q47)) (cZ (m:=(List.length ((b6 (cz 4)).1):Int)) (n:=2) rfl rfl) (lw (vb (decide ((List.length ((b6 (cz 4)).1):Int)=2))) (aO rfl (dt q47) rfl) (mv (vb (decide ((List.length ((b6 (cz 4)).1):Int)=2))) ?_)))
 have q52:(List.length ((b6 (cz 4)).1):Int)=2:=by assumption
 refine lv (v38) (wy (dt q52)) (au rfl) (lv (Value.pointer (some (bA v38 2 (Int.toNat 1)))) (wy (dt q52)) (ad (α:=Pt) (xs:=(b6 (cz 4)).1) (v:=v38) (i:=1) dc rfl rfl o39.flat rfl (by omega) (by omega)) (lv (vg [vi ((gI ((b6 (cz 4)).1) 1).1),vi ((gI ((b6 (cz 4)).1) 1).2)]) (wy (dt q52)) (cL (α:=Pt) (xs:=(b6 (cz 4)).1) (v:=v38) (i:=1) b7 rfl o39.flat (by omega) (by omega) rfl) (lv (vg [vi 1,vi 3]) (wy (dt q52)) (bS (vs:=[(0,vi 1),(1,vi 3)]) rfl (by kernel_rfl)) ?_)))
 refine lv (vb (decide ((gI ((b6 (cz 4)).1) 1)=(1,3)))) (wy (dt q52)) (o7 (a:=(gI ((b6 (cz 4)).1) 1)) (b:=(1,3)) dI U3 aj (by kernel_rfl) rfl rfl) (lw (vb (decide ((gI ((b6 (cz 4)).1) 1)=(1,3)))) (aO rfl (dt q52) rfl) (mv (vb (decide ((gI ((b6 (cz 4)).1) 1)=(1,3)))) ?_))
 have q59:(gI ((b6 (cz 4)).1) 1)=(1,3):=by assumption
 refine lv (vi ((b6 (cz 4)).2)) (wy (dt q59)) (au rfl) (lv (vb (decide (((b6 (cz 4)).2)=0))) (wy (dt q59)) (cZ (m:=(b6 (cz 4)).2) (n:=0) rfl rfl) (lw (vb (decide (((b6 (cz 4)).2)=0))) (aO rfl (dt q59) rfl) (mv (vb (decide (((b6 (cz 4)).2)=0))) ?_)))
 have q63:((b6 (cz 4)).2)=0:=by assumption
 refine lv (v45) (wy (dt q63)) (au rfl) ?_
 replace o46:=o46.cn ch55
 have len57:=(o46.sl).small
 refine lv (vi (List.length ((aF (cz 4) 0 2).1):Int)) (wy (dt q63)) (bq dd rfl o46.sl) (lv (vb (decide ((List.length ((aF (cz 4) 0 2).1):Int)=2))) (wy (dt q63)) (cZ (m:=(List.length ((aF (cz 4) 0 2).1):Int)) (n:=2) rfl rfl) (lw (vb (decide ((List.length ((aF (cz 4) 0 2).1):Int)=2))) (aO rfl (dt q63) rfl) (mv (vb (decide ((List.length ((aF (cz 4) 0 2).1):Int)=2))) ?_)))
 have q68:(List.length ((aF (cz 4) 0 2).1):Int)=2:=by assumption
 refine lv (vi ((aF (cz 4) 0 2).2)) (wy (dt q68)) (au rfl) (lv (vb (decide (((aF (cz 4) 0 2).2)=0))) (wy (dt q68)) (cZ (m:=(aF (cz 4) 0 2).2) (n:=0) rfl rfl) (lw (vb (decide (((aF (cz 4) 0 2).2)=0))) (aO rfl (dt q68) rfl) (mv (vb (decide (((aF (cz 4) 0 2).2)=0))) ?_)))
 have q72:((aF (cz 4) 0 2).2)=0:=by assumption
 refine lv (v52) (wy (dt q72)) (au rfl) ?_
 have len58:=(o53.flat).small
 refine lv (vi (List.length ((aW (cz 4)).1):Int)) (wy (dt q72)) (bq dc rfl o53.flat) (lv (vb (decide ((List.length ((aW (cz 4)).1):Int)=2))) (wy (dt q72)) (cZ (m:=(List.length ((aW (cz 4)).1):Int)) (n:=2) rfl rfl) (lw (vb (decide ((List.length ((aW (cz 4)).1):Int)=2))) (aO rfl (dt q72) rfl) (mv (vb (decide ((List.length ((aW (cz 4)).1):Int)=2))) ?_)))
 have q77:(List.length ((aW (cz 4)).1):Int)=2:=by assumption
 refine lv (vi ((aW (cz 4)).2)) (wy (dt q77)) (au rfl) (lv (vb (decide (((aW (cz 4)).2)=0))) (wy (dt q77)) (cZ (m:=(aW (cz 4)).2) (n:=0) rfl rfl) (lw (vb (decide (((aW (cz 4)).2)=0))) (aO rfl (dt q77) rfl) (ma (vb (decide (((aW (cz 4)).2)=0))) (ab (aD (vs:=[vb (decide (((aW (cz 4)).2)=0))]) Try.func6 (.tmp rfl .nil) ?_)))))
 have e0:(decide (((aW (cz 4)).2)=0):Bool)=(true):=by
   exact dt hb9
 have C59:=cg [2,4] (ch7.n.seq (ch9.n.seq ((ch14.l rfl).seq (ch22.n.seq (ch24.n.seq ((ch29.l rfl).seq (hb34.n.seq (ch41.n.seq (ch48.n.seq ch55.n)))))))))
 replace bH:=bH.ca C59
 exact⟨(congrArg (a₁:=decide (((aW (cz 4)).2)=0)) (λ(z0:Bool)=>Ending.returned (vb z0)) e0),bH.below⟩
theorem uY(w0:World)(g:(Int)×(List Pt))(g_v:Value)(hg_v:Ro w0 g_v g.2):
    Calls Try.prog 7 #[vg [vi g.1,g_v]] w0 (λee w=>ee= .returned (vb (decide (¬aX g\/(g.1<=16/\g.2.length<=40))))/\ep w0.heap.size w0 w):=by
 refine av Try.func7 rfl nq ?_
 have bH:=bn.start w0
 have Rg:=hg_v.sl
 refine aa (a8 rfl (cB rfl (cr c0 (is 1) (1,0) rfl rfl ?_)))
 intro g4 w1 b3 ch2 bx5
 replace bx5:Bx g4 (is 1) w1 b3 [vi g.1,g_v]:=bx5
 refine ma (vb false) (ab (aa (a8 rfl (lx (aB (ds:=[vi g.1,g_v]) aK rfl bx5 rfl rfl) ?_))))
 replace Rg:=Rg.cn ch2
 refine lo (bW (v:=vb (dw g)) (aN (vals:=[vg [vi g.1,g_v]]) Try.func14 rJ sb rfl) (tW w1 g g_v (Rg).ro) ?_)
 intro w6 hb7
 replace hb7:=aS hb7 g4
 refine lx (dZ (b:=(dw g)) rfl) (mv (vb (!(dw g))) ?_)
 by_cases q6:(dw g)=true
 ·
  refine lv (vp b3 0) (wy (congrArg Bool.not q6)) (af cW rfl rfl rfl rfl) ?_
  replace bx5:=bx5.cn hb7
  refine lv (vi g.1) (wy (congrArg Bool.not q6)) (ae aj rfl bx5 rfl) (lv (vb (decide (g.1<=16))) (wy (congrArg Bool.not q6)) (qL (m:=g.1) (n:=16) rfl rfl) (lv (vb (decide (g.1<=16))) (wy (congrArg Bool.not q6)) (au rfl) ?_))
  by_cases q10:g.1<=16
  ·
   refine lv (vp b3 1) (wy (dt q10)) (af cW rfl rfl rfl rfl) (lv (g_v) (wy (dt q10)) (ae bG rfl bx5 rfl) ?_)
   replace Rg:=Rg.cn hb7
   have Dl:=(Rg).small
   refine lv (vi (g.2.length:Int)) (wy (dt q10)) (bq dc rfl Rg) (lv (vb (decide ((g.2.length:Int)<=40))) (wy (dt q10)) (qL (m:=(g.2.length:Int)) (n:=40) rfl rfl) (lv (vb (decide ((g.2.length:Int)<=40))) (wy (congrArg Bool.not q6)) (aO rfl (dt q10) rfl) (lw (vb (decide ((g.2.length:Int)<=40))) (aP rfl (congrArg Bool.not q6) rfl) (ma (vb (decide ((g.2.length:Int)<=40))) (ab (aD (vs:=[vb (decide ((g.2.length:Int)<=40))]) Try.func7 (.tmp rfl .nil) ?_))))))
   have e0:(decide ((g.2.length:Int)<=40):Bool)=(decide (¬aX g\/(g.1<=16/\g.2.length<=40))):=by
     (rw[decide_eq_decide];exact⟨λq=>.inr ⟨by omega,by omega⟩,λh=>by rcases h with h|h;exact absurd (of_decide_eq_true ‹_›) h;omega⟩)
   replace bH:=bH.cn ch2
   replace bH:=bH.cn hb7
   exact⟨(congrArg (a₁:=decide ((g.2.length:Int)<=40)) (λ(z0:Bool)=>Ending.returned (vb z0)) e0),bH.below⟩
  refine ak (wn (df q10)) (ak (wn (df q10)) (ak (wn (df q10)) (ak (wn (df q10)) (lv (vb false) (wy (congrArg Bool.not q6)) (aP rfl (df q10) rfl) (lw (vb false) (aP rfl (congrArg Bool.not q6) rfl) (ma (vb false) (ab (aD (vs:=[vb false]) Try.func7 (.tmp rfl .nil) ?_))))))))
  have e0:(false:Bool)=(decide (¬aX g\/(g.1<=16/\g.2.length<=40))):=by
    exact(df λh=>by rcases h with h|h;exact h (of_decide_eq_true ‹_›);omega).symm
  replace bH:=bH.cn ch2
  replace bH:=bH.cn hb7
  exact⟨rb e0,bH.below⟩
 refine ak (wn (congrArg Bool.not (Bool.eq_false_iff.2 q6))) (ak (wn (congrArg Bool.not (Bool.eq_false_iff.2 q6))) (ak (wn (congrArg Bool.not (Bool.eq_false_iff.2 q6))) (ak (wn (congrArg Bool.not (Bool.eq_false_iff.2 q6))) (ak (bh rfl rfl rfl) (ak (bh rfl rfl rfl) (ak (bh rfl rfl rfl) (ak (bh rfl rfl rfl) (ak (wn (congrArg Bool.not (Bool.eq_false_iff.2 q6))) (lw (vb true) (aO rfl (congrArg Bool.not (Bool.eq_false_iff.2 q6)) rfl) ?_)))))))))
 refine ma (vb true) (ab (aD (vs:=[vb true]) Try.func7 (.tmp rfl .nil) ?_))
 have e0:(true:Bool)=(decide (¬aX g\/(g.1<=16/\g.2.length<=40))):=by
   exact(dt (.inl λh=>absurd (dt h) ‹_›)).symm
 replace bH:=bH.cn ch2
 replace bH:=bH.cn hb7
 exact⟨rb e0,bH.below⟩
theorem kT(w0:World)(a:List Pt)(a_v:Value)(ha_v:Ro w0 a_v a)(b:List Pt)(b_v:Value)(hb_v:Ro w0 b_v b):
    Calls Try.prog 16 #[a_v,b_v] w0 (λee w=>ee= .returned (vb (decide (a=b)))/\ep w0.heap.size w0 w):=by
 refine av Try.func16 rfl nq ?_
 have bH:=bn.start w0
 have Ra:=ha_v.sl
 have Rb:=hb_v.sl
 refine aa (a8 rfl (ma (vb false) (ab (aa (aa (a8 rfl (mv a_v ?_)))))))
 have len1:=(Ra).small
 refine lx (bq dc rfl Ra) (mv b_v ?_)
 have len2:=(Rb).small
 refine lx (bq dc rfl Rb) (lx (cK (m:=(a.length:Int)) (n:=(b.length:Int)) rfl rfl) (ab ?_))
 by_cases p1:(a.length:Int)=(b.length:Int)
 ·
  refine ag rfl (congrArg Bool.not (dt p1)) (aq (aa (aa (a8 rfl (ai 0 (ab (ao ?_)))))))
  refine aY (σ:=Nat×aG) (λ⟨k,gq⟩ f w=>bn w0 gq w/\f 0=a_v/\f 1=b_v/\f 5=vi ↑k/\Sl gq (is 0) w a_v a/\Sl gq (is 0) w b_v b/\(k:Int)<=((a.length:Int):Int)/\(List.take k a=List.take k b)) (λ⟨k,gq⟩=>Int.toNat (((a.length:Int):Int)-(k:Int))) (0,c0) ?_ ?_
  · exact⟨bH,rfl,rfl,rfl,Ra,Rb,by omega,by simp⟩
  clear Ra Rb bH
  rintro⟨k,g5⟩ f3 w4 ⟨bH,zs0,zs1,zs5,Ra,Rb,hle_k,hinv⟩ back4
  refine aa (aa (a8 rfl (mz zs5 (mz zs0 (lx (bq dc rfl Ra) (lx (bm (m:=↑k) (n:=(a.length:Int)) rfl rfl) (ab ?_)))))))
  by_cases p4:(k:Int)<(a.length:Int)
  ·
   refine ah rfl (dt p4) (aq (aa (ao (aa (dl g5 rfl vz (by kernel_rfl) ?_)))))
   intro w7 ch6
   refine qz zs0 (qz zs5 ?_)
   replace Ra:=Ra.cn ch6
   refine qx (λw' hw'=>ad (v:=a_v) (i:=↑k) dc rfl rfl (Ra.bel hw') rfl (by omega) (by omega)) (qv (vg [vi ((gI a ↑k).1),vi ((gI a ↑k).2)]) (λw' hw'=>cL (v:=a_v) (i:=↑k) b7 rfl (Ra.bel hw') (by omega) (by omega) rfl) (qz zs1 (qz zs5 ?_)))
   replace Rb:=Rb.cn ch6
   refine qx (λw' hw'=>ad (v:=b_v) (i:=↑k) dc rfl rfl (Rb.bel hw') rfl (by omega) (by omega)) (qv (vg [vi ((gI b ↑k).1),vi ((gI b ↑k).2)]) (λw' hw'=>cL (v:=b_v) (i:=↑k) b7 rfl (Rb.bel hw') (by omega) (by omega) rfl) (qv (vb (!(decide ((gI a ↑k)=(gI b ↑k))))) (λw' hw'=>ol (a:=(gI a ↑k)) (b:=(gI b ↑k)) dI U3 aj (by kernel_rfl) rfl rfl) (f4 ?_)))
   intro w8 hc9
   replace hc9:=aS hc9 g5
   by_cases p6:(gI a ↑k)=(gI b ↑k)
   ·
    refine ag rfl (congrArg Bool.not (dt p6)) (aq (am (a8 rfl (mz zs5 (lx (aI (m:=↑k) (n:=1) rfl rfl (by omega)) (ai ((k:Int)+1) (ab ?_)))))))
    replace bH:=bH.cn ch6
    refine back4 (k+1,g5) _ _ ⟨bH.cn hc9,zs0,zs1,rfl,Ra.cn hc9,Rb.cn hc9,by omega,?_⟩ ?_
    · show List.take (k+1) a=List.take (k+1) b
      rw[bC ‹_›,bC (by omega),hinv];simp_all
    · show Int.toNat (((a.length:Int):Int)-((k+1):Int))<Int.toNat (((a.length:Int):Int)-(k:Int))
      omega
   refine ah rfl (congrArg Bool.not (df p6)) (aa (a8 rfl (ma (vb false) (ab (aD (vs:=[vb false]) Try.func16 (.tmp rfl .nil) ?_)))))
   have e0:(false:Bool)=(decide (a=b)):=by
     (refine(df λh=>?_).symm;subst h;simp_all;done)
   replace bH:=bH.cn ch6
   replace bH:=bH.cn hc9
   exact⟨rb e0,bH.below⟩
  refine ag rfl (df p4) (aH rfl (aa (a8 rfl (ma (vb true) (ab (aD (vs:=[vb true]) Try.func16 (.tmp rfl .nil) ?_))))))
  have e0:(true:Bool)=(decide (a=b)):=by
    (have e:=hinv;rw[List.take_of_length_le (by omega),List.take_of_length_le (by omega)] at e;exact(dt e).symm)
  exact⟨rb e0,bH.below⟩
 refine ah rfl (congrArg Bool.not (df p1)) (aa (a8 rfl (ma (vb false) (ab (aD (vs:=[vb false]) Try.func16 (.tmp rfl .nil) ?_)))))
 have e0:(false:Bool)=(decide (a=b)):=by
   (refine(df λh=>?_).symm;subst h;simp_all;done)
 exact⟨rb e0,bH.below⟩
end TL
