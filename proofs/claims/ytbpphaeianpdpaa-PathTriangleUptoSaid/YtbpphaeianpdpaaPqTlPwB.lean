import Derived.Test.YtbpphaeianpdpaaPqTlP2
import Derived.Test.YtbpphaeianpdpaaPqTlGmA
import Derived.Test.YtbpphaeianpdpaaPqTlGenA
import Derived.Test.YtbpphaeianpdpaaPqTlPwA
import Derived.Test.YtbpphaeianpdpaaPqTlPwF
import Derived.Test.YtbpphaeianpdpaaPqTlPwT
import Derived.Test.YtbpphaeianpdpaaPqTlPwL
import Derived.Test.YtbpphaeianpdpaaPqTlPwR
import Derived.Test.YtbpphaeianpdpaaProg
import Derived.Test.YtbpphaeianpdpaaPqTlAli
set_option linter.all false
set_option maxRecDepth 20000
namespace TL
open Go Go.Proofs
theorem kP:Try.prog.follows .mixedOrders=true:=by kernel_rfl
theorem gK:Try.f12.body.isNone=false:=rfl
theorem gP:(Try.f12.name== "runtime.NumGoroutine")=false:=by decide+kernel
theorem mu:Try.f14.body.isNone=false:=rfl
theorem nr:(Try.f14.name== "runtime.NumGoroutine")=false:=by decide+kernel
theorem ng:Try.f20.body.isNone=false:=rfl
theorem my:(Try.f20.name== "runtime.NumGoroutine")=false:=by decide+kernel
theorem hP:Try.f36.body.isNone=false:=rfl
theorem gC:(Try.f36.name== "runtime.NumGoroutine")=false:=by decide+kernel
set_option maxHeartbeats 4000000 in
theorem jY(w0:World):
    Calls Try.prog 9 #[] w0 (λee w=>ee= .returned (vb true)/\bZ w0.heap.size w0 w):=by
 refine am Try.func9 rfl nq ?_
 have bH:=aX.start w0
 refine a8 (a7 rfl (ma (vb false) (ab (a8 (a7 rfl (dW rfl (bg (aF (vals:=[]) Try.func36 hP gC rfl) (iQ w0) ?_)))))))
 rintro⟨d2,v4⟩ w1 ⟨fr3,o5⟩
 obtain⟨g6,ch7,G6⟩:=mF c0 fr3 (λn=>if n=1 then 1 else 0)
 replace o5:=o5.gl G6 1
 refine lo (bc (α:=Nat) g6 (is 2) (is 2) (2,0) rfl ([4607182418800017408,4607182418800017408,4613937818241073152]:List Nat) dJ aI (by decide) (by decide) (vs:=[(0,Value.float .f64 4607182418800017408),(1,Value.float .f64 4607182418800017408),(2,Value.float .f64 4613937818241073152)]) rfl rfl (.cons rfl (.cons rfl (.cons rfl .nil))) ?_)
 intro g8 w9 v10 ch11 o12
 replace o5:=o5.cn ch11
 refine lo (bg (aF (vals:=[vg [vi (((3,[(0,1),(1,2),(0,2)]):aE).1),v4],v10,vi 0]) Try.func12 gK gP rfl) (fE w9 ((3,[(0,1),(1,2),(0,2)]):aE) v4 (o5.flat).ro ([4607182418800017408,4607182418800017408,4613937818241073152]:List Nat) v10 (o12.flat).ro 0) ?_)
 rintro⟨d14,v16,v18⟩ w13 ⟨fr15,o17,o19⟩
 obtain⟨g20,ch21,G20⟩:=mF g8 fr15 (λn=>if n=1 then 3 else if n=2 then 4 else 0)
 replace o17:=o17.gl G20 3
 replace o19:=o19.gl G20 4
 refine mv (vt [vg [v16,v18],vi ((au ((3,[(0,1),(1,2),(0,2)]):aE) ([4607182418800017408,4607182418800017408,4613937818241073152]:List Nat) 0).2)]) (lx (bz rfl rfl) (lx (bz rfl rfl) (lo (bI g20 (is 5) (5,0) rfl aR ?_))))
 intro g25 w22 b24 ch23 bx26
 replace bx26:Bx g25 (is 5) w22 b24 [vn,vn]:=bx26
 refine lo ?_
 replace o19:=o19.cn ch23
 replace o17:=o17.cn ch23
 refine aK (cs':=[v16,v18]) aR rfl rfl bx26 rfl nq (AllOne.all (.cons (bl o17.flat) (.cons (bl o19.flat) .nil))) rfl ?_
 intro w27 ch28 bx29
 clear bx26
 refine ai ((au ((3,[(0,1),(1,2),(0,2)]):aE) ([4607182418800017408,4607182418800017408,4613937818241073152]:List Nat) 0).2) (ab (a8 ?_))
 clear o5 o12
 refine cv g25 (inl []) kP ?_
 intro w31 ch30
 replace bx29:=bx29.cn ch30
 refine ht 0 rfl (aQ.refl _ _ _) (λw' hw'=>ba (ds:=[v16,v18]) aR rfl (bx29.chg hw' (bQ rfl)) rfl rfl) (cl 1 rfl (by kernel_rfl) rfl (bg (aF (vals:=[]) Try.func36 hP gC rfl) (iQ w31) ?_))
 rintro⟨d33,v35⟩ w32 ⟨fr34,o36⟩
 obtain⟨g37,ch38,G37⟩:=mF g25 fr34 (λn=>if n=1 then 6 else 0)
 replace o36:=o36.gl G37 6
 have hs39:aQ (inl []) _ _ _ _:=ch38.n
 refine⟨hs39.same,?_⟩
 refine cl 2 rfl (by kernel_rfl) rfl ?_
 replace o17:=(o17.ce ch28).cn ch30
 replace o19:=(o19.ce ch28).cn ch30
 refine bg (aF (vals:=[vg [v16,v18],vg [vi (((3,[(0,1),(1,2),(0,2)]):aE).1),v35],vi 2]) Try.func20 ng my rfl) (o6 w32 ((au ((3,[(0,1),(1,2),(0,2)]):aE) ([4607182418800017408,4607182418800017408,4613937818241073152]:List Nat) 0).1) v16 v18 ((o17.ca hs39).flat).ro ((o19.ca hs39).flat).ro ((3,[(0,1),(1,2),(0,2)]):aE) v35 (o36.flat).ro 2 (by decide+kernel)) ?_
 rintro⟨d41,v43⟩ w40 ⟨fr42,o44⟩
 obtain⟨g45,ch46,G45⟩:=mF g37 fr42 (λn=>if n=1 then 7 else 0)
 replace o44:=o44.gl G45 7
 have hs47:=hs39.seq (ch46.n)
 refine⟨hs47.same,?_⟩
 refine ht (v:=vt [v43,vi ((cG ((au ((3,[(0,1),(1,2),(0,2)]):aE) ([4607182418800017408,4607182418800017408,4613937818241073152]:List Nat) 0).1) ((3,[(0,1),(1,2),(0,2)]):aE) 2).2)]) 3 rfl hs47.same (λw' hw'=>al rfl) (ht 4 rfl hs47.same (λw' hw'=>bz rfl rfl) (ht 5 rfl hs47.same (λw' hw'=>bz rfl rfl) (ht (v:=v43) 6 rfl hs47.same (λw' hw'=>bf rfl) (ht (v:=vi ((cG ((au ((3,[(0,1),(1,2),(0,2)]):aE) ([4607182418800017408,4607182418800017408,4613937818241073152]:List Nat) 0).1) ((3,[(0,1),(1,2),(0,2)]):aE) 2).2)) 7 rfl hs47.same (λw' hw'=>bf rfl) (gc (by kernel_rfl) (a8 ?_))))))
 clear o36
 refine a7 rfl (dW rfl (bg (aF (vals:=[]) Try.func36 hP gC rfl) (iQ w40) ?_))
 rintro⟨d49,v51⟩ w48 ⟨fr50,o52⟩
 obtain⟨g53,ch54,G53⟩:=mF g45 fr50 (λn=>if n=1 then 8 else 0)
 replace o52:=o52.gl G53 8
 refine lo (bc (α:=Nat) g53 (is 9) (is 9) (9,0) rfl ([4611686018427387904,4607182418800017408,4611686018427387904]:List Nat) dJ aI (by decide) (by decide) (vs:=[(0,Value.float .f64 4611686018427387904),(1,Value.float .f64 4607182418800017408),(2,Value.float .f64 4611686018427387904)]) rfl rfl (.cons rfl (.cons rfl (.cons rfl .nil))) ?_)
 intro g55 w56 v57 ch58 o59
 replace o52:=o52.cn ch58
 refine lo (bg (aF (vals:=[vg [vi (((3,[(0,1),(1,2),(0,2)]):aE).1),v51],v57]) Try.func14 mu nr rfl) (ki w56 ((3,[(0,1),(1,2),(0,2)]):aE) v51 (o52.flat).ro ([4611686018427387904,4607182418800017408,4611686018427387904]:List Nat) v57 (o59.flat).ro) ?_)
 rintro⟨d61,v63⟩ w60 ⟨fr62,o64⟩
 obtain⟨g65,ch66,G65⟩:=mF g55 fr62 (λn=>if n=1 then 10 else 0)
 replace o64:=o64.gl G65 10
 refine mv (vt [v63,Value.float .f64 ((aO ((3,[(0,1),(1,2),(0,2)]):aE) ([4611686018427387904,4607182418800017408,4611686018427387904]:List Nat)).2.1),vi ((aO ((3,[(0,1),(1,2),(0,2)]):aE) ([4611686018427387904,4607182418800017408,4611686018427387904]:List Nat)).2.2)]) (lx (bz rfl rfl) (lx (bz rfl rfl) (lx (bz rfl rfl) (ma v63 (ma (Value.float .f64 ((aO ((3,[(0,1),(1,2),(0,2)]):aE) ([4611686018427387904,4607182418800017408,4611686018427387904]:List Nat)).2.1)) (ai ((aO ((3,[(0,1),(1,2),(0,2)]):aE) ([4611686018427387904,4607182418800017408,4611686018427387904]:List Nat)).2.2) (ab (a8 ?_))))))))
 clear o52 o59
 refine a7 rfl (lx (ah i4 rfl rfl rfl rfl) ?_)
 have C67:=cg [] (ch38.n.seq (ch46.n.seq (ch54.n.seq (ch58.n.seq ch66.n))))
 replace bx29:=bx29.ca C67
 refine lx (ag c6 rfl bx29 rfl) ?_
 replace o17:=o17.ca C67
 have len68:=(o17.flat).small
 refine lx (bn dJ rfl o17.flat) (lx (eB (m:=(List.length (((au ((3,[(0,1),(1,2),(0,2)]):aE) ([4607182418800017408,4607182418800017408,4613937818241073152]:List Nat) 0).1).1):Int)) (n:=3) rfl rfl) (mv (vb (decide ((List.length (((au ((3,[(0,1),(1,2),(0,2)]):aE) ([4607182418800017408,4607182418800017408,4613937818241073152]:List Nat) 0).1).1):Int)=3))) ?_))
 have q31:(List.length (((au ((3,[(0,1),(1,2),(0,2)]):aE) ([4607182418800017408,4607182418800017408,4613937818241073152]:List Nat) 0).1).1):Int)=3:=by rfl
 refine lv (vp b24 0) (wy (dt q31)) (ah i4 rfl rfl rfl rfl) (lv (v16) (wy (dt q31)) (ag c6 rfl bx29 rfl) (lv (Value.pointer (some (aC v16 1 (Int.toNat 2)))) (wy (dt q31)) (ad (α:=Nat) (xs:=((au ((3,[(0,1),(1,2),(0,2)]):aE) ([4607182418800017408,4607182418800017408,4613937818241073152]:List Nat) 0).1).1) (v:=v16) (i:=2) dJ rfl rfl o17.flat rfl (by omega) (by omega)) ?_))
 refine lv (Value.float .f64 (gI (((au ((3,[(0,1),(1,2),(0,2)]):aE) ([4607182418800017408,4607182418800017408,4613937818241073152]:List Nat) 0).1).1) 2)) (wy (dt q31)) (aA (α:=Nat) (xs:=((au ((3,[(0,1),(1,2),(0,2)]):aE) ([4607182418800017408,4607182418800017408,4613937818241073152]:List Nat) 0).1).1) (v:=v16) (i:=2) aI rfl o17.flat (by omega) (by omega) (by decide) rfl) (lv (vb (decide ((gI (((au ((3,[(0,1),(1,2),(0,2)]):aE) ([4607182418800017408,4607182418800017408,4613937818241073152]:List Nat) 0).1).1) 2)=4611686018427387904))) (wy (dt q31)) (gA (a:=(gI (((au ((3,[(0,1),(1,2),(0,2)]):aE) ([4607182418800017408,4607182418800017408,4613937818241073152]:List Nat) 0).1).1) 2)) (b:=4611686018427387904) rfl rfl (by decide) (by decide)) ?_)
 refine lw (vb (decide ((gI (((au ((3,[(0,1),(1,2),(0,2)]):aE) ([4607182418800017408,4607182418800017408,4613937818241073152]:List Nat) 0).1).1) 2)=4611686018427387904))) (az rfl (dt q31) rfl) (mv (vb (decide ((gI (((au ((3,[(0,1),(1,2),(0,2)]):aE) ([4607182418800017408,4607182418800017408,4613937818241073152]:List Nat) 0).1).1) 2)=4611686018427387904))) ?_)
 have q38:(gI (((au ((3,[(0,1),(1,2),(0,2)]):aE) ([4607182418800017408,4607182418800017408,4613937818241073152]:List Nat) 0).1).1) 2)=4611686018427387904:=by rfl
 refine lv (vi ((au ((3,[(0,1),(1,2),(0,2)]):aE) ([4607182418800017408,4607182418800017408,4613937818241073152]:List Nat) 0).2)) (wy (dt q38)) (al rfl) (lv (vb (decide (((au ((3,[(0,1),(1,2),(0,2)]):aE) ([4607182418800017408,4607182418800017408,4613937818241073152]:List Nat) 0).2)=0))) (wy (dt q38)) (eB (m:=(au ((3,[(0,1),(1,2),(0,2)]):aE) ([4607182418800017408,4607182418800017408,4613937818241073152]:List Nat) 0).2) (n:=0) rfl rfl) (lw (vb (decide (((au ((3,[(0,1),(1,2),(0,2)]):aE) ([4607182418800017408,4607182418800017408,4613937818241073152]:List Nat) 0).2)=0))) (az rfl (dt q38) rfl) ?_))
 refine mv (vb (decide (((au ((3,[(0,1),(1,2),(0,2)]):aE) ([4607182418800017408,4607182418800017408,4613937818241073152]:List Nat) 0).2)=0))) ?_
 have q42:((au ((3,[(0,1),(1,2),(0,2)]):aE) ([4607182418800017408,4607182418800017408,4613937818241073152]:List Nat) 0).2)=0:=by rfl
 refine lv (v43) (wy (dt q42)) (al rfl) ?_
 have C69:=cg [] (ch54.n.seq (ch58.n.seq ch66.n))
 replace o44:=o44.ca C69
 have len70:=(o44.flat).small
 refine lv (vi (List.length ((cG ((au ((3,[(0,1),(1,2),(0,2)]):aE) ([4607182418800017408,4607182418800017408,4613937818241073152]:List Nat) 0).1) ((3,[(0,1),(1,2),(0,2)]):aE) 2).1):Int)) (wy (dt q42)) (bn cI rfl o44.flat) (lv (vb (decide ((List.length ((cG ((au ((3,[(0,1),(1,2),(0,2)]):aE) ([4607182418800017408,4607182418800017408,4613937818241073152]:List Nat) 0).1) ((3,[(0,1),(1,2),(0,2)]):aE) 2).1):Int)=2))) (wy (dt q42)) (eB (m:=(List.length ((cG ((au ((3,[(0,1),(1,2),(0,2)]):aE) ([4607182418800017408,4607182418800017408,4613937818241073152]:List Nat) 0).1) ((3,[(0,1),(1,2),(0,2)]):aE) 2).1):Int)) (n:=2) rfl rfl) ?_)
 refine lw (vb (decide ((List.length ((cG ((au ((3,[(0,1),(1,2),(0,2)]):aE) ([4607182418800017408,4607182418800017408,4613937818241073152]:List Nat) 0).1) ((3,[(0,1),(1,2),(0,2)]):aE) 2).1):Int)=2))) (az rfl (dt q42) rfl) (mv (vb (decide ((List.length ((cG ((au ((3,[(0,1),(1,2),(0,2)]):aE) ([4607182418800017408,4607182418800017408,4613937818241073152]:List Nat) 0).1) ((3,[(0,1),(1,2),(0,2)]):aE) 2).1):Int)=2))) ?_)
 have q47:(List.length ((cG ((au ((3,[(0,1),(1,2),(0,2)]):aE) ([4607182418800017408,4607182418800017408,4613937818241073152]:List Nat) 0).1) ((3,[(0,1),(1,2),(0,2)]):aE) 2).1):Int)=2:=by rfl
 refine lv (vi ((cG ((au ((3,[(0,1),(1,2),(0,2)]):aE) ([4607182418800017408,4607182418800017408,4613937818241073152]:List Nat) 0).1) ((3,[(0,1),(1,2),(0,2)]):aE) 2).2)) (wy (dt q47)) (al rfl) (lv (vb (decide (((cG ((au ((3,[(0,1),(1,2),(0,2)]):aE) ([4607182418800017408,4607182418800017408,4613937818241073152]:List Nat) 0).1) ((3,[(0,1),(1,2),(0,2)]):aE) 2).2)=0))) (wy (dt q47)) (eB (m:=(cG ((au ((3,[(0,1),(1,2),(0,2)]):aE) ([4607182418800017408,4607182418800017408,4613937818241073152]:List Nat) 0).1) ((3,[(0,1),(1,2),(0,2)]):aE) 2).2) (n:=0) rfl rfl) ?_)
 refine lw (vb (decide (((cG ((au ((3,[(0,1),(1,2),(0,2)]):aE) ([4607182418800017408,4607182418800017408,4613937818241073152]:List Nat) 0).1) ((3,[(0,1),(1,2),(0,2)]):aE) 2).2)=0))) (az rfl (dt q47) rfl) (mv (vb (decide (((cG ((au ((3,[(0,1),(1,2),(0,2)]):aE) ([4607182418800017408,4607182418800017408,4613937818241073152]:List Nat) 0).1) ((3,[(0,1),(1,2),(0,2)]):aE) 2).2)=0))) ?_)
 have q51:((cG ((au ((3,[(0,1),(1,2),(0,2)]):aE) ([4607182418800017408,4607182418800017408,4613937818241073152]:List Nat) 0).1) ((3,[(0,1),(1,2),(0,2)]):aE) 2).2)=0:=by rfl
 refine lv (v63) (wy (dt q51)) (al rfl) ?_
 have len71:=(o64.flat).small
 refine lv (vi (List.length ((aO ((3,[(0,1),(1,2),(0,2)]):aE) ([4611686018427387904,4607182418800017408,4611686018427387904]:List Nat)).1):Int)) (wy (dt q51)) (bn cI rfl o64.flat) (lv (vb (decide ((List.length ((aO ((3,[(0,1),(1,2),(0,2)]):aE) ([4611686018427387904,4607182418800017408,4611686018427387904]:List Nat)).1):Int)=2))) (wy (dt q51)) (eB (m:=(List.length ((aO ((3,[(0,1),(1,2),(0,2)]):aE) ([4611686018427387904,4607182418800017408,4611686018427387904]:List Nat)).1):Int)) (n:=2) rfl rfl) (lw (vb (decide ((List.length ((aO ((3,[(0,1),(1,2),(0,2)]):aE) ([4611686018427387904,4607182418800017408,4611686018427387904]:List Nat)).1):Int)=2))) (az rfl (dt q51) rfl) ?_))
 refine mv (vb (decide ((List.length ((aO ((3,[(0,1),(1,2),(0,2)]):aE) ([4611686018427387904,4607182418800017408,4611686018427387904]:List Nat)).1):Int)=2))) ?_
 have q56:(List.length ((aO ((3,[(0,1),(1,2),(0,2)]):aE) ([4611686018427387904,4607182418800017408,4611686018427387904]:List Nat)).1):Int)=2:=by rfl
 refine lv (Value.float .f64 ((aO ((3,[(0,1),(1,2),(0,2)]):aE) ([4611686018427387904,4607182418800017408,4611686018427387904]:List Nat)).2.1)) (wy (dt q56)) (al rfl) (lv (vb (decide (((aO ((3,[(0,1),(1,2),(0,2)]):aE) ([4611686018427387904,4607182418800017408,4611686018427387904]:List Nat)).2.1)=4613937818241073152))) (wy (dt q56)) (gA (a:=((aO ((3,[(0,1),(1,2),(0,2)]):aE) ([4611686018427387904,4607182418800017408,4611686018427387904]:List Nat)).2.1)) (b:=4613937818241073152) rfl rfl (by decide) (by decide)) (lw (vb (decide (((aO ((3,[(0,1),(1,2),(0,2)]):aE) ([4611686018427387904,4607182418800017408,4611686018427387904]:List Nat)).2.1)=4613937818241073152))) (az rfl (dt q56) rfl) ?_))
 refine mv (vb (decide (((aO ((3,[(0,1),(1,2),(0,2)]):aE) ([4611686018427387904,4607182418800017408,4611686018427387904]:List Nat)).2.1)=4613937818241073152))) ?_
 have q60:((aO ((3,[(0,1),(1,2),(0,2)]):aE) ([4611686018427387904,4607182418800017408,4611686018427387904]:List Nat)).2.1)=4613937818241073152:=by rfl
 refine lv (vi ((aO ((3,[(0,1),(1,2),(0,2)]):aE) ([4611686018427387904,4607182418800017408,4611686018427387904]:List Nat)).2.2)) (wy (dt q60)) (al rfl) (lv (vb (decide (((aO ((3,[(0,1),(1,2),(0,2)]):aE) ([4611686018427387904,4607182418800017408,4611686018427387904]:List Nat)).2.2)=0))) (wy (dt q60)) (eB (m:=(aO ((3,[(0,1),(1,2),(0,2)]):aE) ([4611686018427387904,4607182418800017408,4611686018427387904]:List Nat)).2.2) (n:=0) rfl rfl) (lw (vb (decide (((aO ((3,[(0,1),(1,2),(0,2)]):aE) ([4611686018427387904,4607182418800017408,4611686018427387904]:List Nat)).2.2)=0))) (az rfl (dt q60) rfl) ?_))
 refine ma (vb (decide (((aO ((3,[(0,1),(1,2),(0,2)]):aE) ([4611686018427387904,4607182418800017408,4611686018427387904]:List Nat)).2.2)=0))) (ab (ap (vs:=[vb (decide (((aO ((3,[(0,1),(1,2),(0,2)]):aE) ([4611686018427387904,4607182418800017408,4611686018427387904]:List Nat)).2.2)=0))]) Try.func9 (.tmp rfl .nil) ?_))
 have e0:(decide (((aO ((3,[(0,1),(1,2),(0,2)]):aE) ([4611686018427387904,4607182418800017408,4611686018427387904]:List Nat)).2.2)=0):Bool)=(true):=by
   rfl
 have C72:=cg [5] (ch7.n.seq (ch11.n.seq (ch21.n.seq (ch23.n.seq ((ch28.l rfl).seq (ch30.n.seq (ch38.n.seq (ch46.n.seq (ch54.n.seq (ch58.n.seq ch66.n))))))))))
 replace bH:=bH.ca C72
 exact⟨(congrArg (a₁:=decide (((aO ((3,[(0,1),(1,2),(0,2)]):aE) ([4611686018427387904,4607182418800017408,4611686018427387904]:List Nat)).2.2)=0)) (λ(z0:Bool)=>Ending.returned (vb z0)) e0),bH.below⟩
end TL
