import Derived.Test.YtbpphaeianpdpaaPmTlP2
import Derived.Test.YtbpphaeianpdpaaPmTlGmA
import Derived.Test.YtbpphaeianpdpaaPmTlGenA
import Derived.Test.YtbpphaeianpdpaaPmTlPwA
import Derived.Test.YtbpphaeianpdpaaPmTlPwF
import Derived.Test.YtbpphaeianpdpaaPmTlPwT
import Derived.Test.YtbpphaeianpdpaaPmTlPwL
import Derived.Test.YtbpphaeianpdpaaPmTlPwR
import Derived.Test.YtbpphaeianpdpaaProg
import Derived.Test.YtbpphaeianpdpaaPmTlAli
set_option linter.all false
set_option maxRecDepth 20000
namespace TL
open Go Go.Proofs
theorem nt:Try.prog.follows .mixedOrders=true:=by kernel_rfl
theorem gw:Try.f12.body.isNone=false:=rfl
theorem go:(Try.f12.name== "runtime.NumGoroutine")=false:=by decide+kernel
theorem nZ:Try.f14.body.isNone=false:=rfl
theorem oD:(Try.f14.name== "runtime.NumGoroutine")=false:=by decide+kernel
theorem oT:Try.f20.body.isNone=false:=rfl
theorem ow:(Try.f20.name== "runtime.NumGoroutine")=false:=by decide+kernel
theorem iK:Try.f36.body.isNone=false:=rfl
theorem iN:(Try.f36.name== "runtime.NumGoroutine")=false:=by decide+kernel
set_option maxHeartbeats 4000000 in
theorem lV(w0:World):
    Calls Try.prog 9 #[] w0 (λee w=>ee= .returned (vb true)/\cr w0.heap.size w0 w):=by
 refine am Try.func9 rfl nq ?_
 have bH:=b7.start w0
 refine a8 (a7 rfl (ma (vb false) (aa (a8 (a7 rfl (d8 rfl (bo (aE (vals:=[]) Try.func36 iK iN rfl) (kk w0) ?_)))))))
 rintro⟨d2,v4⟩ w1 ⟨fr3,o5⟩
 obtain⟨g6,ch7,G6⟩:=ky c0 fr3 (λn=>if n=1 then 1 else 0)
 replace o5:=o5.gl G6 1
 refine lo (aQ (α:=Nat) g6 (is 2) (is 2) (2,0) rfl ([4607182418800017408,4607182418800017408,4613937818241073152]:List Nat) cR aF (by decide) (by decide) (vs:=[(0,Value.float .f64 4607182418800017408),(1,Value.float .f64 4607182418800017408),(2,Value.float .f64 4613937818241073152)]) rfl rfl (.cons rfl (.cons rfl (.cons rfl .nil))) ?_)
 intro g8 w9 v10 ch11 o12
 replace o5:=o5.cn ch11
 refine lo (bo (aE (vals:=[vg [vi (((3,[(0,1),(1,2),(0,2)]):aM).1),v4],v10,vi 0]) Try.func12 gw go rfl) (fB w9 ((3,[(0,1),(1,2),(0,2)]):aM) v4 (o5.flat).ro ([4607182418800017408,4607182418800017408,4613937818241073152]:List Nat) v10 (o12.flat).ro 0) ?_)
 rintro⟨d14,v16,v18⟩ w13 ⟨fr15,o17,o19⟩
 obtain⟨g20,ch21,G20⟩:=ky g8 fr15 (λn=>if n=1 then 3 else if n=2 then 4 else 0)
 replace o17:=o17.gl G20 3
 replace o19:=o19.gl G20 4
 refine mv (vt [vg [v16,v18],vi ((av ((3,[(0,1),(1,2),(0,2)]):aM) ([4607182418800017408,4607182418800017408,4613937818241073152]:List Nat) 0).2)]) (lx (bj rfl rfl) (lx (bj rfl rfl) (lo (bn g20 (is 5) (5,0) rfl bb ?_))))
 intro g25 w22 b24 ch23 bx26
 replace bx26:Bx g25 (is 5) w22 b24 [vn,vn]:=bx26
 refine lo ?_
 replace o19:=o19.cn ch23
 replace o17:=o17.cn ch23
 refine aG (cs':=[v16,v18]) bb rfl rfl bx26 rfl nq (AllOne.all (.cons (aP o17.flat) (.cons (aP o19.flat) .nil))) rfl ?_
 intro w27 ch28 bx29
 clear bx26
 refine ai ((av ((3,[(0,1),(1,2),(0,2)]):aM) ([4607182418800017408,4607182418800017408,4613937818241073152]:List Nat) 0).2) (aa (a8 ?_))
 clear o5 o12
 refine di g25 (inl []) nt ?_
 intro w31 ch30
 replace bx29:=bx29.cn ch30
 refine ht 0 rfl (bc.refl _ _ _) (λw' hw'=>aN (ds:=[v16,v18]) bb rfl (bx29.chg hw' (cw rfl)) rfl rfl) (cP 1 rfl (by kernel_rfl) rfl (bo (aE (vals:=[]) Try.func36 iK iN rfl) (kk w31) ?_))
 rintro⟨d33,v35⟩ w32 ⟨fr34,o36⟩
 obtain⟨g37,ch38,G37⟩:=ky g25 fr34 (λn=>if n=1 then 6 else 0)
 replace o36:=o36.gl G37 6
 have hs39:bc (inl []) _ _ _ _:=ch38.n
 refine⟨hs39.same,?_⟩
 refine cP 2 rfl (by kernel_rfl) rfl ?_
 replace o17:=(o17.ce ch28).cn ch30
 replace o19:=(o19.ce ch28).cn ch30
 refine bo (aE (vals:=[vg [v16,v18],vg [vi (((3,[(0,1),(1,2),(0,2)]):aM).1),v35],vi 2]) Try.func20 oT ow rfl) (qA w32 ((av ((3,[(0,1),(1,2),(0,2)]):aM) ([4607182418800017408,4607182418800017408,4613937818241073152]:List Nat) 0).1) v16 v18 ((o17.ca hs39).flat).ro ((o19.ca hs39).flat).ro ((3,[(0,1),(1,2),(0,2)]):aM) v35 (o36.flat).ro 2 (by decide+kernel)) ?_
 rintro⟨d41,v43⟩ w40 ⟨fr42,o44⟩
 obtain⟨g45,ch46,G45⟩:=ky g37 fr42 (λn=>if n=1 then 7 else 0)
 replace o44:=o44.gl G45 7
 have hs47:=hs39.seq (ch46.n)
 refine⟨hs47.same,?_⟩
 refine ht (v:=vt [v43,vi ((dw ((av ((3,[(0,1),(1,2),(0,2)]):aM) ([4607182418800017408,4607182418800017408,4613937818241073152]:List Nat) 0).1) ((3,[(0,1),(1,2),(0,2)]):aM) 2).2)]) 3 rfl hs47.same (λw' hw'=>al rfl) (ht 4 rfl hs47.same (λw' hw'=>bj rfl rfl) (ht 5 rfl hs47.same (λw' hw'=>bj rfl rfl) (ht (v:=v43) 6 rfl hs47.same (λw' hw'=>aR rfl) (ht (v:=vi ((dw ((av ((3,[(0,1),(1,2),(0,2)]):aM) ([4607182418800017408,4607182418800017408,4613937818241073152]:List Nat) 0).1) ((3,[(0,1),(1,2),(0,2)]):aM) 2).2)) 7 rfl hs47.same (λw' hw'=>aR rfl) (i5 (by kernel_rfl) (a8 ?_))))))
 clear o36
 refine a7 rfl (d8 rfl (bo (aE (vals:=[]) Try.func36 iK iN rfl) (kk w40) ?_))
 rintro⟨d49,v51⟩ w48 ⟨fr50,o52⟩
 obtain⟨g53,ch54,G53⟩:=ky g45 fr50 (λn=>if n=1 then 8 else 0)
 replace o52:=o52.gl G53 8
 refine lo (aQ (α:=Nat) g53 (is 9) (is 9) (9,0) rfl ([4611686018427387904,4607182418800017408,4611686018427387904]:List Nat) cR aF (by decide) (by decide) (vs:=[(0,Value.float .f64 4611686018427387904),(1,Value.float .f64 4607182418800017408),(2,Value.float .f64 4611686018427387904)]) rfl rfl (.cons rfl (.cons rfl (.cons rfl .nil))) ?_)
 intro g55 w56 v57 ch58 o59
 replace o52:=o52.cn ch58
 refine lo (bo (aE (vals:=[vg [vi (((3,[(0,1),(1,2),(0,2)]):aM).1),v51],v57]) Try.func14 nZ oD rfl) (lA w56 ((3,[(0,1),(1,2),(0,2)]):aM) v51 (o52.flat).ro ([4611686018427387904,4607182418800017408,4611686018427387904]:List Nat) v57 (o59.flat).ro) ?_)
 rintro⟨d61,v63⟩ w60 ⟨fr62,o64⟩
 obtain⟨g65,ch66,G65⟩:=ky g55 fr62 (λn=>if n=1 then 10 else 0)
 replace o64:=o64.gl G65 10
 refine mv (vt [v63,Value.float .f64 ((bd ((3,[(0,1),(1,2),(0,2)]):aM) ([4611686018427387904,4607182418800017408,4611686018427387904]:List Nat)).2.1),vi ((bd ((3,[(0,1),(1,2),(0,2)]):aM) ([4611686018427387904,4607182418800017408,4611686018427387904]:List Nat)).2.2)]) (lx (bj rfl rfl) (lx (bj rfl rfl) (lx (bj rfl rfl) (ma v63 (ma (Value.float .f64 ((bd ((3,[(0,1),(1,2),(0,2)]):aM) ([4611686018427387904,4607182418800017408,4611686018427387904]:List Nat)).2.1)) (ai ((bd ((3,[(0,1),(1,2),(0,2)]):aM) ([4611686018427387904,4607182418800017408,4611686018427387904]:List Nat)).2.2) (aa (a8 ?_))))))))
 clear o52 o59
 refine a7 rfl (lx (ad h8 rfl rfl rfl rfl) ?_)
 have C67:=cg [] (ch38.n.seq (ch46.n.seq (ch54.n.seq (ch58.n.seq ch66.n))))
 replace bx29:=bx29.ca C67
 refine lx (ae c9 rfl bx29 rfl) ?_
 replace o17:=o17.ca C67
 have len68:=(o17.flat).small
 refine lx (bA cR rfl o17.flat) (lx (en (m:=(List.length (((av ((3,[(0,1),(1,2),(0,2)]):aM) ([4607182418800017408,4607182418800017408,4613937818241073152]:List Nat) 0).1).1):Int)) (n:=3) rfl rfl) (mv (vb (decide ((List.length (((av ((3,[(0,1),(1,2),(0,2)]):aM) ([4607182418800017408,4607182418800017408,4613937818241073152]:List Nat) 0).1).1):Int)=3))) ?_))
 have q31:(List.length (((av ((3,[(0,1),(1,2),(0,2)]):aM) ([4607182418800017408,4607182418800017408,4613937818241073152]:List Nat) 0).1).1):Int)=3:=by rfl
 refine lv (vp b24 0) (wy (dt q31)) (ad h8 rfl rfl rfl rfl) (lv (v16) (wy (dt q31)) (ae c9 rfl bx29 rfl) (lv (Value.pointer (some (aL v16 1 (Int.toNat 2)))) (wy (dt q31)) (ab (α:=Nat) (xs:=((av ((3,[(0,1),(1,2),(0,2)]):aM) ([4607182418800017408,4607182418800017408,4613937818241073152]:List Nat) 0).1).1) (v:=v16) (i:=2) cR rfl rfl o17.flat rfl (by omega) (by omega)) ?_))
 refine lv (Value.float .f64 (gI (((av ((3,[(0,1),(1,2),(0,2)]):aM) ([4607182418800017408,4607182418800017408,4613937818241073152]:List Nat) 0).1).1) 2)) (wy (dt q31)) (aw (α:=Nat) (xs:=((av ((3,[(0,1),(1,2),(0,2)]):aM) ([4607182418800017408,4607182418800017408,4613937818241073152]:List Nat) 0).1).1) (v:=v16) (i:=2) aF rfl o17.flat (by omega) (by omega) (by decide) rfl) (lv (vb (decide ((gI (((av ((3,[(0,1),(1,2),(0,2)]):aM) ([4607182418800017408,4607182418800017408,4613937818241073152]:List Nat) 0).1).1) 2)=4611686018427387904))) (wy (dt q31)) (kf (a:=(gI (((av ((3,[(0,1),(1,2),(0,2)]):aM) ([4607182418800017408,4607182418800017408,4613937818241073152]:List Nat) 0).1).1) 2)) (b:=4611686018427387904) rfl rfl (by decide) (by decide)) ?_)
 refine lw (vb (decide ((gI (((av ((3,[(0,1),(1,2),(0,2)]):aM) ([4607182418800017408,4607182418800017408,4613937818241073152]:List Nat) 0).1).1) 2)=4611686018427387904))) (aH rfl (dt q31) rfl) (mv (vb (decide ((gI (((av ((3,[(0,1),(1,2),(0,2)]):aM) ([4607182418800017408,4607182418800017408,4613937818241073152]:List Nat) 0).1).1) 2)=4611686018427387904))) ?_)
 have q38:(gI (((av ((3,[(0,1),(1,2),(0,2)]):aM) ([4607182418800017408,4607182418800017408,4613937818241073152]:List Nat) 0).1).1) 2)=4611686018427387904:=by rfl
 refine lv (vi ((av ((3,[(0,1),(1,2),(0,2)]):aM) ([4607182418800017408,4607182418800017408,4613937818241073152]:List Nat) 0).2)) (wy (dt q38)) (al rfl) (lv (vb (decide (((av ((3,[(0,1),(1,2),(0,2)]):aM) ([4607182418800017408,4607182418800017408,4613937818241073152]:List Nat) 0).2)=0))) (wy (dt q38)) (en (m:=(av ((3,[(0,1),(1,2),(0,2)]):aM) ([4607182418800017408,4607182418800017408,4613937818241073152]:List Nat) 0).2) (n:=0) rfl rfl) (lw (vb (decide (((av ((3,[(0,1),(1,2),(0,2)]):aM) ([4607182418800017408,4607182418800017408,4613937818241073152]:List Nat) 0).2)=0))) (aH rfl (dt q38) rfl) ?_))
 refine mv (vb (decide (((av ((3,[(0,1),(1,2),(0,2)]):aM) ([4607182418800017408,4607182418800017408,4613937818241073152]:List Nat) 0).2)=0))) ?_
 have q42:((av ((3,[(0,1),(1,2),(0,2)]):aM) ([4607182418800017408,4607182418800017408,4613937818241073152]:List Nat) 0).2)=0:=by rfl
 refine lv (v43) (wy (dt q42)) (al rfl) ?_
 have C69:=cg [] (ch54.n.seq (ch58.n.seq ch66.n))
 replace o44:=o44.ca C69
 have len70:=(o44.flat).small
 refine lv (vi (List.length ((dw ((av ((3,[(0,1),(1,2),(0,2)]):aM) ([4607182418800017408,4607182418800017408,4613937818241073152]:List Nat) 0).1) ((3,[(0,1),(1,2),(0,2)]):aM) 2).1):Int)) (wy (dt q42)) (bA bQ rfl o44.flat) (lv (vb (decide ((List.length ((dw ((av ((3,[(0,1),(1,2),(0,2)]):aM) ([4607182418800017408,4607182418800017408,4613937818241073152]:List Nat) 0).1) ((3,[(0,1),(1,2),(0,2)]):aM) 2).1):Int)=2))) (wy (dt q42)) (en (m:=(List.length ((dw ((av ((3,[(0,1),(1,2),(0,2)]):aM) ([4607182418800017408,4607182418800017408,4613937818241073152]:List Nat) 0).1) ((3,[(0,1),(1,2),(0,2)]):aM) 2).1):Int)) (n:=2) rfl rfl) ?_)
 refine lw (vb (decide ((List.length ((dw ((av ((3,[(0,1),(1,2),(0,2)]):aM) ([4607182418800017408,4607182418800017408,4613937818241073152]:List Nat) 0).1) ((3,[(0,1),(1,2),(0,2)]):aM) 2).1):Int)=2))) (aH rfl (dt q42) rfl) (mv (vb (decide ((List.length ((dw ((av ((3,[(0,1),(1,2),(0,2)]):aM) ([4607182418800017408,4607182418800017408,4613937818241073152]:List Nat) 0).1) ((3,[(0,1),(1,2),(0,2)]):aM) 2).1):Int)=2))) ?_)
 have q47:(List.length ((dw ((av ((3,[(0,1),(1,2),(0,2)]):aM) ([4607182418800017408,4607182418800017408,4613937818241073152]:List Nat) 0).1) ((3,[(0,1),(1,2),(0,2)]):aM) 2).1):Int)=2:=by rfl
 refine lv (vi ((dw ((av ((3,[(0,1),(1,2),(0,2)]):aM) ([4607182418800017408,4607182418800017408,4613937818241073152]:List Nat) 0).1) ((3,[(0,1),(1,2),(0,2)]):aM) 2).2)) (wy (dt q47)) (al rfl) (lv (vb (decide (((dw ((av ((3,[(0,1),(1,2),(0,2)]):aM) ([4607182418800017408,4607182418800017408,4613937818241073152]:List Nat) 0).1) ((3,[(0,1),(1,2),(0,2)]):aM) 2).2)=0))) (wy (dt q47)) (en (m:=(dw ((av ((3,[(0,1),(1,2),(0,2)]):aM) ([4607182418800017408,4607182418800017408,4613937818241073152]:List Nat) 0).1) ((3,[(0,1),(1,2),(0,2)]):aM) 2).2) (n:=0) rfl rfl) ?_)
 refine lw (vb (decide (((dw ((av ((3,[(0,1),(1,2),(0,2)]):aM) ([4607182418800017408,4607182418800017408,4613937818241073152]:List Nat) 0).1) ((3,[(0,1),(1,2),(0,2)]):aM) 2).2)=0))) (aH rfl (dt q47) rfl) (mv (vb (decide (((dw ((av ((3,[(0,1),(1,2),(0,2)]):aM) ([4607182418800017408,4607182418800017408,4613937818241073152]:List Nat) 0).1) ((3,[(0,1),(1,2),(0,2)]):aM) 2).2)=0))) ?_)
 have q51:((dw ((av ((3,[(0,1),(1,2),(0,2)]):aM) ([4607182418800017408,4607182418800017408,4613937818241073152]:List Nat) 0).1) ((3,[(0,1),(1,2),(0,2)]):aM) 2).2)=0:=by rfl
 refine lv (v63) (wy (dt q51)) (al rfl) ?_
 have len71:=(o64.flat).small
 refine lv (vi (List.length ((bd ((3,[(0,1),(1,2),(0,2)]):aM) ([4611686018427387904,4607182418800017408,4611686018427387904]:List Nat)).1):Int)) (wy (dt q51)) (bA bQ rfl o64.flat) (lv (vb (decide ((List.length ((bd ((3,[(0,1),(1,2),(0,2)]):aM) ([4611686018427387904,4607182418800017408,4611686018427387904]:List Nat)).1):Int)=2))) (wy (dt q51)) (en (m:=(List.length ((bd ((3,[(0,1),(1,2),(0,2)]):aM) ([4611686018427387904,4607182418800017408,4611686018427387904]:List Nat)).1):Int)) (n:=2) rfl rfl) (lw (vb (decide ((List.length ((bd ((3,[(0,1),(1,2),(0,2)]):aM) ([4611686018427387904,4607182418800017408,4611686018427387904]:List Nat)).1):Int)=2))) (aH rfl (dt q51) rfl) ?_))
 refine mv (vb (decide ((List.length ((bd ((3,[(0,1),(1,2),(0,2)]):aM) ([4611686018427387904,4607182418800017408,4611686018427387904]:List Nat)).1):Int)=2))) ?_
 have q56:(List.length ((bd ((3,[(0,1),(1,2),(0,2)]):aM) ([4611686018427387904,4607182418800017408,4611686018427387904]:List Nat)).1):Int)=2:=by rfl
 refine lv (Value.float .f64 ((bd ((3,[(0,1),(1,2),(0,2)]):aM) ([4611686018427387904,4607182418800017408,4611686018427387904]:List Nat)).2.1)) (wy (dt q56)) (al rfl) (lv (vb (decide (((bd ((3,[(0,1),(1,2),(0,2)]):aM) ([4611686018427387904,4607182418800017408,4611686018427387904]:List Nat)).2.1)=4613937818241073152))) (wy (dt q56)) (kf (a:=((bd ((3,[(0,1),(1,2),(0,2)]):aM) ([4611686018427387904,4607182418800017408,4611686018427387904]:List Nat)).2.1)) (b:=4613937818241073152) rfl rfl (by decide) (by decide)) (lw (vb (decide (((bd ((3,[(0,1),(1,2),(0,2)]):aM) ([4611686018427387904,4607182418800017408,4611686018427387904]:List Nat)).2.1)=4613937818241073152))) (aH rfl (dt q56) rfl) ?_))
 refine mv (vb (decide (((bd ((3,[(0,1),(1,2),(0,2)]):aM) ([4611686018427387904,4607182418800017408,4611686018427387904]:List Nat)).2.1)=4613937818241073152))) ?_
 have q60:((bd ((3,[(0,1),(1,2),(0,2)]):aM) ([4611686018427387904,4607182418800017408,4611686018427387904]:List Nat)).2.1)=4613937818241073152:=by rfl
 refine lv (vi ((bd ((3,[(0,1),(1,2),(0,2)]):aM) ([4611686018427387904,4607182418800017408,4611686018427387904]:List Nat)).2.2)) (wy (dt q60)) (al rfl) (lv (vb (decide (((bd ((3,[(0,1),(1,2),(0,2)]):aM) ([4611686018427387904,4607182418800017408,4611686018427387904]:List Nat)).2.2)=0))) (wy (dt q60)) (en (m:=(bd ((3,[(0,1),(1,2),(0,2)]):aM) ([4611686018427387904,4607182418800017408,4611686018427387904]:List Nat)).2.2) (n:=0) rfl rfl) (lw (vb (decide (((bd ((3,[(0,1),(1,2),(0,2)]):aM) ([4611686018427387904,4607182418800017408,4611686018427387904]:List Nat)).2.2)=0))) (aH rfl (dt q60) rfl) ?_))
 refine ma (vb (decide (((bd ((3,[(0,1),(1,2),(0,2)]):aM) ([4611686018427387904,4607182418800017408,4611686018427387904]:List Nat)).2.2)=0))) (aa (ar (vs:=[vb (decide (((bd ((3,[(0,1),(1,2),(0,2)]):aM) ([4611686018427387904,4607182418800017408,4611686018427387904]:List Nat)).2.2)=0))]) Try.func9 (.tmp rfl .nil) ?_))
 have e0:(decide (((bd ((3,[(0,1),(1,2),(0,2)]):aM) ([4611686018427387904,4607182418800017408,4611686018427387904]:List Nat)).2.2)=0):Bool)=(true):=by
   rfl
 have C72:=cg [5] (ch7.n.seq (ch11.n.seq (ch21.n.seq (ch23.n.seq ((ch28.l rfl).seq (ch30.n.seq (ch38.n.seq (ch46.n.seq (ch54.n.seq (ch58.n.seq ch66.n))))))))))
 replace bH:=bH.ca C72
 exact⟨(congrArg (a₁:=decide (((bd ((3,[(0,1),(1,2),(0,2)]):aM) ([4611686018427387904,4607182418800017408,4611686018427387904]:List Nat)).2.2)=0)) (λ(z0:Bool)=>Ending.returned (vb z0)) e0),bH.below⟩
end TL
