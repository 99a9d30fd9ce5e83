import Derived.Test.YtbpphaeianpdpaaPuTlP2
import Derived.Test.YtbpphaeianpdpaaPuTlGmA
import Derived.Test.YtbpphaeianpdpaaPuTlGenA
import Derived.Test.YtbpphaeianpdpaaPuTlPwA
import Derived.Test.YtbpphaeianpdpaaPuTlPwF
import Derived.Test.YtbpphaeianpdpaaPuTlPwT
import Derived.Test.YtbpphaeianpdpaaPuTlPwL
import Derived.Test.YtbpphaeianpdpaaPuTlPwR
import Derived.Test.YtbpphaeianpdpaaProg
import Derived.Test.YtbpphaeianpdpaaPuTlAli
set_option linter.all false
set_option maxRecDepth 20000
namespace TL
open Go Go.Proofs
theorem lP:Try.prog.follows .mixedOrders=true:=by kernel_rfl
theorem oc:Try.f12.body.isNone=false:=rfl
theorem oQ:(Try.f12.name== "runtime.NumGoroutine")=false:=by decide+kernel
theorem kI:Try.f14.body.isNone=false:=rfl
theorem ko:(Try.f14.name== "runtime.NumGoroutine")=false:=by decide+kernel
theorem oH:Try.f20.body.isNone=false:=rfl
theorem nJ:(Try.f20.name== "runtime.NumGoroutine")=false:=by decide+kernel
theorem iY:Try.f36.body.isNone=false:=rfl
theorem iN:(Try.f36.name== "runtime.NumGoroutine")=false:=by decide+kernel
set_option maxHeartbeats 4000000 in
theorem la(w0:World):
    Calls Try.prog 9 #[] w0 (λee w=>ee= .returned (vb true)/\ch w0.heap.size w0 w):=by
 refine ap Try.func9 rfl nq ?_
 have bH:=aX.start w0
 refine a7 (a6 rfl (ma (vb false) (a8 (a7 (a6 rfl (dA rfl (bk (aG (vals:=[]) Try.func36 iY iN rfl) (jN w0) ?_)))))))
 rintro⟨d2,v4⟩ w1 ⟨fr3,o5⟩
 obtain⟨g6,ch7,G6⟩:=jV c0 fr3 (λn=>if n=1 then 1 else 0)
 replace o5:=o5.gl G6 1
 refine lo (aI (α:=Nat) g6 (is 2) (is 2) (2,0) rfl ([4607182418800017408,4607182418800017408,4613937818241073152]:List Nat) eD aT (by decide) (by decide) (vs:=[(0,Value.float .f64 4607182418800017408),(1,Value.float .f64 4607182418800017408),(2,Value.float .f64 4613937818241073152)]) rfl rfl (.cons rfl (.cons rfl (.cons rfl .nil))) ?_)
 intro g8 w9 v10 ch11 o12
 replace o5:=o5.cn ch11
 refine lo (bk (aG (vals:=[vg [vi (((3,[(0,1),(1,2),(0,2)]):aD).1),v4],v10,vi 0]) Try.func12 oc oQ rfl) (n8 w9 ((3,[(0,1),(1,2),(0,2)]):aD) v4 (o5.flat).ro ([4607182418800017408,4607182418800017408,4613937818241073152]:List Nat) v10 (o12.flat).ro 0) ?_)
 rintro⟨d14,v16,v18⟩ w13 ⟨fr15,o17,o19⟩
 obtain⟨g20,ch21,G20⟩:=jV g8 fr15 (λn=>if n=1 then 3 else if n=2 then 4 else 0)
 replace o17:=o17.gl G20 3
 replace o19:=o19.gl G20 4
 refine mv (vt [vg [v16,v18],vi ((aY ((3,[(0,1),(1,2),(0,2)]):aD) ([4607182418800017408,4607182418800017408,4613937818241073152]:List Nat) 0).2)]) (lx (b7 rfl rfl) (lx (b7 rfl rfl) (lo (bP g20 (is 5) (5,0) rfl bq ?_))))
 intro g25 w22 b24 ch23 bx26
 replace bx26:Bx g25 (is 5) w22 b24 [vn,vn]:=bx26
 refine lo ?_
 replace o19:=o19.cn ch23
 replace o17:=o17.cn ch23
 refine aQ (cs':=[v16,v18]) bq rfl rfl bx26 rfl nq (AllOne.all (.cons (bD o17.flat) (.cons (bD o19.flat) .nil))) rfl ?_
 intro w27 ch28 bx29
 clear bx26
 refine ai ((aY ((3,[(0,1),(1,2),(0,2)]):aD) ([4607182418800017408,4607182418800017408,4613937818241073152]:List Nat) 0).2) (a8 (a7 ?_))
 clear o5 o12
 refine d5 g25 (inl []) lP ?_
 intro w31 ch30
 replace bx29:=bx29.cn ch30
 refine ht 0 rfl (aZ.refl _ _ _) (λw' hw'=>aO (ds:=[v16,v18]) bq rfl (bx29.chg hw' (bX rfl)) rfl rfl) (bf 1 rfl (by kernel_rfl) rfl (bk (aG (vals:=[]) Try.func36 iY iN rfl) (jN w31) ?_))
 rintro⟨d33,v35⟩ w32 ⟨fr34,o36⟩
 obtain⟨g37,ch38,G37⟩:=jV g25 fr34 (λn=>if n=1 then 6 else 0)
 replace o36:=o36.gl G37 6
 have hs39:aZ (inl []) _ _ _ _:=ch38.n
 refine⟨hs39.same,?_⟩
 refine bf 2 rfl (by kernel_rfl) rfl ?_
 replace o17:=(o17.ce ch28).cn ch30
 replace o19:=(o19.ce ch28).cn ch30
 refine bk (aG (vals:=[vg [v16,v18],vg [vi (((3,[(0,1),(1,2),(0,2)]):aD).1),v35],vi 2]) Try.func20 oH nJ rfl) (pC w32 ((aY ((3,[(0,1),(1,2),(0,2)]):aD) ([4607182418800017408,4607182418800017408,4613937818241073152]:List Nat) 0).1) v16 v18 ((o17.ca hs39).flat).ro ((o19.ca hs39).flat).ro ((3,[(0,1),(1,2),(0,2)]):aD) v35 (o36.flat).ro 2 (by decide+kernel)) ?_
 rintro⟨d41,v43⟩ w40 ⟨fr42,o44⟩
 obtain⟨g45,ch46,G45⟩:=jV g37 fr42 (λn=>if n=1 then 7 else 0)
 replace o44:=o44.gl G45 7
 have hs47:=hs39.seq (ch46.n)
 refine⟨hs47.same,?_⟩
 refine ht (v:=vt [v43,vi ((dl ((aY ((3,[(0,1),(1,2),(0,2)]):aD) ([4607182418800017408,4607182418800017408,4613937818241073152]:List Nat) 0).1) ((3,[(0,1),(1,2),(0,2)]):aD) 2).2)]) 3 rfl hs47.same (λw' hw'=>am rfl) (ht 4 rfl hs47.same (λw' hw'=>b7 rfl rfl) (ht 5 rfl hs47.same (λw' hw'=>b7 rfl rfl) (ht (v:=v43) 6 rfl hs47.same (λw' hw'=>bz rfl) (ht (v:=vi ((dl ((aY ((3,[(0,1),(1,2),(0,2)]):aD) ([4607182418800017408,4607182418800017408,4613937818241073152]:List Nat) 0).1) ((3,[(0,1),(1,2),(0,2)]):aD) 2).2)) 7 rfl hs47.same (λw' hw'=>bz rfl) (el (by kernel_rfl) (a7 ?_))))))
 clear o36
 refine a6 rfl (dA rfl (bk (aG (vals:=[]) Try.func36 iY iN rfl) (jN w40) ?_))
 rintro⟨d49,v51⟩ w48 ⟨fr50,o52⟩
 obtain⟨g53,ch54,G53⟩:=jV g45 fr50 (λn=>if n=1 then 8 else 0)
 replace o52:=o52.gl G53 8
 refine lo (aI (α:=Nat) g53 (is 9) (is 9) (9,0) rfl ([4611686018427387904,4607182418800017408,4611686018427387904]:List Nat) eD aT (by decide) (by decide) (vs:=[(0,Value.float .f64 4611686018427387904),(1,Value.float .f64 4607182418800017408),(2,Value.float .f64 4611686018427387904)]) rfl rfl (.cons rfl (.cons rfl (.cons rfl .nil))) ?_)
 intro g55 w56 v57 ch58 o59
 replace o52:=o52.cn ch58
 refine lo (bk (aG (vals:=[vg [vi (((3,[(0,1),(1,2),(0,2)]):aD).1),v51],v57]) Try.func14 kI ko rfl) (ie w56 ((3,[(0,1),(1,2),(0,2)]):aD) v51 (o52.flat).ro ([4611686018427387904,4607182418800017408,4611686018427387904]:List Nat) v57 (o59.flat).ro) ?_)
 rintro⟨d61,v63⟩ w60 ⟨fr62,o64⟩
 obtain⟨g65,ch66,G65⟩:=jV g55 fr62 (λn=>if n=1 then 10 else 0)
 replace o64:=o64.gl G65 10
 refine mv (vt [v63,Value.float .f64 ((ag ((3,[(0,1),(1,2),(0,2)]):aD) ([4611686018427387904,4607182418800017408,4611686018427387904]:List Nat)).2.1),vi ((ag ((3,[(0,1),(1,2),(0,2)]):aD) ([4611686018427387904,4607182418800017408,4611686018427387904]:List Nat)).2.2)]) (lx (b7 rfl rfl) (lx (b7 rfl rfl) (lx (b7 rfl rfl) (ma v63 (ma (Value.float .f64 ((ag ((3,[(0,1),(1,2),(0,2)]):aD) ([4611686018427387904,4607182418800017408,4611686018427387904]:List Nat)).2.1)) (ai ((ag ((3,[(0,1),(1,2),(0,2)]):aD) ([4611686018427387904,4607182418800017408,4611686018427387904]:List Nat)).2.2) (a8 (a7 ?_))))))))
 clear o52 o59
 refine a6 rfl (lx (aj kP rfl rfl rfl rfl) ?_)
 have C67:=cg [] (ch38.n.seq (ch46.n.seq (ch54.n.seq (ch58.n.seq ch66.n))))
 replace bx29:=bx29.ca C67
 refine lx (ah d4 rfl bx29 rfl) ?_
 replace o17:=o17.ca C67
 have len68:=(o17.flat).small
 refine lx (bl eD rfl o17.flat) (lx (eh (m:=(List.length (((aY ((3,[(0,1),(1,2),(0,2)]):aD) ([4607182418800017408,4607182418800017408,4613937818241073152]:List Nat) 0).1).1):Int)) (n:=3) rfl rfl) (mv (vb (decide ((List.length (((aY ((3,[(0,1),(1,2),(0,2)]):aD) ([4607182418800017408,4607182418800017408,4613937818241073152]:List Nat) 0).1).1):Int)=3))) ?_))
 have q31:(List.length (((aY ((3,[(0,1),(1,2),(0,2)]):aD) ([4607182418800017408,4607182418800017408,4613937818241073152]:List Nat) 0).1).1):Int)=3:=by rfl
 refine lv (vp b24 0) (wy (dt q31)) (aj kP rfl rfl rfl rfl) (lv (v16) (wy (dt q31)) (ah d4 rfl bx29 rfl) (lv (Value.pointer (some (aC v16 1 (Int.toNat 2)))) (wy (dt q31)) (aa (α:=Nat) (xs:=((aY ((3,[(0,1),(1,2),(0,2)]):aD) ([4607182418800017408,4607182418800017408,4613937818241073152]:List Nat) 0).1).1) (v:=v16) (i:=2) eD rfl rfl o17.flat rfl (by omega) (by omega)) ?_))
 refine lv (Value.float .f64 (gI (((aY ((3,[(0,1),(1,2),(0,2)]):aD) ([4607182418800017408,4607182418800017408,4613937818241073152]:List Nat) 0).1).1) 2)) (wy (dt q31)) (au (α:=Nat) (xs:=((aY ((3,[(0,1),(1,2),(0,2)]):aD) ([4607182418800017408,4607182418800017408,4613937818241073152]:List Nat) 0).1).1) (v:=v16) (i:=2) aT rfl o17.flat (by omega) (by omega) (by decide) rfl) (lv (vb (decide ((gI (((aY ((3,[(0,1),(1,2),(0,2)]):aD) ([4607182418800017408,4607182418800017408,4613937818241073152]:List Nat) 0).1).1) 2)=4611686018427387904))) (wy (dt q31)) (k8 (a:=(gI (((aY ((3,[(0,1),(1,2),(0,2)]):aD) ([4607182418800017408,4607182418800017408,4613937818241073152]:List Nat) 0).1).1) 2)) (b:=4611686018427387904) rfl rfl (by decide) (by decide)) ?_)
 refine lw (vb (decide ((gI (((aY ((3,[(0,1),(1,2),(0,2)]):aD) ([4607182418800017408,4607182418800017408,4613937818241073152]:List Nat) 0).1).1) 2)=4611686018427387904))) (aA rfl (dt q31) rfl) (mv (vb (decide ((gI (((aY ((3,[(0,1),(1,2),(0,2)]):aD) ([4607182418800017408,4607182418800017408,4613937818241073152]:List Nat) 0).1).1) 2)=4611686018427387904))) ?_)
 have q38:(gI (((aY ((3,[(0,1),(1,2),(0,2)]):aD) ([4607182418800017408,4607182418800017408,4613937818241073152]:List Nat) 0).1).1) 2)=4611686018427387904:=by rfl
 refine lv (vi ((aY ((3,[(0,1),(1,2),(0,2)]):aD) ([4607182418800017408,4607182418800017408,4613937818241073152]:List Nat) 0).2)) (wy (dt q38)) (am rfl) (lv (vb (decide (((aY ((3,[(0,1),(1,2),(0,2)]):aD) ([4607182418800017408,4607182418800017408,4613937818241073152]:List Nat) 0).2)=0))) (wy (dt q38)) (eh (m:=(aY ((3,[(0,1),(1,2),(0,2)]):aD) ([4607182418800017408,4607182418800017408,4613937818241073152]:List Nat) 0).2) (n:=0) rfl rfl) (lw (vb (decide (((aY ((3,[(0,1),(1,2),(0,2)]):aD) ([4607182418800017408,4607182418800017408,4613937818241073152]:List Nat) 0).2)=0))) (aA rfl (dt q38) rfl) ?_))
 refine mv (vb (decide (((aY ((3,[(0,1),(1,2),(0,2)]):aD) ([4607182418800017408,4607182418800017408,4613937818241073152]:List Nat) 0).2)=0))) ?_
 have q42:((aY ((3,[(0,1),(1,2),(0,2)]):aD) ([4607182418800017408,4607182418800017408,4613937818241073152]:List Nat) 0).2)=0:=by rfl
 refine lv (v43) (wy (dt q42)) (am rfl) ?_
 have C69:=cg [] (ch54.n.seq (ch58.n.seq ch66.n))
 replace o44:=o44.ca C69
 have len70:=(o44.flat).small
 refine lv (vi (List.length ((dl ((aY ((3,[(0,1),(1,2),(0,2)]):aD) ([4607182418800017408,4607182418800017408,4613937818241073152]:List Nat) 0).1) ((3,[(0,1),(1,2),(0,2)]):aD) 2).1):Int)) (wy (dt q42)) (bl bI rfl o44.flat) (lv (vb (decide ((List.length ((dl ((aY ((3,[(0,1),(1,2),(0,2)]):aD) ([4607182418800017408,4607182418800017408,4613937818241073152]:List Nat) 0).1) ((3,[(0,1),(1,2),(0,2)]):aD) 2).1):Int)=2))) (wy (dt q42)) (eh (m:=(List.length ((dl ((aY ((3,[(0,1),(1,2),(0,2)]):aD) ([4607182418800017408,4607182418800017408,4613937818241073152]:List Nat) 0).1) ((3,[(0,1),(1,2),(0,2)]):aD) 2).1):Int)) (n:=2) rfl rfl) ?_)
 refine lw (vb (decide ((List.length ((dl ((aY ((3,[(0,1),(1,2),(0,2)]):aD) ([4607182418800017408,4607182418800017408,4613937818241073152]:List Nat) 0).1) ((3,[(0,1),(1,2),(0,2)]):aD) 2).1):Int)=2))) (aA rfl (dt q42) rfl) (mv (vb (decide ((List.length ((dl ((aY ((3,[(0,1),(1,2),(0,2)]):aD) ([4607182418800017408,4607182418800017408,4613937818241073152]:List Nat) 0).1) ((3,[(0,1),(1,2),(0,2)]):aD) 2).1):Int)=2))) ?_)
 have q47:(List.length ((dl ((aY ((3,[(0,1),(1,2),(0,2)]):aD) ([4607182418800017408,4607182418800017408,4613937818241073152]:List Nat) 0).1) ((3,[(0,1),(1,2),(0,2)]):aD) 2).1):Int)=2:=by rfl
 refine lv (vi ((dl ((aY ((3,[(0,1),(1,2),(0,2)]):aD) ([4607182418800017408,4607182418800017408,4613937818241073152]:List Nat) 0).1) ((3,[(0,1),(1,2),(0,2)]):aD) 2).2)) (wy (dt q47)) (am rfl) (lv (vb (decide (((dl ((aY ((3,[(0,1),(1,2),(0,2)]):aD) ([4607182418800017408,4607182418800017408,4613937818241073152]:List Nat) 0).1) ((3,[(0,1),(1,2),(0,2)]):aD) 2).2)=0))) (wy (dt q47)) (eh (m:=(dl ((aY ((3,[(0,1),(1,2),(0,2)]):aD) ([4607182418800017408,4607182418800017408,4613937818241073152]:List Nat) 0).1) ((3,[(0,1),(1,2),(0,2)]):aD) 2).2) (n:=0) rfl rfl) ?_)
 refine lw (vb (decide (((dl ((aY ((3,[(0,1),(1,2),(0,2)]):aD) ([4607182418800017408,4607182418800017408,4613937818241073152]:List Nat) 0).1) ((3,[(0,1),(1,2),(0,2)]):aD) 2).2)=0))) (aA rfl (dt q47) rfl) (mv (vb (decide (((dl ((aY ((3,[(0,1),(1,2),(0,2)]):aD) ([4607182418800017408,4607182418800017408,4613937818241073152]:List Nat) 0).1) ((3,[(0,1),(1,2),(0,2)]):aD) 2).2)=0))) ?_)
 have q51:((dl ((aY ((3,[(0,1),(1,2),(0,2)]):aD) ([4607182418800017408,4607182418800017408,4613937818241073152]:List Nat) 0).1) ((3,[(0,1),(1,2),(0,2)]):aD) 2).2)=0:=by rfl
 refine lv (v63) (wy (dt q51)) (am rfl) ?_
 have len71:=(o64.flat).small
 refine lv (vi (List.length ((ag ((3,[(0,1),(1,2),(0,2)]):aD) ([4611686018427387904,4607182418800017408,4611686018427387904]:List Nat)).1):Int)) (wy (dt q51)) (bl bI rfl o64.flat) (lv (vb (decide ((List.length ((ag ((3,[(0,1),(1,2),(0,2)]):aD) ([4611686018427387904,4607182418800017408,4611686018427387904]:List Nat)).1):Int)=2))) (wy (dt q51)) (eh (m:=(List.length ((ag ((3,[(0,1),(1,2),(0,2)]):aD) ([4611686018427387904,4607182418800017408,4611686018427387904]:List Nat)).1):Int)) (n:=2) rfl rfl) (lw (vb (decide ((List.length ((ag ((3,[(0,1),(1,2),(0,2)]):aD) ([4611686018427387904,4607182418800017408,4611686018427387904]:List Nat)).1):Int)=2))) (aA rfl (dt q51) rfl) ?_))
 refine mv (vb (decide ((List.length ((ag ((3,[(0,1),(1,2),(0,2)]):aD) ([4611686018427387904,4607182418800017408,4611686018427387904]:List Nat)).1):Int)=2))) ?_
 have q56:(List.length ((ag ((3,[(0,1),(1,2),(0,2)]):aD) ([4611686018427387904,4607182418800017408,4611686018427387904]:List Nat)).1):Int)=2:=by rfl
 refine lv (Value.float .f64 ((ag ((3,[(0,1),(1,2),(0,2)]):aD) ([4611686018427387904,4607182418800017408,4611686018427387904]:List Nat)).2.1)) (wy (dt q56)) (am rfl) (lv (vb (decide (((ag ((3,[(0,1),(1,2),(0,2)]):aD) ([4611686018427387904,4607182418800017408,4611686018427387904]:List Nat)).2.1)=4613937818241073152))) (wy (dt q56)) (k8 (a:=((ag ((3,[(0,1),(1,2),(0,2)]):aD) ([4611686018427387904,4607182418800017408,4611686018427387904]:List Nat)).2.1)) (b:=4613937818241073152) rfl rfl (by decide) (by decide)) (lw (vb (decide (((ag ((3,[(0,1),(1,2),(0,2)]):aD) ([4611686018427387904,4607182418800017408,4611686018427387904]:List Nat)).2.1)=4613937818241073152))) (aA rfl (dt q56) rfl) ?_))
 refine mv (vb (decide (((ag ((3,[(0,1),(1,2),(0,2)]):aD) ([4611686018427387904,4607182418800017408,4611686018427387904]:List Nat)).2.1)=4613937818241073152))) ?_
 have q60:((ag ((3,[(0,1),(1,2),(0,2)]):aD) ([4611686018427387904,4607182418800017408,4611686018427387904]:List Nat)).2.1)=4613937818241073152:=by rfl
 refine lv (vi ((ag ((3,[(0,1),(1,2),(0,2)]):aD) ([4611686018427387904,4607182418800017408,4611686018427387904]:List Nat)).2.2)) (wy (dt q60)) (am rfl) (lv (vb (decide (((ag ((3,[(0,1),(1,2),(0,2)]):aD) ([4611686018427387904,4607182418800017408,4611686018427387904]:List Nat)).2.2)=0))) (wy (dt q60)) (eh (m:=(ag ((3,[(0,1),(1,2),(0,2)]):aD) ([4611686018427387904,4607182418800017408,4611686018427387904]:List Nat)).2.2) (n:=0) rfl rfl) (lw (vb (decide (((ag ((3,[(0,1),(1,2),(0,2)]):aD) ([4611686018427387904,4607182418800017408,4611686018427387904]:List Nat)).2.2)=0))) (aA rfl (dt q60) rfl) ?_))
 refine ma (vb (decide (((ag ((3,[(0,1),(1,2),(0,2)]):aD) ([4611686018427387904,4607182418800017408,4611686018427387904]:List Nat)).2.2)=0))) (a8 (aq (vs:=[vb (decide (((ag ((3,[(0,1),(1,2),(0,2)]):aD) ([4611686018427387904,4607182418800017408,4611686018427387904]:List Nat)).2.2)=0))]) Try.func9 (.tmp rfl .nil) ?_))
 have e0:(decide (((ag ((3,[(0,1),(1,2),(0,2)]):aD) ([4611686018427387904,4607182418800017408,4611686018427387904]:List Nat)).2.2)=0):Bool)=(true):=by
   rfl
 have C72:=cg [5] (ch7.n.seq (ch11.n.seq (ch21.n.seq (ch23.n.seq ((ch28.l rfl).seq (ch30.n.seq (ch38.n.seq (ch46.n.seq (ch54.n.seq (ch58.n.seq ch66.n))))))))))
 replace bH:=bH.ca C72
 exact⟨(congrArg (a₁:=decide (((ag ((3,[(0,1),(1,2),(0,2)]):aD) ([4611686018427387904,4607182418800017408,4611686018427387904]:List Nat)).2.2)=0)) (λ(z0:Bool)=>Ending.returned (vb z0)) e0),bH.below⟩
end TL
