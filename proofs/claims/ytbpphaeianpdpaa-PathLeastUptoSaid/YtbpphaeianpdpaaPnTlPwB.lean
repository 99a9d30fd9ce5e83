import Derived.Test.YtbpphaeianpdpaaPnTlP2
import Derived.Test.YtbpphaeianpdpaaPnTlGmA
import Derived.Test.YtbpphaeianpdpaaPnTlGenA
import Derived.Test.YtbpphaeianpdpaaPnTlPwA
import Derived.Test.YtbpphaeianpdpaaPnTlPwF
import Derived.Test.YtbpphaeianpdpaaPnTlPwT
import Derived.Test.YtbpphaeianpdpaaPnTlPwL
import Derived.Test.YtbpphaeianpdpaaPnTlPwR
import Derived.Test.YtbpphaeianpdpaaProg
import Derived.Test.YtbpphaeianpdpaaPnTlAli
set_option linter.all false
set_option maxRecDepth 20000
namespace TL
open Go Go.Proofs
theorem lq:Try.prog.follows .mixedOrders=true:=by kernel_rfl
theorem jp:Try.f12.body.isNone=false:=rfl
theorem jN:(Try.f12.name== "runtime.NumGoroutine")=false:=by decide+kernel
theorem mD:Try.f14.body.isNone=false:=rfl
theorem mV:(Try.f14.name== "runtime.NumGoroutine")=false:=by decide+kernel
theorem jt:Try.f20.body.isNone=false:=rfl
theorem jV:(Try.f20.name== "runtime.NumGoroutine")=false:=by decide+kernel
theorem i9:Try.f36.body.isNone=false:=rfl
theorem gG:(Try.f36.name== "runtime.NumGoroutine")=false:=by decide+kernel
set_option maxHeartbeats 4000000 in
theorem k7(w0:World):
    Calls Try.prog 9 #[] w0 (λee w=>ee= .returned (vb true)/\bR w0.heap.size w0 w):=by
 refine ap Try.func9 rfl nq ?_
 have bH:=aX.start w0
 refine a8 (a7 rfl (ma (vb false) (aa (a8 (a7 rfl (cS rfl (bo (aC (vals:=[]) Try.func36 i9 gG rfl) (ji w0) ?_)))))))
 rintro⟨d2,v4⟩ w1 ⟨fr3,o5⟩
 obtain⟨g6,ch7,G6⟩:=lM c0 fr3 (λn=>if n=1 then 1 else 0)
 replace o5:=o5.gl G6 1
 refine lo (bl (α:=Nat) g6 (is 2) (is 2) (2,0) rfl ([4607182418800017408,4607182418800017408,4613937818241073152]:List Nat) dw aM (by decide) (by decide) (vs:=[(0,Value.float .f64 4607182418800017408),(1,Value.float .f64 4607182418800017408),(2,Value.float .f64 4613937818241073152)]) rfl rfl (.cons rfl (.cons rfl (.cons rfl .nil))) ?_)
 intro g8 w9 v10 ch11 o12
 replace o5:=o5.cn ch11
 refine lo (bo (aC (vals:=[vg [vi (((3,[(0,1),(1,2),(0,2)]):aL).1),v4],v10,vi 0]) Try.func12 jp jN rfl) (iu w9 ((3,[(0,1),(1,2),(0,2)]):aL) v4 (o5.flat).ro ([4607182418800017408,4607182418800017408,4613937818241073152]:List Nat) v10 (o12.flat).ro 0) ?_)
 rintro⟨d14,v16,v18⟩ w13 ⟨fr15,o17,o19⟩
 obtain⟨g20,ch21,G20⟩:=lM g8 fr15 (λn=>if n=1 then 3 else if n=2 then 4 else 0)
 replace o17:=o17.gl G20 3
 replace o19:=o19.gl G20 4
 refine mv (vt [vg [v16,v18],vi ((aj ((3,[(0,1),(1,2),(0,2)]):aL) ([4607182418800017408,4607182418800017408,4613937818241073152]:List Nat) 0).2)]) (lx (bI rfl rfl) (lx (bI rfl rfl) (lo (bU g20 (is 5) (5,0) rfl aZ ?_))))
 intro g25 w22 b24 ch23 bx26
 replace bx26:Bx g25 (is 5) w22 b24 [vn,vn]:=bx26
 refine lo ?_
 replace o19:=o19.cn ch23
 replace o17:=o17.cn ch23
 refine aT (cs':=[v16,v18]) aZ rfl rfl bx26 rfl nq (AllOne.all (.cons (bD o17.flat) (.cons (bD o19.flat) .nil))) rfl ?_
 intro w27 ch28 bx29
 clear bx26
 refine ai ((aj ((3,[(0,1),(1,2),(0,2)]):aL) ([4607182418800017408,4607182418800017408,4613937818241073152]:List Nat) 0).2) (aa (a8 ?_))
 clear o5 o12
 refine cF g25 (inl []) lq ?_
 intro w31 ch30
 replace bx29:=bx29.cn ch30
 refine ht 0 rfl (aV.refl _ _ _) (λw' hw'=>aJ (ds:=[v16,v18]) aZ rfl (bx29.chg hw' (bW rfl)) rfl rfl) (cu 1 rfl (by kernel_rfl) rfl (bo (aC (vals:=[]) Try.func36 i9 gG rfl) (ji w31) ?_))
 rintro⟨d33,v35⟩ w32 ⟨fr34,o36⟩
 obtain⟨g37,ch38,G37⟩:=lM g25 fr34 (λn=>if n=1 then 6 else 0)
 replace o36:=o36.gl G37 6
 have hs39:aV (inl []) _ _ _ _:=ch38.n
 refine⟨hs39.same,?_⟩
 refine cu 2 rfl (by kernel_rfl) rfl ?_
 replace o17:=(o17.ce ch28).cn ch30
 replace o19:=(o19.ce ch28).cn ch30
 refine bo (aC (vals:=[vg [v16,v18],vg [vi (((3,[(0,1),(1,2),(0,2)]):aL).1),v35],vi 2]) Try.func20 jt jV rfl) (l5 w32 ((aj ((3,[(0,1),(1,2),(0,2)]):aL) ([4607182418800017408,4607182418800017408,4613937818241073152]:List Nat) 0).1) v16 v18 ((o17.ca hs39).flat).ro ((o19.ca hs39).flat).ro ((3,[(0,1),(1,2),(0,2)]):aL) v35 (o36.flat).ro 2 (by decide+kernel)) ?_
 rintro⟨d41,v43⟩ w40 ⟨fr42,o44⟩
 obtain⟨g45,ch46,G45⟩:=lM g37 fr42 (λn=>if n=1 then 7 else 0)
 replace o44:=o44.gl G45 7
 have hs47:=hs39.seq (ch46.n)
 refine⟨hs47.same,?_⟩
 refine ht (v:=vt [v43,vi ((aW ((aj ((3,[(0,1),(1,2),(0,2)]):aL) ([4607182418800017408,4607182418800017408,4613937818241073152]:List Nat) 0).1) ((3,[(0,1),(1,2),(0,2)]):aL) 2).2)]) 3 rfl hs47.same (λw' hw'=>al rfl) (ht 4 rfl hs47.same (λw' hw'=>bI rfl rfl) (ht 5 rfl hs47.same (λw' hw'=>bI rfl rfl) (ht (v:=v43) 6 rfl hs47.same (λw' hw'=>bn rfl) (ht (v:=vi ((aW ((aj ((3,[(0,1),(1,2),(0,2)]):aL) ([4607182418800017408,4607182418800017408,4613937818241073152]:List Nat) 0).1) ((3,[(0,1),(1,2),(0,2)]):aL) 2).2)) 7 rfl hs47.same (λw' hw'=>bn rfl) (gx (by kernel_rfl) (a8 ?_))))))
 clear o36
 refine a7 rfl (cS rfl (bo (aC (vals:=[]) Try.func36 i9 gG rfl) (ji w40) ?_))
 rintro⟨d49,v51⟩ w48 ⟨fr50,o52⟩
 obtain⟨g53,ch54,G53⟩:=lM g45 fr50 (λn=>if n=1 then 8 else 0)
 replace o52:=o52.gl G53 8
 refine lo (bl (α:=Nat) g53 (is 9) (is 9) (9,0) rfl ([4611686018427387904,4607182418800017408,4611686018427387904]:List Nat) dw aM (by decide) (by decide) (vs:=[(0,Value.float .f64 4611686018427387904),(1,Value.float .f64 4607182418800017408),(2,Value.float .f64 4611686018427387904)]) rfl rfl (.cons rfl (.cons rfl (.cons rfl .nil))) ?_)
 intro g55 w56 v57 ch58 o59
 replace o52:=o52.cn ch58
 refine lo (bo (aC (vals:=[vg [vi (((3,[(0,1),(1,2),(0,2)]):aL).1),v51],v57]) Try.func14 mD mV rfl) (kj w56 ((3,[(0,1),(1,2),(0,2)]):aL) v51 (o52.flat).ro ([4611686018427387904,4607182418800017408,4611686018427387904]:List Nat) v57 (o59.flat).ro) ?_)
 rintro⟨d61,v63⟩ w60 ⟨fr62,o64⟩
 obtain⟨g65,ch66,G65⟩:=lM g55 fr62 (λn=>if n=1 then 10 else 0)
 replace o64:=o64.gl G65 10
 refine mv (vt [v63,Value.float .f64 ((aS ((3,[(0,1),(1,2),(0,2)]):aL) ([4611686018427387904,4607182418800017408,4611686018427387904]:List Nat)).2.1),vi ((aS ((3,[(0,1),(1,2),(0,2)]):aL) ([4611686018427387904,4607182418800017408,4611686018427387904]:List Nat)).2.2)]) (lx (bI rfl rfl) (lx (bI rfl rfl) (lx (bI rfl rfl) (ma v63 (ma (Value.float .f64 ((aS ((3,[(0,1),(1,2),(0,2)]):aL) ([4611686018427387904,4607182418800017408,4611686018427387904]:List Nat)).2.1)) (ai ((aS ((3,[(0,1),(1,2),(0,2)]):aL) ([4611686018427387904,4607182418800017408,4611686018427387904]:List Nat)).2.2) (aa (a8 ?_))))))))
 clear o52 o59
 refine a7 rfl (lx (ah fY rfl rfl rfl rfl) ?_)
 have C67:=cg [] (ch38.n.seq (ch46.n.seq (ch54.n.seq (ch58.n.seq ch66.n))))
 replace bx29:=bx29.ca C67
 refine lx (ag bS rfl bx29 rfl) ?_
 replace o17:=o17.ca C67
 have len68:=(o17.flat).small
 refine lx (bc dw rfl o17.flat) (lx (cI (m:=(List.length (((aj ((3,[(0,1),(1,2),(0,2)]):aL) ([4607182418800017408,4607182418800017408,4613937818241073152]:List Nat) 0).1).1):Int)) (n:=3) rfl rfl) (mv (vb (decide ((List.length (((aj ((3,[(0,1),(1,2),(0,2)]):aL) ([4607182418800017408,4607182418800017408,4613937818241073152]:List Nat) 0).1).1):Int)=3))) ?_))
 have q31:(List.length (((aj ((3,[(0,1),(1,2),(0,2)]):aL) ([4607182418800017408,4607182418800017408,4613937818241073152]:List Nat) 0).1).1):Int)=3:=by rfl
 refine lv (vp b24 0) (wy (dt q31)) (ah fY rfl rfl rfl rfl) (lv (v16) (wy (dt q31)) (ag bS rfl bx29 rfl) (lv (Value.pointer (some (aG v16 1 (Int.toNat 2)))) (wy (dt q31)) (ad (α:=Nat) (xs:=((aj ((3,[(0,1),(1,2),(0,2)]):aL) ([4607182418800017408,4607182418800017408,4613937818241073152]:List Nat) 0).1).1) (v:=v16) (i:=2) dw rfl rfl o17.flat rfl (by omega) (by omega)) ?_))
 refine lv (Value.float .f64 (gI (((aj ((3,[(0,1),(1,2),(0,2)]):aL) ([4607182418800017408,4607182418800017408,4613937818241073152]:List Nat) 0).1).1) 2)) (wy (dt q31)) (ax (α:=Nat) (xs:=((aj ((3,[(0,1),(1,2),(0,2)]):aL) ([4607182418800017408,4607182418800017408,4613937818241073152]:List Nat) 0).1).1) (v:=v16) (i:=2) aM rfl o17.flat (by omega) (by omega) (by decide) rfl) (lv (vb (decide ((gI (((aj ((3,[(0,1),(1,2),(0,2)]):aL) ([4607182418800017408,4607182418800017408,4613937818241073152]:List Nat) 0).1).1) 2)=4611686018427387904))) (wy (dt q31)) (jo (a:=(gI (((aj ((3,[(0,1),(1,2),(0,2)]):aL) ([4607182418800017408,4607182418800017408,4613937818241073152]:List Nat) 0).1).1) 2)) (b:=4611686018427387904) rfl rfl (by decide) (by decide)) ?_)
 refine lw (vb (decide ((gI (((aj ((3,[(0,1),(1,2),(0,2)]):aL) ([4607182418800017408,4607182418800017408,4613937818241073152]:List Nat) 0).1).1) 2)=4611686018427387904))) (aE rfl (dt q31) rfl) (mv (vb (decide ((gI (((aj ((3,[(0,1),(1,2),(0,2)]):aL) ([4607182418800017408,4607182418800017408,4613937818241073152]:List Nat) 0).1).1) 2)=4611686018427387904))) ?_)
 have q38:(gI (((aj ((3,[(0,1),(1,2),(0,2)]):aL) ([4607182418800017408,4607182418800017408,4613937818241073152]:List Nat) 0).1).1) 2)=4611686018427387904:=by rfl
 refine lv (vi ((aj ((3,[(0,1),(1,2),(0,2)]):aL) ([4607182418800017408,4607182418800017408,4613937818241073152]:List Nat) 0).2)) (wy (dt q38)) (al rfl) (lv (vb (decide (((aj ((3,[(0,1),(1,2),(0,2)]):aL) ([4607182418800017408,4607182418800017408,4613937818241073152]:List Nat) 0).2)=0))) (wy (dt q38)) (cI (m:=(aj ((3,[(0,1),(1,2),(0,2)]):aL) ([4607182418800017408,4607182418800017408,4613937818241073152]:List Nat) 0).2) (n:=0) rfl rfl) (lw (vb (decide (((aj ((3,[(0,1),(1,2),(0,2)]):aL) ([4607182418800017408,4607182418800017408,4613937818241073152]:List Nat) 0).2)=0))) (aE rfl (dt q38) rfl) ?_))
 refine mv (vb (decide (((aj ((3,[(0,1),(1,2),(0,2)]):aL) ([4607182418800017408,4607182418800017408,4613937818241073152]:List Nat) 0).2)=0))) ?_
 have q42:((aj ((3,[(0,1),(1,2),(0,2)]):aL) ([4607182418800017408,4607182418800017408,4613937818241073152]:List Nat) 0).2)=0:=by rfl
 refine lv (v43) (wy (dt q42)) (al rfl) ?_
 have C69:=cg [] (ch54.n.seq (ch58.n.seq ch66.n))
 replace o44:=o44.ca C69
 have len70:=(o44.flat).small
 refine lv (vi (List.length ((aW ((aj ((3,[(0,1),(1,2),(0,2)]):aL) ([4607182418800017408,4607182418800017408,4613937818241073152]:List Nat) 0).1) ((3,[(0,1),(1,2),(0,2)]):aL) 2).1):Int)) (wy (dt q42)) (bc cm rfl o44.flat) (lv (vb (decide ((List.length ((aW ((aj ((3,[(0,1),(1,2),(0,2)]):aL) ([4607182418800017408,4607182418800017408,4613937818241073152]:List Nat) 0).1) ((3,[(0,1),(1,2),(0,2)]):aL) 2).1):Int)=2))) (wy (dt q42)) (cI (m:=(List.length ((aW ((aj ((3,[(0,1),(1,2),(0,2)]):aL) ([4607182418800017408,4607182418800017408,4613937818241073152]:List Nat) 0).1) ((3,[(0,1),(1,2),(0,2)]):aL) 2).1):Int)) (n:=2) rfl rfl) ?_)
 refine lw (vb (decide ((List.length ((aW ((aj ((3,[(0,1),(1,2),(0,2)]):aL) ([4607182418800017408,4607182418800017408,4613937818241073152]:List Nat) 0).1) ((3,[(0,1),(1,2),(0,2)]):aL) 2).1):Int)=2))) (aE rfl (dt q42) rfl) (mv (vb (decide ((List.length ((aW ((aj ((3,[(0,1),(1,2),(0,2)]):aL) ([4607182418800017408,4607182418800017408,4613937818241073152]:List Nat) 0).1) ((3,[(0,1),(1,2),(0,2)]):aL) 2).1):Int)=2))) ?_)
 have q47:(List.length ((aW ((aj ((3,[(0,1),(1,2),(0,2)]):aL) ([4607182418800017408,4607182418800017408,4613937818241073152]:List Nat) 0).1) ((3,[(0,1),(1,2),(0,2)]):aL) 2).1):Int)=2:=by rfl
 refine lv (vi ((aW ((aj ((3,[(0,1),(1,2),(0,2)]):aL) ([4607182418800017408,4607182418800017408,4613937818241073152]:List Nat) 0).1) ((3,[(0,1),(1,2),(0,2)]):aL) 2).2)) (wy (dt q47)) (al rfl) (lv (vb (decide (((aW ((aj ((3,[(0,1),(1,2),(0,2)]):aL) ([4607182418800017408,4607182418800017408,4613937818241073152]:List Nat) 0).1) ((3,[(0,1),(1,2),(0,2)]):aL) 2).2)=0))) (wy (dt q47)) (cI (m:=(aW ((aj ((3,[(0,1),(1,2),(0,2)]):aL) ([4607182418800017408,4607182418800017408,4613937818241073152]:List Nat) 0).1) ((3,[(0,1),(1,2),(0,2)]):aL) 2).2) (n:=0) rfl rfl) ?_)
 refine lw (vb (decide (((aW ((aj ((3,[(0,1),(1,2),(0,2)]):aL) ([4607182418800017408,4607182418800017408,4613937818241073152]:List Nat) 0).1) ((3,[(0,1),(1,2),(0,2)]):aL) 2).2)=0))) (aE rfl (dt q47) rfl) (mv (vb (decide (((aW ((aj ((3,[(0,1),(1,2),(0,2)]):aL) ([4607182418800017408,4607182418800017408,4613937818241073152]:List Nat) 0).1) ((3,[(0,1),(1,2),(0,2)]):aL) 2).2)=0))) ?_)
 have q51:((aW ((aj ((3,[(0,1),(1,2),(0,2)]):aL) ([4607182418800017408,4607182418800017408,4613937818241073152]:List Nat) 0).1) ((3,[(0,1),(1,2),(0,2)]):aL) 2).2)=0:=by rfl
 refine lv (v63) (wy (dt q51)) (al rfl) ?_
 have len71:=(o64.flat).small
 refine lv (vi (List.length ((aS ((3,[(0,1),(1,2),(0,2)]):aL) ([4611686018427387904,4607182418800017408,4611686018427387904]:List Nat)).1):Int)) (wy (dt q51)) (bc cm rfl o64.flat) (lv (vb (decide ((List.length ((aS ((3,[(0,1),(1,2),(0,2)]):aL) ([4611686018427387904,4607182418800017408,4611686018427387904]:List Nat)).1):Int)=2))) (wy (dt q51)) (cI (m:=(List.length ((aS ((3,[(0,1),(1,2),(0,2)]):aL) ([4611686018427387904,4607182418800017408,4611686018427387904]:List Nat)).1):Int)) (n:=2) rfl rfl) (lw (vb (decide ((List.length ((aS ((3,[(0,1),(1,2),(0,2)]):aL) ([4611686018427387904,4607182418800017408,4611686018427387904]:List Nat)).1):Int)=2))) (aE rfl (dt q51) rfl) ?_))
 refine mv (vb (decide ((List.length ((aS ((3,[(0,1),(1,2),(0,2)]):aL) ([4611686018427387904,4607182418800017408,4611686018427387904]:List Nat)).1):Int)=2))) ?_
 have q56:(List.length ((aS ((3,[(0,1),(1,2),(0,2)]):aL) ([4611686018427387904,4607182418800017408,4611686018427387904]:List Nat)).1):Int)=2:=by rfl
 refine lv (Value.float .f64 ((aS ((3,[(0,1),(1,2),(0,2)]):aL) ([4611686018427387904,4607182418800017408,4611686018427387904]:List Nat)).2.1)) (wy (dt q56)) (al rfl) (lv (vb (decide (((aS ((3,[(0,1),(1,2),(0,2)]):aL) ([4611686018427387904,4607182418800017408,4611686018427387904]:List Nat)).2.1)=4613937818241073152))) (wy (dt q56)) (jo (a:=((aS ((3,[(0,1),(1,2),(0,2)]):aL) ([4611686018427387904,4607182418800017408,4611686018427387904]:List Nat)).2.1)) (b:=4613937818241073152) rfl rfl (by decide) (by decide)) (lw (vb (decide (((aS ((3,[(0,1),(1,2),(0,2)]):aL) ([4611686018427387904,4607182418800017408,4611686018427387904]:List Nat)).2.1)=4613937818241073152))) (aE rfl (dt q56) rfl) ?_))
 refine mv (vb (decide (((aS ((3,[(0,1),(1,2),(0,2)]):aL) ([4611686018427387904,4607182418800017408,4611686018427387904]:List Nat)).2.1)=4613937818241073152))) ?_
 have q60:((aS ((3,[(0,1),(1,2),(0,2)]):aL) ([4611686018427387904,4607182418800017408,4611686018427387904]:List Nat)).2.1)=4613937818241073152:=by rfl
 refine lv (vi ((aS ((3,[(0,1),(1,2),(0,2)]):aL) ([4611686018427387904,4607182418800017408,4611686018427387904]:List Nat)).2.2)) (wy (dt q60)) (al rfl) (lv (vb (decide (((aS ((3,[(0,1),(1,2),(0,2)]):aL) ([4611686018427387904,4607182418800017408,4611686018427387904]:List Nat)).2.2)=0))) (wy (dt q60)) (cI (m:=(aS ((3,[(0,1),(1,2),(0,2)]):aL) ([4611686018427387904,4607182418800017408,4611686018427387904]:List Nat)).2.2) (n:=0) rfl rfl) (lw (vb (decide (((aS ((3,[(0,1),(1,2),(0,2)]):aL) ([4611686018427387904,4607182418800017408,4611686018427387904]:List Nat)).2.2)=0))) (aE rfl (dt q60) rfl) ?_))
 refine ma (vb (decide (((aS ((3,[(0,1),(1,2),(0,2)]):aL) ([4611686018427387904,4607182418800017408,4611686018427387904]:List Nat)).2.2)=0))) (aa (aq (vs:=[vb (decide (((aS ((3,[(0,1),(1,2),(0,2)]):aL) ([4611686018427387904,4607182418800017408,4611686018427387904]:List Nat)).2.2)=0))]) Try.func9 (.tmp rfl .nil) ?_))
 have e0:(decide (((aS ((3,[(0,1),(1,2),(0,2)]):aL) ([4611686018427387904,4607182418800017408,4611686018427387904]:List Nat)).2.2)=0):Bool)=(true):=by
   rfl
 have C72:=cg [5] (ch7.n.seq (ch11.n.seq (ch21.n.seq (ch23.n.seq ((ch28.l rfl).seq (ch30.n.seq (ch38.n.seq (ch46.n.seq (ch54.n.seq (ch58.n.seq ch66.n))))))))))
 replace bH:=bH.ca C72
 exact⟨(congrArg (a₁:=decide (((aS ((3,[(0,1),(1,2),(0,2)]):aL) ([4611686018427387904,4607182418800017408,4611686018427387904]:List Nat)).2.2)=0)) (λ(z0:Bool)=>Ending.returned (vb z0)) e0),bH.below⟩
end TL
