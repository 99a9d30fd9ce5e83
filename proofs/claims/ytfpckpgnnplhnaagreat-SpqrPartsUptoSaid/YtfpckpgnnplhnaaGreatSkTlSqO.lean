import Derived.Test.YtfpckpgnnplhnaaGreatSkTlGmA
import Derived.Test.YtfpckpgnnplhnaaGreatSkTlGenA
import Derived.Test.YtfpckpgnnplhnaaGreatSkTlAli
set_option linter.all false
set_option maxRecDepth 20000
namespace TL
open Go Go.Proofs
theorem sZ:Tryz.prog.follows .mixedOrders=true:=by kernel_rfl
theorem mm:Tryz.f75.body.isNone=false:=rfl
theorem mJ:(Tryz.f75.name== "runtime.NumGoroutine")=false:=by decide+kernel
theorem yg:Tryz.f79.body.isNone=false:=rfl
theorem xC:(Tryz.f79.name== "runtime.NumGoroutine")=false:=by decide+kernel
theorem sD(w0:World)(x:Bd)(y:Bd):
    Calls Tryz.prog 78 #[vg [vi x.1,vi x.2.1,vi x.2.2.1,vi x.2.2.2],vg [vi y.1,vi y.2.1,vi y.2.2.1,vi y.2.2.2]] w0 (λee w=>ee= .returned (vi (mW x y))/\eJ w0.heap.size w0 w):=by
 refine ap Tryz.func78 rfl nq ?_
 have bH:=b6.start w0
 refine a7 (a6 rfl (cN rfl (cq c0 (is 1) (1,0) rfl rfl ?_)))
 intro g4 w1 b3 ch2 bx5
 refine lo (cq g4 (is 2) (2,0) rfl rfl ?_)
 intro g9 w6 b8 ch7 bx10
 refine ai 0 (ab (a7 (il g9 (inl []) sZ ?_)))
 intro w12 ch11
 refine ht 0 rfl (aU.refl _ _ _) (λw' hw'=>aa tM rfl rfl rfl rfl) ?_
 replace bx5:=(bx5.cn ch7).cn ch11
 refine ht 1 rfl (aU.refl _ _ _) (λw' hw'=>a8 ah rfl (bx5.chg hw' (bI rfl)) rfl) (ht (v:=vi (min x.2.2.2 0)) 2 rfl (aU.refl _ _ _) (λw' hw'=>jj rfl rfl) (ht 3 rfl (aU.refl _ _ _) (λw' hw'=>aa tM rfl rfl rfl rfl) ?_))
 replace bx10:=bx10.cn ch11
 refine ht 4 rfl (aU.refl _ _ _) (λw' hw'=>a8 ah rfl (bx10.chg hw' (bI rfl)) rfl) (ht (v:=vi (min y.2.2.2 0)) 5 rfl (aU.refl _ _ _) (λw' hw'=>jj rfl rfl) (ht 7 rfl (aU.refl _ _ _) (λw' hw'=>aa tM rfl rfl rfl rfl) (ht 8 rfl (aU.refl _ _ _) (λw' hw'=>a8 ah rfl (bx5.chg hw' (bI rfl)) rfl) (ht 9 rfl (aU.refl _ _ _) (λw' hw'=>aa tM rfl rfl rfl rfl) (ht 10 rfl (aU.refl _ _ _) (λw' hw'=>a8 ah rfl (bx10.chg hw' (bI rfl)) rfl) (ht 12 rfl (aU.refl _ _ _) (λw' hw'=>aa tM rfl rfl rfl rfl) (ht 13 rfl (aU.refl _ _ _) (λw' hw'=>a8 ah rfl (bx5.chg hw' (bI rfl)) rfl) (ht 14 rfl (aU.refl _ _ _) (λw' hw'=>aa tM rfl rfl rfl rfl) ?_))))))))
 refine ht 15 rfl (aU.refl _ _ _) (λw' hw'=>a8 ah rfl (bx10.chg hw' (bI rfl)) rfl) (az 6 rfl (by kernel_rfl) rfl (bV (v:=vi (cO (min x.2.2.2 0) (min y.2.2.2 0))) (aH (vals:=[vi (min x.2.2.2 0),vi (min y.2.2.2 0)]) Tryz.func75 mm mJ rfl) (ir w12 (min x.2.2.2 0) (min y.2.2.2 0)) ?_))
 intro w13 hb14
 replace hb14:=aN hb14 g9
 have hs15:aU (inl []) _ _ _ _:=hb14.n
 refine⟨hs15.same,?_⟩
 refine az 11 rfl (by kernel_rfl) rfl (bV (v:=vi (cO x.2.2.1 y.2.2.1)) (aH (vals:=[vi x.2.2.1,vi y.2.2.1]) Tryz.func75 mm mJ rfl) (ir w13 x.2.2.1 y.2.2.1) ?_)
 intro w16 hb17
 replace hb17:=aN hb17 g9
 have hs18:=hs15.seq (hb17.n)
 refine⟨hs18.same,?_⟩
 refine az 16 rfl (by kernel_rfl) rfl (bV (v:=vi (cO x.2.2.2 y.2.2.2)) (aH (vals:=[vi x.2.2.2,vi y.2.2.2]) Tryz.func75 mm mJ rfl) (ir w16 x.2.2.2 y.2.2.2) ?_)
 intro w19 hb20
 replace hb20:=aN hb20 g9
 have hs21:=hs18.seq (hb20.n)
 refine⟨hs21.same,?_⟩
 refine az 17 rfl (by kernel_rfl) rfl (ar (α:=Int) g9 (is 3) (is 3) (3,0) rfl [cO (min x.2.2.2 0) (min y.2.2.2 0),cO x.2.2.1 y.2.2.1,cO x.2.2.2 y.2.2.2] bF ah (by decide) (by decide) (vs:=[(0,vi (cO (min x.2.2.2 0) (min y.2.2.2 0))),(1,vi (cO x.2.2.1 y.2.2.1)),(2,vi (cO x.2.2.2 y.2.2.2))]) rfl rfl (.cons rfl (.cons rfl (.cons rfl .nil))) ?_)
 intro g22 w23 v24 ch25 o26
 have hs27:=hs21.seq (ch25.n)
 refine⟨hs27.same,?_⟩
 refine az 18 rfl (by kernel_rfl) rfl (bV (v:=vi (qC ([cO (min x.2.2.2 0) (min y.2.2.2 0),cO x.2.2.1 y.2.2.1,cO x.2.2.2 y.2.2.2]))) (aH (vals:=[v24]) Tryz.func79 yg xC rfl) (B6 w23 ([cO (min x.2.2.2 0) (min y.2.2.2 0),cO x.2.2.1 y.2.2.1,cO x.2.2.2 y.2.2.2]) v24 (o26.flat).ro) ?_)
 intro w28 hb29
 replace hb29:=aN hb29 g22
 have hs30:=hs27.seq (hb29.n)
 refine⟨hs30.same,?_⟩
 refine ht (v:=vi (qC ([cO (min x.2.2.2 0) (min y.2.2.2 0),cO x.2.2.1 y.2.2.1,cO x.2.2.2 y.2.2.2]))) 19 rfl hs30.same (λw' hw'=>bm rfl) (bP (by kernel_rfl) (au (vs:=[vi (qC ([cO (min x.2.2.2 0) (min y.2.2.2 0),cO x.2.2.1 y.2.2.1,cO x.2.2.2 y.2.2.2]))]) Tryz.func78 (.tmp rfl .nil) ?_))
 have e0:(qC ([cO (min x.2.2.2 0) (min y.2.2.2 0),cO x.2.2.1 y.2.2.1,cO x.2.2.2 y.2.2.2]):Int)=(mW x y):=by
   exact zL
 have C31:=cg [] (ch2.n.seq (ch7.n.seq (ch11.n.seq (hb14.n.seq (hb17.n.seq (hb20.n.seq (ch25.n.seq hb29.n)))))))
 replace bH:=bH.ca C31
 exact⟨(congrArg (a₁:=qC ([cO (min x.2.2.2 0) (min y.2.2.2 0),cO x.2.2.1 y.2.2.1,cO x.2.2.2 y.2.2.2])) (λ(z0:Int)=>Ending.returned (vi z0)) e0),bH.below⟩
end TL
