import Derived.Test.YtfpckpgnnplhnaaGreatSwTlGmA
import Derived.Test.YtfpckpgnnplhnaaGreatSwTlGenA
import Derived.Test.YtfpckpgnnplhnaaGreatSwTlAli
set_option linter.all false
set_option maxRecDepth 20000
namespace TL
open Go Go.Proofs
theorem uu:Tryz.prog.follows .mixedOrders=true:=by kernel_rfl
theorem nS:Tryz.f75.body.isNone=false:=rfl
theorem mY:(Tryz.f75.name== "runtime.NumGoroutine")=false:=by decide+kernel
theorem wW:Tryz.f79.body.isNone=false:=rfl
theorem x7:(Tryz.f79.name== "runtime.NumGoroutine")=false:=by decide+kernel
theorem vv(w0:World)(x:Bd)(y:Bd):
    Calls Tryz.prog 78 #[vg [vi x.1,vi x.2.1,vi x.2.2.1,vi x.2.2.2],vg [vi y.1,vi y.2.1,vi y.2.2.1,vi y.2.2.2]] w0 (λee w=>ee= .returned (vi (oq x y))/\eK w0.heap.size w0 w):=by
 refine ah Tryz.func78 rfl nq ?_
 have bH:=aW.start w0
 refine a7 (a6 rfl (cy rfl (bU c0 (is 1) (1,0) rfl rfl ?_)))
 intro g4 w1 b3 ch2 bx5
 refine lo (bU g4 (is 2) (2,0) rfl rfl ?_)
 intro g9 w6 b8 ch7 bx10
 refine ai 0 (ab (a7 (iU g9 (inl []) uu ?_)))
 intro w12 ch11
 refine ht 0 rfl (bg.refl _ _ _) (λw' hw'=>aa B8 rfl rfl rfl rfl) ?_
 refine ht 1 rfl (bg.refl _ _ _) (λw' hw'=>a8 ap rfl bx5.t rfl) (ht (v:=vi (min x.2.2.2 0)) 2 rfl (bg.refl _ _ _) (λw' hw'=>io rfl rfl) (ht 3 rfl (bg.refl _ _ _) (λw' hw'=>aa B8 rfl rfl rfl rfl) ?_))
 refine ht 4 rfl (bg.refl _ _ _) (λw' hw'=>a8 ap rfl bx10.t rfl) (ht (v:=vi (min y.2.2.2 0)) 5 rfl (bg.refl _ _ _) (λw' hw'=>io rfl rfl) (ht 7 rfl (bg.refl _ _ _) (λw' hw'=>aa B8 rfl rfl rfl rfl) (ht 8 rfl (bg.refl _ _ _) (λw' hw'=>a8 ap rfl bx5.t rfl) (ht 9 rfl (bg.refl _ _ _) (λw' hw'=>aa B8 rfl rfl rfl rfl) (ht 10 rfl (bg.refl _ _ _) (λw' hw'=>a8 ap rfl bx10.t rfl) (ht 12 rfl (bg.refl _ _ _) (λw' hw'=>aa B8 rfl rfl rfl rfl) (ht 13 rfl (bg.refl _ _ _) (λw' hw'=>a8 ap rfl bx5.t rfl) (ht 14 rfl (bg.refl _ _ _) (λw' hw'=>aa B8 rfl rfl rfl rfl) ?_))))))))
 refine ht 15 rfl (bg.refl _ _ _) (λw' hw'=>a8 ap rfl bx10.t rfl) (bY 6 rfl (bI (v:=vi (cT (min x.2.2.2 0) (min y.2.2.2 0))) (aB (vals:=[vi (min x.2.2.2 0),vi (min y.2.2.2 0)]) Tryz.func75 nS mY rfl) (iT w12 (min x.2.2.2 0) (min y.2.2.2 0)) ?_))
 intro w13 hb14
 replace hb14:=aG hb14 g9
 have hs15:bg (inl []) _ _ _ _:=hb14.n
 refine⟨hs15.same,?_⟩
 refine bY 11 rfl (bI (v:=vi (cT x.2.2.1 y.2.2.1)) (aB (vals:=[vi x.2.2.1,vi y.2.2.1]) Tryz.func75 nS mY rfl) (iT w13 x.2.2.1 y.2.2.1) ?_)
 intro w16 hb17
 replace hb17:=aG hb17 g9
 have hs18:=hs15.seq (hb17.n)
 refine⟨hs18.same,?_⟩
 refine bY 16 rfl (bI (v:=vi (cT x.2.2.2 y.2.2.2)) (aB (vals:=[vi x.2.2.2,vi y.2.2.2]) Tryz.func75 nS mY rfl) (iT w16 x.2.2.2 y.2.2.2) ?_)
 intro w19 hb20
 replace hb20:=aG hb20 g9
 have hs21:=hs18.seq (hb20.n)
 refine⟨hs21.same,?_⟩
 refine bY 17 rfl (aq (α:=Int) g9 (is 3) (is 3) (3,0) rfl [cT (min x.2.2.2 0) (min y.2.2.2 0),cT x.2.2.1 y.2.2.1,cT x.2.2.2 y.2.2.2] bF ap (by decide) (by decide) (vs:=[(0,vi (cT (min x.2.2.2 0) (min y.2.2.2 0))),(1,vi (cT x.2.2.1 y.2.2.1)),(2,vi (cT x.2.2.2 y.2.2.2))]) rfl rfl (.cons rfl (.cons rfl (.cons rfl .nil))) ?_)
 intro g22 w23 v24 ch25 o26
 have hs27:=hs21.seq (ch25.n)
 refine⟨hs27.same,?_⟩
 refine bY 18 rfl (bI (v:=vi (s9 ([cT (min x.2.2.2 0) (min y.2.2.2 0),cT x.2.2.1 y.2.2.1,cT x.2.2.2 y.2.2.2]))) (aB (vals:=[v24]) Tryz.func79 wW x7 rfl) (Ez w23 ([cT (min x.2.2.2 0) (min y.2.2.2 0),cT x.2.2.1 y.2.2.1,cT x.2.2.2 y.2.2.2]) v24 (o26.flat).ro) ?_)
 intro w28 hb29
 replace hb29:=aG hb29 g22
 have hs30:=hs27.seq (hb29.n)
 refine⟨hs30.same,?_⟩
 refine ht (v:=vi (s9 ([cT (min x.2.2.2 0) (min y.2.2.2 0),cT x.2.2.1 y.2.2.1,cT x.2.2.2 y.2.2.2]))) 19 rfl hs30.same (λw' hw'=>bK rfl) (ce (by kernel_rfl) (az (vs:=[vi (s9 ([cT (min x.2.2.2 0) (min y.2.2.2 0),cT x.2.2.1 y.2.2.1,cT x.2.2.2 y.2.2.2]))]) Tryz.func78 (.tmp rfl .nil) ?_))
 have e0:(s9 ([cT (min x.2.2.2 0) (min y.2.2.2 0),cT x.2.2.1 y.2.2.1,cT x.2.2.2 y.2.2.2]):Int)=(oq x y):=by
   exact CB
 exact⟨(congrArg (a₁:=s9 ([cT (min x.2.2.2 0) (min y.2.2.2 0),cT x.2.2.1 y.2.2.1,cT x.2.2.2 y.2.2.2])) (λ(z0:Int)=>Ending.returned (vi z0)) e0),bH.t.below⟩
end TL
