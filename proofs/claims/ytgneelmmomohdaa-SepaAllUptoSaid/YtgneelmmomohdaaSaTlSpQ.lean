import Derived.Test.YtgneelmmomohdaaSaTlP5
import Derived.Test.YtgneelmmomohdaaSaTlGmA
import Derived.Test.YtgneelmmomohdaaSaTlGenA
import Derived.Test.YtgneelmmomohdaaProg
import Derived.Test.YtgneelmmomohdaaSaTlAli
set_option linter.all false
set_option maxRecDepth 20000
namespace TL
open Go Go.Proofs
theorem vy:Try.prog.follows .mixedOrders=true:=by kernel_rfl
theorem wz:Try.f37.body.isNone=false:=rfl
theorem xm:(Try.f37.name== "runtime.NumGoroutine")=false:=by decide+kernel
theorem rD:Try.f38.body.isNone=false:=rfl
theorem s5:(Try.f38.name== "runtime.NumGoroutine")=false:=by decide+kernel
theorem A4(w0:World)(a:Pt)(b:Pt):
    Calls Try.prog 36 #[vg [vi a.1,vi a.2],vg [vi b.1,vi b.2]] w0 (λee w=>ee= .returned (vi (oz a b))/\ep w0.heap.size w0 w):=by
 refine av Try.func36 rfl nq ?_
 have bH:=bn.start w0
 refine aa (a8 rfl (cB rfl (cr c0 (is 1) (1,0) rfl rfl ?_)))
 intro g4 w1 b3 ch2 bx5
 replace bx5:Bx g4 (is 1) w1 b3 [vi a.1,vi a.2]:=bx5
 refine lo (cr g4 (is 2) (2,0) rfl rfl ?_)
 intro g9 w6 b8 ch7 bx10
 replace bx10:Bx g9 (is 2) w6 b8 [vi b.1,vi b.2]:=bx10
 refine ai 0 (ab (aa (iQ g9 (inl []) vy ?_)))
 intro w12 ch11
 refine ht 0 rfl (bD.refl _ _ _) (λw' hw'=>aM dI rfl rfl rfl (by decide) (by decide) rfl) ?_
 replace bx5:=(bx5.cn ch7).cn ch11
 refine ht 1 rfl (bD.refl _ _ _) (λw' hw'=>ae aj rfl (bx5.chg hw' (cN rfl)) rfl) (ht 2 rfl (bD.refl _ _ _) (λw' hw'=>aM dI rfl rfl rfl (by decide) (by decide) rfl) ?_)
 replace bx10:=bx10.cn ch11
 refine ht 3 rfl (bD.refl _ _ _) (λw' hw'=>ae aj rfl (bx10.chg hw' (cN rfl)) rfl) (ht 5 rfl (bD.refl _ _ _) (λw' hw'=>aM dI rfl rfl rfl (by decide) (by decide) rfl) (ht 6 rfl (bD.refl _ _ _) (λw' hw'=>ae aj rfl (bx5.chg hw' (cN rfl)) rfl) (ht 7 rfl (bD.refl _ _ _) (λw' hw'=>aM dI rfl rfl rfl (by decide) (by decide) rfl) (ht 8 rfl (bD.refl _ _ _) (λw' hw'=>ae aj rfl (bx10.chg hw' (cN rfl)) rfl) (bu 4 rfl (by kernel_rfl) rfl (bW (v:=vi (eX a.1 b.1)) (aN (vals:=[vi a.1,vi b.1]) Try.func38 rD s5 rfl) (nt w12 a.1 b.1) ?_))))))
 intro w13 hb14
 replace hb14:=aS hb14 g9
 have hs15:bD (inl []) _ _ _ _:=hb14.n
 refine⟨hs15.same,?_⟩
 refine bu 9 rfl (by kernel_rfl) rfl (bW (v:=vi (eX a.2 b.2)) (aN (vals:=[vi a.2,vi b.2]) Try.func38 rD s5 rfl) (nt w13 a.2 b.2) ?_)
 intro w16 hb17
 replace hb17:=aS hb17 g9
 have hs18:=hs15.seq (hb17.n)
 refine⟨hs18.same,?_⟩
 refine bu 10 rfl (by kernel_rfl) rfl (aC (α:=Int) g9 (is 3) (is 3) (3,0) rfl ([eX a.1 b.1,eX a.2 b.2]:List Int) bv aj (by decide) (by decide) (vs:=[(0,vi (eX a.1 b.1)),(1,vi (eX a.2 b.2))]) rfl rfl (.cons rfl (.cons rfl .nil)) ?_)
 intro g19 w20 v21 ch22 o23
 have hs24:=hs18.seq (ch22.n)
 refine⟨hs24.same,?_⟩
 refine bu 11 rfl (by kernel_rfl) rfl (bW (v:=vi (sG ([eX a.1 b.1,eX a.2 b.2]:List Int))) (aN (vals:=[v21]) Try.func37 wz xm rfl) (CW w20 ([eX a.1 b.1,eX a.2 b.2]:List Int) v21 (o23.flat).ro) ?_)
 intro w25 hb26
 replace hb26:=aS hb26 g19
 have hs27:=hs24.seq (hb26.n)
 refine⟨hs27.same,?_⟩
 refine ht (v:=vi (sG ([eX a.1 b.1,eX a.2 b.2]:List Int))) 12 rfl hs27.same (λw' hw'=>cE rfl) (eE (by kernel_rfl) (aD (vs:=[vi (sG ([eX a.1 b.1,eX a.2 b.2]:List Int))]) Try.func36 (.tmp rfl .nil) ?_))
 have e0:(sG ([eX a.1 b.1,eX a.2 b.2]:List Int):Int)=(oz a b):=by
   exact BN a b
 have C28:=cg [] (ch2.n.seq (ch7.n.seq (ch11.n.seq (hb14.n.seq (hb17.n.seq (ch22.n.seq hb26.n))))))
 replace bH:=bH.ca C28
 exact⟨ri e0,bH.below⟩
end TL
