import Derived.Test.YtbadiajeohbpcaaGreatTlP3
import Derived.Test.YtbadiajeohbpcaaGreatTlGenA
import Derived.Test.YtbadiajeohbpcaaGreatProg
import Derived.Test.YtbadiajeohbpcaaGreatTlAli
set_option linter.all false
set_option maxRecDepth 20000
namespace TL
open Go Go.Proofs
theorem rr(w0:World)(n:Int)(all:Int)(hn:0<=n/\n<=1099511627776):
    Calls Tryz.prog 56 #[vi n,vi all] w0 (λee w=>ee= .returned (vi (min all (n+2000)))/\cE w0.heap.size w0 w):=by
 refine au Tryz.func56 rfl nq ?_
 have bH:=aT.start w0
 obtain⟨hn1,hn2⟩:=hn
 refine a7 (a6 rfl (ai 0 (aa (a7 (a6 rfl (mi all (mi n (lx (aM (m:=n) (n:=2000) rfl rfl (by omega)) (lw (vi (min all (n+2000))) (kj rfl rfl) (ai (min all (n+2000)) (aa (ar (vs:=[vi (min all (n+2000))]) Tryz.func56 (.tmp rfl .nil) ?_))))))))))))
 have e0:(min all (n+2000):Int)=(min all (n+2000)):=by
   rfl
 exact⟨ri e0,bH.below⟩
theorem ig(w0:World)(g:(Int)×(List Pt))(g_v:Value)(hg_v:Ro w0 g_v g.2)(h:Int)(hh:0<=h/\h<2*(g.2.length:Int))(hlen:g.2.length<=1000000):
    Calls Tryz.prog 54 #[vg [vi g.1,g_v],vi h] w0 (λee w=>ee= .returned (vi (bv g h))/\cE w0.heap.size w0 w):=by
 refine au Tryz.func54 rfl nq ?_
 have bH:=aT.start w0
 have Rg:=hg_v.sl
 obtain⟨hh1,hh2⟩:=hh
 refine a7 (a6 rfl (bW rfl (bh c0 (is 1) (1,0) rfl rfl ?_)))
 intro g4 w1 b3 ch2 bx5
 replace bx5:Bx g4 (is 1) w1 b3 [vi g.1,g_v]:=bx5
 refine ai 0 (aa (a7 (a6 rfl (lx (a8 dY rfl rfl rfl rfl) (lx (ab bO rfl bx5 rfl) (mi h (lx (oU (m:=h) (n:=2) rfl rfl (by omega) (by omega) (by omega)) (mi h (lx (pv (m:=h) (n:=2) rfl rfl (by omega) (by omega)) ?_)))))))))
 replace Rg:=Rg.cn ch2
 refine lx (ad (v:=g_v) (i:=h/2) fm rfl rfl Rg rfl (by omega) (by omega)) (lx (b5 (i:=h%2) jC rfl rfl rfl (by omega) (by omega) (Nat.mul_one _)) (lx (bJ (v:=g_v) (i:=h/2) bY rfl Rg (by omega) (by omega) (show Int.toNat (h%2)<2 by omega) (gP _ (by omega) (by omega))) (ai (pI (gI g.2 (h/2)) (h%2)) (aa (ar (vs:=[vi (pI (gI g.2 (h/2)) (h%2))]) Tryz.func54 (.tmp rfl .nil) ?_)))))
 have e0:(pI (gI g.2 (h/2)) (h%2):Int)=(bv g h):=by
   rfl
 replace bH:=bH.cn ch2
 exact⟨(congrArg (a₁:=pI (gI g.2 (h/2)) (h%2)) (λ(z0:Int)=>Ending.returned (vi z0)) e0),bH.below⟩
end TL
