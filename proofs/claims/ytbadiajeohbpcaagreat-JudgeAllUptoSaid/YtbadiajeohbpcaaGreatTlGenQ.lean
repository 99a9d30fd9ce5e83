import Derived.Test.YtbadiajeohbpcaaGreatTlP3
import Derived.Test.YtbadiajeohbpcaaGreatTlGenA
import Derived.Test.YtbadiajeohbpcaaGreatProg
import Derived.Test.YtbadiajeohbpcaaGreatTlAli
set_option linter.all false
set_option maxRecDepth 20000
namespace TL
open Go Go.Proofs
theorem ze(w0:World)(x:List Int)(x_v:Value)(hx_v:Ro w0 x_v x)(hx:0<x.length):
    Calls Tryz.prog 91 #[x_v] w0 (λee w=>ee= .returned (vi (dW x))/\cE w0.heap.size w0 w):=by
 refine au Tryz.func91 rfl nq ?_
 have bH:=aT.start w0
 have Rx:=hx_v.sl
 refine a7 (a6 rfl (ai 0 (aa (a7 (a7 (a6 rfl (mv x_v ?_)))))))
 have len1:=(Rx).small
 refine lx (aQ cS rfl Rx) (lx (aZ (m:=(x.length:Int)) (n:=1) rfl rfl) (aa ?_))
 by_cases p1:(x.length:Int)<1
 ·
  omega
 refine ag rfl (df p1) (ak (a7 (a6 rfl (mv x_v (lx (ad (v:=x_v) (i:=0) cS rfl rfl Rx rfl (by omega) (by omega)) (lx (bA (v:=x_v) (i:=0) bY rfl Rx (by omega) (by omega) (by decide) rfl) (ai (gI x 0) (aa (a7 (a7 (a6 rfl (ai 1 (aa ?_)))))))))))))
 refine am ?_
 refine aN (σ:=Int×Nat×aK) (λ⟨m,i,gq⟩ f w=>aT w0 gq w/\f 0=x_v/\f 3=vi m/\f 4=vi ↑i/\Sl gq (is 0) w x_v x/\(i:Int)<=((x.length:Int):Int)/\(1<=i/\m=pj x i)) (λ⟨m,i,gq⟩=>Int.toNat (((x.length:Int):Int)-(i:Int))) ((gI x 0),1,c0) ?_ ?_
 · exact⟨bH,rfl,rfl,rfl,Rx,by omega,by exact⟨Nat.le_refl _,by simp[pj]⟩⟩
 clear Rx bH
 rintro⟨m,i,g4⟩ f2 w3 ⟨bH,zs0,zs3,zs4,Rx,hle_i,hinv⟩ back5
 refine a7 (a7 (a6 rfl (mz zs4 (mz zs0 (lx (aQ cS rfl Rx) (lx (aZ (m:=↑i) (n:=(x.length:Int)) rfl rfl) (aa ?_)))))))
 by_cases p5:(i:Int)<(x.length:Int)
 ·
  refine af rfl (dt p5) (ak (a7 (am (a6 rfl (mz zs3 (mz zs0 (mz zs4 (lx (ad (v:=x_v) (i:=↑i) cS rfl rfl Rx rfl (by omega) (by omega)) (lx (bA (v:=x_v) (i:=↑i) bY rfl Rx (by omega) (by omega) (by decide) rfl) ?_)))))))))
  refine lw (vi (min m (gI x ↑i))) (kj rfl rfl) (ai (min m (gI x ↑i)) (aa (al (a6 rfl (mz zs4 (lx (aM (m:=↑i) (n:=1) rfl rfl (by omega)) (ai ((i:Int)+1) (aa ?_))))))))
  refine back5 (min m (gI x ↑i),i+1,g4) _ _ ⟨bH,zs0,rfl,rfl,Rx,by omega,?_⟩ ?_
  · show 1<=(i+1)/\(min m (gI x ↑i))=pj x (i+1)
    obtain⟨h1,h2⟩:=hinv
    exact⟨by omega,by rw[h2,sE h1 ‹_›]⟩
  · show Int.toNat (((x.length:Int):Int)-((i+1):Int))<Int.toNat (((x.length:Int):Int)-(i:Int))
    omega
 refine ag rfl (df p5) (aJ rfl (a7 (a6 rfl (mz zs3 (ai m (aa (ar (vs:=[vi m]) Tryz.func91 (.tmp rfl .nil) ?_)))))))
 have e0:(m:Int)=(dW x):=by
   obtain⟨h1,h2⟩:=hinv
   rw[h2]
   unfold dW
   rw[show i=x.length by omega]
 exact⟨ri e0,bH.below⟩
theorem ig(w0:World)(g:(Int)×(List Pt))(g_v:Value)(hg_v:Ro w0 g_v g.2)(h:Int)(hh:0<=h/\h<2*(g.2.length:Int))(hlen:g.2.length<=1000000):
    Calls Tryz.prog 54 #[vg [vi g.1,g_v],vi h] w0 (λee w=>ee= .returned (vi (bv g h))/\cE w0.heap.size w0 w):=by
 refine au Tryz.func54 rfl nq ?_
 have bH:=aT.start w0
 have Rg:=hg_v.sl
 obtain⟨hh1,hh2⟩:=hh
 refine a7 (a6 rfl (bW rfl (bh c0 (is 1) (1,0) rfl rfl ?_)))
 intro g4 w1 b3 ch2 bx5
 replace bx5:Bx g4 (is 1) w1 b3 [vi g.1,g_v]:=bx5
 refine ai 0 (aa (a7 (a6 rfl (lx (a8 dY rfl rfl rfl rfl) (lx (ab bO rfl bx5 rfl) (mi h (lx (oU (m:=h) (n:=2) rfl rfl (by omega) (by omega) (by omega)) (mi h (lx (pv (m:=h) (n:=2) rfl rfl (by omega) (by omega)) ?_)))))))))
 replace Rg:=Rg.cn ch2
 refine lx (ad (v:=g_v) (i:=h/2) fm rfl rfl Rg rfl (by omega) (by omega)) (lx (b5 (i:=h%2) jC rfl rfl rfl (by omega) (by omega) (Nat.mul_one _)) (lx (bJ (v:=g_v) (i:=h/2) bY rfl Rg (by omega) (by omega) (show Int.toNat (h%2)<2 by omega) (gP _ (by omega) (by omega))) (ai (pI (gI g.2 (h/2)) (h%2)) (aa (ar (vs:=[vi (pI (gI g.2 (h/2)) (h%2))]) Tryz.func54 (.tmp rfl .nil) ?_)))))
 have e0:(pI (gI g.2 (h/2)) (h%2):Int)=(bv g h):=by
   rfl
 replace bH:=bH.cn ch2
 exact⟨(congrArg (a₁:=pI (gI g.2 (h/2)) (h%2)) (λ(z0:Int)=>Ending.returned (vi z0)) e0),bH.below⟩
end TL
