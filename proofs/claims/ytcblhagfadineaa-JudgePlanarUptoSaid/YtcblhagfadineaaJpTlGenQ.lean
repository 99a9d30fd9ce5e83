import Derived.Test.YtcblhagfadineaaJpTlP4
import Derived.Test.YtcblhagfadineaaJpTlGenA
import Derived.Test.YtcblhagfadineaaProg
import Derived.Test.YtcblhagfadineaaJpTlAli
set_option linter.all false
set_option maxRecDepth 20000
namespace TL
open Go Go.Proofs
theorem zm(w0:World)(x:List Int)(x_v:Value)(hx_v:Ro w0 x_v x)(hx:0<x.length):
    Calls Try.prog 53 #[x_v] w0 (λee w=>ee= .returned (vi (dI x))/\dd w0.heap.size w0 w):=by
 refine av Try.func53 rfl nq ?_
 have bH:=aX.start w0
 have Rx:=hx_v.sl
 refine aa (a8 rfl (ai 0 (ab (aa (aa (a8 rfl (mv x_v ?_)))))))
 have len1:=(Rx).small
 refine lx (aT dl rfl Rx) (lx (b6 (m:=(x.length:Int)) (n:=1) rfl rfl) (ab ?_))
 by_cases p1:(x.length:Int)<1
 ·
  omega
 refine aj rfl (df p1) (am (aa (a8 rfl (mv x_v (lx (al (v:=x_v) (i:=0) dl rfl rfl Rx rfl (by omega) (by omega)) (lx (br (v:=x_v) (i:=0) aI rfl Rx (by omega) (by omega) (by decide) rfl) (ai (gI x 0) (ab (aa (aa (a8 rfl (ai 1 (ab ?_)))))))))))))
 refine aq ?_
 refine aQ (σ:=Int×Nat×aH) (λ⟨m,i,gq⟩ f w=>aX w0 gq w/\f 0=x_v/\f 3=vi m/\f 4=vi ↑i/\Sl gq (is 0) w x_v x/\(i:Int)<=((x.length:Int):Int)/\(1<=i/\m=oo x i)) (λ⟨m,i,gq⟩=>Int.toNat (((x.length:Int):Int)-(i:Int))) ((gI x 0),1,c0) ?_ ?_
 · exact⟨bH,rfl,rfl,rfl,Rx,by omega,by exact⟨Nat.le_refl _,by simp[oo]⟩⟩
 clear Rx bH
 rintro⟨m,i,g4⟩ f2 w3 ⟨bH,zs0,zs3,zs4,Rx,hle_i,hinv⟩ back5
 refine aa (aa (a8 rfl (mz zs4 (mz zs0 (lx (aT dl rfl Rx) (lx (b6 (m:=↑i) (n:=(x.length:Int)) rfl rfl) (ab ?_)))))))
 by_cases p5:(i:Int)<(x.length:Int)
 ·
  refine ag rfl (dt p5) (am (aa (aq (a8 rfl (mz zs3 (mz zs0 (mz zs4 (lx (al (v:=x_v) (i:=↑i) dl rfl rfl Rx rfl (by omega) (by omega)) (lx (br (v:=x_v) (i:=↑i) aI rfl Rx (by omega) (by omega) (by decide) rfl) ?_)))))))))
  refine lw (vi (min m (gI x ↑i))) (oz rfl rfl) (ai (min m (gI x ↑i)) (ab (ao (a8 rfl (mz zs4 (lx (aP (m:=↑i) (n:=1) rfl rfl (by omega)) (ai ((i:Int)+1) (ab ?_))))))))
  refine back5 (min m (gI x ↑i),i+1,g4) _ _ ⟨bH,zs0,rfl,rfl,Rx,by omega,?_⟩ ?_
  · show 1<=(i+1)/\(min m (gI x ↑i))=oo x (i+1)
    obtain⟨h1,h2⟩:=hinv
    exact⟨by omega,by rw[h2,sj h1 ‹_›]⟩
  · show Int.toNat (((x.length:Int):Int)-((i+1):Int))<Int.toNat (((x.length:Int):Int)-(i:Int))
    omega
 refine aj rfl (df p5) (aM rfl (aa (a8 rfl (mz zs3 (ai m (ab (au (vs:=[vi m]) Try.func53 (.tmp rfl .nil) ?_)))))))
 have e0:(m:Int)=(dI x):=by
   obtain⟨h1,h2⟩:=hinv
   rw[h2]
   unfold dI
   rw[show i=x.length by omega]
 exact⟨ri e0,bH.below⟩
theorem iD(w0:World)(g:(Int)×(List Pt))(g_v:Value)(hg_v:Ro w0 g_v g.2)(h:Int)(hh:0<=h/\h<2*(g.2.length:Int))(hlen:g.2.length<=1000000):
    Calls Try.prog 25 #[vg [vi g.1,g_v],vi h] w0 (λee w=>ee= .returned (vi (aL g h))/\dd w0.heap.size w0 w):=by
 refine av Try.func25 rfl nq ?_
 have bH:=aX.start w0
 have Rg:=hg_v.sl
 obtain⟨hh1,hh2⟩:=hh
 refine aa (a8 rfl (cj rfl (bj c0 (is 1) (1,0) rfl rfl ?_)))
 intro g4 w1 b3 ch2 bx5
 replace bx5:Bx g4 (is 1) w1 b3 [vi g.1,g_v]:=bx5
 refine ai 0 (ab (aa (a8 rfl (lx (ad fV rfl rfl rfl rfl) (lx (af cw rfl bx5 rfl) (mi h (lx (r5 (m:=h) (n:=2) rfl rfl (by omega) (by omega) (by omega)) (mi h (lx (my (m:=h) (n:=2) rfl rfl (by omega) (by omega)) ?_)))))))))
 replace Rg:=Rg.cn ch2
 refine lx (al (v:=g_v) (i:=h/2) jQ rfl rfl Rg rfl (by omega) (by omega)) (lx (cN (i:=h%2) m9 rfl rfl rfl (by omega) (by omega) (Nat.mul_one _)) (lx (ei (v:=g_v) (i:=h/2) aI rfl Rg (by omega) (by omega) (show Int.toNat (h%2)<2 by omega) (lM _ (by omega) (by omega))) (ai (pI (gI g.2 (h/2)) (h%2)) (ab (au (vs:=[vi (pI (gI g.2 (h/2)) (h%2))]) Try.func25 (.tmp rfl .nil) ?_)))))
 have e0:(pI (gI g.2 (h/2)) (h%2):Int)=(aL g h):=by
   rfl
 replace bH:=bH.cn ch2
 exact⟨(congrArg (a₁:=pI (gI g.2 (h/2)) (h%2)) (λ(z0:Int)=>Ending.returned (vi z0)) e0),bH.below⟩
end TL
