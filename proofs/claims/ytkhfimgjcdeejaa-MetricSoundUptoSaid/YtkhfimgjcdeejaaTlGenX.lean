import Derived.Test.YtkhfimgjcdeejaaTlP3
import Derived.Test.YtkhfimgjcdeejaaTlGenA
import Derived.Test.YtkhfimgjcdeejaaTlGenQ
import Derived.Test.YtkhfimgjcdeejaaProg
import Derived.Test.YtkhfimgjcdeejaaTlAli
set_option linter.all false
set_option maxRecDepth 20000
namespace TL
open Go Go.Proofs
theorem rC(w0:World)(s:List Int)(s_v:Value)(hs_v:Ro w0 s_v s)(v:Int):
    Calls Try.prog 62 #[s_v,vi v] w0 (λee w=>ee= .returned (vi (iy s v))/\cW w0.heap.size w0 w):=by
 refine aI Try.func62 rfl nq ?_
 have bH:=bo.start w0
 have Rs:=hs_v.sl
 refine a6 (a5 rfl (ai 0 (a8 (a6 (a6 (a5 rfl (mv s_v ?_)))))))
 have len1:=(Rs).small
 refine lx (bE wP rfl Rs) (mi 0 (a8 (ao ?_)))
 refine bf (σ:=Nat×aW) (λ⟨k,gq⟩ f w=>bo w0 gq w/\f 0=s_v/\f 1=vi v/\f 7=vi (s.length:Int)/\f 8=vi ↑k/\Sl gq (is 0) w s_v s/\(k:Int)<=((s.length:Int):Int)/\(∀j:Nat,j<k->¬v=gI s ↑j)) (λ⟨k,gq⟩=>Int.toNat (((s.length:Int):Int)-(k:Int))) (0,c0) ?_ ?_
 · exact⟨bH,rfl,rfl,rfl,rfl,Rs,by omega,by intro j hj;omega⟩
 clear Rs bH
 rintro⟨k,g4⟩ f2 w3 ⟨bH,zs0,zs1,zs7,zs8,Rs,hle_k,hinv⟩ back2
 refine a6 (a5 rfl (lx (b6 (m:=↑k) (n:=(s.length:Int)) zs8 zs7) (a8 (a6 ?_))))
 by_cases p2:(k:Int)<(s.length:Int)
 ·
  refine ae rfl (dt p2) (am (a6 (ao (a6 (a5 rfl (mz zs8 (ai (k:Int) (a8 (a6 (a5 rfl (mz zs1 (mz zs0 ?_))))))))))))
  refine mi ↑k (lx (ab (v:=s_v) (i:=↑k) wP rfl rfl Rs rfl (by omega) (by omega)) (lx (fk (v:=s_v) (i:=↑k) ft rfl Rs (by omega) (by omega) (by decide) rfl) (lx (cu (m:=v) (n:=(gI s ↑k)) rfl rfl) (a8 ?_))))
  by_cases p4:v=(gI s ↑k)
  ·
   refine ae rfl (dt p4) (a6 (a5 rfl (mi ↑k (ai (k:Int) (a8 (av (vs:=[vi ↑k]) Try.func62 (.tmp rfl .nil) ?_))))))
   have e0:((k:Int):Int)=(iy s v):=by
     exact rr hinv ‹_› ‹_›
   exact⟨ri e0,bH.below⟩
  refine af rfl (df p4) (am (ak (a5 rfl (lx (aQ (m:=↑k) (n:=1) zs8 rfl (by omega)) (mi ((k:Int)+1) (a8 ?_))))))
  refine back2 (k+1,g4) _ _ ⟨bH,zs0,zs1,zs7,rfl,Rs,by omega,?_⟩ ?_
  · show∀j:Nat,j<(k+1)->¬v=gI s ↑j
    intro j hj
    by_cases e0:j=k
    · subst e0;assumption
    · exact hinv j (by omega)
  · show Int.toNat (((s.length:Int):Int)-((k+1):Int))<Int.toNat (((s.length:Int):Int)-(k:Int))
    omega
 refine af rfl (df p2) (aO rfl (a6 (a5 rfl (ai (-1) (a8 (av (vs:=[vi (-1)]) Try.func62 (.tmp rfl .nil) ?_))))))
 have e0:(-1:Int)=(iy s v):=by
   exact uC hinv ‹_›
 exact⟨ri e0,bH.below⟩
end TL
