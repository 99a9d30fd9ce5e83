import Derived.Test.YtkhfimgjcdeejaaTlP2
import Derived.Test.YtkhfimgjcdeejaaTlGenA
import Derived.Test.YtkhfimgjcdeejaaTlGenQ
import Derived.Test.YtkhfimgjcdeejaaProg
import Derived.Test.YtkhfimgjcdeejaaTlAli
set_option linter.all false
set_option maxRecDepth 20000
namespace TL
open Go Go.Proofs
theorem nV(w0:World)(s:List Int)(s_v:Value)(hs_v:Ro w0 s_v s)(v:Int):
    Calls Try.prog 62 #[s_v,vi v] w0 (λee w=>ee= .returned (vi (fQ s v))/\cG w0.heap.size w0 w):=by
 refine aK Try.func62 rfl nq ?_
 have bH:=bu.start w0
 have Rs:=hs_v.sl
 refine a8 (a7 rfl (ai 0 (ab (a8 (a8 (a7 rfl (mv s_v ?_)))))))
 have len1:=(Rs).small
 refine lx (bO sn rfl Rs) (mi 0 (ab (aC ?_)))
 refine bF (σ:=Nat×aV) (λ⟨k,gq⟩ f w=>bu w0 gq w/\f 0=s_v/\f 1=vi v/\f 7=vi (s.length:Int)/\f 8=vi ↑k/\Sl gq (is 0) w s_v s/\(k:Int)<=((s.length:Int):Int)/\(∀j:Nat,j<k->¬v=gI s ↑j)) (λ⟨k,gq⟩=>Int.toNat (((s.length:Int):Int)-(k:Int))) (0,c0) ?_ ?_
 · exact⟨bH,rfl,rfl,rfl,rfl,Rs,by omega,by intro j hj;omega⟩
 clear Rs bH
 rintro⟨k,g4⟩ f2 w3 ⟨bH,zs0,zs1,zs7,zs8,Rs,hle_k,hinv⟩ back2
 refine a8 (a7 rfl (lx (bc (m:=↑k) (n:=(s.length:Int)) zs8 zs7) (ab (a8 ?_))))
 by_cases p2:(k:Int)<(s.length:Int)
 ·
  refine ag rfl (dt p2) (au (a8 (aC (a8 (a7 rfl (mz zs8 (ai (k:Int) (ab (a8 (a7 rfl (mz zs1 (mz zs0 ?_))))))))))))
  refine mi ↑k (lx (af (v:=s_v) (i:=↑k) sn rfl rfl Rs rfl (by omega) (by omega)) (lx (e6 (v:=s_v) (i:=↑k) dU rfl Rs (by omega) (by omega) (by decide) rfl) (lx (d7 (m:=v) (n:=(gI s ↑k)) rfl rfl) (ab ?_))))
  by_cases p4:v=(gI s ↑k)
  ·
   refine ag rfl (dt p4) (a8 (a7 rfl (mi ↑k (ai (k:Int) (ab (aw (vs:=[vi ↑k]) Try.func62 (.tmp rfl .nil) ?_))))))
   have e0:((k:Int):Int)=(fQ s v):=by
     exact nK hinv ‹_› ‹_›
   exact⟨ri e0,bH.below⟩
  refine ah rfl (df p4) (au (ap (a7 rfl (lx (ba (m:=↑k) (n:=1) zs8 rfl (by omega)) (mi ((k:Int)+1) (ab ?_))))))
  refine back2 (k+1,g4) _ _ ⟨bH,zs0,zs1,zs7,rfl,Rs,by omega,?_⟩ ?_
  · show∀j:Nat,j<(k+1)->¬v=gI s ↑j
    intro j hj
    by_cases e0:j=k
    · subst e0;assumption
    · exact hinv j (by omega)
  · show Int.toNat (((s.length:Int):Int)-((k+1):Int))<Int.toNat (((s.length:Int):Int)-(k:Int))
    omega
 refine ah rfl (df p2) (aQ rfl (a8 (a7 rfl (ai (-1) (ab (aw (vs:=[vi (-1)]) Try.func62 (.tmp rfl .nil) ?_))))))
 have e0:(-1:Int)=(fQ s v):=by
   exact oI hinv ‹_›
 exact⟨ri e0,bH.below⟩
end TL
