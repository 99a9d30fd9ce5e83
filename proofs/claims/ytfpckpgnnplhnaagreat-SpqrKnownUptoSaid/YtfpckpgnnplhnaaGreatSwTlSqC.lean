import Derived.Test.YtfpckpgnnplhnaaGreatSwTlGenA
import Derived.Test.YtfpckpgnnplhnaaGreatSwTlAli
set_option linter.all false
set_option maxRecDepth 20000
namespace TL
open Go Go.Proofs
theorem iu:Tryz.f31.body.isNone=false:=rfl
theorem iB:(Tryz.f31.name== "runtime.NumGoroutine")=false:=by decide+kernel
theorem iC(w0:World)(s:List Int)(s_v:Value)(hs_v:Ro w0 s_v s)(v:Int):
    Calls Tryz.prog 31 #[s_v,vi v] w0 (λee w=>ee= .returned (vi (cH s v))/\eK w0.heap.size w0 w):=by
 refine ah Tryz.func31 rfl nq ?_
 have bH:=aW.start w0
 have Rs:=hs_v.sl
 refine a7 (a6 rfl (ai 0 (ab (a7 (a7 (a6 rfl (mv s_v ?_)))))))
 have len1:=(Rs).small
 refine lx (bG bF rfl Rs) (mi 0 (ab (aj ?_)))
 refine aR (σ:=Nat×ax) (λ⟨k,gq⟩ f w=>aW w0 gq w/\f 0=s_v/\f 1=vi v/\f 7=vi (s.length:Int)/\f 8=vi ↑k/\Sl gq (is 0) w s_v s/\(k:Int)<=((s.length:Int):Int)/\(∀j:Nat,j<k->¬v=gI s ↑j)) (λ⟨k,gq⟩=>Int.toNat (((s.length:Int):Int)-(k:Int))) (0,c0) ?_ ?_
 · exact⟨bH,rfl,rfl,rfl,rfl,Rs,by omega,by intro j hj;omega⟩
 rintro⟨k,g4⟩ f2 w3 ⟨bH,zs0,zs1,zs7,zs8,Rs,hle_k,hinv⟩ back2
 refine a7 (a6 rfl (lx (br (m:=↑k) (n:=(s.length:Int)) zs8 zs7) (ab (a7 ?_))))
 by_cases p2:(k:Int)<(s.length:Int)
 ·
  refine ag rfl (dt p2) (am (a7 (aj (a7 (a6 rfl (mz zs8 (ai (k:Int) (ab (a7 (a6 rfl (mz zs1 (mz zs0 ?_))))))))))))
  refine mi ↑k (lx (ad (v:=s_v) (i:=↑k) bF rfl rfl Rs rfl (by omega) (by omega)) (lx (aw (v:=s_v) (i:=↑k) aD rfl Rs (by omega) (by omega) (by decide) rfl) (lx (dd (m:=v) (n:=(gI s ↑k)) rfl rfl) (ab ?_))))
  by_cases p4:v=(gI s ↑k)
  ·
   refine ag rfl (dt p4) (a7 (a6 rfl (mi ↑k (ai (k:Int) (ab (az (vs:=[vi ↑k]) Tryz.func31 (.tmp rfl .nil) ?_))))))
   have e0:((k:Int):Int)=(cH s v):=by
     exact yU hinv ‹_› ‹_›
   exact⟨ri e0,bH.below⟩
  refine af rfl (df p4) (am (ak (a6 rfl (lx (aJ (m:=↑k) (n:=1) zs8 rfl (by omega)) (mi ((k:Int)+1) (ab ?_))))))
  refine back2 (k+1,g4) _ _ ⟨bH,zs0,zs1,zs7,rfl,Rs,by omega,?_⟩ ?_
  · show∀j:Nat,j<(k+1)->¬v=gI s ↑j
    intro j hj
    by_cases e0:j=k
    · subst e0;assumption
    · exact hinv j (by omega)
  · show Int.toNat (_-_)<Int.toNat (_-_)
    omega
 refine af rfl (df p2) (aF rfl (a7 (a6 rfl (ai (-1) (ab (az (vs:=[vi (-1)]) Tryz.func31 (.tmp rfl .nil) ?_))))))
 have e0:(-1:Int)=(cH s v):=by
   exact Bo hinv ‹_›
 exact⟨ri e0,bH.below⟩
theorem qU(w0:World)(s:List Int)(s_v:Value)(hs_v:Ro w0 s_v s)(v:Int):
    Calls Tryz.prog 69 #[s_v,vi v] w0 (λee w=>ee= .returned (vb (decide (v∈s)))/\eK w0.heap.size w0 w):=by
 refine ah Tryz.func69 rfl nq ?_
 have bH:=aW.start w0
 have Rs:=hs_v.sl
 refine a7 (a6 rfl (ma (vb false) (ab (a7 (a6 rfl (mv s_v (mi v (lo (bI (v:=vi (cH s v)) (aB (vals:=[s_v,vi v]) Tryz.func31 iu iB rfl) (iC w0 s s_v (Rs).ro v) ?_)))))))))
 intro w1 hb2
 replace hb2:=aG hb2 c0
 refine lx (eL (m:=cH s v) (n:=0) rfl rfl) (ma (vb (decide (0<=(cH s v)))) (ab (az (vs:=[vb (decide (0<=(cH s v)))]) Tryz.func69 (.tmp rfl .nil) ?_)))
 have e0:(decide (0<=(cH s v)):Bool)=(decide (v∈s)):=by
   exact AJ
 exact⟨(congrArg (a₁:=decide (0<=(cH s v))) (λ(z0:Bool)=>Ending.returned (vb z0)) e0),bH.t.below⟩
end TL
