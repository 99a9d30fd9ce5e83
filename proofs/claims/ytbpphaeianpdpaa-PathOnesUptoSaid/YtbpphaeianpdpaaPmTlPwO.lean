import Derived.Test.YtbpphaeianpdpaaPmTlP2
import Derived.Test.YtbpphaeianpdpaaPmTlGmA
import Derived.Test.YtbpphaeianpdpaaPmTlGenA
import Derived.Test.YtbpphaeianpdpaaProg
import Derived.Test.YtbpphaeianpdpaaPmTlAli
set_option linter.all false
set_option maxRecDepth 20000
namespace TL
open Go Go.Proofs
theorem dM(w0:World)(of:List Int)(of_v:Value)(γ0:ay)(o_of_v:Ow γ0 (is 1) (is 1) w0 of_v of)(v:Int)(N:Int)(cK:List Int)(hu:pK N of cK)(h0:0<=v)(h1:v<N):
    Calls Try.prog 49 #[of_v,vi v] w0 (λee w=>∃xx:Int×List Int,ee= .returned ((λx:Int×List Int=>vi x.1) xx)/\∃γ1,bc (is 1) γ0 w0 γ1 w/\Ow γ1 (is 1) (is 1) w of_v xx.2/\(λr l=>jt N of l cK v r) xx.1 xx.2):=by
 refine am Try.func49 rfl nq ?_
 have bH:=pJ.start (γ0:=γ0) w0
 obtain⟨rho,hu⟩:=hu
 refine a8 (a7 rfl (ai 0 (aa (a8 (aq ?_)))))
 refine ba (σ:=Int×(List Int)×ay) (λ⟨vR,of2,gq⟩ f w=>pJ γ0 w0 gq w/\f 0=of_v/\f 1=vi vR/\Ow gq (is 1) (is 1) w of_v of2/\(m0 N of of2 cK rho v vR)) (λ⟨vR,of2,gq⟩=>rho vR) (v,of,γ0) ?_ ?_
 · exact⟨bH,rfl,rfl,o_of_v,by exact m0.start hu h0 h1⟩
 clear o_of_v bH
 rintro⟨vR,of2,g3⟩ f1 w2 ⟨bH,zs0,zs1,o_of_v,hri⟩ back1
 have hr1:=hri.lo
 have hr2:=hri.hi
 have hr3:=hri.rg
 have hr4:=hri.u.lo
 refine a8 (a8 (a7 rfl (mz zs0 (mz zs1 (lx (ab (v:=of_v) (i:=vR) bQ rfl rfl o_of_v.flat rfl (by omega) (by omega)) (lx (aw (v:=of_v) (i:=vR) ax rfl o_of_v.flat (by omega) (by omega) (by decide) rfl) (mz zs1 (lx (cY (m:=(gI of2 vR)) (n:=vR) rfl rfl) (aa ?_)))))))))
 by_cases p1:(gI of2 vR)=vR
 ·
  refine aj rfl (congrArg Bool.not (dt p1)) (aO rfl (a8 (a7 rfl (mz zs1 (ai vR (aa (ar (vs:=[vi vR]) Try.func49 (.tmp rfl .nil) ?_)))))))
  exact⟨(vR,of2),rfl,_,bH,o_of_v,(by exact hri.fin ‹_›)⟩
 refine ah rfl (congrArg Bool.not (df p1)) (ap (aq (a8 (a7 rfl (mz zs0 (mz zs1 (mz zs0 (mz zs0 (mz zs1 (lx (ab (v:=of_v) (i:=vR) bQ rfl rfl o_of_v.flat rfl (by omega) (by omega)) ?_))))))))))
 refine lx (aw (v:=of_v) (i:=vR) ax rfl o_of_v.flat (by omega) (by omega) (by decide) rfl) (lx (ab (v:=of_v) (i:=(gI of2 vR)) bQ rfl rfl o_of_v.flat rfl (by omega) (by omega)) (lx (aw (v:=of_v) (i:=(gI of2 vR)) ax rfl o_of_v.flat (by omega) (by omega) (by decide) rfl) (lx (ab (v:=of_v) (i:=vR) bQ rfl rfl o_of_v.flat rfl (by omega) (by omega)) (lo (aJ (i:=vR) (gI of2 (gI of2 vR)) ax rfl rfl o_of_v (by omega) (by omega) rfl ?_)))))
 intro w4 ch5 bx6
 clear o_of_v
 refine aa (a7 rfl (mz zs0 (mz zs1 (lx (ab (v:=of_v) (i:=vR) bQ rfl rfl bx6.flat rfl (by omega) (by(simp only[List.length_set,List.length_append,List.length_cons,List.length_nil,List.length_replicate,List.length_map,List.length_take,List.length_drop];omega))) (lx (aw (v:=of_v) (i:=vR) ax rfl bx6.flat (by omega) (by(simp only[List.length_set,List.length_append,List.length_cons,List.length_nil,List.length_replicate,List.length_map,List.length_take,List.length_drop];omega)) (by decide) rfl) (ai (gI (List.set of2 (Int.toNat vR) (gI of2 (gI of2 vR))) vR) (aa (au ?_))))))))
 refine back1 ((gI (List.set of2 (Int.toNat vR) (gI of2 (gI of2 vR))) vR),(List.set of2 (Int.toNat vR) (gI of2 (gI of2 vR))),g3) _ _ ⟨bH.chgC ch5 (ed rfl),zs0,rfl,bx6,?_⟩ ?_
 · show m0 N of (List.set of2 (Int.toNat vR) (gI of2 (gI of2 vR))) cK rho v (gI (List.set of2 (Int.toNat vR) (gI of2 (gI of2 vR))) vR)
   exact(hri.next ‹_›).1
 · show rho (gI (List.set of2 (Int.toNat vR) (gI of2 (gI of2 vR))) vR)<rho vR
   exact(hri.next ‹_›).2
end TL
