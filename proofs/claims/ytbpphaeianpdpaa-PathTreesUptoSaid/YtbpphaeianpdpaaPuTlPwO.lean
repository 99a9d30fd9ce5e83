import Derived.Test.YtbpphaeianpdpaaPuTlP2
import Derived.Test.YtbpphaeianpdpaaPuTlGmA
import Derived.Test.YtbpphaeianpdpaaPuTlGenA
import Derived.Test.YtbpphaeianpdpaaProg
import Derived.Test.YtbpphaeianpdpaaPuTlAli
set_option linter.all false
set_option maxRecDepth 20000
namespace TL
open Go Go.Proofs
theorem dJ(w0:World)(of:List Int)(of_v:Value)(γ0:aw)(o_of_v:Ow γ0 (is 1) (is 1) w0 of_v of)(v:Int)(N:Int)(cK:List Int)(hu:pp N of cK)(h0:0<=v)(h1:v<N):
    Calls Try.prog 49 #[of_v,vi v] w0 (λee w=>∃xx:Int×List Int,ee= .returned ((λx:Int×List Int=>vi x.1) xx)/\∃γ1,aZ (is 1) γ0 w0 γ1 w/\Ow γ1 (is 1) (is 1) w of_v xx.2/\(λr l=>ja N of l cK v r) xx.1 xx.2):=by
 refine ap Try.func49 rfl nq ?_
 have bH:=pn.start (γ0:=γ0) w0
 obtain⟨rho,hu⟩:=hu
 refine a7 (a6 rfl (ai 0 (a8 (a7 (ao ?_)))))
 refine aR (σ:=Int×(List Int)×aw) (λ⟨vR,of2,gq⟩ f w=>pn γ0 w0 gq w/\f 0=of_v/\f 1=vi vR/\Ow gq (is 1) (is 1) w of_v of2/\(lE N of of2 cK rho v vR)) (λ⟨vR,of2,gq⟩=>rho vR) (v,of,γ0) ?_ ?_
 · exact⟨bH,rfl,rfl,o_of_v,by exact lE.start hu h0 h1⟩
 clear o_of_v bH
 rintro⟨vR,of2,g3⟩ f1 w2 ⟨bH,zs0,zs1,o_of_v,hri⟩ back1
 have hr1:=hri.lo
 have hr2:=hri.hi
 have hr3:=hri.rg
 have hr4:=hri.u.lo
 refine a7 (a7 (a6 rfl (mz zs0 (mz zs1 (lx (aa (v:=of_v) (i:=vR) bI rfl rfl o_of_v.flat rfl (by omega) (by omega)) (lx (au (v:=of_v) (i:=vR) av rfl o_of_v.flat (by omega) (by omega) (by decide) rfl) (mz zs1 (lx (cM (m:=(gI of2 vR)) (n:=vR) rfl rfl) (a8 ?_)))))))))
 by_cases p1:(gI of2 vR)=vR
 ·
  refine af rfl (congrArg Bool.not (dt p1)) (aF rfl (a7 (a6 rfl (mz zs1 (ai vR (a8 (aq (vs:=[vi vR]) Try.func49 (.tmp rfl .nil) ?_)))))))
  exact⟨(vR,of2),rfl,_,bH,o_of_v,(by exact hri.fin ‹_›)⟩
 refine ae rfl (congrArg Bool.not (df p1)) (al (ao (a7 (a6 rfl (mz zs0 (mz zs1 (mz zs0 (mz zs0 (mz zs1 (lx (aa (v:=of_v) (i:=vR) bI rfl rfl o_of_v.flat rfl (by omega) (by omega)) ?_))))))))))
 refine lx (au (v:=of_v) (i:=vR) av rfl o_of_v.flat (by omega) (by omega) (by decide) rfl) (lx (aa (v:=of_v) (i:=(gI of2 vR)) bI rfl rfl o_of_v.flat rfl (by omega) (by omega)) (lx (au (v:=of_v) (i:=(gI of2 vR)) av rfl o_of_v.flat (by omega) (by omega) (by decide) rfl) (lx (aa (v:=of_v) (i:=vR) bI rfl rfl o_of_v.flat rfl (by omega) (by omega)) (lo (aJ (i:=vR) (gI of2 (gI of2 vR)) av rfl rfl o_of_v (by omega) (by omega) rfl ?_)))))
 intro w4 ch5 bx6
 clear o_of_v
 refine a8 (a6 rfl (mz zs0 (mz zs1 (lx (aa (v:=of_v) (i:=vR) bI rfl rfl bx6.flat rfl (by omega) (by(simp only[List.length_set,List.length_append,List.length_cons,List.length_nil,List.length_replicate,List.length_map,List.length_take,List.length_drop];omega))) (lx (au (v:=of_v) (i:=vR) av rfl bx6.flat (by omega) (by(simp only[List.length_set,List.length_append,List.length_cons,List.length_nil,List.length_replicate,List.length_map,List.length_take,List.length_drop];omega)) (by decide) rfl) (ai (gI (List.set of2 (Int.toNat vR) (gI of2 (gI of2 vR))) vR) (a8 (ar ?_))))))))
 refine back1 ((gI (List.set of2 (Int.toNat vR) (gI of2 (gI of2 vR))) vR),(List.set of2 (Int.toNat vR) (gI of2 (gI of2 vR))),g3) _ _ ⟨bH.chgC ch5 (eO rfl),zs0,rfl,bx6,?_⟩ ?_
 · show lE N of (List.set of2 (Int.toNat vR) (gI of2 (gI of2 vR))) cK rho v (gI (List.set of2 (Int.toNat vR) (gI of2 (gI of2 vR))) vR)
   exact(hri.next ‹_›).1
 · show rho (gI (List.set of2 (Int.toNat vR) (gI of2 (gI of2 vR))) vR)<rho vR
   exact(hri.next ‹_›).2
end TL
