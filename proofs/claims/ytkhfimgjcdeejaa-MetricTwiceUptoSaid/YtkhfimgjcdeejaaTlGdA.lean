import Derived.Test.YtkhfimgjcdeejaaTlP2
import Derived.Test.YtkhfimgjcdeejaaTlGenX
import Derived.Test.YtkhfimgjcdeejaaTlGenY
import Derived.Test.YtkhfimgjcdeejaaTlGenO
import Derived.Test.YtkhfimgjcdeejaaProg
import Derived.Test.YtkhfimgjcdeejaaTlAli
set_option linter.all false
set_option maxRecDepth 20000
namespace TL
open Go Go.Proofs
theorem pb:Try.f62.body.isNone=false:=rfl
theorem pJ:(Try.f62.name== "runtime.NumGoroutine")=false:=by decide+kernel
theorem eh(w0:World)(s:List Int)(s_v:Value)(hs_v:Ro w0 s_v s)(v:Int):
    Calls Try.prog 51 #[s_v,vi v] w0 (λee w=>ee= .returned (vb (decide (v∈s)))/\cG w0.heap.size w0 w):=by
 refine aK Try.func51 rfl nq ?_
 have bH:=bu.start w0
 have Rs:=hs_v.sl
 refine a8 (a7 rfl (ma (vb false) (ab (a8 (a7 rfl (mv s_v (mi v (lo (aP (v:=vi (fQ s v)) (aG (vals:=[s_v,vi v]) Try.func62 pb pJ rfl) (nV w0 s s_v (Rs).ro v) ?_)))))))))
 intro w1 hb2
 replace hb2:=am hb2 c0
 refine lx (eL (m:=fQ s v) (n:=0) rfl rfl) (ma (vb (decide (0<=(fQ s v)))) (ab (aw (vs:=[vb (decide (0<=(fQ s v)))]) Try.func51 (.tmp rfl .nil) ?_)))
 have e0:(decide (0<=(fQ s v)):Bool)=(decide (v∈s)):=by
   exact nY
 replace bH:=bH.cn hb2
 exact⟨(congrArg (a₁:=decide (0<=(fQ s v))) (λ(z0:Bool)=>Ending.returned (vb z0)) e0),bH.below⟩
end TL
