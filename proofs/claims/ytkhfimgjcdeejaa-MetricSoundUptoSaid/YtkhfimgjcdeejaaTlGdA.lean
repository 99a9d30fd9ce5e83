import Derived.Test.YtkhfimgjcdeejaaTlP3
import Derived.Test.YtkhfimgjcdeejaaTlGenX
import Derived.Test.YtkhfimgjcdeejaaTlGenY
import Derived.Test.YtkhfimgjcdeejaaTlGenO
import Derived.Test.YtkhfimgjcdeejaaProg
import Derived.Test.YtkhfimgjcdeejaaTlAli
set_option linter.all false
set_option maxRecDepth 20000
namespace TL
open Go Go.Proofs
theorem tM:Try.f62.body.isNone=false:=rfl
theorem t6:(Try.f62.name== "runtime.NumGoroutine")=false:=by decide+kernel
theorem fG(w0:World)(s:List Int)(s_v:Value)(hs_v:Ro w0 s_v s)(v:Int):
    Calls Try.prog 51 #[s_v,vi v] w0 (λee w=>ee= .returned (vb (decide (v∈s)))/\cW w0.heap.size w0 w):=by
 refine aI Try.func51 rfl nq ?_
 have bH:=bo.start w0
 have Rs:=hs_v.sl
 refine a6 (a5 rfl (ma (vb false) (a8 (a6 (a5 rfl (mv s_v (mi v (lo (aN (v:=vi (iy s v)) (az (vals:=[s_v,vi v]) Try.func62 tM t6 rfl) (rC w0 s s_v (Rs).ro v) ?_)))))))))
 intro w1 hb2
 replace hb2:=aj hb2 c0
 refine lx (fW (m:=iy s v) (n:=0) rfl rfl) (ma (vb (decide (0<=(iy s v)))) (a8 (av (vs:=[vb (decide (0<=(iy s v)))]) Try.func51 (.tmp rfl .nil) ?_)))
 have e0:(decide (0<=(iy s v)):Bool)=(decide (v∈s)):=by
   exact rf
 replace bH:=bH.cn hb2
 exact⟨(congrArg (a₁:=decide (0<=(iy s v))) (λ(z0:Bool)=>Ending.returned (vb z0)) e0),bH.below⟩
end TL
