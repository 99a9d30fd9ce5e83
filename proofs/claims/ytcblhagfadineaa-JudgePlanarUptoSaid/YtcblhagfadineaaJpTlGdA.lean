import Derived.Test.YtcblhagfadineaaJpTlP4
import Derived.Test.YtcblhagfadineaaJpTlGenX
import Derived.Test.YtcblhagfadineaaJpTlGenY
import Derived.Test.YtcblhagfadineaaJpTlGenO
import Derived.Test.YtcblhagfadineaaProg
import Derived.Test.YtcblhagfadineaaJpTlAli
set_option linter.all false
set_option maxRecDepth 20000
namespace TL
open Go Go.Proofs
theorem ie(w0:World)(s:List Int)(s_v:Value)(hs_v:Ro w0 s_v s)(v:Int):
    Calls Try.prog 73 #[s_v,vi v] w0 (λee w=>ee= .returned (vb (decide (v∈s)))/\dd w0.heap.size w0 w):=by
 refine av Try.func73 rfl nq ?_
 have bH:=aX.start w0
 have Rs:=hs_v.sl
 refine aa (a8 rfl (ma (vb false) (ab (aa (a8 rfl (mv s_v (mi v (lo (aK (v:=vi (dy s v)) (aA (vals:=[s_v,vi v]) Try.func52 tk u4 rfl) (pc w0 s s_v (Rs).ro v) ?_)))))))))
 intro w1 hb2
 replace hb2:=ar hb2 c0
 refine lx (gh (m:=dy s v) (n:=0) rfl rfl) (ma (vb (decide (0<=(dy s v)))) (ab (au (vs:=[vb (decide (0<=(dy s v)))]) Try.func73 (.tmp rfl .nil) ?_)))
 have e0:(decide (0<=(dy s v)):Bool)=(decide (v∈s)):=by
   exact tu
 replace bH:=bH.cn hb2
 exact⟨(congrArg (a₁:=decide (0<=(dy s v))) (λ(z0:Bool)=>Ending.returned (vb z0)) e0),bH.below⟩
end TL
