import Derived.Test.YtbadiajeohbpcaaGreatTlP3
import Derived.Test.YtbadiajeohbpcaaGreatTlGenX
import Derived.Test.YtbadiajeohbpcaaGreatTlGenY
import Derived.Test.YtbadiajeohbpcaaGreatTlGenO
import Derived.Test.YtbadiajeohbpcaaGreatProg
import Derived.Test.YtbadiajeohbpcaaGreatTlAli
set_option linter.all false
set_option maxRecDepth 20000
namespace TL
open Go Go.Proofs
theorem io(w0:World)(s:List Int)(s_v:Value)(hs_v:Ro w0 s_v s)(v:Int):
    Calls Tryz.prog 116 #[s_v,vi v] w0 (λee w=>ee= .returned (vb (decide (v∈s)))/\cE w0.heap.size w0 w):=by
 refine au Tryz.func116 rfl nq ?_
 have bH:=aT.start w0
 have Rs:=hs_v.sl
 refine a7 (a6 rfl (ma (vb false) (aa (a7 (a6 rfl (mv s_v (mi v (lo (aO (v:=vi (dK s v)) (aA (vals:=[s_v,vi v]) Tryz.func90 uu uK rfl) (ol w0 s s_v (Rs).ro v) ?_)))))))))
 intro w1 hb2
 replace hb2:=ao hb2 c0
 refine lx (fN (m:=dK s v) (n:=0) rfl rfl) (ma (vb (decide (0<=(dK s v)))) (aa (ar (vs:=[vb (decide (0<=(dK s v)))]) Tryz.func116 (.tmp rfl .nil) ?_)))
 have e0:(decide (0<=(dK s v)):Bool)=(decide (v∈s)):=by
   exact uF
 replace bH:=bH.cn hb2
 exact⟨(congrArg (a₁:=decide (0<=(dK s v))) (λ(z0:Bool)=>Ending.returned (vb z0)) e0),bH.below⟩
end TL
