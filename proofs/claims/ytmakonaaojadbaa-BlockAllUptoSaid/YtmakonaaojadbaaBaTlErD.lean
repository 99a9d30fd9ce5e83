import Derived.Test.YtmakonaaojadbaaBaTlP4
import Derived.Test.YtmakonaaojadbaaBaTlGmA
import Derived.Test.YtmakonaaojadbaaBaTlGenA
import Derived.Test.YtmakonaaojadbaaProg
import Derived.Test.YtmakonaaojadbaaBaTlAli
set_option linter.all false
set_option maxRecDepth 20000
namespace TL
open Go Go.Proofs
theorem mn:Try.f19.body.isNone=false:=rfl
theorem mc:(Try.f19.name== "runtime.NumGoroutine")=false:=by decide+kernel
theorem iF(w0:World)(n:Int)(all:Int)(hn:0<=n/\n<=1099511627776):
    Calls Try.prog 46 #[vi n,vi all] w0 (λee w=>ee= .returned (vi (min all (n+2000)))/\dT w0.heap.size w0 w):=by
 refine aC Try.func46 rfl nq ?_
 have bH:=bv.start w0
 obtain⟨hn1,hn2⟩:=hn
 refine ab (a8 rfl (ai 0 (ag (ab (a8 rfl (mi all (mi n (lx (aG (m:=n) (n:=2000) rfl rfl (by omega)) (lw (vi (min all (n+2000))) (ls rfl rfl) (ai (min all (n+2000)) (ag (aQ (vs:=[vi (min all (n+2000))]) Try.func46 (.tmp rfl .nil) ?_))))))))))))
 have e0:(min all (n+2000):Int)=(min all (n+2000)):=by
   rfl
 exact⟨ri e0,bH.below⟩
end TL
