import Derived.Test.YtbpphaeianpdpaaTlP2
import Derived.Test.YtbpphaeianpdpaaProg
import Derived.Test.YtbpphaeianpdpaaTlAli
set_option linter.all false
set_option maxRecDepth 20000
namespace TL
open Go Go.Proofs
theorem j8:Try.f70.body.isNone=false:=rfl
theorem iL:(Try.f70.name== "runtime.NumGoroutine")=false:=by decide+kernel
end TL
