import Derived.Test.YtbpphaeianpdpaaPmTlP2
import Derived.Test.YtbpphaeianpdpaaProg
import Derived.Test.YtbpphaeianpdpaaPmTlAli
set_option linter.all false
set_option maxRecDepth 20000
namespace TL
open Go Go.Proofs
theorem kL:Try.f70.body.isNone=false:=rfl
theorem kP:(Try.f70.name== "runtime.NumGoroutine")=false:=by decide+kernel
end TL
