import Derived.Test.YtbpphaeianpdpaaPnTlP2
import Derived.Test.YtbpphaeianpdpaaProg
import Derived.Test.YtbpphaeianpdpaaPnTlAli
set_option linter.all false
set_option maxRecDepth 20000
namespace TL
open Go Go.Proofs
theorem jB:Try.f70.body.isNone=false:=rfl
theorem jq:(Try.f70.name== "runtime.NumGoroutine")=false:=by decide+kernel
end TL
