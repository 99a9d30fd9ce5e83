import Derived.Test.YtbpphaeianpdpaaPkTlP2
import Derived.Test.YtbpphaeianpdpaaProg
import Derived.Test.YtbpphaeianpdpaaPkTlAli
set_option linter.all false
set_option maxRecDepth 20000
namespace TL
open Go Go.Proofs
theorem j7:Try.f70.body.isNone=false:=rfl
theorem iU:(Try.f70.name== "runtime.NumGoroutine")=false:=by decide+kernel
end TL
