import Derived.Test.YtbpphaeianpdpaaPqTlP2
import Derived.Test.YtbpphaeianpdpaaProg
import Derived.Test.YtbpphaeianpdpaaPqTlAli
set_option linter.all false
set_option maxRecDepth 20000
namespace TL
open Go Go.Proofs
theorem jE:Try.f70.body.isNone=false:=rfl
theorem jO:(Try.f70.name== "runtime.NumGoroutine")=false:=by decide+kernel
end TL
