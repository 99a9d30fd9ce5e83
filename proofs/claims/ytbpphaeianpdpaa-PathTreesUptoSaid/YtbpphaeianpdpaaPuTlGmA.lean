import Derived.Test.YtbpphaeianpdpaaPuTlP2
import Derived.Test.YtbpphaeianpdpaaProg
import Derived.Test.YtbpphaeianpdpaaPuTlAli
set_option linter.all false
set_option maxRecDepth 20000
namespace TL
open Go Go.Proofs
theorem kL:Try.f70.body.isNone=false:=rfl
theorem kZ:(Try.f70.name== "runtime.NumGoroutine")=false:=by decide+kernel
end TL
