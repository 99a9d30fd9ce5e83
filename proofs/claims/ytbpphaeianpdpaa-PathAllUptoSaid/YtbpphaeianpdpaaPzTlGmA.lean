import Derived.Test.YtbpphaeianpdpaaPzTlP2
import Derived.Test.YtbpphaeianpdpaaProg
import Derived.Test.YtbpphaeianpdpaaPzTlAli
set_option linter.all false
set_option maxRecDepth 20000
namespace TL
open Go Go.Proofs
theorem lq:Try.f70.body.isNone=false:=rfl
theorem l9:(Try.f70.name== "runtime.NumGoroutine")=false:=by decide+kernel
end TL
