import Derived.Test.YtbpphaeianpdpaaPmTlP2
import Derived.Test.YtbpphaeianpdpaaPmTlGmA
import Derived.Test.YtbpphaeianpdpaaPmTlGenA
import Derived.Test.YtbpphaeianpdpaaPmTlPwA
import Derived.Test.YtbpphaeianpdpaaPmTlPwR
import Derived.Test.YtbpphaeianpdpaaProg
import Derived.Test.YtbpphaeianpdpaaPmTlAli
set_option linter.all false
set_option maxRecDepth 20000
namespace TL
open Go Go.Proofs
end TL
