import Derived.Test.YtcblhagfadineaaJpTlP4
import Derived.Test.YtcblhagfadineaaJpTlGenA
import Derived.Test.YtcblhagfadineaaProg
import Derived.Test.YtcblhagfadineaaJpTlAli
set_option linter.all false
set_option maxRecDepth 20000
namespace TL
open Go Go.Proofs
end TL
