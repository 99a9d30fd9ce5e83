import Derived.Test.YtilohhkbelkmdaaTlGenA
import Derived.Test.YtilohhkbelkmdaaTlGenC
import Derived.Test.YtilohhkbelkmdaaTlGenR
import Derived.Test.YtilohhkbelkmdaaProg
import Derived.Test.YtilohhkbelkmdaaTlP3
set_option linter.all false
set_option maxRecDepth 20000
namespace TL
open Go Go.Proofs
end TL
