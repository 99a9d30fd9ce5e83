import Derived.Test.YtmaclbnodbcniaaFxTlP3
import Derived.Test.YtmaclbnodbcniaaFxTlFwA
import Derived.Test.YtmaclbnodbcniaaFxTlFwB
import Derived.Test.YtmaclbnodbcniaaProg
import Derived.Test.YtmaclbnodbcniaaFxTlAli
set_option linter.all false
set_option maxRecDepth 20000
namespace TL
open Go Go.Proofs
end TL
