import Derived.Test.YtbadiajeohbpcaaGreatTlP3
import Derived.Test.YtbadiajeohbpcaaGreatTlGenA
import Derived.Test.YtbadiajeohbpcaaGreatTlGenQ
import Derived.Test.YtbadiajeohbpcaaGreatTlGenX
import Derived.Test.YtbadiajeohbpcaaGreatTlGenI
import Derived.Test.YtbadiajeohbpcaaGreatProg
import Derived.Test.YtbadiajeohbpcaaGreatTlAli
set_option linter.all false
set_option maxRecDepth 20000
namespace TL
open Go Go.Proofs
end TL
