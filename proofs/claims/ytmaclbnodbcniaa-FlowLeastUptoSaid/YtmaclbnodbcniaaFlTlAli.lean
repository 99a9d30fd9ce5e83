/- TlAli: short names. By an AI agent. -/
import Derived.Test.YtmaclbnodbcniaaProg
import Derived.Test.YtmaclbnodbcniaaFlTlP3
set_option linter.all false
namespace TL
open Go Go.Proofs
abbrev vb(b:Bool):Value:=Value.bool b
theorem rb{x y:Bool}(e:x=y):Ending.returned (vb x)= .returned (vb y):=congrArg (λz=>Ending.returned (vb z)) e
theorem ri{x y:Int}(e:x=y):Ending.returned (vi x)= .returned (vi y):=congrArg (λz=>Ending.returned (vi z)) e
theorem nq{n m:Nat}(h:Nat.ble n m=true:=by exact rfl):n<=m:=Nat.le_of_ble_eq_true h
def i8:= @Try.underlying22
def aW:= @Try.underlying23
def dh:= @Try.underlying25
def iP:= @Try.underlying30
def cH:= @Try.underlying39
def d9:= @Try.underlying47
def cI:= @Try.underlying53
def bg:= @Try.underlying55
def gH:= @Try.underlying57
def rG:= @Try.underlying62
def gT:= @Try.underlying64
def db:= @Try.underlying66
end TL
