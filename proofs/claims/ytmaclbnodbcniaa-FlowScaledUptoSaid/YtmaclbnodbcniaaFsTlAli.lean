/- TlAli: short names. By an AI agent. -/
import Derived.Test.YtmaclbnodbcniaaProg
import Derived.Test.YtmaclbnodbcniaaFsTlP3
set_option linter.all false
namespace TL
open Go Go.Proofs
abbrev vb(b:Bool):Value:=Value.bool b
theorem rb{x y:Bool}(e:x=y):Ending.returned (vb x)= .returned (vb y):=congrArg (λz=>Ending.returned (vb z)) e
theorem ri{x y:Int}(e:x=y):Ending.returned (vi x)= .returned (vi y):=congrArg (λz=>Ending.returned (vi z)) e
theorem nq{n m:Nat}(h:Nat.ble n m=true:=by exact rfl):n<=m:=Nat.le_of_ble_eq_true h
def U2:= @Try.underlying2
def fz:= @Try.underlying22
def b7:= @Try.underlying23
def cU:= @Try.underlying25
def U3:= @Try.underlying3
def gL:= @Try.underlying30
def cK:= @Try.underlying39
def dk:= @Try.underlying47
def U5:= @Try.underlying5
def cL:= @Try.underlying53
def bh:= @Try.underlying55
def gN:= @Try.underlying57
def sc:= @Try.underlying62
def hT:= @Try.underlying64
def dd:= @Try.underlying66
end TL
