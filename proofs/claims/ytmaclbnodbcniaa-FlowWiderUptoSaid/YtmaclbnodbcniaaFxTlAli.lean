/- TlAli: short names. By an AI agent. -/
import Derived.Test.YtmaclbnodbcniaaProg
import Derived.Test.YtmaclbnodbcniaaFxTlP3
set_option linter.all false
namespace TL
open Go Go.Proofs
abbrev vb(b:Bool):Value:=Value.bool b
theorem rb{x y:Bool}(e:x=y):Ending.returned (vb x)= .returned (vb y):=congrArg (λz=>Ending.returned (vb z)) e
theorem ri{x y:Int}(e:x=y):Ending.returned (vi x)= .returned (vi y):=congrArg (λz=>Ending.returned (vi z)) e
theorem nq{n m:Nat}(h:Nat.ble n m=true:=by exact rfl):n<=m:=Nat.le_of_ble_eq_true h
def gR:= @Try.underlying22
def bb:= @Try.underlying23
def dy:= @Try.underlying25
def U3:= @Try.underlying3
def kN:= @Try.underlying30
def cI:= @Try.underlying39
def fp:= @Try.underlying47
def U5:= @Try.underlying5
def cJ:= @Try.underlying53
def bg:= @Try.underlying55
def gJ:= @Try.underlying57
def rG:= @Try.underlying62
def gX:= @Try.underlying64
def dd:= @Try.underlying66
end TL
