/- TlAli: short names. By an AI agent. -/
import Derived.Test.YtmaclbnodbcniaaProg
import Derived.Test.YtmaclbnodbcniaaFmTlP3
set_option linter.all false
namespace TL
open Go Go.Proofs
abbrev vb(b:Bool):Value:=Value.bool b
theorem rb{x y:Bool}(e:x=y):Ending.returned (vb x)= .returned (vb y):=congrArg (λz=>Ending.returned (vb z)) e
theorem ri{x y:Int}(e:x=y):Ending.returned (vi x)= .returned (vi y):=congrArg (λz=>Ending.returned (vi z)) e
theorem nq{n m:Nat}(h:Nat.ble n m=true:=by exact rfl):n<=m:=Nat.le_of_ble_eq_true h
def dB:= @Try.underlying22
def aW:= @Try.underlying23
def cP:= @Try.underlying25
def U3:= @Try.underlying3
def ff:= @Try.underlying30
def c5:= @Try.underlying39
def U4:= @Try.underlying4
def e6:= @Try.underlying41
def dK:= @Try.underlying47
def cZ:= @Try.underlying53
def bB:= @Try.underlying55
def ir:= @Try.underlying57
def sQ:= @Try.underlying59
def tn:= @Try.underlying62
def iI:= @Try.underlying64
def dD:= @Try.underlying66
end TL
