/- TlAli: short names. By an AI agent. -/
import Derived.Test.YtmaclbnodbcniaaProg
import Derived.Test.YtmaclbnodbcniaaFpTlP2
set_option linter.all false
namespace TL
open Go Go.Proofs
abbrev vb(b:Bool):Value:=Value.bool b
theorem rb{x y:Bool}(e:x=y):Ending.returned (vb x)= .returned (vb y):=congrArg (λz=>Ending.returned (vb z)) e
theorem ri{x y:Int}(e:x=y):Ending.returned (vi x)= .returned (vi y):=congrArg (λz=>Ending.returned (vi z)) e
theorem nq{n m:Nat}(h:Nat.ble n m=true:=by exact rfl):n<=m:=Nat.le_of_ble_eq_true h
def iT:= @Try.underlying22
def aW:= @Try.underlying23
def dv:= @Try.underlying25
def il:= @Try.underlying30
def cF:= @Try.underlying39
def U4:= @Try.underlying4
def dk:= @Try.underlying47
def cG:= @Try.underlying53
def bf:= @Try.underlying55
def gE:= @Try.underlying57
def rn:= @Try.underlying62
def gM:= @Try.underlying64
def d7:= @Try.underlying66
end TL
