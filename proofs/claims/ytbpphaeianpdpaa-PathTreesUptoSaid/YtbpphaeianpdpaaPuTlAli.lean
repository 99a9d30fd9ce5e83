/- TlAli: short names. By an AI agent. -/
import Derived.Test.YtbpphaeianpdpaaProg
import Derived.Test.YtbpphaeianpdpaaPuTlP2
set_option linter.all false
namespace TL
open Go Go.Proofs
abbrev vb(b:Bool):Value:=Value.bool b
theorem rb{x y:Bool}(e:x=y):Ending.returned (vb x)= .returned (vb y):=congrArg (λz=>Ending.returned (vb z)) e
theorem ri{x y:Int}(e:x=y):Ending.returned (vi x)= .returned (vi y):=congrArg (λz=>Ending.returned (vi z)) e
theorem nq{n m:Nat}(h:Nat.ble n m=true:=by exact rfl):n<=m:=Nat.le_of_ble_eq_true h
def rf:= @Try.underlying106
def eZ:= @Try.underlying22
def cS:= @Try.underlying24
def bI:= @Try.underlying26
def eD:= @Try.underlying29
def U3:= @Try.underlying3
def rE:= @Try.underlying31
def kP:= @Try.underlying33
def j4:= @Try.underlying43
def U5:= @Try.underlying5
def re:= @Try.underlying56
def ik:= @Try.underlying61
def qu:= @Try.underlying64
def rG:= @Try.underlying74
def ru:= @Try.underlying77
def kd:= @Try.underlying79
def eM:= @Try.underlying81
def U9:= @Try.underlying9
end TL
