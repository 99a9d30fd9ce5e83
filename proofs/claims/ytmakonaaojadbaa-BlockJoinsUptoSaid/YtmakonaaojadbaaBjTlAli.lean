/- TlAli: short names. By an AI agent. -/
import Derived.Test.YtmakonaaojadbaaProg
import Derived.Test.YtmakonaaojadbaaBjTlP3
set_option linter.all false
namespace TL
open Go Go.Proofs
abbrev vb(b:Bool):Value:=Value.bool b
theorem rb{x y:Bool}(e:x=y):Ending.returned (vb x)= .returned (vb y):=congrArg (λz=>Ending.returned (vb z)) e
theorem ri{x y:Int}(e:x=y):Ending.returned (vi x)= .returned (vi y):=congrArg (λz=>Ending.returned (vi z)) e
theorem nq{n m:Nat}(h:Nat.ble n m=true:=by exact rfl):n<=m:=Nat.le_of_ble_eq_true h
def qZ:= @Try.underlying107
def dB:= @Try.underlying22
def d5:= @Try.underlying24
def f6:= @Try.underlying29
def U3:= @Try.underlying3
def b6:= @Try.underlying32
def eE:= @Try.underlying34
def U4:= @Try.underlying4
def U5:= @Try.underlying5
def eH:= @Try.underlying55
def cJ:= @Try.underlying56
def mB:= @Try.underlying60
def g5:= @Try.underlying66
def dW:= @Try.underlying67
def bQ:= @Try.underlying78
def rd:= @Try.underlying89
def U9:= @Try.underlying9
def nP:= @Try.underlying92
end TL
