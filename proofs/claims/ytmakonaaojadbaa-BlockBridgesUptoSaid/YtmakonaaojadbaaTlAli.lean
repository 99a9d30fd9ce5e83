/- TlAli: short names. By an AI agent. -/
import Derived.Test.YtmakonaaojadbaaProg
import Derived.Test.YtmakonaaojadbaaTlP2
set_option linter.all false
namespace TL
open Go Go.Proofs
abbrev vb(b:Bool):Value:=Value.bool b
theorem rb{x y:Bool}(e:x=y):Ending.returned (vb x)= .returned (vb y):=congrArg (λz=>Ending.returned (vb z)) e
theorem ri{x y:Int}(e:x=y):Ending.returned (vi x)= .returned (vi y):=congrArg (λz=>Ending.returned (vi z)) e
theorem nq{n m:Nat}(h:Nat.ble n m=true:=by exact rfl):n<=m:=Nat.le_of_ble_eq_true h
def nX:= @Try.underlying107
def da:= @Try.underlying22
def cQ:= @Try.underlying24
def f3:= @Try.underlying29
def U3:= @Try.underlying3
def aT:= @Try.underlying32
def ej:= @Try.underlying34
def U4:= @Try.underlying4
def U5:= @Try.underlying5
def dN:= @Try.underlying55
def ck:= @Try.underlying56
def eX:= @Try.underlying66
def dn:= @Try.underlying67
def bB:= @Try.underlying78
def oq:= @Try.underlying89
def U9:= @Try.underlying9
end TL
