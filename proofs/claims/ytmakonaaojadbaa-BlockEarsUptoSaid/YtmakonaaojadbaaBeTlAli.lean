/- TlAli: short names. By an AI agent. -/
import Derived.Test.YtmakonaaojadbaaProg
import Derived.Test.YtmakonaaojadbaaBeTlP4
set_option linter.all false
namespace TL
open Go Go.Proofs
abbrev vb(b:Bool):Value:=Value.bool b
theorem rb{x y:Bool}(e:x=y):Ending.returned (vb x)= .returned (vb y):=congrArg (λz=>Ending.returned (vb z)) e
theorem ri{x y:Int}(e:x=y):Ending.returned (vi x)= .returned (vi y):=congrArg (λz=>Ending.returned (vi z)) e
theorem nq{n m:Nat}(h:Nat.ble n m=true:=by exact rfl):n<=m:=Nat.le_of_ble_eq_true h
def vH:= @Try.underlying107
def eM:= @Try.underlying22
def dD:= @Try.underlying24
def dE:= @Try.underlying29
def U3:= @Try.underlying3
def n8:= @Try.underlying31
def aY:= @Try.underlying32
def gc:= @Try.underlying34
def U4:= @Try.underlying4
def U5:= @Try.underlying5
def eG:= @Try.underlying55
def dj:= @Try.underlying56
def iz:= @Try.underlying66
def fx:= @Try.underlying67
def cE:= @Try.underlying78
def wb:= @Try.underlying89
def U9:= @Try.underlying9
end TL
