/- TlAli: short names. By an AI agent. -/
import Derived.Test.YtbpphaeianpdpaaProg
import Derived.Test.YtbpphaeianpdpaaTlP2
set_option linter.all false
namespace TL
open Go Go.Proofs
abbrev vb(b:Bool):Value:=Value.bool b
theorem rb{x y:Bool}(e:x=y):Ending.returned (vb x)= .returned (vb y):=congrArg (λz=>Ending.returned (vb z)) e
theorem ri{x y:Int}(e:x=y):Ending.returned (vi x)= .returned (vi y):=congrArg (λz=>Ending.returned (vi z)) e
theorem nq{n m:Nat}(h:Nat.ble n m=true:=by exact rfl):n<=m:=Nat.le_of_ble_eq_true h
def oL:= @Try.underlying106
def fm:= @Try.underlying22
def cI:= @Try.underlying24
def oX:= @Try.underlying25
def cd:= @Try.underlying26
def dW:= @Try.underlying29
def U3:= @Try.underlying3
def gy:= @Try.underlying33
def ob:= @Try.underlying43
def U5:= @Try.underlying5
def gD:= @Try.underlying61
def oN:= @Try.underlying64
def pj:= @Try.underlying74
def pe:= @Try.underlying77
def iJ:= @Try.underlying79
def dL:= @Try.underlying81
def U9:= @Try.underlying9
end TL
