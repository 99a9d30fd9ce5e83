/- TlAli: short names. By an AI agent. -/
import Derived.Test.YtbpphaeianpdpaaProg
import Derived.Test.YtbpphaeianpdpaaPnTlP2
set_option linter.all false
namespace TL
open Go Go.Proofs
abbrev vb(b:Bool):Value:=Value.bool b
theorem rb{x y:Bool}(e:x=y):Ending.returned (vb x)= .returned (vb y):=congrArg (λz=>Ending.returned (vb z)) e
theorem ri{x y:Int}(e:x=y):Ending.returned (vi x)= .returned (vi y):=congrArg (λz=>Ending.returned (vi z)) e
theorem nq{n m:Nat}(h:Nat.ble n m=true:=by exact rfl):n<=m:=Nat.le_of_ble_eq_true h
def pE:= @Try.underlying106
def fg:= @Try.underlying22
def db:= @Try.underlying24
def pV:= @Try.underlying25
def cm:= @Try.underlying26
def dw:= @Try.underlying29
def U3:= @Try.underlying3
def fY:= @Try.underlying33
def pa:= @Try.underlying43
def U5:= @Try.underlying5
def il:= @Try.underlying61
def pO:= @Try.underlying64
def pX:= @Try.underlying74
def pS:= @Try.underlying77
def ju:= @Try.underlying79
def dZ:= @Try.underlying81
def U9:= @Try.underlying9
end TL
