/- TlAli: short names. By an AI agent. -/
import Derived.Test.YtbpphaeianpdpaaProg
import Derived.Test.YtbpphaeianpdpaaPzTlP2
set_option linter.all false
namespace TL
open Go Go.Proofs
abbrev vb(b:Bool):Value:=Value.bool b
theorem rb{x y:Bool}(e:x=y):Ending.returned (vb x)= .returned (vb y):=congrArg (λz=>Ending.returned (vb z)) e
theorem ri{x y:Int}(e:x=y):Ending.returned (vi x)= .returned (vi y):=congrArg (λz=>Ending.returned (vi z)) e
theorem nq{n m:Nat}(h:Nat.ble n m=true:=by exact rfl):n<=m:=Nat.le_of_ble_eq_true h
def rY:= @Try.underlying106
def fu:= @Try.underlying22
def cT:= @Try.underlying24
def s7:= @Try.underlying25
def bM:= @Try.underlying26
def cG:= @Try.underlying29
def U3:= @Try.underlying3
def ei:= @Try.underlying33
def cW:= @Try.underlying43
def fc:= @Try.underlying45
def U5:= @Try.underlying5
def iy:= @Try.underlying61
def ml:= @Try.underlying64
def su:= @Try.underlying74
def sj:= @Try.underlying77
def lU:= @Try.underlying79
def f8:= @Try.underlying81
def U9:= @Try.underlying9
end TL
