/- TlAli: short names. By an AI agent. -/
import Derived.Test.YtbpphaeianpdpaaProg
import Derived.Test.YtbpphaeianpdpaaPqTlP2
set_option linter.all false
namespace TL
open Go Go.Proofs
abbrev vb(b:Bool):Value:=Value.bool b
theorem rb{x y:Bool}(e:x=y):Ending.returned (vb x)= .returned (vb y):=congrArg (λz=>Ending.returned (vb z)) e
theorem ri{x y:Int}(e:x=y):Ending.returned (vi x)= .returned (vi y):=congrArg (λz=>Ending.returned (vi z)) e
theorem nq{n m:Nat}(h:Nat.ble n m=true:=by exact rfl):n<=m:=Nat.le_of_ble_eq_true h
def px:= @Try.underlying106
def gg:= @Try.underlying22
def dl:= @Try.underlying24
def cI:= @Try.underlying26
def dJ:= @Try.underlying29
def U3:= @Try.underlying3
def pT:= @Try.underlying31
def i4:= @Try.underlying33
def oL:= @Try.underlying43
def U5:= @Try.underlying5
def pq:= @Try.underlying56
def iL:= @Try.underlying61
def pJ:= @Try.underlying64
def pX:= @Try.underlying74
def pO:= @Try.underlying77
def jp:= @Try.underlying79
def dU:= @Try.underlying81
def U9:= @Try.underlying9
end TL
