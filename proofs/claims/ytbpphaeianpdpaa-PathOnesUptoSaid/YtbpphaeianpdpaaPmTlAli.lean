/- TlAli: short names. By an AI agent. -/
import Derived.Test.YtbpphaeianpdpaaProg
import Derived.Test.YtbpphaeianpdpaaPmTlP2
set_option linter.all false
namespace TL
open Go Go.Proofs
abbrev vb(b:Bool):Value:=Value.bool b
theorem rb{x y:Bool}(e:x=y):Ending.returned (vb x)= .returned (vb y):=congrArg (λz=>Ending.returned (vb z)) e
theorem ri{x y:Int}(e:x=y):Ending.returned (vi x)= .returned (vi y):=congrArg (λz=>Ending.returned (vi z)) e
theorem nq{n m:Nat}(h:Nat.ble n m=true:=by exact rfl):n<=m:=Nat.le_of_ble_eq_true h
def rY:= @Try.underlying106
def ja:= @Try.underlying110
def U2:= @Try.underlying2
def eN:= @Try.underlying22
def d5:= @Try.underlying24
def bQ:= @Try.underlying26
def cR:= @Try.underlying29
def U3:= @Try.underlying3
def rP:= @Try.underlying31
def h8:= @Try.underlying33
def U4:= @Try.underlying4
def jT:= @Try.underlying43
def U5:= @Try.underlying5
def i4:= @Try.underlying61
def qf:= @Try.underlying64
def ji:= @Try.underlying66
def s7:= @Try.underlying74
def s5:= @Try.underlying77
def l6:= @Try.underlying79
def eM:= @Try.underlying81
def U9:= @Try.underlying9
end TL
