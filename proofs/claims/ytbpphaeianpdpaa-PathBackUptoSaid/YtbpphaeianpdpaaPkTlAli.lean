/- TlAli: short names. By an AI agent. -/
import Derived.Test.YtbpphaeianpdpaaProg
import Derived.Test.YtbpphaeianpdpaaPkTlP2
set_option linter.all false
namespace TL
open Go Go.Proofs
abbrev vb(b:Bool):Value:=Value.bool b
theorem rb{x y:Bool}(e:x=y):Ending.returned (vb x)= .returned (vb y):=congrArg (λz=>Ending.returned (vb z)) e
theorem ri{x y:Int}(e:x=y):Ending.returned (vi x)= .returned (vi y):=congrArg (λz=>Ending.returned (vi z)) e
theorem nq{n m:Nat}(h:Nat.ble n m=true:=by exact rfl):n<=m:=Nat.le_of_ble_eq_true h
def oR:= @Try.underlying106
def eX:= @Try.underlying22
def cI:= @Try.underlying24
def oV:= @Try.underlying25
def ch:= @Try.underlying26
def ec:= @Try.underlying29
def U3:= @Try.underlying3
def gp:= @Try.underlying33
def oa:= @Try.underlying43
def U5:= @Try.underlying5
def gC:= @Try.underlying61
def oP:= @Try.underlying64
def pm:= @Try.underlying74
def pe:= @Try.underlying77
def jc:= @Try.underlying79
def dL:= @Try.underlying81
def U9:= @Try.underlying9
end TL
