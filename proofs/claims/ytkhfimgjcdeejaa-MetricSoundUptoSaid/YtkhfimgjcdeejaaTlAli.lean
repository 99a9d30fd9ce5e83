/- TlAli: short names. By an AI agent. -/
import Derived.Test.YtkhfimgjcdeejaaProg
import Derived.Test.YtkhfimgjcdeejaaTlP3
set_option linter.all false
namespace TL
open Go Go.Proofs
abbrev vb(b:Bool):Value:=Value.bool b
theorem rb{x y:Bool}(e:x=y):Ending.returned (vb x)= .returned (vb y):=congrArg (λz=>Ending.returned (vb z)) e
theorem ri{x y:Int}(e:x=y):Ending.returned (vi x)= .returned (vi y):=congrArg (λz=>Ending.returned (vi z)) e
theorem nq{n m:Nat}(h:Nat.ble n m=true:=by exact rfl):n<=m:=Nat.le_of_ble_eq_true h
def fI:= @Try.underlying102
def bZ:= @Try.underlying22
def cq:= @Try.underlying26
def gv:= @Try.underlying27
def eR:= @Try.underlying29
def U3:= @Try.underlying3
def wV:= @Try.underlying30
def gu:= @Try.underlying32
def eP:= @Try.underlying36
def dn:= @Try.underlying38
def jZ:= @Try.underlying41
def i9:= @Try.underlying47
def tL:= @Try.underlying57
def qZ:= @Try.underlying64
def nF:= @Try.underlying68
def fv:= @Try.underlying74
def dQ:= @Try.underlying76
def wz:= @Try.underlying78
def mZ:= @Try.underlying85
def ig:= @Try.underlying88
def wP:= @Try.underlying97
end TL
