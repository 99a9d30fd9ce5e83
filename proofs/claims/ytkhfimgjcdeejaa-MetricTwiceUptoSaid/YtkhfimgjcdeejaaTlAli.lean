/- TlAli: short names. By an AI agent. -/
import Derived.Test.YtkhfimgjcdeejaaProg
import Derived.Test.YtkhfimgjcdeejaaTlP2
set_option linter.all false
namespace TL
open Go Go.Proofs
abbrev vb(b:Bool):Value:=Value.bool b
theorem rb{x y:Bool}(e:x=y):Ending.returned (vb x)= .returned (vb y):=congrArg (λz=>Ending.returned (vb z)) e
theorem ri{x y:Int}(e:x=y):Ending.returned (vi x)= .returned (vi y):=congrArg (λz=>Ending.returned (vi z)) e
theorem nq{n m:Nat}(h:Nat.ble n m=true:=by exact rfl):n<=m:=Nat.le_of_ble_eq_true h
def cT:= @Try.underlying22
def cL:= @Try.underlying26
def iJ:= @Try.underlying27
def fO:= @Try.underlying29
def U3:= @Try.underlying3
def sN:= @Try.underlying30
def dR:= @Try.underlying32
def iL:= @Try.underlying36
def eQ:= @Try.underlying38
def kr:= @Try.underlying41
def nj:= @Try.underlying47
def pq:= @Try.underlying57
def nh:= @Try.underlying64
def jZ:= @Try.underlying68
def e8:= @Try.underlying74
def d4:= @Try.underlying76
def rX:= @Try.underlying78
def jV:= @Try.underlying85
def kN:= @Try.underlying88
def sn:= @Try.underlying97
end TL
