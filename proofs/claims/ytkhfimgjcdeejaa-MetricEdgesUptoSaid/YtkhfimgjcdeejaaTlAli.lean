/- TlAli: short names. By an AI agent. -/
import Derived.Test.YtkhfimgjcdeejaaProg
import Derived.Test.YtkhfimgjcdeejaaTlP1
set_option linter.all false
namespace TL
open Go Go.Proofs
abbrev vb(b:Bool):Value:=Value.bool b
theorem rb{x y:Bool}(e:x=y):Ending.returned (vb x)= .returned (vb y):=congrArg (λz=>Ending.returned (vb z)) e
theorem ri{x y:Int}(e:x=y):Ending.returned (vi x)= .returned (vi y):=congrArg (λz=>Ending.returned (vi z)) e
theorem nq{n m:Nat}(h:Nat.ble n m=true:=by exact rfl):n<=m:=Nat.le_of_ble_eq_true h
def cj:= @Try.underlying22
def d2:= @Try.underlying26
def i5:= @Try.underlying27
def gj:= @Try.underlying29
def U3:= @Try.underlying3
def nA:= @Try.underlying30
def bT:= @Try.underlying32
def ex:= @Try.underlying36
def gm:= @Try.underlying38
def ni:= @Try.underlying41
def kq:= @Try.underlying47
def lc:= @Try.underlying57
def jM:= @Try.underlying64
def i9:= @Try.underlying68
def dv:= @Try.underlying74
def cJ:= @Try.underlying76
def il:= @Try.underlying85
end TL
