/- TlAli: short names. By an AI agent. -/
import Derived.Test.YtgneelmmomohdaaProg
import Derived.Test.YtgneelmmomohdaaSmTlP4
set_option linter.all false
namespace TL
open Go Go.Proofs
abbrev vb(b:Bool):Value:=Value.bool b
theorem rb{x y:Bool}(e:x=y):Ending.returned (vb x)= .returned (vb y):=congrArg (λz=>Ending.returned (vb z)) e
theorem ri{x y:Int}(e:x=y):Ending.returned (vi x)= .returned (vi y):=congrArg (λz=>Ending.returned (vi z)) e
theorem nq{n m:Nat}(h:Nat.ble n m=true:=by exact rfl):n<=m:=Nat.le_of_ble_eq_true h
def U0:= @Try.underlying0
def xy:= @Try.underlying108
def xw:= @Try.underlying109
def xf:= @Try.underlying115
def xe:= @Try.underlying117
def mS:= @Try.underlying119
def cr:= @Try.underlying129
def xu:= @Try.underlying132
def xz:= @Try.underlying136
def xk:= @Try.underlying138
def xn:= @Try.underlying139
def de:= @Try.underlying22
def cR:= @Try.underlying24
def U3:= @Try.underlying3
def eC:= @Try.underlying33
def U4:= @Try.underlying4
def i6:= @Try.underlying47
def bE:= @Try.underlying48
def U5:= @Try.underlying5
def d6:= @Try.underlying52
def jP:= @Try.underlying58
def xQ:= @Try.underlying62
def lD:= @Try.underlying68
def rn:= @Try.underlying83
def xL:= @Try.underlying84
def xM:= @Try.underlying87
def U9:= @Try.underlying9
def iA:= @Try.underlying95
def tV:= @Try.underlying99
end TL
