/- TlAli: short names. By an AI agent. -/
import Derived.Test.YtgneelmmomohdaaProg
import Derived.Test.YtgneelmmomohdaaSqTlP4
set_option linter.all false
namespace TL
open Go Go.Proofs
abbrev vb(b:Bool):Value:=Value.bool b
theorem rb{x y:Bool}(e:x=y):Ending.returned (vb x)= .returned (vb y):=congrArg (λz=>Ending.returned (vb z)) e
theorem ri{x y:Int}(e:x=y):Ending.returned (vi x)= .returned (vi y):=congrArg (λz=>Ending.returned (vi z)) e
theorem nq{n m:Nat}(h:Nat.ble n m=true:=by exact rfl):n<=m:=Nat.le_of_ble_eq_true h
def U0:= @Try.underlying0
def zj:= @Try.underlying108
def zu:= @Try.underlying109
def zm:= @Try.underlying115
def zw:= @Try.underlying117
def nX:= @Try.underlying119
def cH:= @Try.underlying129
def zA:= @Try.underlying132
def zn:= @Try.underlying136
def zl:= @Try.underlying138
def zy:= @Try.underlying139
def dg:= @Try.underlying22
def d4:= @Try.underlying24
def U3:= @Try.underlying3
def dU:= @Try.underlying33
def U4:= @Try.underlying4
def gA:= @Try.underlying47
def bD:= @Try.underlying48
def U5:= @Try.underlying5
def n4:= @Try.underlying50
def da:= @Try.underlying52
def jV:= @Try.underlying58
def zO:= @Try.underlying62
def mC:= @Try.underlying68
def t8:= @Try.underlying83
def zW:= @Try.underlying84
def zU:= @Try.underlying87
def U9:= @Try.underlying9
def iR:= @Try.underlying95
def vS:= @Try.underlying99
end TL
