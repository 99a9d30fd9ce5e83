/- TlAli: short names. By an AI agent. -/
import Derived.Test.YtgneelmmomohdaaProg
import Derived.Test.YtgneelmmomohdaaSaTlP5
set_option linter.all false
namespace TL
open Go Go.Proofs
abbrev vb(b:Bool):Value:=Value.bool b
theorem rb{x y:Bool}(e:x=y):Ending.returned (vb x)= .returned (vb y):=congrArg (λz=>Ending.returned (vb z)) e
theorem ri{x y:Int}(e:x=y):Ending.returned (vi x)= .returned (vi y):=congrArg (λz=>Ending.returned (vi z)) e
theorem nq{n m:Nat}(h:Nat.ble n m=true:=by exact rfl):n<=m:=Nat.le_of_ble_eq_true h
def U0:= @Try.underlying0
def Dh:= @Try.underlying108
def Du:= @Try.underlying109
def Dt:= @Try.underlying115
def Df:= @Try.underlying117
def pO:= @Try.underlying119
def d4:= @Try.underlying129
def Dk:= @Try.underlying132
def Dm:= @Try.underlying136
def Dw:= @Try.underlying138
def Dj:= @Try.underlying139
def dc:= @Try.underlying22
def cW:= @Try.underlying24
def U3:= @Try.underlying3
def dd:= @Try.underlying33
def U4:= @Try.underlying4
def sr:= @Try.underlying44
def gj:= @Try.underlying47
def bv:= @Try.underlying48
def U5:= @Try.underlying5
def dI:= @Try.underlying52
def lA:= @Try.underlying58
def DG:= @Try.underlying62
def jV:= @Try.underlying68
def Bi:= @Try.underlying83
def DK:= @Try.underlying84
def DO:= @Try.underlying87
def U9:= @Try.underlying9
def my:= @Try.underlying95
def zn:= @Try.underlying99
end TL
