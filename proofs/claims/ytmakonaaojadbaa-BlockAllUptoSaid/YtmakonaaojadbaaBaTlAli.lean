/- TlAli: short names. By an AI agent. -/
import Derived.Test.YtmakonaaojadbaaProg
import Derived.Test.YtmakonaaojadbaaBaTlP4
set_option linter.all false
namespace TL
open Go Go.Proofs
abbrev vb(b:Bool):Value:=Value.bool b
theorem rb{x y:Bool}(e:x=y):Ending.returned (vb x)= .returned (vb y):=congrArg (λz=>Ending.returned (vb z)) e
theorem ri{x y:Int}(e:x=y):Ending.returned (vi x)= .returned (vi y):=congrArg (λz=>Ending.returned (vi z)) e
theorem nq{n m:Nat}(h:Nat.ble n m=true:=by exact rfl):n<=m:=Nat.le_of_ble_eq_true h
def U0:= @Try.underlying0
def vo:= @Try.underlying105
def vy:= @Try.underlying107
def vf:= @Try.underlying111
def vv:= @Try.underlying115
def vh:= @Try.underlying117
def vw:= @Try.underlying118
def dD:= @Try.underlying22
def cZ:= @Try.underlying24
def dB:= @Try.underlying29
def U3:= @Try.underlying3
def jK:= @Try.underlying31
def bf:= @Try.underlying32
def eD:= @Try.underlying34
def U4:= @Try.underlying4
def U5:= @Try.underlying5
def fk:= @Try.underlying55
def dg:= @Try.underlying56
def ir:= @Try.underlying66
def fj:= @Try.underlying67
def vK:= @Try.underlying70
def cF:= @Try.underlying78
def vP:= @Try.underlying89
def U9:= @Try.underlying9
def vQ:= @Try.underlying96
def vH:= @Try.underlying98
def vL:= @Try.underlying99
end TL
