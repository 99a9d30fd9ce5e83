/- TlAli: short names. By an AI agent. -/
import Derived.Test.YtmakonaaojadbaaProg
import Derived.Test.YtmakonaaojadbaaBcTlP4
set_option linter.all false
namespace TL
open Go Go.Proofs
abbrev vb(b:Bool):Value:=Value.bool b
theorem rb{x y:Bool}(e:x=y):Ending.returned (vb x)= .returned (vb y):=congrArg (λz=>Ending.returned (vb z)) e
theorem ri{x y:Int}(e:x=y):Ending.returned (vi x)= .returned (vi y):=congrArg (λz=>Ending.returned (vi z)) e
theorem nq{n m:Nat}(h:Nat.ble n m=true:=by exact rfl):n<=m:=Nat.le_of_ble_eq_true h
def U0:= @Try.underlying0
def tB:= @Try.underlying105
def tz:= @Try.underlying107
def tj:= @Try.underlying111
def tq:= @Try.underlying115
def tx:= @Try.underlying117
def ti:= @Try.underlying118
def eI:= @Try.underlying22
def dw:= @Try.underlying24
def fw:= @Try.underlying29
def U3:= @Try.underlying3
def ba:= @Try.underlying32
def gn:= @Try.underlying34
def U4:= @Try.underlying4
def U5:= @Try.underlying5
def eu:= @Try.underlying55
def d4:= @Try.underlying56
def hX:= @Try.underlying66
def eR:= @Try.underlying67
def tS:= @Try.underlying70
def ci:= @Try.underlying78
def tN:= @Try.underlying89
def U9:= @Try.underlying9
def tQ:= @Try.underlying96
def tR:= @Try.underlying98
def tW:= @Try.underlying99
end TL
