/- TlAli: short names. By an AI agent. -/
import Derived.Test.YtbadiajeohbpcaaGreatProg
import Derived.Test.YtbadiajeohbpcaaGreatTlP3
set_option linter.all false
namespace TL
open Go Go.Proofs
abbrev vb(b:Bool):Value:=Value.bool b
theorem rb{x y:Bool}(e:x=y):Ending.returned (vb x)= .returned (vb y):=congrArg (λz=>Ending.returned (vb z)) e
theorem ri{x y:Int}(e:x=y):Ending.returned (vi x)= .returned (vi y):=congrArg (λz=>Ending.returned (vi z)) e
theorem nq{n m:Nat}(h:Nat.ble n m=true:=by exact rfl):n<=m:=Nat.le_of_ble_eq_true h
def Am:= @Tryz.underlying109
def gK:= @Tryz.underlying121
def jg:= @Tryz.underlying123
def fm:= @Tryz.underlying22
def dY:= @Tryz.underlying24
def bS:= @Tryz.underlying25
def fg:= @Tryz.underlying26
def ef:= @Tryz.underlying28
def gM:= @Tryz.underlying29
def U3:= @Tryz.underlying3
def ik:= @Tryz.underlying30
def pK:= @Tryz.underlying37
def eH:= @Tryz.underlying38
def U4:= @Tryz.underlying4
def lc:= @Tryz.underlying47
def cj:= @Tryz.underlying63
def Bc:= @Tryz.underlying66
def jC:= @Tryz.underlying67
def cS:= @Tryz.underlying70
def eo:= @Tryz.underlying79
def vW:= @Tryz.underlying92
end TL
