/- TlAli: short names. By an AI agent. -/
import Derived.Test.YtcblhagfadineaaProg
import Derived.Test.YtcblhagfadineaaJpTlP4
set_option linter.all false
namespace TL
open Go Go.Proofs
abbrev vb(b:Bool):Value:=Value.bool b
theorem rb{x y:Bool}(e:x=y):Ending.returned (vb x)= .returned (vb y):=congrArg (λz=>Ending.returned (vb z)) e
theorem ri{x y:Int}(e:x=y):Ending.returned (vi x)= .returned (vi y):=congrArg (λz=>Ending.returned (vi z)) e
theorem nq{n m:Nat}(h:Nat.ble n m=true:=by exact rfl):n<=m:=Nat.le_of_ble_eq_true h
def jQ:= @Try.underlying22
def fV:= @Try.underlying24
def cX:= @Try.underlying25
def kM:= @Try.underlying26
def iK:= @Try.underlying28
def U3:= @Try.underlying3
def ou:= @Try.underlying31
def kr:= @Try.underlying32
def gB:= @Try.underlying36
def dl:= @Try.underlying39
def sM:= @Try.underlying47
def dw:= @Try.underlying51
def Aw:= @Try.underlying54
def nQ:= @Try.underlying63
def m9:= @Try.underlying68
def dO:= @Try.underlying71
def At:= @Try.underlying83
end TL
