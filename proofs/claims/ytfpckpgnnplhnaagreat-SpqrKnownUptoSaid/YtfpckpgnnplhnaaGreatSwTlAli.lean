/- TlAli: short names. By an AI agent. -/
import Derived.Test.YtfpckpgnnplhnaaGreatProg
import Derived.Test.YtfpckpgnnplhnaaGreatSwTlP4
set_option linter.all false
namespace TL
open Go Go.Proofs
abbrev vb(b:Bool):Value:=Value.bool b
theorem rb{x y:Bool}(e:x=y):Ending.returned (vb x)= .returned (vb y):=congrArg (λz=>Ending.returned (vb z)) e
theorem ri{x y:Int}(e:x=y):Ending.returned (vi x)= .returned (vi y):=congrArg (λz=>Ending.returned (vi z)) e
theorem nq{n m:Nat}(h:Nat.ble n m=true:=by exact rfl):n<=m:=Nat.le_of_ble_eq_true h
def U0:= @Tryz.underlying0
def l8:= @Tryz.underlying102
def eJ:= @Tryz.underlying119
def EW:= @Tryz.underlying124
def cO:= @Tryz.underlying129
def BF:= @Tryz.underlying139
def Ee:= @Tryz.underlying148
def EF:= @Tryz.underlying149
def Eo:= @Tryz.underlying155
def DB:= @Tryz.underlying157
def ob:= @Tryz.underlying177
def Eg:= @Tryz.underlying179
def Ew:= @Tryz.underlying183
def py:= @Tryz.underlying193
def El:= @Tryz.underlying197
def Ex:= @Tryz.underlying198
def eG:= @Tryz.underlying23
def dK:= @Tryz.underlying25
def U3:= @Tryz.underlying3
def CT:= @Tryz.underlying34
def bF:= @Tryz.underlying38
def DI:= @Tryz.underlying39
def U4:= @Tryz.underlying4
def xC:= @Tryz.underlying41
def U5:= @Tryz.underlying5
def ED:= @Tryz.underlying53
def B8:= @Tryz.underlying57
def eS:= @Tryz.underlying59
def jH:= @Tryz.underlying64
def mA:= @Tryz.underlying69
def j6:= @Tryz.underlying70
def Gj:= @Tryz.underlying73
def cM:= @Tryz.underlying74
def dV:= @Tryz.underlying76
def jg:= @Tryz.underlying78
def ml:= @Tryz.underlying81
def fh:= @Tryz.underlying85
def oR:= @Tryz.underlying87
def sa:= @Tryz.underlying89
def U9:= @Tryz.underlying9
def pV:= @Tryz.underlying95
def FG:= @Tryz.underlying96
end TL
