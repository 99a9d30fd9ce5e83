/- TlAli: short names. By an AI agent. -/
import Derived.Test.YtfpckpgnnplhnaaGreatProg
import Derived.Test.YtfpckpgnnplhnaaGreatSkTlP4
set_option linter.all false
namespace TL
open Go Go.Proofs
abbrev vb(b:Bool):Value:=Value.bool b
theorem rb{x y:Bool}(e:x=y):Ending.returned (vb x)= .returned (vb y):=congrArg (λz=>Ending.returned (vb z)) e
theorem ri{x y:Int}(e:x=y):Ending.returned (vi x)= .returned (vi y):=congrArg (λz=>Ending.returned (vi z)) e
theorem nq{n m:Nat}(h:Nat.ble n m=true:=by exact rfl):n<=m:=Nat.le_of_ble_eq_true h
def U0:= @Tryz.underlying0
def jV:= @Tryz.underlying102
def eH:= @Tryz.underlying119
def BF:= @Tryz.underlying124
def cL:= @Tryz.underlying129
def yI:= @Tryz.underlying139
def B4:= @Tryz.underlying148
def Ba:= @Tryz.underlying149
def Bi:= @Tryz.underlying155
def AN:= @Tryz.underlying157
def mR:= @Tryz.underlying177
def B8:= @Tryz.underlying179
def Br:= @Tryz.underlying183
def ow:= @Tryz.underlying193
def Bc:= @Tryz.underlying197
def Bq:= @Tryz.underlying198
def eR:= @Tryz.underlying23
def ea:= @Tryz.underlying25
def U3:= @Tryz.underlying3
def eb:= @Tryz.underlying34
def bF:= @Tryz.underlying38
def jr:= @Tryz.underlying39
def U4:= @Tryz.underlying4
def fK:= @Tryz.underlying41
def U5:= @Tryz.underlying5
def B7:= @Tryz.underlying53
def tM:= @Tryz.underlying57
def eO:= @Tryz.underlying59
def iZ:= @Tryz.underlying64
def jG:= @Tryz.underlying70
def BP:= @Tryz.underlying73
def cJ:= @Tryz.underlying74
def dR:= @Tryz.underlying76
def iL:= @Tryz.underlying78
def lg:= @Tryz.underlying81
def gf:= @Tryz.underlying85
def nh:= @Tryz.underlying87
def qD:= @Tryz.underlying89
def U9:= @Tryz.underlying9
def o7:= @Tryz.underlying95
def BM:= @Tryz.underlying96
end TL
