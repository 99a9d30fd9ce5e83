import Derived.Test.YtbpphaeianpdpaaPmTlP2
import Derived.Test.YtbpphaeianpdpaaPmTlGmA
import Derived.Test.YtbpphaeianpdpaaPmTlGenA
import Derived.Test.YtbpphaeianpdpaaPmTlPwA
import Derived.Test.YtbpphaeianpdpaaProg
import Derived.Test.YtbpphaeianpdpaaPmTlAli
set_option linter.all false
set_option maxRecDepth 20000
namespace TL
open Go Go.Proofs
theorem kk(w0:World):
    Calls Try.prog 36 #[] w0 (λee w=>∃xx:ay×Value,ee= .returned ((λ⟨δ,rv0⟩=>vg [vi (((3,[(0,1),(1,2),(0,2)]):aM).1),rv0]) xx)/\(λ(⟨δ,rv0⟩:ay×Value) (w:World)=>eQ w0 δ w/\Ow δ (is 1) (is 1) w rv0 (((3,[(0,1),(1,2),(0,2)]):aM).2)) xx w):=by
 refine am Try.func36 rfl nq ?_
 have bH:=b7.start w0
 refine a8 (a7 rfl (d8 rfl (bn c0 (is 1) (1,0) rfl bv ?_)))
 intro g4 w1 b3 ch2 bx5
 replace bx5:Bx g4 (is 1) w1 b3 [vi 0,vn]:=bx5
 refine aa (a8 (a7 rfl (lw (vg [vi 0,vi 1]) (bJ (vs:=[(0,vi 0),(1,vi 1)]) rfl (by kernel_rfl)) (lw (vg [vi 1,vi 2]) (bJ (vs:=[(0,vi 1),(1,vi 2)]) rfl (by kernel_rfl)) (lw (vg [vi 0,vi 2]) (bJ (vs:=[(0,vi 0),(1,vi 2)]) rfl (by kernel_rfl)) (lo ?_))))))
 refine aQ (α:=Pt) g4 (is 2) (is 2) (2,0) rfl [(0,1),(1,2),(0,2)] eN cB (by decide) (by decide) (vs:=[(0,vg [vi 0,vi 1]),(1,vg [vi 1,vi 2]),(2,vg [vi 0,vi 2])]) rfl rfl (.cons rfl (.cons rfl (.cons rfl .nil))) ?_
 intro g6 w7 v8 ch9 o10
 refine lw (vg [vi 3,v8]) (bJ (vs:=[(0,vi 3),(1,v8)]) rfl (by rw[Sl.form o10.flat];kernel_rfl)) (lo ?_)
 replace bx5:=bx5.cn ch9
 refine aG (cs':=[vi 3,v8]) bv rfl rfl bx5 rfl nq (AllOne.all (.cons rfl (.cons (aP o10.flat) .nil))) rfl ?_
 intro w11 ch12 bx13
 clear bx5
 refine aa (ar (vs:=[vg [vi 3,v8]]) Try.func36 (.cell rfl (cl (ds:=[vi 3,v8]) bv bx13 rfl rfl) .nil) ?_)
 have C14:=cg [1] (ch2.n.seq (ch9.n.seq (ch12.l rfl)))
 replace bH:=bH.ca C14
 replace o10:=o10.ce ch12
 have e0:((3,[(0,1),(1,2),(0,2)]):(Int)×(List Pt))=(((3,[(0,1),(1,2),(0,2)]):aM)):=by
   rfl
 exact⟨(fin w0 g6 (λn=>if n=2 then 1 else 0),v8),(congrArg (a₁:=(3,[(0,1),(1,2),(0,2)])) (λ(z0:(Int)×(List Pt))=>Ending.returned (vg [vi z0.1,v8])) e0),bH.fresh _,((congrArg (λ(z:(Int)×(List Pt))=>z.2) e0)▸(o10.glue (γ:=c0) (ren:=(λn=>if n=2 then 1 else 0)) (k:=1) bH.col rfl rfl))⟩
end TL
