import Derived.Test.YtmakonaaojadbaaBjTlP3
import Derived.Test.YtmakonaaojadbaaProg
import Derived.Test.YtmakonaaojadbaaBjTlAli
set_option linter.all false
set_option maxRecDepth 20000
namespace TL
open Go Go.Proofs
theorem lB:Try.f75.body.isNone=false:=rfl
theorem lj:(Try.f75.name== "runtime.NumGoroutine")=false:=by decide+kernel
theorem jF(w0:World)(x:Int):
    Calls Try.prog 75 #[vi x] w0 (λee w=>ee= .returned (vb false)/\dE w0.heap.size w0 w):=by
 refine ar Try.func75 rfl nq ?_
 have bH:=bj.start w0
 refine a6 (a0 rfl (ma (vb false) (aa (a6 (a0 rfl (mi x (mi x (lx (eG (m:=x) (n:=x) rfl rfl) (ma (vb (!(decide (x=x)))) (aa (aA (vs:=[vb (!(decide (x=x)))]) Try.func75 (.tmp rfl .nil) ?_)))))))))))
 have e0:(!(decide (x=x)):Bool)=(false):=by
   simp
 exact⟨(congrArg (a₁:= !(decide (x=x))) (λ(z0:Bool)=>Ending.returned (vb z0)) e0),bH.below⟩
theorem ku(w0:World)(x:Int)(y:Int):
    Calls Try.prog 58 #[vi x,vi y] w0 (λee w=>ee= .returned (vi (dJ x y))/\dE w0.heap.size w0 w):=by
 refine ar Try.func58 rfl nq ?_
 have bH:=bj.start w0
 refine a6 (a0 rfl (ai 0 (aa (a6 (a0 rfl (mi x (lo (d4 (v:=vb false) (aV (vals:=[vi x]) Try.func75 lB lj rfl) (jF w0 x) ?_))))))))
 intro w1 hb2
 replace hb2:=aY hb2 c0
 refine ma (vb false) (aa (a6 (a0 rfl (mi y (lo (d4 (v:=vb false) (aV (vals:=[vi y]) Try.func75 lB lj rfl) (jF w1 y) ?_))))))
 intro w3 hb4
 replace hb4:=aY hb4 c0
 refine ma (vb false) (aa (a6 (a6 (a0 rfl (mv (vb false) (aa (ae rfl rfl (ap (a6 (a6 (a0 rfl (mv (vb false) (aa (ae rfl rfl ?_))))))))))))))
 refine ap (a6 (a6 (a0 rfl (mi x (mi y (lx (aZ (m:=x) (n:=y) rfl rfl) (aa ?_)))))))
 by_cases p9:x<y
 ·
  refine af rfl (dt p9) (a6 (a0 rfl (ai (-1) (aa (aA (vs:=[vi (-1)]) Try.func58 (.tmp rfl .nil) ?_)))))
  have e0:(-1:Int)=(dJ x y):=by
    unfold dJ
    rw[if_pos ‹_›]
  replace bH:=bH.cn hb2
  replace bH:=bH.cn hb4
  exact⟨ri e0,bH.below⟩
 refine ae rfl (df p9) (ap (a6 (a6 (a0 rfl (mi x (mi y (lx (dV (m:=x) (n:=y) rfl rfl) (aa ?_))))))))
 by_cases p11:y<x
 ·
  refine af rfl (dt p11) (a6 (a0 rfl (ai 1 (aa (aA (vs:=[vi 1]) Try.func58 (.tmp rfl .nil) ?_)))))
  have e0:(1:Int)=(dJ x y):=by
    unfold dJ
    rw[if_neg ‹_›,if_pos ‹_›]
  replace bH:=bH.cn hb2
  replace bH:=bH.cn hb4
  exact⟨ri e0,bH.below⟩
 refine ae rfl (df p11) (ap (a6 (a0 rfl (ai 0 (aa (aA (vs:=[vi 0]) Try.func58 (.tmp rfl .nil) ?_))))))
 have e0:(0:Int)=(dJ x y):=by
   unfold dJ
   rw[if_neg ‹_›,if_neg ‹_›]
 replace bH:=bH.cn hb2
 replace bH:=bH.cn hb4
 exact⟨ri e0,bH.below⟩
end TL
