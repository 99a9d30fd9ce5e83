import Derived.Test.YtmakonaaojadbaaBcTlP4
import Derived.Test.YtmakonaaojadbaaProg
import Derived.Test.YtmakonaaojadbaaBcTlAli
set_option linter.all false
set_option maxRecDepth 20000
namespace TL
open Go Go.Proofs
theorem nE:Try.f75.body.isNone=false:=rfl
theorem nr:(Try.f75.name== "runtime.NumGoroutine")=false:=by decide+kernel
theorem m9(w0:World)(x:Int):
    Calls Try.prog 75 #[vi x] w0 (λee w=>ee= .returned (vb false)/\dW w0.heap.size w0 w):=by
 refine aD Try.func75 rfl nq ?_
 have bH:=bx.start w0
 refine ab (a8 rfl (ma (vb false) (ag (ab (a8 rfl (mi x (mi x (lx (gk (m:=x) (n:=x) rfl rfl) (ma (vb (!(decide (x=x)))) (ag (aQ (vs:=[vb (!(decide (x=x)))]) Try.func75 (.tmp rfl .nil) ?_)))))))))))
 have e0:(!(decide (x=x)):Bool)=(false):=by
   simp
 exact⟨(congrArg (a₁:= !(decide (x=x))) (λ(z0:Bool)=>Ending.returned (vb z0)) e0),bH.below⟩
theorem mH(w0:World)(x:Int)(y:Int):
    Calls Try.prog 58 #[vi x,vi y] w0 (λee w=>ee= .returned (vi (eA x y))/\dW w0.heap.size w0 w):=by
 refine aD Try.func58 rfl nq ?_
 have bH:=bx.start w0
 refine ab (a8 rfl (ai 0 (ag (ab (a8 rfl (mi x (lo (cV (v:=vb false) (bg (vals:=[vi x]) Try.func75 nE nr rfl) (m9 w0 x) ?_))))))))
 intro w1 hb2
 replace hb2:=aZ hb2 c0
 refine ma (vb false) (ag (ab (a8 rfl (mi y (lo (cV (v:=vb false) (bg (vals:=[vi y]) Try.func75 nE nr rfl) (m9 w1 y) ?_))))))
 intro w3 hb4
 replace hb4:=aZ hb4 c0
 refine ma (vb false) (ag (ab (ab (a8 rfl (mv (vb false) (ag (aj rfl rfl (ay (ab (ab (a8 rfl (mv (vb false) (ag (aj rfl rfl ?_))))))))))))))
 refine ay (ab (ab (a8 rfl (mi x (mi y (lx (bp (m:=x) (n:=y) rfl rfl) (ag ?_)))))))
 by_cases p9:x<y
 ·
  refine ao rfl (dt p9) (ab (a8 rfl (ai (-1) (ag (aQ (vs:=[vi (-1)]) Try.func58 (.tmp rfl .nil) ?_)))))
  have e0:(-1:Int)=(eA x y):=by
    unfold eA
    rw[if_pos ‹_›]
  replace bH:=bH.cn hb2
  replace bH:=bH.cn hb4
  exact⟨ri e0,bH.below⟩
 refine aj rfl (df p9) (ay (ab (ab (a8 rfl (mi x (mi y (lx (eb (m:=x) (n:=y) rfl rfl) (ag ?_))))))))
 by_cases p11:y<x
 ·
  refine ao rfl (dt p11) (ab (a8 rfl (ai 1 (ag (aQ (vs:=[vi 1]) Try.func58 (.tmp rfl .nil) ?_)))))
  have e0:(1:Int)=(eA x y):=by
    unfold eA
    rw[if_neg ‹_›,if_pos ‹_›]
  replace bH:=bH.cn hb2
  replace bH:=bH.cn hb4
  exact⟨ri e0,bH.below⟩
 refine aj rfl (df p11) (ay (ab (a8 rfl (ai 0 (ag (aQ (vs:=[vi 0]) Try.func58 (.tmp rfl .nil) ?_))))))
 have e0:(0:Int)=(eA x y):=by
   unfold eA
   rw[if_neg ‹_›,if_neg ‹_›]
 replace bH:=bH.cn hb2
 replace bH:=bH.cn hb4
 exact⟨ri e0,bH.below⟩
end TL
