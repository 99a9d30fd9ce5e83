import Derived.Test.YtmakonaaojadbaaBeTlP4
import Derived.Test.YtmakonaaojadbaaProg
import Derived.Test.YtmakonaaojadbaaBeTlAli
set_option linter.all false
set_option maxRecDepth 20000
namespace TL
open Go Go.Proofs
theorem ow:Try.f75.body.isNone=false:=rfl
theorem pa:(Try.f75.name== "runtime.NumGoroutine")=false:=by decide+kernel
theorem mP(w0:World)(x:Int):
    Calls Try.prog 75 #[vi x] w0 (λee w=>ee= .returned (vb false)/\eB w0.heap.size w0 w):=by
 refine aB Try.func75 rfl nq ?_
 have bH:=bp.start w0
 refine aa (a8 rfl (ma (vb false) (ag (aa (a8 rfl (mi x (mi x (lx (eQ (m:=x) (n:=x) rfl rfl) (ma (vb (!(decide (x=x)))) (ag (aH (vs:=[vb (!(decide (x=x)))]) Try.func75 (.tmp rfl .nil) ?_)))))))))))
 have e0:(!(decide (x=x)):Bool)=(false):=by
   simp
 exact⟨(congrArg (a₁:= !(decide (x=x))) (λ(z0:Bool)=>Ending.returned (vb z0)) e0),bH.below⟩
theorem nn(w0:World)(x:Int)(y:Int):
    Calls Try.prog 58 #[vi x,vi y] w0 (λee w=>ee= .returned (vi (fc x y))/\eB w0.heap.size w0 w):=by
 refine aB Try.func58 rfl nq ?_
 have bH:=bp.start w0
 refine aa (a8 rfl (ai 0 (ag (aa (a8 rfl (mi x (lo (cA (v:=vb false) (aX (vals:=[vi x]) Try.func75 ow pa rfl) (mP w0 x) ?_))))))))
 intro w1 hb2
 replace hb2:=aN hb2 c0
 refine ma (vb false) (ag (aa (a8 rfl (mi y (lo (cA (v:=vb false) (aX (vals:=[vi y]) Try.func75 ow pa rfl) (mP w1 y) ?_))))))
 intro w3 hb4
 replace hb4:=aN hb4 c0
 refine ma (vb false) (ag (aa (aa (a8 rfl (mv (vb false) (ag (aj rfl rfl (aw (aa (aa (a8 rfl (mv (vb false) (ag (aj rfl rfl ?_))))))))))))))
 refine aw (aa (aa (a8 rfl (mi x (mi y (lx (b7 (m:=x) (n:=y) rfl rfl) (ag ?_)))))))
 by_cases p9:x<y
 ·
  refine ao rfl (dt p9) (aa (a8 rfl (ai (-1) (ag (aH (vs:=[vi (-1)]) Try.func58 (.tmp rfl .nil) ?_)))))
  have e0:(-1:Int)=(fc x y):=by
    unfold fc
    rw[if_pos ‹_›]
  replace bH:=bH.cn hb2
  replace bH:=bH.cn hb4
  exact⟨ri e0,bH.below⟩
 refine aj rfl (df p9) (aw (aa (aa (a8 rfl (mi x (mi y (lx (ej (m:=x) (n:=y) rfl rfl) (ag ?_))))))))
 by_cases p11:y<x
 ·
  refine ao rfl (dt p11) (aa (a8 rfl (ai 1 (ag (aH (vs:=[vi 1]) Try.func58 (.tmp rfl .nil) ?_)))))
  have e0:(1:Int)=(fc x y):=by
    unfold fc
    rw[if_neg ‹_›,if_pos ‹_›]
  replace bH:=bH.cn hb2
  replace bH:=bH.cn hb4
  exact⟨ri e0,bH.below⟩
 refine aj rfl (df p11) (aw (aa (a8 rfl (ai 0 (ag (aH (vs:=[vi 0]) Try.func58 (.tmp rfl .nil) ?_))))))
 have e0:(0:Int)=(fc x y):=by
   unfold fc
   rw[if_neg ‹_›,if_neg ‹_›]
 replace bH:=bH.cn hb2
 replace bH:=bH.cn hb4
 exact⟨ri e0,bH.below⟩
end TL
