import Derived.Test.YtmakonaaojadbaaBaTlP4
import Derived.Test.YtmakonaaojadbaaProg
import Derived.Test.YtmakonaaojadbaaBaTlAli
set_option linter.all false
set_option maxRecDepth 20000
namespace TL
open Go Go.Proofs
theorem pf:Try.f75.body.isNone=false:=rfl
theorem ot:(Try.f75.name== "runtime.NumGoroutine")=false:=by decide+kernel
theorem nl(w0:World)(x:Int):
    Calls Try.prog 75 #[vi x] w0 (λee w=>ee= .returned (vb false)/\dT w0.heap.size w0 w):=by
 refine aC Try.func75 rfl nq ?_
 have bH:=bv.start w0
 refine ab (a8 rfl (ma (vb false) (ag (ab (a8 rfl (mi x (mi x (lx (dW (m:=x) (n:=x) rfl rfl) (ma (vb (!(decide (x=x)))) (ag (aQ (vs:=[vb (!(decide (x=x)))]) Try.func75 (.tmp rfl .nil) ?_)))))))))))
 have e0:(!(decide (x=x)):Bool)=(false):=by
   simp
 exact⟨(congrArg (a₁:= !(decide (x=x))) (λ(z0:Bool)=>Ending.returned (vb z0)) e0),bH.below⟩
theorem nP(w0:World)(x:Int)(y:Int):
    Calls Try.prog 58 #[vi x,vi y] w0 (λee w=>ee= .returned (vi (eQ x y))/\dT w0.heap.size w0 w):=by
 refine aC Try.func58 rfl nq ?_
 have bH:=bv.start w0
 refine ab (a8 rfl (ai 0 (ag (ab (a8 rfl (mi x (lo (cC (v:=vb false) (b9 (vals:=[vi x]) Try.func75 pf ot rfl) (nl w0 x) ?_))))))))
 intro w1 hb2
 replace hb2:=aS hb2 c0
 refine ma (vb false) (ag (ab (a8 rfl (mi y (lo (cC (v:=vb false) (b9 (vals:=[vi y]) Try.func75 pf ot rfl) (nl w1 y) ?_))))))
 intro w3 hb4
 replace hb4:=aS hb4 c0
 refine ma (vb false) (ag (ab (ab (a8 rfl (mv (vb false) (ag (aj rfl rfl (av (ab (ab (a8 rfl (mv (vb false) (ag (aj rfl rfl ?_))))))))))))))
 refine av (ab (ab (a8 rfl (mi x (mi y (lx (bn (m:=x) (n:=y) rfl rfl) (ag ?_)))))))
 by_cases p9:x<y
 ·
  refine al rfl (dt p9) (ab (a8 rfl (ai (-1) (ag (aQ (vs:=[vi (-1)]) Try.func58 (.tmp rfl .nil) ?_)))))
  have e0:(-1:Int)=(eQ x y):=by
    unfold eQ
    rw[if_pos ‹_›]
  replace bH:=bH.cn hb2
  replace bH:=bH.cn hb4
  exact⟨ri e0,bH.below⟩
 refine aj rfl (df p9) (av (ab (ab (a8 rfl (mi x (mi y (lx (e7 (m:=x) (n:=y) rfl rfl) (ag ?_))))))))
 by_cases p11:y<x
 ·
  refine al rfl (dt p11) (ab (a8 rfl (ai 1 (ag (aQ (vs:=[vi 1]) Try.func58 (.tmp rfl .nil) ?_)))))
  have e0:(1:Int)=(eQ x y):=by
    unfold eQ
    rw[if_neg ‹_›,if_pos ‹_›]
  replace bH:=bH.cn hb2
  replace bH:=bH.cn hb4
  exact⟨ri e0,bH.below⟩
 refine aj rfl (df p11) (av (ab (a8 rfl (ai 0 (ag (aQ (vs:=[vi 0]) Try.func58 (.tmp rfl .nil) ?_))))))
 have e0:(0:Int)=(eQ x y):=by
   unfold eQ
   rw[if_neg ‹_›,if_neg ‹_›]
 replace bH:=bH.cn hb2
 replace bH:=bH.cn hb4
 exact⟨ri e0,bH.below⟩
end TL
