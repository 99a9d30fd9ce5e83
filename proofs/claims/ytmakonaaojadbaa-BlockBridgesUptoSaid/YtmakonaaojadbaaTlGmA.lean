import Derived.Test.YtmakonaaojadbaaTlP2
import Derived.Test.YtmakonaaojadbaaProg
import Derived.Test.YtmakonaaojadbaaTlAli
set_option linter.all false
set_option maxRecDepth 20000
namespace TL
open Go Go.Proofs
theorem jA:Try.f75.body.isNone=false:=rfl
theorem jY:(Try.f75.name== "runtime.NumGoroutine")=false:=by decide+kernel
theorem iR(w0:World)(x:Int):
    Calls Try.prog 75 #[vi x] w0 (λee w=>ee= .returned (vb false)/\d6 w0.heap.size w0 w):=by
 refine aq Try.func75 rfl nq ?_
 have bH:=bd.start w0
 refine a4 (a3 rfl (ma (vb false) (a8 (a4 (a3 rfl (mi x (mi x (lx (eA (m:=x) (n:=x) rfl rfl) (ma (vb (!(decide (x=x)))) (a8 (aE (vs:=[vb (!(decide (x=x)))]) Try.func75 (.tmp rfl .nil) ?_)))))))))))
 have e0:(!(decide (x=x)):Bool)=(false):=by
   simp
 exact⟨(congrArg (a₁:= !(decide (x=x))) (λ(z0:Bool)=>Ending.returned (vb z0)) e0),bH.below⟩
theorem je(w0:World)(x:Int)(y:Int):
    Calls Try.prog 58 #[vi x,vi y] w0 (λee w=>ee= .returned (vi (db x y))/\d6 w0.heap.size w0 w):=by
 refine aq Try.func58 rfl nq ?_
 have bH:=bd.start w0
 refine a4 (a3 rfl (ai 0 (a8 (a4 (a3 rfl (mi x (lo (cL (v:=vb false) (aW (vals:=[vi x]) Try.func75 jA jY rfl) (iR w0 x) ?_))))))))
 intro w1 hb2
 replace hb2:=aQ hb2 c0
 refine ma (vb false) (a8 (a4 (a3 rfl (mi y (lo (cL (v:=vb false) (aW (vals:=[vi y]) Try.func75 jA jY rfl) (iR w1 y) ?_))))))
 intro w3 hb4
 replace hb4:=aQ hb4 c0
 refine ma (vb false) (a8 (a4 (a4 (a3 rfl (mv (vb false) (a8 (ab rfl rfl (al (a4 (a4 (a3 rfl (mv (vb false) (a8 (ab rfl rfl ?_))))))))))))))
 refine al (a4 (a4 (a3 rfl (mi x (mi y (lx (aV (m:=x) (n:=y) rfl rfl) (a8 ?_)))))))
 by_cases p9:x<y
 ·
  refine af rfl (dt p9) (a4 (a3 rfl (ai (-1) (a8 (aE (vs:=[vi (-1)]) Try.func58 (.tmp rfl .nil) ?_)))))
  have e0:(-1:Int)=(db x y):=by
    unfold db
    rw[if_pos ‹_›]
  replace bH:=bH.cn hb2
  replace bH:=bH.cn hb4
  exact⟨ri e0,bH.below⟩
 refine ab rfl (df p9) (al (a4 (a4 (a3 rfl (mi x (mi y (lx (dr (m:=x) (n:=y) rfl rfl) (a8 ?_))))))))
 by_cases p11:y<x
 ·
  refine af rfl (dt p11) (a4 (a3 rfl (ai 1 (a8 (aE (vs:=[vi 1]) Try.func58 (.tmp rfl .nil) ?_)))))
  have e0:(1:Int)=(db x y):=by
    unfold db
    rw[if_neg ‹_›,if_pos ‹_›]
  replace bH:=bH.cn hb2
  replace bH:=bH.cn hb4
  exact⟨ri e0,bH.below⟩
 refine ab rfl (df p11) (al (a4 (a3 rfl (ai 0 (a8 (aE (vs:=[vi 0]) Try.func58 (.tmp rfl .nil) ?_))))))
 have e0:(0:Int)=(db x y):=by
   unfold db
   rw[if_neg ‹_›,if_neg ‹_›]
 replace bH:=bH.cn hb2
 replace bH:=bH.cn hb4
 exact⟨ri e0,bH.below⟩
end TL
