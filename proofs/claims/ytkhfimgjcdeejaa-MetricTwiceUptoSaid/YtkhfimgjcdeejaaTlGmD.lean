import Derived.Test.YtkhfimgjcdeejaaTlP2
import Derived.Test.YtkhfimgjcdeejaaTlGmA
import Derived.Test.YtkhfimgjcdeejaaProg
import Derived.Test.YtkhfimgjcdeejaaTlAli
set_option linter.all false
set_option maxRecDepth 20000
namespace TL
open Go Go.Proofs
theorem m8:Try.f20.body.isNone=false:=rfl
theorem lB:(Try.f20.name== "runtime.NumGoroutine")=false:=by decide+kernel
theorem nG(w0:World)(p:Pt):
    Calls Try.prog 20 #[vg [vi p.1,vi p.2]] w0 (λee w=>ee= .returned (vb (decide (c5 p)))/\cG w0.heap.size w0 w):=by
 refine aK Try.func20 rfl nq ?_
 have bH:=bu.start w0
 refine a8 (a7 rfl (cN rfl (bC c0 (is 1) (1,0) rfl rfl ?_)))
 intro g4 w1 b3 ch2 bx5
 replace bx5:Bx g4 (is 1) w1 b3 [vi p.1,vi p.2]:=bx5
 refine ma (vb false) (ab (a8 (a7 rfl (lx (a9 cL rfl rfl rfl rfl) (lx (aa aL rfl bx5 rfl) (lx (eL (m:=p.1) (n:= -1048576) rfl rfl) (mv (vb (decide ((-1048576)<=p.1))) ?_)))))))
 by_cases q6:(-1048576)<=p.1
 ·
  refine lv (vp b3 0) (wy (dt q6)) (a9 cL rfl rfl rfl rfl) (lv (vi p.1) (wy (dt q6)) (aa aL rfl bx5 rfl) (lv (vb (decide (p.1<=1048576))) (wy (dt q6)) (fZ (m:=p.1) (n:=1048576) rfl rfl) (lw (vb (decide (p.1<=1048576))) (aM rfl (dt q6) rfl) (mv (vb (decide (p.1<=1048576))) ?_))))
  by_cases q11:p.1<=1048576
  ·
   refine lv (vp b3 1) (wy (dt q11)) (a9 cL rfl rfl rfl rfl) (lv (vi p.2) (wy (dt q11)) (aa aL rfl bx5 rfl) (lv (vb (decide ((-1048576)<=p.2))) (wy (dt q11)) (eL (m:=p.2) (n:= -1048576) rfl rfl) (lw (vb (decide ((-1048576)<=p.2))) (aM rfl (dt q11) rfl) (mv (vb (decide ((-1048576)<=p.2))) ?_))))
   by_cases q16:(-1048576)<=p.2
   ·
    refine lv (vp b3 1) (wy (dt q16)) (a9 cL rfl rfl rfl rfl) (lv (vi p.2) (wy (dt q16)) (aa aL rfl bx5 rfl) (lv (vb (decide (p.2<=1048576))) (wy (dt q16)) (fZ (m:=p.2) (n:=1048576) rfl rfl) (lw (vb (decide (p.2<=1048576))) (aM rfl (dt q16) rfl) (ma (vb (decide (p.2<=1048576))) (ab (aw (vs:=[vb (decide (p.2<=1048576))]) Try.func20 (.tmp rfl .nil) ?_))))))
    have e0:(decide (p.2<=1048576):Bool)=(decide (c5 p)):=by
      (rw[decide_eq_decide];unfold c5;omega)
    replace bH:=bH.cn ch2
    exact⟨rb e0,bH.below⟩
   refine ak (wn (df q16)) (ak (wn (df q16)) (ak (wn (df q16)) (lw (vb false) (aS rfl (df q16) rfl) (ma (vb false) (ab (aw (vs:=[vb false]) Try.func20 (.tmp rfl .nil) ?_))))))
   have e0:(false:Bool)=(decide (c5 p)):=by
     exact(df (by unfold c5;omega)).symm
   replace bH:=bH.cn ch2
   exact⟨rb e0,bH.below⟩
  refine ak (wn (df q11)) (ak (wn (df q11)) (ak (wn (df q11)) (lw (vb false) (aS rfl (df q11) rfl) (mv (vb false) (ak (wn rfl) (ak (wn rfl) (ak (wn rfl) (lw (vb false) (aS rfl rfl rfl) (ma (vb false) (ab (aw (vs:=[vb false]) Try.func20 (.tmp rfl .nil) ?_)))))))))))
  have e0:(false:Bool)=(decide (c5 p)):=by
    exact(df (by unfold c5;omega)).symm
  replace bH:=bH.cn ch2
  exact⟨rb e0,bH.below⟩
 refine ak (wn (df q6)) (ak (wn (df q6)) (ak (wn (df q6)) (lw (vb false) (aS rfl (df q6) rfl) (mv (vb false) (ak (wn rfl) (ak (wn rfl) (ak (wn rfl) (lw (vb false) (aS rfl rfl rfl) (mv (vb false) (ak (wn rfl) (ak (wn rfl) (ak (wn rfl) (lw (vb false) (aS rfl rfl rfl) ?_)))))))))))))
 refine ma (vb false) (ab (aw (vs:=[vb false]) Try.func20 (.tmp rfl .nil) ?_))
 have e0:(false:Bool)=(decide (c5 p)):=by
   exact(df (by unfold c5;omega)).symm
 replace bH:=bH.cn ch2
 exact⟨rb e0,bH.below⟩
end TL
