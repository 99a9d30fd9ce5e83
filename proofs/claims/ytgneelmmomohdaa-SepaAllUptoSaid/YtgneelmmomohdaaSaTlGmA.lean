import Derived.Test.YtgneelmmomohdaaSaTlP5
import Derived.Test.YtgneelmmomohdaaProg
import Derived.Test.YtgneelmmomohdaaSaTlAli
set_option linter.all false
set_option maxRecDepth 20000
namespace TL
open Go Go.Proofs
theorem BX:Tp Try.prog 3 false 1 8 (.int .i64 0):=Tp.of (by kernel_rfl)
theorem tU:Try.f62.body.isNone=false:=rfl
theorem ux:(Try.f62.name== "runtime.NumGoroutine")=false:=by decide+kernel
theorem rA(w0:World)(x:Int):
    Calls Try.prog 62 #[vi x] w0 (λee w=>ee= .returned (vb false)/\ep w0.heap.size w0 w):=by
 refine av Try.func62 rfl nq ?_
 have bH:=bn.start w0
 refine aa (a8 rfl (ma (vb false) (ab (aa (a8 rfl (mi x (mi x (lx (cK (m:=x) (n:=x) rfl rfl) (ma (vb (!(decide (x=x)))) (ab (aD (vs:=[vb (!(decide (x=x)))]) Try.func62 (.tmp rfl .nil) ?_)))))))))))
 have e0:(!(decide (x=x)):Bool)=(false):=by
   simp
 exact⟨(congrArg (a₁:= !(decide (x=x))) (λ(z0:Bool)=>Ending.returned (vb z0)) e0),bH.below⟩
theorem nt(w0:World)(x:Int)(y:Int):
    Calls Try.prog 38 #[vi x,vi y] w0 (λee w=>ee= .returned (vi (eX x y))/\ep w0.heap.size w0 w):=by
 refine av Try.func38 rfl nq ?_
 have bH:=bn.start w0
 refine aa (a8 rfl (ai 0 (ab (aa (a8 rfl (mi x (lo (bW (v:=vb false) (aN (vals:=[vi x]) Try.func62 tU ux rfl) (rA w0 x) ?_))))))))
 intro w1 hb2
 replace hb2:=aS hb2 c0
 refine ma (vb false) (ab (aa (a8 rfl (mi y (lo (bW (v:=vb false) (aN (vals:=[vi y]) Try.func62 tU ux rfl) (rA w1 y) ?_))))))
 intro w3 hb4
 replace hb4:=aS hb4 c0
 refine ma (vb false) (ab (aa (aa (a8 rfl (mv (vb false) (ab (ag rfl rfl (aq (aa (aa (a8 rfl (mv (vb false) (ab (ag rfl rfl ?_))))))))))))))
 refine aq (aa (aa (a8 rfl (mi x (mi y (lx (bm (m:=x) (n:=y) rfl rfl) (ab ?_)))))))
 by_cases p9:x<y
 ·
  refine ah rfl (dt p9) (aa (a8 rfl (ai (-1) (ab (aD (vs:=[vi (-1)]) Try.func38 (.tmp rfl .nil) ?_)))))
  have e0:(-1:Int)=(eX x y):=by
    unfold eX
    rw[if_pos ‹_›]
  replace bH:=bH.cn hb2
  replace bH:=bH.cn hb4
  exact⟨ri e0,bH.below⟩
 refine ag rfl (df p9) (aq (aa (aa (a8 rfl (mi x (mi y (lx (eu (m:=x) (n:=y) rfl rfl) (ab ?_))))))))
 by_cases p11:y<x
 ·
  refine ah rfl (dt p11) (aa (a8 rfl (ai 1 (ab (aD (vs:=[vi 1]) Try.func38 (.tmp rfl .nil) ?_)))))
  have e0:(1:Int)=(eX x y):=by
    unfold eX
    rw[if_neg ‹_›,if_pos ‹_›]
  replace bH:=bH.cn hb2
  replace bH:=bH.cn hb4
  exact⟨ri e0,bH.below⟩
 refine ag rfl (df p11) (aq (aa (a8 rfl (ai 0 (ab (aD (vs:=[vi 0]) Try.func38 (.tmp rfl .nil) ?_))))))
 have e0:(0:Int)=(eX x y):=by
   unfold eX
   rw[if_neg ‹_›,if_neg ‹_›]
 replace bH:=bH.cn hb2
 replace bH:=bH.cn hb4
 exact⟨ri e0,bH.below⟩
theorem CW(w0:World)(vals:List Int)(vals_v:Value)(hvals_v:Ro w0 vals_v vals):
    Calls Try.prog 37 #[vals_v] w0 (λee w=>ee= .returned (vi (sG vals))/\ep w0.heap.size w0 w):=by
 refine av Try.func37 rfl nq ?_
 have bH:=bn.start w0
 have Rvals:=hvals_v.sl
 refine aa (a8 rfl (ai 0 (ab (aa (a8 rfl (ai 0 (ab (aa (aa (a8 rfl (mv vals_v ?_)))))))))))
 have len1:=(Rvals).small
 refine lx (bq bv rfl Rvals) (mi 0 (ab (ao ?_)))
 refine aY (σ:=Nat×aG) (λ⟨k,gq⟩ f w=>bn w0 gq w/\f 3=vi 0/\f 6=vals_v/\f 7=vi (vals.length:Int)/\f 8=vi ↑k/\Sl gq (is 0) w vals_v vals/\(k:Int)<=((vals.length:Int):Int)/\(∀j:Nat,j<k->gI vals ↑j=0)) (λ⟨k,gq⟩=>Int.toNat (((vals.length:Int):Int)-(k:Int))) (0,c0) ?_ ?_
 · exact⟨bH,rfl,rfl,rfl,rfl,Rvals,by omega,by intro j hj;omega⟩
 clear Rvals bH
 rintro⟨k,g4⟩ f2 w3 ⟨bH,zs3,zs6,zs7,zs8,Rvals,hle_k,hinv⟩ back3
 refine aa (a8 rfl (lx (bm (m:=↑k) (n:=(vals.length:Int)) zs8 zs7) (ab (aa ?_))))
 by_cases p3:(k:Int)<(vals.length:Int)
 ·
  refine ah rfl (dt p3) (aq (aa (ao (aa (a8 rfl (lx (ad (v:=vals_v) (i:=↑k) bv rfl zs6 Rvals zs8 (by omega) (by omega)) (lx (az (v:=vals_v) (i:=↑k) BX rfl Rvals (by omega) (by omega) (by decide) rfl) (ai (gI vals ↑k) (ab (aa (a8 rfl (mi (gI vals ↑k) ?_))))))))))))
  refine mz zs3 (lx (cK (m:=(gI vals ↑k)) (n:=0) rfl rfl) (ab ?_))
  by_cases p5:(gI vals ↑k)=0
  ·
   refine ag rfl (congrArg Bool.not (dt p5)) (aq (am (a8 rfl (lx (aI (m:=↑k) (n:=1) zs8 rfl (by omega)) (mi ((k:Int)+1) (ab ?_))))))
   refine back3 (k+1,g4) _ _ ⟨bH,zs3,zs6,zs7,rfl,Rvals,by omega,?_⟩ ?_
   · show∀j:Nat,j<(k+1)->gI vals ↑j=0
     intro j hj
     by_cases e0:j=k
     · subst e0;assumption
     · exact hinv j (by omega)
   · show Int.toNat (((vals.length:Int):Int)-((k+1):Int))<Int.toNat (((vals.length:Int):Int)-(k:Int))
     omega
  refine ah rfl (congrArg Bool.not (df p5)) (aa (a8 rfl (mi (gI vals ↑k) (ai (gI vals ↑k) (ab (aD (vs:=[vi (gI vals ↑k)]) Try.func37 (.tmp rfl .nil) ?_))))))
  have e0:((gI vals ↑k):Int)=(sG vals):=by
    exact xb hinv ‹_› ‹_›
  exact⟨ri e0,bH.below⟩
 refine ag rfl (df p3) (aH rfl (aa (a8 rfl (mz zs3 (ai 0 (ab (aD (vs:=[vi 0]) Try.func37 (.tmp rfl .nil) ?_)))))))
 have e0:(0:Int)=(sG vals):=by
   exact xe hinv ‹_›
 exact⟨ri e0,bH.below⟩
end TL
