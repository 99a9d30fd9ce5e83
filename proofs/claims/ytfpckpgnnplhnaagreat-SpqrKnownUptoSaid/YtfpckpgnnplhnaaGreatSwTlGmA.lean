import Derived.Test.YtfpckpgnnplhnaaGreatSwTlAli
set_option linter.all false
set_option maxRecDepth 20000
namespace TL
open Go Go.Proofs
theorem ap:Tp Tryz.prog 3 false 1 8 (.int .i64 0):=Tp.of (by kernel_rfl)
theorem tZ:Tryz.f92.body.isNone=false:=rfl
theorem tC:(Tryz.f92.name== "runtime.NumGoroutine")=false:=by decide+kernel
theorem s5(w0:World)(x:Int):
    Calls Tryz.prog 92 #[vi x] w0 (λee w=>ee= .returned (vb false)/\eK w0.heap.size w0 w):=by
 refine ah Tryz.func92 rfl nq ?_
 have bH:=aW.start w0
 refine a7 (a6 rfl (ma (vb false) (ab (a7 (a6 rfl (mi x (mi x (lx (du (m:=x) (n:=x) rfl rfl) (ma (vb (!(decide (x=x)))) (ab (az (vs:=[vb (!(decide (x=x)))]) Tryz.func92 (.tmp rfl .nil) ?_)))))))))))
 have e0:(!(decide (x=x)):Bool)=(false):=by
   simp
 exact⟨(congrArg (a₁:= !(decide (x=x))) (λ(z0:Bool)=>Ending.returned (vb z0)) e0),bH.below⟩
theorem iT(w0:World)(x:Int)(y:Int):
    Calls Tryz.prog 75 #[vi x,vi y] w0 (λee w=>ee= .returned (vi (cT x y))/\eK w0.heap.size w0 w):=by
 refine ah Tryz.func75 rfl nq ?_
 have bH:=aW.start w0
 refine a7 (a6 rfl (ai 0 (ab (a7 (a6 rfl (mi x (lo (bI (v:=vb false) (aB (vals:=[vi x]) Tryz.func92 tZ tC rfl) (s5 w0 x) ?_))))))))
 intro w1 hb2
 replace hb2:=aG hb2 c0
 refine ma (vb false) (ab (a7 (a6 rfl (mi y (lo (bI (v:=vb false) (aB (vals:=[vi y]) Tryz.func92 tZ tC rfl) (s5 w1 y) ?_))))))
 intro w3 hb4
 replace hb4:=aG hb4 c0
 refine ma (vb false) (ab (a7 (a7 (a6 rfl (mv (vb false) (ab (af rfl rfl (am (a7 (a7 (a6 rfl (mv (vb false) (ab (af rfl rfl ?_))))))))))))))
 refine am (a7 (a7 (a6 rfl (mi x (mi y (lx (br (m:=x) (n:=y) rfl rfl) (ab ?_)))))))
 by_cases p9:x<y
 ·
  refine ag rfl (dt p9) (a7 (a6 rfl (ai (-1) (ab (az (vs:=[vi (-1)]) Tryz.func75 (.tmp rfl .nil) ?_)))))
  have e0:(-1:Int)=(cT x y):=by
    unfold cT
    rw[if_pos ‹_›]
  exact⟨ri e0,bH.t.below⟩
 refine af rfl (df p9) (am (a7 (a7 (a6 rfl (mi x (mi y (lx (eX (m:=x) (n:=y) rfl rfl) (ab ?_))))))))
 by_cases p11:y<x
 ·
  refine ag rfl (dt p11) (a7 (a6 rfl (ai 1 (ab (az (vs:=[vi 1]) Tryz.func75 (.tmp rfl .nil) ?_)))))
  have e0:(1:Int)=(cT x y):=by
    unfold cT
    rw[if_neg ‹_›,if_pos ‹_›]
  exact⟨ri e0,bH.t.below⟩
 refine af rfl (df p11) (am (a7 (a6 rfl (ai 0 (ab (az (vs:=[vi 0]) Tryz.func75 (.tmp rfl .nil) ?_))))))
 have e0:(0:Int)=(cT x y):=by
   unfold cT
   rw[if_neg ‹_›,if_neg ‹_›]
 exact⟨ri e0,bH.t.below⟩
theorem Ez(w0:World)(vals:List Int)(vals_v:Value)(hvals_v:Ro w0 vals_v vals):
    Calls Tryz.prog 79 #[vals_v] w0 (λee w=>ee= .returned (vi (s9 vals))/\eK w0.heap.size w0 w):=by
 refine ah Tryz.func79 rfl nq ?_
 have bH:=aW.start w0
 have Rvals:=hvals_v.sl
 refine a7 (a6 rfl (ai 0 (ab (a7 (a6 rfl (ai 0 (ab (a7 (a7 (a6 rfl (mv vals_v ?_)))))))))))
 have len1:=(Rvals).small
 refine lx (bG bF rfl Rvals) (mi 0 (ab (aj ?_)))
 refine aR (σ:=Nat×ax) (λ⟨k,gq⟩ f w=>aW w0 gq w/\f 3=vi 0/\f 6=vals_v/\f 7=vi (vals.length:Int)/\f 8=vi ↑k/\Sl gq (is 0) w vals_v vals/\(k:Int)<=((vals.length:Int):Int)/\(∀j:Nat,j<k->gI vals ↑j=0)) (λ⟨k,gq⟩=>Int.toNat (((vals.length:Int):Int)-(k:Int))) (0,c0) ?_ ?_
 · exact⟨bH,rfl,rfl,rfl,rfl,Rvals,by omega,by intro j hj;omega⟩
 rintro⟨k,g4⟩ f2 w3 ⟨bH,zs3,zs6,zs7,zs8,Rvals,hle_k,hinv⟩ back3
 refine a7 (a6 rfl (lx (br (m:=↑k) (n:=(vals.length:Int)) zs8 zs7) (ab (a7 ?_))))
 by_cases p3:(k:Int)<(vals.length:Int)
 ·
  refine ag rfl (dt p3) (am (a7 (aj (a7 (a6 rfl (lx (ad (v:=vals_v) (i:=↑k) bF rfl zs6 Rvals zs8 (by omega) (by omega)) (lx (aw (v:=vals_v) (i:=↑k) ap rfl Rvals (by omega) (by omega) (by decide) rfl) (ai (gI vals ↑k) (ab (a7 (a6 rfl (mi (gI vals ↑k) ?_))))))))))))
  refine mz zs3 (lx (du (m:=(gI vals ↑k)) (n:=0) rfl rfl) (ab ?_))
  by_cases p5:(gI vals ↑k)=0
  ·
   refine af rfl (congrArg Bool.not (dt p5)) (am (ak (a6 rfl (lx (aJ (m:=↑k) (n:=1) zs8 rfl (by omega)) (mi ((k:Int)+1) (ab ?_))))))
   refine back3 (k+1,g4) _ _ ⟨bH,zs3,zs6,zs7,rfl,Rvals,by omega,?_⟩ ?_
   · show∀j:Nat,j<(k+1)->gI vals ↑j=0
     intro j hj
     by_cases e0:j=k
     · subst e0;assumption
     · exact hinv j (by omega)
   · show Int.toNat (_-_)<Int.toNat (_-_)
     omega
  refine ag rfl (congrArg Bool.not (df p5)) (a7 (a6 rfl (mi (gI vals ↑k) (ai (gI vals ↑k) (ab (az (vs:=[vi (gI vals ↑k)]) Tryz.func79 (.tmp rfl .nil) ?_))))))
  have e0:((gI vals ↑k):Int)=(s9 vals):=by
    exact AS hinv ‹_› ‹_›
  exact⟨ri e0,bH.below⟩
 refine af rfl (df p3) (aF rfl (a7 (a6 rfl (mz zs3 (ai 0 (ab (az (vs:=[vi 0]) Tryz.func79 (.tmp rfl .nil) ?_)))))))
 have e0:(0:Int)=(s9 vals):=by
   exact xR hinv ‹_›
 exact⟨ri e0,bH.below⟩
end TL
