import Derived.Test.YtgneelmmomohdaaSqTlP4
import Derived.Test.YtgneelmmomohdaaProg
import Derived.Test.YtgneelmmomohdaaSqTlAli
set_option linter.all false
set_option maxRecDepth 20000
namespace TL
open Go Go.Proofs
theorem y3:Tp Try.prog 3 false 1 8 (.int .i64 0):=Tp.of (by kernel_rfl)
theorem rQ:Try.f62.body.isNone=false:=rfl
theorem rx:(Try.f62.name== "runtime.NumGoroutine")=false:=by decide+kernel
theorem pz(w0:World)(x:Int):
    Calls Try.prog 62 #[vi x] w0 (λee w=>ee= .returned (vb false)/\e8 w0.heap.size w0 w):=by
 refine ar Try.func62 rfl nq ?_
 have bH:=bq.start w0
 refine aa (a8 rfl (ma (vb false) (ad (aa (a8 rfl (mi x (mi x (lx (dv (m:=x) (n:=x) rfl rfl) (ma (vb (!(decide (x=x)))) (ad (aD (vs:=[vb (!(decide (x=x)))]) Try.func62 (.tmp rfl .nil) ?_)))))))))))
 have e0:(!(decide (x=x)):Bool)=(false):=by
   simp
 exact⟨(congrArg (a₁:= !(decide (x=x))) (λ(z0:Bool)=>Ending.returned (vb z0)) e0),bH.below⟩
theorem lW(w0:World)(x:Int)(y:Int):
    Calls Try.prog 38 #[vi x,vi y] w0 (λee w=>ee= .returned (vi (eG x y))/\e8 w0.heap.size w0 w):=by
 refine ar Try.func38 rfl nq ?_
 have bH:=bq.start w0
 refine aa (a8 rfl (ai 0 (ad (aa (a8 rfl (mi x (lo (bT (v:=vb false) (aQ (vals:=[vi x]) Try.func62 rQ rx rfl) (pz w0 x) ?_))))))))
 intro w1 hb2
 replace hb2:=aT hb2 c0
 refine ma (vb false) (ad (aa (a8 rfl (mi y (lo (bT (v:=vb false) (aQ (vals:=[vi y]) Try.func62 rQ rx rfl) (pz w1 y) ?_))))))
 intro w3 hb4
 replace hb4:=aT hb4 c0
 refine ma (vb false) (ad (aa (aa (a8 rfl (mv (vb false) (ad (ah rfl rfl (ap (aa (aa (a8 rfl (mv (vb false) (ad (ah rfl rfl ?_))))))))))))))
 refine ap (aa (aa (a8 rfl (mi x (mi y (lx (bg (m:=x) (n:=y) rfl rfl) (ad ?_)))))))
 by_cases p9:x<y
 ·
  refine aj rfl (dt p9) (aa (a8 rfl (ai (-1) (ad (aD (vs:=[vi (-1)]) Try.func38 (.tmp rfl .nil) ?_)))))
  have e0:(-1:Int)=(eG x y):=by
    unfold eG
    rw[if_pos ‹_›]
  replace bH:=bH.cn hb2
  replace bH:=bH.cn hb4
  exact⟨ri e0,bH.below⟩
 refine ah rfl (df p9) (ap (aa (aa (a8 rfl (mi x (mi y (lx (eo (m:=x) (n:=y) rfl rfl) (ad ?_))))))))
 by_cases p11:y<x
 ·
  refine aj rfl (dt p11) (aa (a8 rfl (ai 1 (ad (aD (vs:=[vi 1]) Try.func38 (.tmp rfl .nil) ?_)))))
  have e0:(1:Int)=(eG x y):=by
    unfold eG
    rw[if_neg ‹_›,if_pos ‹_›]
  replace bH:=bH.cn hb2
  replace bH:=bH.cn hb4
  exact⟨ri e0,bH.below⟩
 refine ah rfl (df p11) (ap (aa (a8 rfl (ai 0 (ad (aD (vs:=[vi 0]) Try.func38 (.tmp rfl .nil) ?_))))))
 have e0:(0:Int)=(eG x y):=by
   unfold eG
   rw[if_neg ‹_›,if_neg ‹_›]
 replace bH:=bH.cn hb2
 replace bH:=bH.cn hb4
 exact⟨ri e0,bH.below⟩
theorem yO(w0:World)(vals:List Int)(vals_v:Value)(hvals_v:Ro w0 vals_v vals):
    Calls Try.prog 37 #[vals_v] w0 (λee w=>ee= .returned (vi (qF vals))/\e8 w0.heap.size w0 w):=by
 refine ar Try.func37 rfl nq ?_
 have bH:=bq.start w0
 have Rvals:=hvals_v.sl
 refine aa (a8 rfl (ai 0 (ad (aa (a8 rfl (ai 0 (ad (aa (aa (a8 rfl (mv vals_v ?_)))))))))))
 have len1:=(Rvals).small
 refine lx (bJ bD rfl Rvals) (mi 0 (ad (ao ?_)))
 refine b9 (σ:=Nat×aL) (λ⟨k,gq⟩ f w=>bq w0 gq w/\f 3=vi 0/\f 6=vals_v/\f 7=vi (vals.length:Int)/\f 8=vi ↑k/\Sl gq (is 0) w vals_v vals/\(k:Int)<=((vals.length:Int):Int)/\(∀j:Nat,j<k->gI vals ↑j=0)) (λ⟨k,gq⟩=>Int.toNat (((vals.length:Int):Int)-(k:Int))) (0,c0) ?_ ?_
 · exact⟨bH,rfl,rfl,rfl,rfl,Rvals,by omega,by intro j hj;omega⟩
 clear Rvals bH
 rintro⟨k,g4⟩ f2 w3 ⟨bH,zs3,zs6,zs7,zs8,Rvals,hle_k,hinv⟩ back3
 refine aa (a8 rfl (lx (bg (m:=↑k) (n:=(vals.length:Int)) zs8 zs7) (ad (aa ?_))))
 by_cases p3:(k:Int)<(vals.length:Int)
 ·
  refine aj rfl (dt p3) (ap (aa (ao (aa (a8 rfl (lx (ag (v:=vals_v) (i:=↑k) bD rfl zs6 Rvals zs8 (by omega) (by omega)) (lx (aw (v:=vals_v) (i:=↑k) y3 rfl Rvals (by omega) (by omega) (by decide) rfl) (ai (gI vals ↑k) (ad (aa (a8 rfl (mi (gI vals ↑k) ?_))))))))))))
  refine mz zs3 (lx (dv (m:=(gI vals ↑k)) (n:=0) rfl rfl) (ad ?_))
  by_cases p5:(gI vals ↑k)=0
  ·
   refine ah rfl (congrArg Bool.not (dt p5)) (ap (am (a8 rfl (lx (aJ (m:=↑k) (n:=1) zs8 rfl (by omega)) (mi ((k:Int)+1) (ad ?_))))))
   refine back3 (k+1,g4) _ _ ⟨bH,zs3,zs6,zs7,rfl,Rvals,by omega,?_⟩ ?_
   · show∀j:Nat,j<(k+1)->gI vals ↑j=0
     intro j hj
     by_cases e0:j=k
     · subst e0;assumption
     · exact hinv j (by omega)
   · show Int.toNat (((vals.length:Int):Int)-((k+1):Int))<Int.toNat (((vals.length:Int):Int)-(k:Int))
     omega
  refine aj rfl (congrArg Bool.not (df p5)) (aa (a8 rfl (mi (gI vals ↑k) (ai (gI vals ↑k) (ad (aD (vs:=[vi (gI vals ↑k)]) Try.func37 (.tmp rfl .nil) ?_))))))
  have e0:((gI vals ↑k):Int)=(qF vals):=by
    exact uw hinv ‹_› ‹_›
  exact⟨ri e0,bH.below⟩
 refine ah rfl (df p3) (aM rfl (aa (a8 rfl (mz zs3 (ai 0 (ad (aD (vs:=[vi 0]) Try.func37 (.tmp rfl .nil) ?_)))))))
 have e0:(0:Int)=(qF vals):=by
   exact te hinv ‹_›
 exact⟨ri e0,bH.below⟩
end TL
