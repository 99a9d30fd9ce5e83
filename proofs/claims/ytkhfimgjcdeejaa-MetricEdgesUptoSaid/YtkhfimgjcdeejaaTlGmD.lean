import Derived.Test.YtkhfimgjcdeejaaTlP1
import Derived.Test.YtkhfimgjcdeejaaTlGmA
import Derived.Test.YtkhfimgjcdeejaaProg
import Derived.Test.YtkhfimgjcdeejaaTlAli
set_option linter.all false
set_option maxRecDepth 20000
namespace TL
open Go Go.Proofs
theorem ll:Try.f20.body.isNone=false:=rfl
theorem kI:(Try.f20.name== "runtime.NumGoroutine")=false:=by decide+kernel
theorem mj(w0:World)(p:Pt):
    Calls Try.prog 20 #[vg [vi p.1,vi p.2]] w0 (λee w=>ee= .returned (vb (decide (de p)))/\cA w0.heap.size w0 w):=by
 refine aR Try.func20 rfl nq ?_
 have bH:=bu.start w0
 refine a5 (a0 rfl (cq rfl (cD c0 (is 1) (1,0) rfl rfl ?_)))
 intro g4 w1 b3 ch2 bx5
 replace bx5:Bx g4 (is 1) w1 b3 [vi p.1,vi p.2]:=bx5
 refine ma (vb false) (aa (a5 (a0 rfl (lx (a6 d2 rfl rfl rfl rfl) (lx (a7 aU rfl bx5 rfl) (lx (fJ (m:=p.1) (n:= -1048576) rfl rfl) (mv (vb (decide ((-1048576)<=p.1))) ?_)))))))
 by_cases q6:(-1048576)<=p.1
 ·
  refine lv (vp b3 0) (wy (dt q6)) (a6 d2 rfl rfl rfl rfl) (lv (vi p.1) (wy (dt q6)) (a7 aU rfl bx5 rfl) (lv (vb (decide (p.1<=1048576))) (wy (dt q6)) (iR (m:=p.1) (n:=1048576) rfl rfl) (lw (vb (decide (p.1<=1048576))) (aA rfl (dt q6) rfl) (mv (vb (decide (p.1<=1048576))) ?_))))
  by_cases q11:p.1<=1048576
  ·
   refine lv (vp b3 1) (wy (dt q11)) (a6 d2 rfl rfl rfl rfl) (lv (vi p.2) (wy (dt q11)) (a7 aU rfl bx5 rfl) (lv (vb (decide ((-1048576)<=p.2))) (wy (dt q11)) (fJ (m:=p.2) (n:= -1048576) rfl rfl) (lw (vb (decide ((-1048576)<=p.2))) (aA rfl (dt q11) rfl) (mv (vb (decide ((-1048576)<=p.2))) ?_))))
   by_cases q16:(-1048576)<=p.2
   ·
    refine lv (vp b3 1) (wy (dt q16)) (a6 d2 rfl rfl rfl rfl) (lv (vi p.2) (wy (dt q16)) (a7 aU rfl bx5 rfl) (lv (vb (decide (p.2<=1048576))) (wy (dt q16)) (iR (m:=p.2) (n:=1048576) rfl rfl) (lw (vb (decide (p.2<=1048576))) (aA rfl (dt q16) rfl) (ma (vb (decide (p.2<=1048576))) (aa (aF (vs:=[vb (decide (p.2<=1048576))]) Try.func20 (.tmp rfl .nil) ?_))))))
    have e0:(decide (p.2<=1048576):Bool)=(decide (de p)):=by
      (rw[decide_eq_decide];unfold de;omega)
    replace bH:=bH.cn ch2
    exact⟨rb e0,bH.below⟩
   refine aS (wn (df q16)) (aS (wn (df q16)) (aS (wn (df q16)) (lw (vb false) (b5 rfl (df q16) rfl) (ma (vb false) (aa (aF (vs:=[vb false]) Try.func20 (.tmp rfl .nil) ?_))))))
   have e0:(false:Bool)=(decide (de p)):=by
     exact(df (by unfold de;omega)).symm
   replace bH:=bH.cn ch2
   exact⟨rb e0,bH.below⟩
  refine aS (wn (df q11)) (aS (wn (df q11)) (aS (wn (df q11)) (lw (vb false) (b5 rfl (df q11) rfl) (mv (vb false) (aS (wn rfl) (aS (wn rfl) (aS (wn rfl) (lw (vb false) (b5 rfl rfl rfl) (ma (vb false) (aa (aF (vs:=[vb false]) Try.func20 (.tmp rfl .nil) ?_)))))))))))
  have e0:(false:Bool)=(decide (de p)):=by
    exact(df (by unfold de;omega)).symm
  replace bH:=bH.cn ch2
  exact⟨rb e0,bH.below⟩
 refine aS (wn (df q6)) (aS (wn (df q6)) (aS (wn (df q6)) (lw (vb false) (b5 rfl (df q6) rfl) (mv (vb false) (aS (wn rfl) (aS (wn rfl) (aS (wn rfl) (lw (vb false) (b5 rfl rfl rfl) (mv (vb false) (aS (wn rfl) (aS (wn rfl) (aS (wn rfl) (lw (vb false) (b5 rfl rfl rfl) ?_)))))))))))))
 refine ma (vb false) (aa (aF (vs:=[vb false]) Try.func20 (.tmp rfl .nil) ?_))
 have e0:(false:Bool)=(decide (de p)):=by
   exact(df (by unfold de;omega)).symm
 replace bH:=bH.cn ch2
 exact⟨rb e0,bH.below⟩
theorem kj(w0:World)(ps:List Pt)(ps_v:Value)(hps_v:Ro w0 ps_v ps):
    Calls Try.prog 7 #[ps_v] w0 (λee w=>ee= .returned (vb (decide (em ps)))/\cA w0.heap.size w0 w):=by
 refine aR Try.func7 rfl nq ?_
 have bH:=bu.start w0
 have Rps:=hps_v.sl
 refine a5 (a0 rfl (ma (vb false) (aa (a5 (a5 (a0 rfl (mv ps_v ?_)))))))
 have len1:=(Rps).small
 refine lx (bM cj rfl Rps) (lx (fI (m:=(ps.length:Int)) (n:=4096) rfl rfl) (aa ?_))
 by_cases p1:4096<(ps.length:Int)
 ·
  refine aj rfl (dt p1) (a5 (a0 rfl (ma (vb false) (aa (aF (vs:=[vb false]) Try.func7 (.tmp rfl .nil) ?_)))))
  have e0:(false:Bool)=(decide (em ps)):=by
    exact(df (λh=>by have:=h.1;omega)).symm
  exact⟨rb e0,bH.below⟩
 refine al rfl (df p1) (az (a5 (a5 (a0 rfl (ai 0 (aa (aE ?_)))))))
 refine bF (σ:=Nat×aT) (λ⟨k,gq⟩ f w=>bu w0 gq w/\f 0=ps_v/\f 3=vi ↑k/\Sl gq (is 0) w ps_v ps/\(k:Int)<=((ps.length:Int):Int)/\(∀j:Nat,j<k->de (gI ps ↑j))) (λ⟨k,gq⟩=>Int.toNat (((ps.length:Int):Int)-(k:Int))) (0,c0) ?_ ?_
 · exact⟨bH,rfl,rfl,Rps,by omega,by intro j hj;omega⟩
 clear Rps bH
 rintro⟨k,g4⟩ f2 w3 ⟨bH,zs0,zs3,Rps,hle_k,hinv⟩ back4
 refine a5 (a5 (a0 rfl (mz zs3 (mz zs0 (lx (bM cj rfl Rps) (lx (bd (m:=↑k) (n:=(ps.length:Int)) rfl rfl) (aa ?_)))))))
 by_cases p4:(k:Int)<(ps.length:Int)
 ·
  refine aj rfl (dt p4) (az (a5 (aE (a5 (a0 rfl (mz zs0 (mz zs3 (lx (ab (v:=ps_v) (i:=↑k) cj rfl rfl Rps rfl (by omega) (by omega)) (lw (vg [vi ((gI ps ↑k).1),vi ((gI ps ↑k).2)]) (aK (v:=ps_v) (i:=↑k) am rfl Rps (by omega) (by omega) rfl) (lo ?_))))))))))
  refine aG (v:=vb (decide (de (gI ps ↑k)))) (aB (vals:=[vg [vi ((gI ps ↑k).1),vi ((gI ps ↑k).2)]]) Try.func20 ll kI rfl) (mj w3 (gI ps ↑k)) ?_
  intro w5 hb6
  replace hb6:=af hb6 g4
  refine lx (dz (b:=(decide (de (gI ps ↑k)))) rfl) (aa ?_)
  by_cases p6:(decide (de (gI ps ↑k)))=true
  ·
   refine al rfl (congrArg Bool.not p6) (az (au (a0 rfl (mz zs3 (lx (bb (m:=↑k) (n:=1) rfl rfl (by omega)) (ai ((k:Int)+1) (aa ?_)))))))
   refine back4 (k+1,g4) _ _ ⟨bH.cn hb6,zs0,rfl,Rps.cn hb6,by omega,?_⟩ ?_
   · show∀j:Nat,j<(k+1)->de (gI ps ↑j)
     intro j hj
     by_cases e0:j=k
     · subst e0;simpa using of_decide_eq_true ‹_›
     · exact hinv j (by omega)
   · show Int.toNat (((ps.length:Int):Int)-((k+1):Int))<Int.toNat (((ps.length:Int):Int)-(k:Int))
     omega
  refine aj rfl (congrArg Bool.not (Bool.eq_false_iff.2 p6)) (a5 (a0 rfl (ma (vb false) (aa (aF (vs:=[vb false]) Try.func7 (.tmp rfl .nil) ?_)))))
  have e0:(false:Bool)=(decide (em ps)):=by
    (refine(df (λh=>?_)).symm
     have h1:=h.2 _ (bp (xs:=ps) (i:=↑k) (by omega) (by omega))
     simp_all;done)
  replace bH:=bH.cn hb6
  exact⟨rb e0,bH.below⟩
 refine al rfl (df p4) (aZ rfl (a5 (a0 rfl (ma (vb true) (aa (aF (vs:=[vb true]) Try.func7 (.tmp rfl .nil) ?_))))))
 have e0:(true:Bool)=(decide (em ps)):=by
   exact(dt ⟨by omega,jZ (λj hj=>hinv j (by omega))⟩).symm
 exact⟨rb e0,bH.below⟩
end TL
