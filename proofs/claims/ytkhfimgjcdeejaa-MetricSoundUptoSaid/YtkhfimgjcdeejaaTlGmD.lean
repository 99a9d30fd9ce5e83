import Derived.Test.YtkhfimgjcdeejaaTlP3
import Derived.Test.YtkhfimgjcdeejaaTlGmA
import Derived.Test.YtkhfimgjcdeejaaProg
import Derived.Test.YtkhfimgjcdeejaaTlAli
set_option linter.all false
set_option maxRecDepth 20000
namespace TL
open Go Go.Proofs
theorem pK:Try.f20.body.isNone=false:=rfl
theorem oN:(Try.f20.name== "runtime.NumGoroutine")=false:=by decide+kernel
theorem rp(w0:World)(p:Pt):
    Calls Try.prog 20 #[vg [vi p.1,vi p.2]] w0 (λee w=>ee= .returned (vb (decide (ck p)))/\cW w0.heap.size w0 w):=by
 refine aI Try.func20 rfl nq ?_
 have bH:=bo.start w0
 refine a6 (a5 rfl (cj rfl (bA c0 (is 1) (1,0) rfl rfl ?_)))
 intro g4 w1 b3 ch2 bx5
 replace bx5:Bx g4 (is 1) w1 b3 [vi p.1,vi p.2]:=bx5
 refine ma (vb false) (a8 (a6 (a5 rfl (lx (a7 cq rfl rfl rfl rfl) (lx (a9 aG rfl bx5 rfl) (lx (fW (m:=p.1) (n:= -1048576) rfl rfl) (mv (vb (decide ((-1048576)<=p.1))) ?_)))))))
 by_cases q6:(-1048576)<=p.1
 ·
  refine lv (vp b3 0) (wy (dt q6)) (a7 cq rfl rfl rfl rfl) (lv (vi p.1) (wy (dt q6)) (a9 aG rfl bx5 rfl) (lv (vb (decide (p.1<=1048576))) (wy (dt q6)) (gU (m:=p.1) (n:=1048576) rfl rfl) (lw (vb (decide (p.1<=1048576))) (aD rfl (dt q6) rfl) (mv (vb (decide (p.1<=1048576))) ?_))))
  by_cases q11:p.1<=1048576
  ·
   refine lv (vp b3 1) (wy (dt q11)) (a7 cq rfl rfl rfl rfl) (lv (vi p.2) (wy (dt q11)) (a9 aG rfl bx5 rfl) (lv (vb (decide ((-1048576)<=p.2))) (wy (dt q11)) (fW (m:=p.2) (n:= -1048576) rfl rfl) (lw (vb (decide ((-1048576)<=p.2))) (aD rfl (dt q11) rfl) (mv (vb (decide ((-1048576)<=p.2))) ?_))))
   by_cases q16:(-1048576)<=p.2
   ·
    refine lv (vp b3 1) (wy (dt q16)) (a7 cq rfl rfl rfl rfl) (lv (vi p.2) (wy (dt q16)) (a9 aG rfl bx5 rfl) (lv (vb (decide (p.2<=1048576))) (wy (dt q16)) (gU (m:=p.2) (n:=1048576) rfl rfl) (lw (vb (decide (p.2<=1048576))) (aD rfl (dt q16) rfl) (ma (vb (decide (p.2<=1048576))) (a8 (av (vs:=[vb (decide (p.2<=1048576))]) Try.func20 (.tmp rfl .nil) ?_))))))
    have e0:(decide (p.2<=1048576):Bool)=(decide (ck p)):=by
      (rw[decide_eq_decide];unfold ck;omega)
    replace bH:=bH.cn ch2
    exact⟨rb e0,bH.below⟩
   refine aa (wn (df q16)) (aa (wn (df q16)) (aa (wn (df q16)) (lw (vb false) (aB rfl (df q16) rfl) (ma (vb false) (a8 (av (vs:=[vb false]) Try.func20 (.tmp rfl .nil) ?_))))))
   have e0:(false:Bool)=(decide (ck p)):=by
     exact(df (by unfold ck;omega)).symm
   replace bH:=bH.cn ch2
   exact⟨rb e0,bH.below⟩
  refine aa (wn (df q11)) (aa (wn (df q11)) (aa (wn (df q11)) (lw (vb false) (aB rfl (df q11) rfl) (mv (vb false) (aa (wn rfl) (aa (wn rfl) (aa (wn rfl) (lw (vb false) (aB rfl rfl rfl) (ma (vb false) (a8 (av (vs:=[vb false]) Try.func20 (.tmp rfl .nil) ?_)))))))))))
  have e0:(false:Bool)=(decide (ck p)):=by
    exact(df (by unfold ck;omega)).symm
  replace bH:=bH.cn ch2
  exact⟨rb e0,bH.below⟩
 refine aa (wn (df q6)) (aa (wn (df q6)) (aa (wn (df q6)) (lw (vb false) (aB rfl (df q6) rfl) (mv (vb false) (aa (wn rfl) (aa (wn rfl) (aa (wn rfl) (lw (vb false) (aB rfl rfl rfl) (mv (vb false) (aa (wn rfl) (aa (wn rfl) (aa (wn rfl) (lw (vb false) (aB rfl rfl rfl) ?_)))))))))))))
 refine ma (vb false) (a8 (av (vs:=[vb false]) Try.func20 (.tmp rfl .nil) ?_))
 have e0:(false:Bool)=(decide (ck p)):=by
   exact(df (by unfold ck;omega)).symm
 replace bH:=bH.cn ch2
 exact⟨rb e0,bH.below⟩
theorem iM(w0:World)(ps:List Pt)(ps_v:Value)(hps_v:Ro w0 ps_v ps):
    Calls Try.prog 7 #[ps_v] w0 (λee w=>ee= .returned (vb (decide (dy ps)))/\cW w0.heap.size w0 w):=by
 refine aI Try.func7 rfl nq ?_
 have bH:=bo.start w0
 have Rps:=hps_v.sl
 refine a6 (a5 rfl (ma (vb false) (a8 (a6 (a6 (a5 rfl (mv ps_v ?_)))))))
 have len1:=(Rps).small
 refine lx (bE bZ rfl Rps) (lx (dZ (m:=(ps.length:Int)) (n:=4096) rfl rfl) (a8 ?_))
 by_cases p1:4096<(ps.length:Int)
 ·
  refine ae rfl (dt p1) (a6 (a5 rfl (ma (vb false) (a8 (av (vs:=[vb false]) Try.func7 (.tmp rfl .nil) ?_)))))
  have e0:(false:Bool)=(decide (dy ps)):=by
    exact(df (λh=>by have:=h.1;omega)).symm
  exact⟨rb e0,bH.below⟩
 refine af rfl (df p1) (am (a6 (a6 (a5 rfl (ai 0 (a8 (ao ?_)))))))
 refine bf (σ:=Nat×aW) (λ⟨k,gq⟩ f w=>bo w0 gq w/\f 0=ps_v/\f 3=vi ↑k/\Sl gq (is 0) w ps_v ps/\(k:Int)<=((ps.length:Int):Int)/\(∀j:Nat,j<k->ck (gI ps ↑j))) (λ⟨k,gq⟩=>Int.toNat (((ps.length:Int):Int)-(k:Int))) (0,c0) ?_ ?_
 · exact⟨bH,rfl,rfl,Rps,by omega,by intro j hj;omega⟩
 clear Rps bH
 rintro⟨k,g4⟩ f2 w3 ⟨bH,zs0,zs3,Rps,hle_k,hinv⟩ back4
 refine a6 (a6 (a5 rfl (mz zs3 (mz zs0 (lx (bE bZ rfl Rps) (lx (b6 (m:=↑k) (n:=(ps.length:Int)) rfl rfl) (a8 ?_)))))))
 by_cases p4:(k:Int)<(ps.length:Int)
 ·
  refine ae rfl (dt p4) (am (a6 (ao (a6 (a5 rfl (mz zs0 (mz zs3 (lx (ab (v:=ps_v) (i:=↑k) bZ rfl rfl Rps rfl (by omega) (by omega)) (lw (vg [vi ((gI ps ↑k).1),vi ((gI ps ↑k).2)]) (aM (v:=ps_v) (i:=↑k) ah rfl Rps (by omega) (by omega) rfl) (lo ?_))))))))))
  refine aN (v:=vb (decide (ck (gI ps ↑k)))) (az (vals:=[vg [vi ((gI ps ↑k).1),vi ((gI ps ↑k).2)]]) Try.func20 pK oN rfl) (rp w3 (gI ps ↑k)) ?_
  intro w5 hb6
  replace hb6:=aj hb6 g4
  refine lx (cm (b:=(decide (ck (gI ps ↑k)))) rfl) (a8 ?_)
  by_cases p6:(decide (ck (gI ps ↑k)))=true
  ·
   refine af rfl (congrArg Bool.not p6) (am (ak (a5 rfl (mz zs3 (lx (aQ (m:=↑k) (n:=1) rfl rfl (by omega)) (ai ((k:Int)+1) (a8 ?_)))))))
   refine back4 (k+1,g4) _ _ ⟨bH.cn hb6,zs0,rfl,Rps.cn hb6,by omega,?_⟩ ?_
   · show∀j:Nat,j<(k+1)->ck (gI ps ↑j)
     intro j hj
     by_cases e0:j=k
     · subst e0;simpa using of_decide_eq_true ‹_›
     · exact hinv j (by omega)
   · show Int.toNat (((ps.length:Int):Int)-((k+1):Int))<Int.toNat (((ps.length:Int):Int)-(k:Int))
     omega
  refine ae rfl (congrArg Bool.not (Bool.eq_false_iff.2 p6)) (a6 (a5 rfl (ma (vb false) (a8 (av (vs:=[vb false]) Try.func7 (.tmp rfl .nil) ?_)))))
  have e0:(false:Bool)=(decide (dy ps)):=by
    (refine(df (λh=>?_)).symm
     have h1:=h.2 _ (ba (xs:=ps) (i:=↑k) (by omega) (by omega))
     simp_all;done)
  replace bH:=bH.cn hb6
  exact⟨rb e0,bH.below⟩
 refine af rfl (df p4) (aO rfl (a6 (a5 rfl (ma (vb true) (a8 (av (vs:=[vb true]) Try.func7 (.tmp rfl .nil) ?_))))))
 have e0:(true:Bool)=(decide (dy ps)):=by
   exact(dt ⟨by omega,rv (λj hj=>hinv j (by omega))⟩).symm
 exact⟨rb e0,bH.below⟩
end TL
