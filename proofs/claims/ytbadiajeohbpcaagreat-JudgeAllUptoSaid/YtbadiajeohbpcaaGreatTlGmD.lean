import Derived.Test.YtbadiajeohbpcaaGreatTlP3
import Derived.Test.YtbadiajeohbpcaaGreatTlGmA
import Derived.Test.YtbadiajeohbpcaaGreatProg
import Derived.Test.YtbadiajeohbpcaaGreatTlAli
set_option linter.all false
set_option maxRecDepth 20000
namespace TL
open Go Go.Proofs
theorem rN:Tryz.f77.body.isNone=false:=rfl
theorem rY:(Tryz.f77.name== "runtime.NumGoroutine")=false:=by decide+kernel
theorem vl(w0:World)(p:Pt):
    Calls Tryz.prog 77 #[vg [vi p.1,vi p.2]] w0 (λee w=>ee= .returned (vb (decide (cC p)))/\cE w0.heap.size w0 w):=by
 refine au Tryz.func77 rfl nq ?_
 have bH:=aT.start w0
 refine a7 (a6 rfl (bW rfl (bh c0 (is 1) (1,0) rfl rfl ?_)))
 intro g4 w1 b3 ch2 bx5
 replace bx5:Bx g4 (is 1) w1 b3 [vi p.1,vi p.2]:=bx5
 refine ma (vb false) (aa (a7 (a6 rfl (lx (a8 cj rfl rfl rfl rfl) (lx (ab az rfl bx5 rfl) (lx (fN (m:=p.1) (n:= -1048576) rfl rfl) (mv (vb (decide ((-1048576)<=p.1))) ?_)))))))
 by_cases q6:(-1048576)<=p.1
 ·
  refine lv (vp b3 0) (wy (dt q6)) (a8 cj rfl rfl rfl rfl) (lv (vi p.1) (wy (dt q6)) (ab az rfl bx5 rfl) (lv (vb (decide (p.1<=1048576))) (wy (dt q6)) (gB (m:=p.1) (n:=1048576) rfl rfl) (lw (vb (decide (p.1<=1048576))) (aD rfl (dt q6) rfl) (mv (vb (decide (p.1<=1048576))) ?_))))
  by_cases q11:p.1<=1048576
  ·
   refine lv (vp b3 1) (wy (dt q11)) (a8 cj rfl rfl rfl rfl) (lv (vi p.2) (wy (dt q11)) (ab az rfl bx5 rfl) (lv (vb (decide ((-1048576)<=p.2))) (wy (dt q11)) (fN (m:=p.2) (n:= -1048576) rfl rfl) (lw (vb (decide ((-1048576)<=p.2))) (aD rfl (dt q11) rfl) (mv (vb (decide ((-1048576)<=p.2))) ?_))))
   by_cases q16:(-1048576)<=p.2
   ·
    refine lv (vp b3 1) (wy (dt q16)) (a8 cj rfl rfl rfl rfl) (lv (vi p.2) (wy (dt q16)) (ab az rfl bx5 rfl) (lv (vb (decide (p.2<=1048576))) (wy (dt q16)) (gB (m:=p.2) (n:=1048576) rfl rfl) (lw (vb (decide (p.2<=1048576))) (aD rfl (dt q16) rfl) (ma (vb (decide (p.2<=1048576))) (aa (ar (vs:=[vb (decide (p.2<=1048576))]) Tryz.func77 (.tmp rfl .nil) ?_))))))
    have e0:(decide (p.2<=1048576):Bool)=(decide (cC p)):=by
      (rw[decide_eq_decide];unfold cC;omega)
    replace bH:=bH.cn ch2
    exact⟨rb e0,bH.below⟩
   refine ae (wn (df q16)) (ae (wn (df q16)) (ae (wn (df q16)) (lw (vb false) (aB rfl (df q16) rfl) (ma (vb false) (aa (ar (vs:=[vb false]) Tryz.func77 (.tmp rfl .nil) ?_))))))
   have e0:(false:Bool)=(decide (cC p)):=by
     exact(df (by unfold cC;omega)).symm
   replace bH:=bH.cn ch2
   exact⟨rb e0,bH.below⟩
  refine ae (wn (df q11)) (ae (wn (df q11)) (ae (wn (df q11)) (lw (vb false) (aB rfl (df q11) rfl) (mv (vb false) (ae (wn rfl) (ae (wn rfl) (ae (wn rfl) (lw (vb false) (aB rfl rfl rfl) (ma (vb false) (aa (ar (vs:=[vb false]) Tryz.func77 (.tmp rfl .nil) ?_)))))))))))
  have e0:(false:Bool)=(decide (cC p)):=by
    exact(df (by unfold cC;omega)).symm
  replace bH:=bH.cn ch2
  exact⟨rb e0,bH.below⟩
 refine ae (wn (df q6)) (ae (wn (df q6)) (ae (wn (df q6)) (lw (vb false) (aB rfl (df q6) rfl) (mv (vb false) (ae (wn rfl) (ae (wn rfl) (ae (wn rfl) (lw (vb false) (aB rfl rfl rfl) (mv (vb false) (ae (wn rfl) (ae (wn rfl) (ae (wn rfl) (lw (vb false) (aB rfl rfl rfl) ?_)))))))))))))
 refine ma (vb false) (aa (ar (vs:=[vb false]) Tryz.func77 (.tmp rfl .nil) ?_))
 have e0:(false:Bool)=(decide (cC p)):=by
   exact(df (by unfold cC;omega)).symm
 replace bH:=bH.cn ch2
 exact⟨rb e0,bH.below⟩
theorem vx(w0:World)(ps:List Pt)(ps_v:Value)(hps_v:Ro w0 ps_v ps):
    Calls Tryz.prog 78 #[ps_v] w0 (λee w=>ee= .returned (vb (decide (dy ps)))/\cE w0.heap.size w0 w):=by
 refine au Tryz.func78 rfl nq ?_
 have bH:=aT.start w0
 have Rps:=hps_v.sl
 refine a7 (a6 rfl (ma (vb false) (aa (a7 (a7 (a6 rfl (mv ps_v ?_)))))))
 have len1:=(Rps).small
 refine lx (aQ bS rfl Rps) (lx (d8 (m:=(ps.length:Int)) (n:=4096) rfl rfl) (aa ?_))
 by_cases p1:4096<(ps.length:Int)
 ·
  refine af rfl (dt p1) (a7 (a6 rfl (ma (vb false) (aa (ar (vs:=[vb false]) Tryz.func78 (.tmp rfl .nil) ?_)))))
  have e0:(false:Bool)=(decide (dy ps)):=by
    exact(df (λh=>by have:=h.1;omega)).symm
  exact⟨rb e0,bH.below⟩
 refine ag rfl (df p1) (ak (a7 (a7 (a6 rfl (ai 0 (aa (am ?_)))))))
 refine aN (σ:=Nat×aK) (λ⟨k,gq⟩ f w=>aT w0 gq w/\f 0=ps_v/\f 3=vi ↑k/\Sl gq (is 0) w ps_v ps/\(k:Int)<=((ps.length:Int):Int)/\(∀j:Nat,j<k->cC (gI ps ↑j))) (λ⟨k,gq⟩=>Int.toNat (((ps.length:Int):Int)-(k:Int))) (0,c0) ?_ ?_
 · exact⟨bH,rfl,rfl,Rps,by omega,by intro j hj;omega⟩
 clear Rps bH
 rintro⟨k,g4⟩ f2 w3 ⟨bH,zs0,zs3,Rps,hle_k,hinv⟩ back4
 refine a7 (a7 (a6 rfl (mz zs3 (mz zs0 (lx (aQ bS rfl Rps) (lx (aZ (m:=↑k) (n:=(ps.length:Int)) rfl rfl) (aa ?_)))))))
 by_cases p4:(k:Int)<(ps.length:Int)
 ·
  refine af rfl (dt p4) (ak (a7 (am (a7 (a6 rfl (mz zs0 (mz zs3 (lx (ad (v:=ps_v) (i:=↑k) bS rfl rfl Rps rfl (by omega) (by omega)) (lw (vg [vi ((gI ps ↑k).1),vi ((gI ps ↑k).2)]) (aF (v:=ps_v) (i:=↑k) ah rfl Rps (by omega) (by omega) rfl) (lo ?_))))))))))
  refine aO (v:=vb (decide (cC (gI ps ↑k)))) (aA (vals:=[vg [vi ((gI ps ↑k).1),vi ((gI ps ↑k).2)]]) Tryz.func77 rN rY rfl) (vl w3 (gI ps ↑k)) ?_
  intro w5 hb6
  replace hb6:=ao hb6 g4
  refine lx (bZ (b:=(decide (cC (gI ps ↑k)))) rfl) (aa ?_)
  by_cases p6:(decide (cC (gI ps ↑k)))=true
  ·
   refine ag rfl (congrArg Bool.not p6) (ak (al (a6 rfl (mz zs3 (lx (aM (m:=↑k) (n:=1) rfl rfl (by omega)) (ai ((k:Int)+1) (aa ?_)))))))
   refine back4 (k+1,g4) _ _ ⟨bH.cn hb6,zs0,rfl,Rps.cn hb6,by omega,?_⟩ ?_
   · show∀j:Nat,j<(k+1)->cC (gI ps ↑j)
     intro j hj
     by_cases e0:j=k
     · subst e0;simpa using of_decide_eq_true ‹_›
     · exact hinv j (by omega)
   · show Int.toNat (((ps.length:Int):Int)-((k+1):Int))<Int.toNat (((ps.length:Int):Int)-(k:Int))
     omega
  refine af rfl (congrArg Bool.not (Bool.eq_false_iff.2 p6)) (a7 (a6 rfl (ma (vb false) (aa (ar (vs:=[vb false]) Tryz.func78 (.tmp rfl .nil) ?_)))))
  have e0:(false:Bool)=(decide (dy ps)):=by
    (refine(df (λh=>?_)).symm
     have h1:=h.2 _ (bk (xs:=ps) (i:=↑k) (by omega) (by omega))
     simp_all;done)
  replace bH:=bH.cn hb6
  exact⟨rb e0,bH.below⟩
 refine ag rfl (df p4) (aJ rfl (a7 (a6 rfl (ma (vb true) (aa (ar (vs:=[vb true]) Tryz.func78 (.tmp rfl .nil) ?_))))))
 have e0:(true:Bool)=(decide (dy ps)):=by
   exact(dt ⟨by omega,vR (λj hj=>hinv j (by omega))⟩).symm
 exact⟨rb e0,bH.below⟩
end TL
