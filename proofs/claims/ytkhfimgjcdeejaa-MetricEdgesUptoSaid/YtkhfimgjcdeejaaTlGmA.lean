import Derived.Test.YtkhfimgjcdeejaaTlP1
import Derived.Test.YtkhfimgjcdeejaaProg
import Derived.Test.YtkhfimgjcdeejaaTlAli
set_option linter.all false
set_option maxRecDepth 20000
namespace TL
open Go Go.Proofs
theorem aU:Tp Try.prog 3 false 1 8 (.int .i64 0):=Tp.of (by kernel_rfl)
theorem am:Tp Try.prog 26 true 2 16 (.agg #[.int .i64 0,.int .i64 0]):=Tp.of (by kernel_rfl)
theorem ls:Try.f58.body.isNone=false:=rfl
theorem kK:(Try.f58.name== "runtime.NumGoroutine")=false:=by decide+kernel
theorem mD(w0:World)(p:Pt):
    Calls Try.prog 58 #[vg [vi p.1,vi p.2]] w0 (λee w=>ee= .returned (vb (decide (de p)))/\cA w0.heap.size w0 w):=by
 refine aR Try.func58 rfl nq ?_
 have bH:=bu.start w0
 refine a5 (a0 rfl (cq rfl (cD c0 (is 1) (1,0) rfl rfl ?_)))
 intro g4 w1 b3 ch2 bx5
 replace bx5:Bx g4 (is 1) w1 b3 [vi p.1,vi p.2]:=bx5
 refine ma (vb false) (aa (a5 (a0 rfl (lx (a6 d2 rfl rfl rfl rfl) (lx (a7 aU rfl bx5 rfl) (lx (fJ (m:=p.1) (n:= -1048576) rfl rfl) (mv (vb (decide ((-1048576)<=p.1))) ?_)))))))
 by_cases q6:(-1048576)<=p.1
 ·
  refine lv (vp b3 0) (wy (dt q6)) (a6 d2 rfl rfl rfl rfl) (lv (vi p.1) (wy (dt q6)) (a7 aU rfl bx5 rfl) (lv (vb (decide (p.1<=1048576))) (wy (dt q6)) (iR (m:=p.1) (n:=1048576) rfl rfl) (lw (vb (decide (p.1<=1048576))) (aA rfl (dt q6) rfl) (mv (vb (decide (p.1<=1048576))) ?_))))
  by_cases q11:p.1<=1048576
  ·
   refine lv (vp b3 1) (wy (dt q11)) (a6 d2 rfl rfl rfl rfl) (lv (vi p.2) (wy (dt q11)) (a7 aU rfl bx5 rfl) (lv (vb (decide ((-1048576)<=p.2))) (wy (dt q11)) (fJ (m:=p.2) (n:= -1048576) rfl rfl) (lw (vb (decide ((-1048576)<=p.2))) (aA rfl (dt q11) rfl) (mv (vb (decide ((-1048576)<=p.2))) ?_))))
   by_cases q16:(-1048576)<=p.2
   ·
    refine lv (vp b3 1) (wy (dt q16)) (a6 d2 rfl rfl rfl rfl) (lv (vi p.2) (wy (dt q16)) (a7 aU rfl bx5 rfl) (lv (vb (decide (p.2<=1048576))) (wy (dt q16)) (iR (m:=p.2) (n:=1048576) rfl rfl) (lw (vb (decide (p.2<=1048576))) (aA rfl (dt q16) rfl) (ma (vb (decide (p.2<=1048576))) (aa (aF (vs:=[vb (decide (p.2<=1048576))]) Try.func58 (.tmp rfl .nil) ?_))))))
    have e0:(decide (p.2<=1048576):Bool)=(decide (de p)):=by
      (rw[decide_eq_decide];unfold de;omega)
    replace bH:=bH.cn ch2
    exact⟨rb e0,bH.below⟩
   refine aS (wn (df q16)) (aS (wn (df q16)) (aS (wn (df q16)) (lw (vb false) (b5 rfl (df q16) rfl) (ma (vb false) (aa (aF (vs:=[vb false]) Try.func58 (.tmp rfl .nil) ?_))))))
   have e0:(false:Bool)=(decide (de p)):=by
     exact(df (by unfold de;omega)).symm
   replace bH:=bH.cn ch2
   exact⟨rb e0,bH.below⟩
  refine aS (wn (df q11)) (aS (wn (df q11)) (aS (wn (df q11)) (lw (vb false) (b5 rfl (df q11) rfl) (mv (vb false) (aS (wn rfl) (aS (wn rfl) (aS (wn rfl) (lw (vb false) (b5 rfl rfl rfl) (ma (vb false) (aa (aF (vs:=[vb false]) Try.func58 (.tmp rfl .nil) ?_)))))))))))
  have e0:(false:Bool)=(decide (de p)):=by
    exact(df (by unfold de;omega)).symm
  replace bH:=bH.cn ch2
  exact⟨rb e0,bH.below⟩
 refine aS (wn (df q6)) (aS (wn (df q6)) (aS (wn (df q6)) (lw (vb false) (b5 rfl (df q6) rfl) (mv (vb false) (aS (wn rfl) (aS (wn rfl) (aS (wn rfl) (lw (vb false) (b5 rfl rfl rfl) (mv (vb false) (aS (wn rfl) (aS (wn rfl) (aS (wn rfl) (lw (vb false) (b5 rfl rfl rfl) ?_)))))))))))))
 refine ma (vb false) (aa (aF (vs:=[vb false]) Try.func58 (.tmp rfl .nil) ?_))
 have e0:(false:Bool)=(decide (de p)):=by
   exact(df (by unfold de;omega)).symm
 replace bH:=bH.cn ch2
 exact⟨rb e0,bH.below⟩
theorem jj(w0:World)(ps:List Pt)(ps_v:Value)(hps_v:Ro w0 ps_v ps):
    Calls Try.prog 49 #[ps_v] w0 (λee w=>ee= .returned (vb (decide (em ps)))/\cA w0.heap.size w0 w):=by
 refine aR Try.func49 rfl nq ?_
 have bH:=bu.start w0
 have Rps:=hps_v.sl
 refine a5 (a0 rfl (ma (vb false) (aa (a5 (a5 (a0 rfl (mv ps_v ?_)))))))
 have len1:=(Rps).small
 refine lx (bM cj rfl Rps) (lx (fI (m:=(ps.length:Int)) (n:=4096) rfl rfl) (aa ?_))
 by_cases p1:4096<(ps.length:Int)
 ·
  refine aj rfl (dt p1) (a5 (a0 rfl (ma (vb false) (aa (aF (vs:=[vb false]) Try.func49 (.tmp rfl .nil) ?_)))))
  have e0:(false:Bool)=(decide (em ps)):=by
    exact(df (λh=>by have:=h.1;omega)).symm
  exact⟨rb e0,bH.below⟩
 refine al rfl (df p1) (az (a5 (a5 (a0 rfl (mv ps_v (lx (bM cj rfl Rps) (mi 0 (aa (aE ?_)))))))))
 refine bF (σ:=Nat×aT) (λ⟨k,gq⟩ f w=>bu w0 gq w/\f 8=ps_v/\f 9=vi (ps.length:Int)/\f 10=vi ↑k/\Sl gq (is 0) w ps_v ps/\(k:Int)<=((ps.length:Int):Int)/\(∀j:Nat,j<k->de (gI ps ↑j))) (λ⟨k,gq⟩=>Int.toNat (((ps.length:Int):Int)-(k:Int))) (0,c0) ?_ ?_
 · exact⟨bH,rfl,rfl,rfl,Rps,by omega,by intro j hj;omega⟩
 clear Rps bH
 rintro⟨k,g4⟩ f2 w3 ⟨bH,zs8,zs9,zs10,Rps,hle_k,hinv⟩ back4
 refine a5 (a0 rfl (lx (bd (m:=↑k) (n:=(ps.length:Int)) zs10 zs9) (aa (a5 ?_))))
 by_cases p4:(k:Int)<(ps.length:Int)
 ·
  refine aj rfl (dt p4) (az (a5 (aE (a5 (a0 rfl (lx (ab (v:=ps_v) (i:=↑k) cj rfl zs8 Rps zs10 (by omega) (by omega)) (lw (vg [vi ((gI ps ↑k).1),vi ((gI ps ↑k).2)]) (aK (v:=ps_v) (i:=↑k) am rfl Rps (by omega) (by omega) rfl) (lo (bc g4 (is 1) (1,0) rfl am ?_)))))))))
  intro g8 w5 b7 ch6 bx9
  replace bx9:Bx g8 (is 1) w5 b7 [vi 0,vi 0]:=bx9
  refine lo (ae (cs':=[vi ((gI ps ↑k).1),vi ((gI ps ↑k).2)]) am rfl rfl bx9 rfl nq (AllOne.all (.cons rfl (.cons rfl .nil))) rfl ?_)
  intro w10 ch11 bx12
  clear bx9
  refine aa (a5 (a0 rfl (lx (ah (ds:=[vi ((gI ps ↑k).1),vi ((gI ps ↑k).2)]) am rfl bx12 rfl rfl) (lo (aG (v:=vb (decide (de (gI ps ↑k)))) (aB (vals:=[vg [vi ((gI ps ↑k).1),vi ((gI ps ↑k).2)]]) Try.func58 ls kK rfl) (mD w10 (gI ps ↑k)) ?_)))))
  intro w13 hb14
  replace hb14:=af hb14 g8
  refine lx (dz (b:=(decide (de (gI ps ↑k)))) rfl) (aa ?_)
  by_cases p6:(decide (de (gI ps ↑k)))=true
  ·
   refine al rfl (congrArg Bool.not p6) (az (au ?_))
   clear bx12
   refine a0 rfl (lx (bb (m:=↑k) (n:=1) zs10 rfl (by omega)) (mi ((k:Int)+1) (aa ?_)))
   have C15:=cg [1] (ch6.n.seq ((ch11.l rfl).seq hb14.n))
   refine back4 (k+1,g8) _ _ ⟨bH.ca C15,zs8,zs9,rfl,Rps.ca C15,by omega,?_⟩ ?_
   · show∀j:Nat,j<(k+1)->de (gI ps ↑j)
     intro j hj
     by_cases e0:j=k
     · subst e0;simpa using of_decide_eq_true ‹_›
     · exact hinv j (by omega)
   · show Int.toNat (((ps.length:Int):Int)-((k+1):Int))<Int.toNat (((ps.length:Int):Int)-(k:Int))
     omega
  refine aj rfl (congrArg Bool.not (Bool.eq_false_iff.2 p6)) (a5 ?_)
  clear bx12
  refine a0 rfl (ma (vb false) (aa (aF (vs:=[vb false]) Try.func49 (.tmp rfl .nil) ?_)))
  have e0:(false:Bool)=(decide (em ps)):=by
    (refine(df (λh=>?_)).symm
     have h1:=h.2 _ (bp (xs:=ps) (i:=↑k) (by omega) (by omega))
     simp_all;done)
  have C16:=cg [1] (ch6.n.seq ((ch11.l rfl).seq hb14.n))
  replace bH:=bH.ca C16
  exact⟨rb e0,bH.below⟩
 refine al rfl (df p4) (aZ rfl (a5 (a0 rfl (ma (vb true) (aa (aF (vs:=[vb true]) Try.func49 (.tmp rfl .nil) ?_))))))
 have e0:(true:Bool)=(decide (em ps)):=by
   exact(dt ⟨by omega,jZ (λj hj=>hinv j (by omega))⟩).symm
 exact⟨rb e0,bH.below⟩
end TL
