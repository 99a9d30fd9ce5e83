import Derived.Test.YtbpphaeianpdpaaPqTlP2
import Derived.Test.YtbpphaeianpdpaaProg
import Derived.Test.YtbpphaeianpdpaaPqTlAli
set_option linter.all false
set_option maxRecDepth 20000
namespace TL
open Go Go.Proofs
theorem jJ:Try.prog.follows .mixedOrders=true:=by kernel_rfl
theorem aB:Tp Try.prog 3 false 1 8 (.int .i64 0):=Tp.of (by kernel_rfl)
theorem bL:Tp Try.prog 22 false 1 24 (.slice none 0 0):=Tp.of (by kernel_rfl)
theorem cD:Tp Try.prog 24 true 2 32 (.agg #[.int .i64 0,.slice none 0 0]):=Tp.of (by kernel_rfl)
theorem db:Tp Try.prog 61 true 2 16 (.agg #[.int .i64 0,.int .i64 0]):=Tp.of (by kernel_rfl)
theorem ou:Try.f29.body.isNone=false:=rfl
theorem nY:(Try.f29.name== "runtime.NumGoroutine")=false:=by decide+kernel
theorem kR(w0:World)(g:(Int)×(List Pt))(g_v:Value)(hg_v:Ro w0 g_v g.2):
    Calls Try.prog 54 #[vg [vi g.1,g_v]] w0 (λee w=>ee= .returned (vb (bW g))/\bZ w0.heap.size w0 w):=by
 refine am Try.func54 rfl nq ?_
 have bH:=aX.start w0
 have Rg:=hg_v.sl
 refine a8 (a7 rfl (dW rfl (dz c0 (is 1) (1,0) rfl rfl ?_)))
 intro g4 w1 b3 ch2 bx5
 replace bx5:Bx g4 (is 1) w1 b3 [vi g.1,g_v]:=bx5
 refine ma (vb false) (ab (a8 (a8 (a7 rfl (lx (ah dl rfl rfl rfl rfl) (lx (ag aB rfl bx5 rfl) (lx (b7 (m:=g.1) (n:=0) rfl rfl) (mv (vb (decide (g.1<0))) ?_))))))))
 by_cases q10:g.1<0
 ·
  refine af (wn (dt q10)) (af (wn (dt q10)) (af (wn (dt q10)) (lw (vb true) (az rfl (dt q10) rfl) (mv (vb true) (af (wn rfl) (af (wn rfl) (af (wn rfl) (af (wn rfl) (lw (vb true) (az rfl rfl rfl) (ab (ae rfl rfl (a8 ?_))))))))))))
  clear bx5
  refine a7 rfl (ma (vb false) (ab (ap (vs:=[vb false]) Try.func54 (.tmp rfl .nil) ?_)))
  have e0:(false:Bool)=(bW g):=by
    exact(aZ (λh=>by unfold bo at h;omega)).symm
  replace bH:=bH.cn ch2
  exact⟨rb e0,bH.below⟩
 refine lv (vp b3 0) (wy (df q10)) (ah dl rfl rfl rfl rfl) (lv (vi g.1) (wy (df q10)) (ag aB rfl bx5 rfl) (lv (vb (decide (1024<g.1))) (wy (df q10)) (dh (m:=g.1) (n:=1024) rfl rfl) (lw (vb (decide (1024<g.1))) (aL rfl (df q10) rfl) (mv (vb (decide (1024<g.1))) ?_))))
 by_cases q15:1024<g.1
 ·
  refine af (wn (dt q15)) (af (wn (dt q15)) (af (wn (dt q15)) (af (wn (dt q15)) (lw (vb true) (az rfl (dt q15) rfl) (ab (ae rfl rfl (a8 ?_)))))))
  clear bx5
  refine a7 rfl (ma (vb false) (ab (ap (vs:=[vb false]) Try.func54 (.tmp rfl .nil) ?_)))
  have e0:(false:Bool)=(bW g):=by
    exact(aZ (λh=>by unfold bo at h;omega)).symm
  replace bH:=bH.cn ch2
  exact⟨rb e0,bH.below⟩
 refine lv (vp b3 1) (wy (df q15)) (ah dl rfl rfl rfl rfl) (lv (g_v) (wy (df q15)) (ag bL rfl bx5 rfl) ?_)
 replace Rg:=Rg.cn ch2
 have len6:=(Rg).small
 refine lv (vi (g.2.length:Int)) (wy (df q15)) (bn gg rfl Rg) (lv (vb (decide (3072<(g.2.length:Int)))) (wy (df q15)) (dh (m:=(g.2.length:Int)) (n:=3072) rfl rfl) (lw (vb (decide (3072<(g.2.length:Int)))) (aL rfl (df q15) rfl) (ab ?_)))
 by_cases p1:3072<(g.2.length:Int)
 ·
  refine ae rfl (dt p1) (a8 ?_)
  clear bx5
  refine a7 rfl (ma (vb false) (ab (ap (vs:=[vb false]) Try.func54 (.tmp rfl .nil) ?_)))
  have e0:(false:Bool)=(bW g):=by
    exact(aZ (λh=>by unfold bo at h;omega)).symm
  replace bH:=bH.cn ch2
  exact⟨rb e0,bH.below⟩
 refine aj rfl (df p1) (ao (a8 (a8 (a7 rfl (lx (ah dl rfl rfl rfl rfl) (lx (ag bL rfl bx5 rfl) (lx (bn gg rfl Rg) (mi 0 (ab (aq ?_))))))))))
 refine b9 (σ:=Nat×ar) (λ⟨k,gq⟩ f w=>aX w0 gq w/\f 1=vp b3 0/\f 22=g_v/\f 23=vi (g.2.length:Int)/\f 24=vi ↑k/\Sl gq (is 0) w g_v g.2/\Bx gq (is 1) w b3 [vi g.1,g_v]/\(k:Int)<=((g.2.length:Int):Int)/\(∀e∈List.take k g.2,ij g.1 e)) (λ⟨k,gq⟩=>Int.toNat (((g.2.length:Int):Int)-(k:Int))) (0,g4) ?_ ?_
 · exact⟨bH.cn ch2,rfl,rfl,rfl,rfl,Rg,bx5,by omega,by simp⟩
 clear Rg bx5 bH
 rintro⟨k,g9⟩ f7 w8 ⟨bH,zs1,zs22,zs23,zs24,Rg,bx5,hle_k,hinv4⟩ back4
 refine a8 (a7 rfl (lx (b7 (m:=↑k) (n:=(g.2.length:Int)) zs24 zs23) (ab (a8 ?_))))
 by_cases p4:(k:Int)<(g.2.length:Int)
 ·
  refine ae rfl (dt p4) (ao (a8 (aq (a8 (a7 rfl (lx (ad (v:=g_v) (i:=↑k) gg rfl zs22 Rg zs24 (by omega) (by omega)) (lw (vg [vi ((gI g.2 ↑k).1),vi ((gI g.2 ↑k).2)]) (bb (v:=g_v) (i:=↑k) db rfl Rg (by omega) (by omega) rfl) (lo (bI g9 (is 2) (2,0) rfl db ?_)))))))))
  intro g13 w10 b12 ch11 bx14
  replace bx14:Bx g13 (is 2) w10 b12 [vi 0,vi 0]:=bx14
  refine lo (aK (cs':=[vi ((gI g.2 ↑k).1),vi ((gI g.2 ↑k).2)]) db rfl rfl bx14 rfl nq (AllOne.all (.cons rfl (.cons rfl .nil))) rfl ?_)
  intro w15 ch16 bx17
  clear bx14
  refine ab (a8 (a7 rfl (lx (ba (ds:=[vi ((gI g.2 ↑k).1),vi ((gI g.2 ↑k).2)]) db rfl bx17 rfl rfl) (mi 0 (ab (aq (cw (a8 ?_))))))))
  clear bx17
  refine a7 rfl (lx (b7 (m:=0) (n:=2) rfl rfl) (ab (a8 (ae rfl rfl (ao (a8 (aq (a8 (a7 rfl (lw (vi ((gI g.2 ↑k).1)) (cL iL aB rfl rfl (by decide) (by decide) rfl) (ai ((gI g.2 ↑k).1) ?_)))))))))))
  refine ab (a8 (a7 rfl (mi ((gI g.2 ↑k).1) (lx (b7 (m:=(gI g.2 ↑k).1) (n:=0) rfl rfl) (mv (vb (decide (((gI g.2 ↑k).1)<0))) ?_)))))
  by_cases q34:((gI g.2 ↑k).1)<0
  ·
   refine af (wn (dt q34)) (af (wn (dt q34)) (af (wn (dt q34)) (af (wn (dt q34)) (lw (vb true) (az rfl (dt q34) rfl) (ab (ae rfl rfl (a8 ?_)))))))
   clear bx5
   refine a7 rfl (ma (vb false) (ab (ap (vs:=[vb false]) Try.func54 (.tmp rfl .nil) ?_)))
   have e0:(false:Bool)=(bW g):=by
     exact(aZ (λh=>by have h2:=h.2.2.2 _ (bd (xs:=g.2) (i:=↑k) (by omega) ‹_›);unfold ij at h2;omega)).symm
   replace bH:=bH.cn ch11
   replace bH:=bH.ce ch16
   exact⟨rb e0,bH.below⟩
  refine lv (vi ((gI g.2 ↑k).1)) (wy (df q34)) (al rfl) (lv (vp b3 0) (wy (df q34)) (ah dl rfl rfl zs1 rfl) ?_)
  replace bx5:=(bx5.cn ch11).ce ch16
  refine lv (vi g.1) (wy (df q34)) (ag aB rfl bx5 rfl) (lv (vb (decide (g.1<=((gI g.2 ↑k).1)))) (wy (df q34)) (di (m:=(gI g.2 ↑k).1) (n:=g.1) rfl rfl) (lw (vb (decide (g.1<=((gI g.2 ↑k).1)))) (aL rfl (df q34) rfl) (ab ?_)))
  by_cases p9:g.1<=((gI g.2 ↑k).1)
  ·
   refine ae rfl (dt p9) (a8 ?_)
   clear bx5
   refine a7 rfl (ma (vb false) (ab (ap (vs:=[vb false]) Try.func54 (.tmp rfl .nil) ?_)))
   have e0:(false:Bool)=(bW g):=by
     exact(aZ (λh=>by have h2:=h.2.2.2 _ (bd (xs:=g.2) (i:=↑k) (by omega) ‹_›);unfold ij at h2;omega)).symm
   replace bH:=bH.cn ch11
   replace bH:=bH.ce ch16
   exact⟨rb e0,bH.below⟩
  refine aj rfl (df p9) (ao (av (a7 rfl (lx (bw (m:=0) (n:=1) rfl rfl (by omega)) (mi 1 (ab (c8 (a8 (a7 rfl (lx (b7 (m:=1) (n:=2) rfl rfl) ?_))))))))))
  refine ab (a8 (ae rfl rfl (ao (a8 (aq (a8 (a7 rfl (lw (vi ((gI g.2 ↑k).2)) (cL iL aB rfl rfl (by decide) (by decide) rfl) (ai ((gI g.2 ↑k).2) (ab (a8 (a7 rfl (mi ((gI g.2 ↑k).2) ?_)))))))))))))
  refine lx (b7 (m:=(gI g.2 ↑k).2) (n:=0) rfl rfl) (mv (vb (decide (((gI g.2 ↑k).2)<0))) ?_)
  by_cases q34_18:((gI g.2 ↑k).2)<0
  ·
   refine af (wn (dt q34_18)) (af (wn (dt q34_18)) (af (wn (dt q34_18)) (af (wn (dt q34_18)) (lw (vb true) (az rfl (dt q34_18) rfl) (ab (ae rfl rfl (a8 ?_)))))))
   clear bx5
   refine a7 rfl (ma (vb false) (ab (ap (vs:=[vb false]) Try.func54 (.tmp rfl .nil) ?_)))
   have e0:(false:Bool)=(bW g):=by
     exact(aZ (λh=>by have h2:=h.2.2.2 _ (bd (xs:=g.2) (i:=↑k) (by omega) ‹_›);unfold ij at h2;omega)).symm
   replace bH:=bH.cn ch11
   replace bH:=bH.ce ch16
   exact⟨rb e0,bH.below⟩
  refine lv (vi ((gI g.2 ↑k).2)) (wy (df q34_18)) (al rfl) (lv (vp b3 0) (wy (df q34_18)) (ah dl rfl rfl zs1 rfl) (lv (vi g.1) (wy (df q34_18)) (ag aB rfl bx5 rfl) (lv (vb (decide (g.1<=((gI g.2 ↑k).2)))) (wy (df q34_18)) (di (m:=(gI g.2 ↑k).2) (n:=g.1) rfl rfl) (lw (vb (decide (g.1<=((gI g.2 ↑k).2)))) (aL rfl (df q34_18) rfl) (ab ?_)))))
  by_cases p9_19:g.1<=((gI g.2 ↑k).2)
  ·
   refine ae rfl (dt p9_19) (a8 ?_)
   clear bx5
   refine a7 rfl (ma (vb false) (ab (ap (vs:=[vb false]) Try.func54 (.tmp rfl .nil) ?_)))
   have e0:(false:Bool)=(bW g):=by
     exact(aZ (λh=>by have h2:=h.2.2.2 _ (bd (xs:=g.2) (i:=↑k) (by omega) ‹_›);unfold ij at h2;omega)).symm
   replace bH:=bH.cn ch11
   replace bH:=bH.ce ch16
   exact⟨rb e0,bH.below⟩
  refine aj rfl (df p9_19) (ao (av (a7 rfl (lx (bw (m:=1) (n:=1) rfl rfl (by omega)) (mi 2 (ab (c8 (a8 (a7 rfl (lx (b7 (m:=2) (n:=2) rfl rfl) ?_))))))))))
  refine ab (a8 (aj rfl rfl (aJ rfl (av (a7 rfl (lx (bw (m:=↑k) (n:=1) zs24 rfl (by omega)) (mi ((k:Int)+1) (ab ?_))))))))
  replace bH:=bH.cn ch11
  refine back4 (k+1,g13) _ _ ⟨bH.ce ch16,zs1,zs22,zs23,rfl,(Rg.cn ch11).ce ch16,bx5,by omega,?_⟩ ?_
  · show∀e∈List.take (k+1) g.2,ij g.1 e
    rw[eF ‹_›]
    intro e he
    rcases List.mem_append.1 he with h|h
    · exact hinv4 e h
    · obtain rfl:=List.mem_singleton.1 h
      refine⟨?_,?_⟩<;>omega
  · show Int.toNat (((g.2.length:Int):Int)-((k+1):Int))<Int.toNat (((g.2.length:Int):Int)-(k:Int))
    omega
 refine aj rfl (df p4) (aJ rfl (a8 ?_))
 clear bx5
 refine a7 rfl (ma (vb true) (ab (ap (vs:=[vb true]) Try.func54 (.tmp rfl .nil) ?_)))
 have e0:(true:Bool)=(bW g):=by
   exact(gx ⟨by omega,by omega,by omega,by rw[List.take_of_length_le (by omega)] at hinv4;exact hinv4⟩).symm
 exact⟨rb e0,bH.below⟩
theorem mB(w0:World)(g:(Int)×(List Pt))(g_v:Value)(hg_v:Ro w0 g_v g.2):
    Calls Try.prog 29 #[vg [vi g.1,g_v]] w0 (λee w=>ee= .returned (vb (bW g))/\bZ w0.heap.size w0 w):=by
 refine am Try.func29 rfl nq ?_
 have bH:=aX.start w0
 have Rg:=hg_v.sl
 refine a8 (a7 rfl (dW rfl (dz c0 (is 1) (1,0) rfl rfl ?_)))
 intro g4 w1 b3 ch2 bx5
 replace bx5:Bx g4 (is 1) w1 b3 [vi g.1,g_v]:=bx5
 refine ma (vb false) (ab (a8 (a8 (a7 rfl (lx (ah dl rfl rfl rfl rfl) (lx (ag aB rfl bx5 rfl) (lx (b7 (m:=g.1) (n:=0) rfl rfl) (mv (vb (decide (g.1<0))) ?_))))))))
 by_cases q8:g.1<0
 ·
  refine af (wn (dt q8)) (af (wn (dt q8)) (af (wn (dt q8)) (lw (vb true) (az rfl (dt q8) rfl) (mv (vb true) (af (wn rfl) (af (wn rfl) (af (wn rfl) (af (wn rfl) (lw (vb true) (az rfl rfl rfl) (ab (ae rfl rfl (a8 ?_))))))))))))
  clear bx5
  refine a7 rfl (ma (vb false) (ab (ap (vs:=[vb false]) Try.func29 (.tmp rfl .nil) ?_)))
  have e0:(false:Bool)=(bW g):=by
    exact(aZ (λh=>by unfold bo at h;omega)).symm
  replace bH:=bH.cn ch2
  exact⟨rb e0,bH.below⟩
 refine lv (vp b3 0) (wy (df q8)) (ah dl rfl rfl rfl rfl) (lv (vi g.1) (wy (df q8)) (ag aB rfl bx5 rfl) (lv (vb (decide (1024<g.1))) (wy (df q8)) (dh (m:=g.1) (n:=1024) rfl rfl) (lw (vb (decide (1024<g.1))) (aL rfl (df q8) rfl) (mv (vb (decide (1024<g.1))) ?_))))
 by_cases q13:1024<g.1
 ·
  refine af (wn (dt q13)) (af (wn (dt q13)) (af (wn (dt q13)) (af (wn (dt q13)) (lw (vb true) (az rfl (dt q13) rfl) (ab (ae rfl rfl (a8 ?_)))))))
  clear bx5
  refine a7 rfl (ma (vb false) (ab (ap (vs:=[vb false]) Try.func29 (.tmp rfl .nil) ?_)))
  have e0:(false:Bool)=(bW g):=by
    exact(aZ (λh=>by unfold bo at h;omega)).symm
  replace bH:=bH.cn ch2
  exact⟨rb e0,bH.below⟩
 refine lv (vp b3 1) (wy (df q13)) (ah dl rfl rfl rfl rfl) (lv (g_v) (wy (df q13)) (ag bL rfl bx5 rfl) ?_)
 replace Rg:=Rg.cn ch2
 have len6:=(Rg).small
 refine lv (vi (g.2.length:Int)) (wy (df q13)) (bn gg rfl Rg) (lv (vb (decide (3072<(g.2.length:Int)))) (wy (df q13)) (dh (m:=(g.2.length:Int)) (n:=3072) rfl rfl) (lw (vb (decide (3072<(g.2.length:Int)))) (aL rfl (df q13) rfl) (ab ?_)))
 by_cases p1:3072<(g.2.length:Int)
 ·
  refine ae rfl (dt p1) (a8 ?_)
  clear bx5
  refine a7 rfl (ma (vb false) (ab (ap (vs:=[vb false]) Try.func29 (.tmp rfl .nil) ?_)))
  have e0:(false:Bool)=(bW g):=by
    exact(aZ (λh=>by unfold bo at h;omega)).symm
  replace bH:=bH.cn ch2
  exact⟨rb e0,bH.below⟩
 refine aj rfl (df p1) (ao (a8 (a8 (a7 rfl (ai 0 (ab (aq ?_)))))))
 refine b9 (σ:=Nat×ar) (λ⟨k,gq⟩ f w=>aX w0 gq w/\f 1=vp b3 0/\f 3=vi ↑k/\Sl gq (is 0) w g_v g.2/\Bx gq (is 1) w b3 [vi g.1,g_v]/\(k:Int)<=((g.2.length:Int):Int)/\(∀e∈List.take k g.2,ij g.1 e)) (λ⟨k,gq⟩=>Int.toNat (((g.2.length:Int):Int)-(k:Int))) (0,g4) ?_ ?_
 · exact⟨bH.cn ch2,rfl,rfl,Rg,bx5,by omega,by simp⟩
 clear Rg bx5 bH
 rintro⟨k,g9⟩ f7 w8 ⟨bH,zs1,zs3,Rg,bx5,hle_k,hinv4⟩ back4
 refine a8 (a8 (a7 rfl (mz zs3 (lx (ah dl rfl rfl zs1 rfl) (lx (ag bL rfl bx5 rfl) (lx (bn gg rfl Rg) (lx (b7 (m:=↑k) (n:=(g.2.length:Int)) rfl rfl) (ab ?_))))))))
 by_cases p4:(k:Int)<(g.2.length:Int)
 ·
  refine ae rfl (dt p4) (ao (a8 (aq (a8 (a7 rfl (ai 0 (ab (aq (cw (a8 (a8 (a7 rfl ?_))))))))))))
  refine mi 0 (lx (b7 (m:=0) (n:=2) rfl rfl) (ab (ae rfl rfl (ao (a8 (aq (a8 (bT g9 rfl jJ (by kernel_rfl) ?_))))))))
  intro w11 ch10
  refine qx (λw' hw'=>ah dl rfl rfl zs1 rfl) ?_
  replace bx5:=bx5.cn ch10
  refine qx (λw' hw'=>ag bL rfl (bx5.bel hw') rfl) (qz zs3 (qm (vi 0) ?_))
  replace Rg:=Rg.cn ch10
  refine qx (λw' hw'=>ad (v:=g_v) (i:=↑k) gg rfl rfl (Rg.bel hw') rfl (by omega) (by omega)) (qx (λw' hw'=>aM iL rfl rfl rfl (by decide) (by decide) rfl) (qx (λw' hw'=>aN (v:=g_v) (i:=↑k) aB rfl (Rg.bel hw') (by omega) (by omega) (by decide) rfl) (qx (λw' hw'=>b7 (m:=(gI g.2 ↑k).1) (n:=0) rfl rfl) (qm (vb (decide (((gI g.2 ↑k).1)<0))) ?_))))
  by_cases q38:((gI g.2 ↑k).1)<0
  ·
   refine bx (wn (dt q38)) (bx (wn (dt q38)) (bx (wn (dt q38)) (bx (wn (dt q38)) (bx (wn (dt q38)) (bx (wn (dt q38)) (bx (wn (dt q38)) (bx (wn (dt q38)) (bx (wn (dt q38)) (bx (wn (dt q38)) ?_)))))))))
   refine qv (vb true) (λw' hw'=>az rfl (dt q38) rfl) (dg ?_)
   intro w12 hc13
   replace hc13:=ay hc13 g9
   refine ae rfl rfl (a8 ?_)
   clear bx5
   refine a7 rfl (ma (vb false) (ab (ap (vs:=[vb false]) Try.func29 (.tmp rfl .nil) ?_)))
   have e0:(false:Bool)=(bW g):=by
     exact(aZ (λh=>by have h2:=h.2.2.2 _ (bd (xs:=g.2) (i:=↑k) (by omega) ‹_›);unfold ij at h2;omega)).symm
   replace bH:=bH.cn ch10
   replace bH:=bH.cn hc13
   exact⟨rb e0,bH.below⟩
  refine bJ (v:=vp b3 1) (wy (df q38)) (λw' hw'=>ah dl rfl rfl zs1 rfl) (bJ (v:=g_v) (wy (df q38)) (λw' hw'=>ag bL rfl (bx5.bel hw') rfl) (bJ (v:=vi ↑k) (wy (df q38)) (λw' hw'=>al zs3) (bJ (v:=vi 0) (wy (df q38)) (λw' hw'=>al rfl) (bJ (v:=Value.pointer (some (aC g_v 2 (Int.toNat ↑k)))) (wy (df q38)) (λw' hw'=>ad (α:=Pt) (xs:=g.2) (v:=g_v) (i:=↑k) gg rfl rfl (Rg.bel hw') rfl (by omega) (by omega)) ?_))))
  refine bJ (v:=Value.pointer (some ⟨(aC g_v 2 (Int.toNat ↑k)).block,(aC g_v 2 (Int.toNat ↑k)).off+0,none⟩)) (wy (df q38)) (λw' hw'=>aM iL rfl rfl rfl (by decide) (by decide) rfl) (bJ (v:=vi ((gI g.2 ↑k).1)) (wy (df q38)) (λw' hw'=>aN (α:=Pt) (xs:=g.2) (v:=g_v) (i:=↑k) aB rfl (Rg.bel hw') (by omega) (by omega) (by decide) rfl) (bJ (v:=vp b3 0) (wy (df q38)) (λw' hw'=>ah dl rfl rfl zs1 rfl) (bJ (v:=vi g.1) (wy (df q38)) (λw' hw'=>ag aB rfl (bx5.bel hw') rfl) ?_)))
  refine bJ (v:=vb (decide (g.1<=((gI g.2 ↑k).1)))) (wy (df q38)) (λw' hw'=>di (m:=(gI g.2 ↑k).1) (n:=g.1) rfl rfl) (qv (vb (decide (g.1<=((gI g.2 ↑k).1)))) (λw' hw'=>aL rfl (df q38) rfl) (dg ?_))
  intro w14 hc15
  replace hc15:=ay hc15 g9
  by_cases p9:g.1<=((gI g.2 ↑k).1)
  ·
   refine ae rfl (dt p9) (a8 ?_)
   clear bx5
   refine a7 rfl (ma (vb false) (ab (ap (vs:=[vb false]) Try.func29 (.tmp rfl .nil) ?_)))
   have e0:(false:Bool)=(bW g):=by
     exact(aZ (λh=>by have h2:=h.2.2.2 _ (bd (xs:=g.2) (i:=↑k) (by omega) ‹_›);unfold ij at h2;omega)).symm
   replace bH:=bH.cn ch10
   replace bH:=bH.cn hc15
   exact⟨rb e0,bH.below⟩
  refine aj rfl (df p9) (ao (av (a7 rfl (mi 0 (lx (bw (m:=0) (n:=1) rfl rfl (by omega)) (ai 1 (ab (c8 (a8 (a8 (a7 rfl ?_)))))))))))
  refine mi 1 (lx (b7 (m:=1) (n:=2) rfl rfl) (ab (ae rfl rfl (ao (a8 (aq (a8 (bT g9 rfl jJ (by kernel_rfl) ?_))))))))
  intro w17 ch16
  refine qx (λw' hw'=>ah dl rfl rfl zs1 rfl) ?_
  replace bx5:=(bx5.cn hc15).cn ch16
  refine qx (λw' hw'=>ag bL rfl (bx5.bel hw') rfl) (qz zs3 (qm (vi 1) ?_))
  replace Rg:=(Rg.cn hc15).cn ch16
  refine qx (λw' hw'=>ad (v:=g_v) (i:=↑k) gg rfl rfl (Rg.bel hw') rfl (by omega) (by omega)) (qx (λw' hw'=>aM iL rfl rfl rfl (by decide) (by decide) rfl) (qx (λw' hw'=>aN (v:=g_v) (i:=↑k) aB rfl (Rg.bel hw') (by omega) (by omega) (by decide) rfl) (qx (λw' hw'=>b7 (m:=(gI g.2 ↑k).2) (n:=0) rfl rfl) (qm (vb (decide (((gI g.2 ↑k).2)<0))) ?_))))
  by_cases q38_18:((gI g.2 ↑k).2)<0
  ·
   refine bx (wn (dt q38_18)) (bx (wn (dt q38_18)) (bx (wn (dt q38_18)) (bx (wn (dt q38_18)) (bx (wn (dt q38_18)) (bx (wn (dt q38_18)) (bx (wn (dt q38_18)) (bx (wn (dt q38_18)) (bx (wn (dt q38_18)) (bx (wn (dt q38_18)) ?_)))))))))
   refine qv (vb true) (λw' hw'=>az rfl (dt q38_18) rfl) (dg ?_)
   intro w19 hc20
   replace hc20:=ay hc20 g9
   refine ae rfl rfl (a8 ?_)
   clear bx5
   refine a7 rfl (ma (vb false) (ab (ap (vs:=[vb false]) Try.func29 (.tmp rfl .nil) ?_)))
   have e0:(false:Bool)=(bW g):=by
     exact(aZ (λh=>by have h2:=h.2.2.2 _ (bd (xs:=g.2) (i:=↑k) (by omega) ‹_›);unfold ij at h2;omega)).symm
   have C21:=cg [] (ch10.n.seq (hc15.n.seq (ch16.n.seq hc20.n)))
   replace bH:=bH.ca C21
   exact⟨rb e0,bH.below⟩
  refine bJ (v:=vp b3 1) (wy (df q38_18)) (λw' hw'=>ah dl rfl rfl zs1 rfl) (bJ (v:=g_v) (wy (df q38_18)) (λw' hw'=>ag bL rfl (bx5.bel hw') rfl) (bJ (v:=vi ↑k) (wy (df q38_18)) (λw' hw'=>al zs3) (bJ (v:=vi 1) (wy (df q38_18)) (λw' hw'=>al rfl) (bJ (v:=Value.pointer (some (aC g_v 2 (Int.toNat ↑k)))) (wy (df q38_18)) (λw' hw'=>ad (α:=Pt) (xs:=g.2) (v:=g_v) (i:=↑k) gg rfl rfl (Rg.bel hw') rfl (by omega) (by omega)) ?_))))
  refine bJ (v:=Value.pointer (some ⟨(aC g_v 2 (Int.toNat ↑k)).block,(aC g_v 2 (Int.toNat ↑k)).off+1,none⟩)) (wy (df q38_18)) (λw' hw'=>aM iL rfl rfl rfl (by decide) (by decide) rfl) (bJ (v:=vi ((gI g.2 ↑k).2)) (wy (df q38_18)) (λw' hw'=>aN (α:=Pt) (xs:=g.2) (v:=g_v) (i:=↑k) aB rfl (Rg.bel hw') (by omega) (by omega) (by decide) rfl) (bJ (v:=vp b3 0) (wy (df q38_18)) (λw' hw'=>ah dl rfl rfl zs1 rfl) (bJ (v:=vi g.1) (wy (df q38_18)) (λw' hw'=>ag aB rfl (bx5.bel hw') rfl) ?_)))
  refine bJ (v:=vb (decide (g.1<=((gI g.2 ↑k).2)))) (wy (df q38_18)) (λw' hw'=>di (m:=(gI g.2 ↑k).2) (n:=g.1) rfl rfl) (qv (vb (decide (g.1<=((gI g.2 ↑k).2)))) (λw' hw'=>aL rfl (df q38_18) rfl) (dg ?_))
  intro w22 hc23
  replace hc23:=ay hc23 g9
  by_cases p9_24:g.1<=((gI g.2 ↑k).2)
  ·
   refine ae rfl (dt p9_24) (a8 ?_)
   clear bx5
   refine a7 rfl (ma (vb false) (ab (ap (vs:=[vb false]) Try.func29 (.tmp rfl .nil) ?_)))
   have e0:(false:Bool)=(bW g):=by
     exact(aZ (λh=>by have h2:=h.2.2.2 _ (bd (xs:=g.2) (i:=↑k) (by omega) ‹_›);unfold ij at h2;omega)).symm
   have C25:=cg [] (ch10.n.seq (hc15.n.seq (ch16.n.seq hc23.n)))
   replace bH:=bH.ca C25
   exact⟨rb e0,bH.below⟩
  refine aj rfl (df p9_24) (ao (av (a7 rfl (mi 1 (lx (bw (m:=1) (n:=1) rfl rfl (by omega)) (ai 2 (ab (c8 (a8 (a8 (a7 rfl ?_)))))))))))
  refine mi 2 (lx (b7 (m:=2) (n:=2) rfl rfl) (ab (aj rfl rfl (aJ rfl (av (a7 rfl (mz zs3 (lx (bw (m:=↑k) (n:=1) rfl rfl (by omega)) (ai ((k:Int)+1) ?_)))))))))
  refine ab ?_
  have C26:=cg [] (ch10.n.seq (hc15.n.seq (ch16.n.seq hc23.n)))
  refine back4 (k+1,g9) _ _ ⟨bH.ca C26,zs1,rfl,Rg.cn hc23,bx5.cn hc23,by omega,?_⟩ ?_
  · show∀e∈List.take (k+1) g.2,ij g.1 e
    rw[eF ‹_›]
    intro e he
    rcases List.mem_append.1 he with h|h
    · exact hinv4 e h
    · obtain rfl:=List.mem_singleton.1 h
      refine⟨?_,?_⟩<;>omega
  · show Int.toNat (((g.2.length:Int):Int)-((k+1):Int))<Int.toNat (((g.2.length:Int):Int)-(k:Int))
    omega
 refine aj rfl (df p4) (aJ rfl (a8 ?_))
 clear bx5
 refine a7 rfl (ma (vb true) (ab (ap (vs:=[vb true]) Try.func29 (.tmp rfl .nil) ?_)))
 have e0:(true:Bool)=(bW g):=by
   exact(gx ⟨by omega,by omega,by omega,by rw[List.take_of_length_le (by omega)] at hinv4;exact hinv4⟩).symm
 exact⟨rb e0,bH.below⟩
end TL
