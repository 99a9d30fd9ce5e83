import Derived.Test.YtbadiajeohbpcaaGreatTlP3
import Derived.Test.YtbadiajeohbpcaaGreatProg
import Derived.Test.YtbadiajeohbpcaaGreatTlAli
set_option linter.all false
set_option maxRecDepth 20000
namespace TL
open Go Go.Proofs
theorem nM:Tryz.prog.follows .mixedOrders=true:=by kernel_rfl
theorem bY:Tp Tryz.prog 3 false 1 8 (.int .i64 0):=Tp.of (by kernel_rfl)
theorem bO:Tp Tryz.prog 22 false 1 24 (.slice none 0 0):=Tp.of (by kernel_rfl)
theorem dc:Tp Tryz.prog 67 true 2 16 (.agg #[.int .i64 0,.int .i64 0]):=Tp.of (by kernel_rfl)
theorem n9(w0:World)(g:(Int)×(List Pt))(g_v:Value)(hg_v:Ro w0 g_v g.2):
    Calls Tryz.prog 27 #[vg [vi g.1,g_v]] w0 (λee w=>ee= .returned (vb (dq g))/\cE w0.heap.size w0 w):=by
 refine au Tryz.func27 rfl nq ?_
 have bH:=aT.start w0
 have Rg:=hg_v.sl
 refine a7 (a6 rfl (bW rfl (bh c0 (is 1) (1,0) rfl rfl ?_)))
 intro g4 w1 b3 ch2 bx5
 replace bx5:Bx g4 (is 1) w1 b3 [vi g.1,g_v]:=bx5
 refine ma (vb false) (aa (a7 (a7 (a6 rfl (lx (a8 dY rfl rfl rfl rfl) (lx (ab bY rfl bx5 rfl) (lx (aZ (m:=g.1) (n:=0) rfl rfl) (mv (vb (decide (g.1<0))) ?_))))))))
 by_cases q10:g.1<0
 ·
  refine ae (wn (dt q10)) (ae (wn (dt q10)) (ae (wn (dt q10)) (lw (vb true) (aD rfl (dt q10) rfl) (mv (vb true) (ae (wn rfl) (ae (wn rfl) (ae (wn rfl) (ae (wn rfl) (lw (vb true) (aD rfl rfl rfl) (aa (af rfl rfl (a7 ?_))))))))))))
  clear bx5
  refine a6 rfl (ma (vb false) (aa (ar (vs:=[vb false]) Tryz.func27 (.tmp rfl .nil) ?_)))
  have e0:(false:Bool)=(dq g):=by
    exact(cJ (λh=>by unfold c8 at h;omega)).symm
  replace bH:=bH.cn ch2
  exact⟨rb e0,bH.below⟩
 refine lv (vp b3 0) (wy (df q10)) (a8 dY rfl rfl rfl rfl) (lv (vi g.1) (wy (df q10)) (ab bY rfl bx5 rfl) (lv (vb (decide (1024<g.1))) (wy (df q10)) (d8 (m:=g.1) (n:=1024) rfl rfl) (lw (vb (decide (1024<g.1))) (aB rfl (df q10) rfl) (mv (vb (decide (1024<g.1))) ?_))))
 by_cases q15:1024<g.1
 ·
  refine ae (wn (dt q15)) (ae (wn (dt q15)) (ae (wn (dt q15)) (ae (wn (dt q15)) (lw (vb true) (aD rfl (dt q15) rfl) (aa (af rfl rfl (a7 ?_)))))))
  clear bx5
  refine a6 rfl (ma (vb false) (aa (ar (vs:=[vb false]) Tryz.func27 (.tmp rfl .nil) ?_)))
  have e0:(false:Bool)=(dq g):=by
    exact(cJ (λh=>by unfold c8 at h;omega)).symm
  replace bH:=bH.cn ch2
  exact⟨rb e0,bH.below⟩
 refine lv (vp b3 1) (wy (df q15)) (a8 dY rfl rfl rfl rfl) (lv (g_v) (wy (df q15)) (ab bO rfl bx5 rfl) ?_)
 replace Rg:=Rg.cn ch2
 have len6:=(Rg).small
 refine lv (vi (g.2.length:Int)) (wy (df q15)) (aQ fm rfl Rg) (lv (vb (decide (3072<(g.2.length:Int)))) (wy (df q15)) (d8 (m:=(g.2.length:Int)) (n:=3072) rfl rfl) (lw (vb (decide (3072<(g.2.length:Int)))) (aB rfl (df q15) rfl) (aa ?_)))
 by_cases p1:3072<(g.2.length:Int)
 ·
  refine af rfl (dt p1) (a7 ?_)
  clear bx5
  refine a6 rfl (ma (vb false) (aa (ar (vs:=[vb false]) Tryz.func27 (.tmp rfl .nil) ?_)))
  have e0:(false:Bool)=(dq g):=by
    exact(cJ (λh=>by unfold c8 at h;omega)).symm
  replace bH:=bH.cn ch2
  exact⟨rb e0,bH.below⟩
 refine ag rfl (df p1) (ak (a7 (a7 (a6 rfl (lx (a8 dY rfl rfl rfl rfl) (lx (ab bO rfl bx5 rfl) (lx (aQ fm rfl Rg) (mi 0 (aa (am ?_))))))))))
 refine aN (σ:=Nat×aK) (λ⟨k,gq⟩ f w=>aT w0 gq w/\f 1=vp b3 0/\f 22=g_v/\f 23=vi (g.2.length:Int)/\f 24=vi ↑k/\Sl gq (is 0) w g_v g.2/\Bx gq (is 1) w b3 [vi g.1,g_v]/\(k:Int)<=((g.2.length:Int):Int)/\(∀e∈List.take k g.2,pJ g.1 e)) (λ⟨k,gq⟩=>Int.toNat (((g.2.length:Int):Int)-(k:Int))) (0,g4) ?_ ?_
 · exact⟨bH.cn ch2,rfl,rfl,rfl,rfl,Rg,bx5,by omega,by simp⟩
 clear Rg bx5 bH
 rintro⟨k,g9⟩ f7 w8 ⟨bH,zs1,zs22,zs23,zs24,Rg,bx5,hle_k,hinv4⟩ back4
 refine a7 (a6 rfl (lx (aZ (m:=↑k) (n:=(g.2.length:Int)) zs24 zs23) (aa (a7 ?_))))
 by_cases p4:(k:Int)<(g.2.length:Int)
 ·
  refine af rfl (dt p4) (ak (a7 (am (a7 (a6 rfl (lx (ad (v:=g_v) (i:=↑k) fm rfl zs22 Rg zs24 (by omega) (by omega)) (lw (vg [vi ((gI g.2 ↑k).1),vi ((gI g.2 ↑k).2)]) (aF (v:=g_v) (i:=↑k) dc rfl Rg (by omega) (by omega) rfl) (lo (aS g9 (is 2) (2,0) rfl dc ?_)))))))))
  intro g13 w10 b12 ch11 bx14
  replace bx14:Bx g13 (is 2) w10 b12 [vi 0,vi 0]:=bx14
  refine lo (aw (cs':=[vi ((gI g.2 ↑k).1),vi ((gI g.2 ↑k).2)]) dc rfl rfl bx14 rfl nq (AllOne.all (.cons rfl (.cons rfl .nil))) rfl ?_)
  intro w15 ch16 bx17
  clear bx14
  refine aa (a7 (a6 rfl (lx (aj (ds:=[vi ((gI g.2 ↑k).1),vi ((gI g.2 ↑k).2)]) dc rfl bx17 rfl rfl) (mi 0 (aa (am (fX (a7 ?_))))))))
  clear bx17
  refine a6 rfl (lx (aZ (m:=0) (n:=2) rfl rfl) (aa (a7 (af rfl rfl (ak (a7 (am (a7 (a6 rfl (lw (vi ((gI g.2 ↑k).1)) (eb jC bY rfl rfl (by decide) (by decide) rfl) (ai ((gI g.2 ↑k).1) ?_)))))))))))
  refine aa (a7 (a6 rfl (mi ((gI g.2 ↑k).1) (lx (aZ (m:=(gI g.2 ↑k).1) (n:=0) rfl rfl) (mv (vb (decide (((gI g.2 ↑k).1)<0))) ?_)))))
  by_cases q34:((gI g.2 ↑k).1)<0
  ·
   refine ae (wn (dt q34)) (ae (wn (dt q34)) (ae (wn (dt q34)) (ae (wn (dt q34)) (lw (vb true) (aD rfl (dt q34) rfl) (aa (af rfl rfl (a7 ?_)))))))
   clear bx5
   refine a6 rfl (ma (vb false) (aa (ar (vs:=[vb false]) Tryz.func27 (.tmp rfl .nil) ?_)))
   have e0:(false:Bool)=(dq g):=by
     exact(cJ (λh=>by have h2:=h.2.2.2 _ (bk (xs:=g.2) (i:=↑k) (by omega) ‹_›);unfold pJ at h2;omega)).symm
   replace bH:=bH.cn ch11
   replace bH:=bH.ce ch16
   exact⟨rb e0,bH.below⟩
  refine lv (vi ((gI g.2 ↑k).1)) (wy (df q34)) (aq rfl) (lv (vp b3 0) (wy (df q34)) (a8 dY rfl rfl zs1 rfl) ?_)
  replace bx5:=(bx5.cn ch11).ce ch16
  refine lv (vi g.1) (wy (df q34)) (ab bY rfl bx5 rfl) (lv (vb (decide (g.1<=((gI g.2 ↑k).1)))) (wy (df q34)) (fN (m:=(gI g.2 ↑k).1) (n:=g.1) rfl rfl) (lw (vb (decide (g.1<=((gI g.2 ↑k).1)))) (aB rfl (df q34) rfl) (aa ?_)))
  by_cases p9:g.1<=((gI g.2 ↑k).1)
  ·
   refine af rfl (dt p9) (a7 ?_)
   clear bx5
   refine a6 rfl (ma (vb false) (aa (ar (vs:=[vb false]) Tryz.func27 (.tmp rfl .nil) ?_)))
   have e0:(false:Bool)=(dq g):=by
     exact(cJ (λh=>by have h2:=h.2.2.2 _ (bk (xs:=g.2) (i:=↑k) (by omega) ‹_›);unfold pJ at h2;omega)).symm
   replace bH:=bH.cn ch11
   replace bH:=bH.ce ch16
   exact⟨rb e0,bH.below⟩
  refine ag rfl (df p9) (ak (al (a6 rfl (lx (aM (m:=0) (n:=1) rfl rfl (by omega)) (mi 1 (aa (cM (a7 (a6 rfl (lx (aZ (m:=1) (n:=2) rfl rfl) ?_))))))))))
  refine aa (a7 (af rfl rfl (ak (a7 (am (a7 (a6 rfl (lw (vi ((gI g.2 ↑k).2)) (eb jC bY rfl rfl (by decide) (by decide) rfl) (ai ((gI g.2 ↑k).2) (aa (a7 (a6 rfl (mi ((gI g.2 ↑k).2) ?_)))))))))))))
  refine lx (aZ (m:=(gI g.2 ↑k).2) (n:=0) rfl rfl) (mv (vb (decide (((gI g.2 ↑k).2)<0))) ?_)
  by_cases q34_18:((gI g.2 ↑k).2)<0
  ·
   refine ae (wn (dt q34_18)) (ae (wn (dt q34_18)) (ae (wn (dt q34_18)) (ae (wn (dt q34_18)) (lw (vb true) (aD rfl (dt q34_18) rfl) (aa (af rfl rfl (a7 ?_)))))))
   clear bx5
   refine a6 rfl (ma (vb false) (aa (ar (vs:=[vb false]) Tryz.func27 (.tmp rfl .nil) ?_)))
   have e0:(false:Bool)=(dq g):=by
     exact(cJ (λh=>by have h2:=h.2.2.2 _ (bk (xs:=g.2) (i:=↑k) (by omega) ‹_›);unfold pJ at h2;omega)).symm
   replace bH:=bH.cn ch11
   replace bH:=bH.ce ch16
   exact⟨rb e0,bH.below⟩
  refine lv (vi ((gI g.2 ↑k).2)) (wy (df q34_18)) (aq rfl) (lv (vp b3 0) (wy (df q34_18)) (a8 dY rfl rfl zs1 rfl) (lv (vi g.1) (wy (df q34_18)) (ab bY rfl bx5 rfl) (lv (vb (decide (g.1<=((gI g.2 ↑k).2)))) (wy (df q34_18)) (fN (m:=(gI g.2 ↑k).2) (n:=g.1) rfl rfl) (lw (vb (decide (g.1<=((gI g.2 ↑k).2)))) (aB rfl (df q34_18) rfl) (aa ?_)))))
  by_cases p9_19:g.1<=((gI g.2 ↑k).2)
  ·
   refine af rfl (dt p9_19) (a7 ?_)
   clear bx5
   refine a6 rfl (ma (vb false) (aa (ar (vs:=[vb false]) Tryz.func27 (.tmp rfl .nil) ?_)))
   have e0:(false:Bool)=(dq g):=by
     exact(cJ (λh=>by have h2:=h.2.2.2 _ (bk (xs:=g.2) (i:=↑k) (by omega) ‹_›);unfold pJ at h2;omega)).symm
   replace bH:=bH.cn ch11
   replace bH:=bH.ce ch16
   exact⟨rb e0,bH.below⟩
  refine ag rfl (df p9_19) (ak (al (a6 rfl (lx (aM (m:=1) (n:=1) rfl rfl (by omega)) (mi 2 (aa (cM (a7 (a6 rfl (lx (aZ (m:=2) (n:=2) rfl rfl) ?_))))))))))
  refine aa (a7 (ag rfl rfl (aJ rfl (al (a6 rfl (lx (aM (m:=↑k) (n:=1) zs24 rfl (by omega)) (mi ((k:Int)+1) (aa ?_))))))))
  replace bH:=bH.cn ch11
  refine back4 (k+1,g13) _ _ ⟨bH.ce ch16,zs1,zs22,zs23,rfl,(Rg.cn ch11).ce ch16,bx5,by omega,?_⟩ ?_
  · show∀e∈List.take (k+1) g.2,pJ g.1 e
    rw[bB ‹_›]
    intro e he
    rcases List.mem_append.1 he with h|h
    · exact hinv4 e h
    · obtain rfl:=List.mem_singleton.1 h
      refine⟨?_,?_⟩<;>omega
  · show Int.toNat (((g.2.length:Int):Int)-((k+1):Int))<Int.toNat (((g.2.length:Int):Int)-(k:Int))
    omega
 refine ag rfl (df p4) (aJ rfl (a7 ?_))
 clear bx5
 refine a6 rfl (ma (vb true) (aa (ar (vs:=[vb true]) Tryz.func27 (.tmp rfl .nil) ?_)))
 have e0:(true:Bool)=(dq g):=by
   exact(mW ⟨by omega,by omega,by omega,by rw[List.take_of_length_le (by omega)] at hinv4;exact hinv4⟩).symm
 exact⟨rb e0,bH.below⟩
theorem nG(w0:World)(g:(Int)×(List Pt))(g_v:Value)(hg_v:Ro w0 g_v g.2):
    Calls Tryz.prog 15 #[vg [vi g.1,g_v]] w0 (λee w=>ee= .returned (vb (dq g))/\cE w0.heap.size w0 w):=by
 refine au Tryz.func15 rfl nq ?_
 have bH:=aT.start w0
 have Rg:=hg_v.sl
 refine a7 (a6 rfl (bW rfl (bh c0 (is 1) (1,0) rfl rfl ?_)))
 intro g4 w1 b3 ch2 bx5
 replace bx5:Bx g4 (is 1) w1 b3 [vi g.1,g_v]:=bx5
 refine ma (vb false) (aa (a7 (a7 (a6 rfl (lx (a8 dY rfl rfl rfl rfl) (lx (ab bY rfl bx5 rfl) (lx (aZ (m:=g.1) (n:=0) rfl rfl) (mv (vb (decide (g.1<0))) ?_))))))))
 by_cases q8:g.1<0
 ·
  refine ae (wn (dt q8)) (ae (wn (dt q8)) (ae (wn (dt q8)) (lw (vb true) (aD rfl (dt q8) rfl) (mv (vb true) (ae (wn rfl) (ae (wn rfl) (ae (wn rfl) (ae (wn rfl) (lw (vb true) (aD rfl rfl rfl) (aa (af rfl rfl (a7 ?_))))))))))))
  clear bx5
  refine a6 rfl (ma (vb false) (aa (ar (vs:=[vb false]) Tryz.func15 (.tmp rfl .nil) ?_)))
  have e0:(false:Bool)=(dq g):=by
    exact(cJ (λh=>by unfold c8 at h;omega)).symm
  replace bH:=bH.cn ch2
  exact⟨rb e0,bH.below⟩
 refine lv (vp b3 0) (wy (df q8)) (a8 dY rfl rfl rfl rfl) (lv (vi g.1) (wy (df q8)) (ab bY rfl bx5 rfl) (lv (vb (decide (1024<g.1))) (wy (df q8)) (d8 (m:=g.1) (n:=1024) rfl rfl) (lw (vb (decide (1024<g.1))) (aB rfl (df q8) rfl) (mv (vb (decide (1024<g.1))) ?_))))
 by_cases q13:1024<g.1
 ·
  refine ae (wn (dt q13)) (ae (wn (dt q13)) (ae (wn (dt q13)) (ae (wn (dt q13)) (lw (vb true) (aD rfl (dt q13) rfl) (aa (af rfl rfl (a7 ?_)))))))
  clear bx5
  refine a6 rfl (ma (vb false) (aa (ar (vs:=[vb false]) Tryz.func15 (.tmp rfl .nil) ?_)))
  have e0:(false:Bool)=(dq g):=by
    exact(cJ (λh=>by unfold c8 at h;omega)).symm
  replace bH:=bH.cn ch2
  exact⟨rb e0,bH.below⟩
 refine lv (vp b3 1) (wy (df q13)) (a8 dY rfl rfl rfl rfl) (lv (g_v) (wy (df q13)) (ab bO rfl bx5 rfl) ?_)
 replace Rg:=Rg.cn ch2
 have len6:=(Rg).small
 refine lv (vi (g.2.length:Int)) (wy (df q13)) (aQ fm rfl Rg) (lv (vb (decide (3072<(g.2.length:Int)))) (wy (df q13)) (d8 (m:=(g.2.length:Int)) (n:=3072) rfl rfl) (lw (vb (decide (3072<(g.2.length:Int)))) (aB rfl (df q13) rfl) (aa ?_)))
 by_cases p1:3072<(g.2.length:Int)
 ·
  refine af rfl (dt p1) (a7 ?_)
  clear bx5
  refine a6 rfl (ma (vb false) (aa (ar (vs:=[vb false]) Tryz.func15 (.tmp rfl .nil) ?_)))
  have e0:(false:Bool)=(dq g):=by
    exact(cJ (λh=>by unfold c8 at h;omega)).symm
  replace bH:=bH.cn ch2
  exact⟨rb e0,bH.below⟩
 refine ag rfl (df p1) (ak (a7 (a7 (a6 rfl (ai 0 (aa (am ?_)))))))
 refine aN (σ:=Nat×aK) (λ⟨k,gq⟩ f w=>aT w0 gq w/\f 1=vp b3 0/\f 3=vi ↑k/\Sl gq (is 0) w g_v g.2/\Bx gq (is 1) w b3 [vi g.1,g_v]/\(k:Int)<=((g.2.length:Int):Int)/\(∀e∈List.take k g.2,pJ g.1 e)) (λ⟨k,gq⟩=>Int.toNat (((g.2.length:Int):Int)-(k:Int))) (0,g4) ?_ ?_
 · exact⟨bH.cn ch2,rfl,rfl,Rg,bx5,by omega,by simp⟩
 clear Rg bx5 bH
 rintro⟨k,g9⟩ f7 w8 ⟨bH,zs1,zs3,Rg,bx5,hle_k,hinv4⟩ back4
 refine a7 (a7 (a6 rfl (mz zs3 (lx (a8 dY rfl rfl zs1 rfl) (lx (ab bO rfl bx5 rfl) (lx (aQ fm rfl Rg) (lx (aZ (m:=↑k) (n:=(g.2.length:Int)) rfl rfl) (aa ?_))))))))
 by_cases p4:(k:Int)<(g.2.length:Int)
 ·
  refine af rfl (dt p4) (ak (a7 (am (a7 (a6 rfl (ai 0 (aa (am (fX (a7 (a7 (a6 rfl ?_))))))))))))
  refine mi 0 (lx (aZ (m:=0) (n:=2) rfl rfl) (aa (af rfl rfl (ak (a7 (am (a7 (bz g9 rfl nM (by kernel_rfl) ?_))))))))
  intro w11 ch10
  refine qx (λw' hw'=>a8 dY rfl rfl zs1 rfl) ?_
  replace bx5:=bx5.cn ch10
  refine qx (λw' hw'=>ab bO rfl (bx5.bel hw') rfl) (qz zs3 (qm (vi 0) ?_))
  replace Rg:=Rg.cn ch10
  refine qx (λw' hw'=>ad (v:=g_v) (i:=↑k) fm rfl rfl (Rg.bel hw') rfl (by omega) (by omega)) (qx (λw' hw'=>b5 jC rfl rfl rfl (by decide) (by decide) rfl) (qx (λw' hw'=>bJ (v:=g_v) (i:=↑k) bY rfl (Rg.bel hw') (by omega) (by omega) (by decide) rfl) (qx (λw' hw'=>aZ (m:=(gI g.2 ↑k).1) (n:=0) rfl rfl) (qm (vb (decide (((gI g.2 ↑k).1)<0))) ?_))))
  by_cases q38:((gI g.2 ↑k).1)<0
  ·
   refine av (wn (dt q38)) (av (wn (dt q38)) (av (wn (dt q38)) (av (wn (dt q38)) (av (wn (dt q38)) (av (wn (dt q38)) (av (wn (dt q38)) (av (wn (dt q38)) (av (wn (dt q38)) (av (wn (dt q38)) ?_)))))))))
   refine qv (vb true) (λw' hw'=>aD rfl (dt q38) rfl) (bN ?_)
   intro w12 hc13
   replace hc13:=ao hc13 g9
   refine af rfl rfl (a7 ?_)
   clear bx5
   refine a6 rfl (ma (vb false) (aa (ar (vs:=[vb false]) Tryz.func15 (.tmp rfl .nil) ?_)))
   have e0:(false:Bool)=(dq g):=by
     exact(cJ (λh=>by have h2:=h.2.2.2 _ (bk (xs:=g.2) (i:=↑k) (by omega) ‹_›);unfold pJ at h2;omega)).symm
   replace bH:=bH.cn ch10
   replace bH:=bH.cn hc13
   exact⟨rb e0,bH.below⟩
  refine aH (v:=vp b3 1) (wy (df q38)) (λw' hw'=>a8 dY rfl rfl zs1 rfl) (aH (v:=g_v) (wy (df q38)) (λw' hw'=>ab bO rfl (bx5.bel hw') rfl) (aH (v:=vi ↑k) (wy (df q38)) (λw' hw'=>aq zs3) (aH (v:=vi 0) (wy (df q38)) (λw' hw'=>aq rfl) (aH (v:=Value.pointer (some (aR g_v 2 (Int.toNat ↑k)))) (wy (df q38)) (λw' hw'=>ad (α:=Pt) (xs:=g.2) (v:=g_v) (i:=↑k) fm rfl rfl (Rg.bel hw') rfl (by omega) (by omega)) ?_))))
  refine aH (v:=Value.pointer (some ⟨(aR g_v 2 (Int.toNat ↑k)).block,(aR g_v 2 (Int.toNat ↑k)).off+0,none⟩)) (wy (df q38)) (λw' hw'=>b5 jC rfl rfl rfl (by decide) (by decide) rfl) (aH (v:=vi ((gI g.2 ↑k).1)) (wy (df q38)) (λw' hw'=>bJ (α:=Pt) (xs:=g.2) (v:=g_v) (i:=↑k) bY rfl (Rg.bel hw') (by omega) (by omega) (by decide) rfl) (aH (v:=vp b3 0) (wy (df q38)) (λw' hw'=>a8 dY rfl rfl zs1 rfl) (aH (v:=vi g.1) (wy (df q38)) (λw' hw'=>ab bY rfl (bx5.bel hw') rfl) ?_)))
  refine aH (v:=vb (decide (g.1<=((gI g.2 ↑k).1)))) (wy (df q38)) (λw' hw'=>fN (m:=(gI g.2 ↑k).1) (n:=g.1) rfl rfl) (qv (vb (decide (g.1<=((gI g.2 ↑k).1)))) (λw' hw'=>aB rfl (df q38) rfl) (bN ?_))
  intro w14 hc15
  replace hc15:=ao hc15 g9
  by_cases p9:g.1<=((gI g.2 ↑k).1)
  ·
   refine af rfl (dt p9) (a7 ?_)
   clear bx5
   refine a6 rfl (ma (vb false) (aa (ar (vs:=[vb false]) Tryz.func15 (.tmp rfl .nil) ?_)))
   have e0:(false:Bool)=(dq g):=by
     exact(cJ (λh=>by have h2:=h.2.2.2 _ (bk (xs:=g.2) (i:=↑k) (by omega) ‹_›);unfold pJ at h2;omega)).symm
   replace bH:=bH.cn ch10
   replace bH:=bH.cn hc15
   exact⟨rb e0,bH.below⟩
  refine ag rfl (df p9) (ak (al (a6 rfl (mi 0 (lx (aM (m:=0) (n:=1) rfl rfl (by omega)) (ai 1 (aa (cM (a7 (a7 (a6 rfl ?_)))))))))))
  refine mi 1 (lx (aZ (m:=1) (n:=2) rfl rfl) (aa (af rfl rfl (ak (a7 (am (a7 (bz g9 rfl nM (by kernel_rfl) ?_))))))))
  intro w17 ch16
  refine qx (λw' hw'=>a8 dY rfl rfl zs1 rfl) ?_
  replace bx5:=(bx5.cn hc15).cn ch16
  refine qx (λw' hw'=>ab bO rfl (bx5.bel hw') rfl) (qz zs3 (qm (vi 1) ?_))
  replace Rg:=(Rg.cn hc15).cn ch16
  refine qx (λw' hw'=>ad (v:=g_v) (i:=↑k) fm rfl rfl (Rg.bel hw') rfl (by omega) (by omega)) (qx (λw' hw'=>b5 jC rfl rfl rfl (by decide) (by decide) rfl) (qx (λw' hw'=>bJ (v:=g_v) (i:=↑k) bY rfl (Rg.bel hw') (by omega) (by omega) (by decide) rfl) (qx (λw' hw'=>aZ (m:=(gI g.2 ↑k).2) (n:=0) rfl rfl) (qm (vb (decide (((gI g.2 ↑k).2)<0))) ?_))))
  by_cases q38_18:((gI g.2 ↑k).2)<0
  ·
   refine av (wn (dt q38_18)) (av (wn (dt q38_18)) (av (wn (dt q38_18)) (av (wn (dt q38_18)) (av (wn (dt q38_18)) (av (wn (dt q38_18)) (av (wn (dt q38_18)) (av (wn (dt q38_18)) (av (wn (dt q38_18)) (av (wn (dt q38_18)) ?_)))))))))
   refine qv (vb true) (λw' hw'=>aD rfl (dt q38_18) rfl) (bN ?_)
   intro w19 hc20
   replace hc20:=ao hc20 g9
   refine af rfl rfl (a7 ?_)
   clear bx5
   refine a6 rfl (ma (vb false) (aa (ar (vs:=[vb false]) Tryz.func15 (.tmp rfl .nil) ?_)))
   have e0:(false:Bool)=(dq g):=by
     exact(cJ (λh=>by have h2:=h.2.2.2 _ (bk (xs:=g.2) (i:=↑k) (by omega) ‹_›);unfold pJ at h2;omega)).symm
   have C21:=cg [] (ch10.n.seq (hc15.n.seq (ch16.n.seq hc20.n)))
   replace bH:=bH.ca C21
   exact⟨rb e0,bH.below⟩
  refine aH (v:=vp b3 1) (wy (df q38_18)) (λw' hw'=>a8 dY rfl rfl zs1 rfl) (aH (v:=g_v) (wy (df q38_18)) (λw' hw'=>ab bO rfl (bx5.bel hw') rfl) (aH (v:=vi ↑k) (wy (df q38_18)) (λw' hw'=>aq zs3) (aH (v:=vi 1) (wy (df q38_18)) (λw' hw'=>aq rfl) (aH (v:=Value.pointer (some (aR g_v 2 (Int.toNat ↑k)))) (wy (df q38_18)) (λw' hw'=>ad (α:=Pt) (xs:=g.2) (v:=g_v) (i:=↑k) fm rfl rfl (Rg.bel hw') rfl (by omega) (by omega)) ?_))))
  refine aH (v:=Value.pointer (some ⟨(aR g_v 2 (Int.toNat ↑k)).block,(aR g_v 2 (Int.toNat ↑k)).off+1,none⟩)) (wy (df q38_18)) (λw' hw'=>b5 jC rfl rfl rfl (by decide) (by decide) rfl) (aH (v:=vi ((gI g.2 ↑k).2)) (wy (df q38_18)) (λw' hw'=>bJ (α:=Pt) (xs:=g.2) (v:=g_v) (i:=↑k) bY rfl (Rg.bel hw') (by omega) (by omega) (by decide) rfl) (aH (v:=vp b3 0) (wy (df q38_18)) (λw' hw'=>a8 dY rfl rfl zs1 rfl) (aH (v:=vi g.1) (wy (df q38_18)) (λw' hw'=>ab bY rfl (bx5.bel hw') rfl) ?_)))
  refine aH (v:=vb (decide (g.1<=((gI g.2 ↑k).2)))) (wy (df q38_18)) (λw' hw'=>fN (m:=(gI g.2 ↑k).2) (n:=g.1) rfl rfl) (qv (vb (decide (g.1<=((gI g.2 ↑k).2)))) (λw' hw'=>aB rfl (df q38_18) rfl) (bN ?_))
  intro w22 hc23
  replace hc23:=ao hc23 g9
  by_cases p9_24:g.1<=((gI g.2 ↑k).2)
  ·
   refine af rfl (dt p9_24) (a7 ?_)
   clear bx5
   refine a6 rfl (ma (vb false) (aa (ar (vs:=[vb false]) Tryz.func15 (.tmp rfl .nil) ?_)))
   have e0:(false:Bool)=(dq g):=by
     exact(cJ (λh=>by have h2:=h.2.2.2 _ (bk (xs:=g.2) (i:=↑k) (by omega) ‹_›);unfold pJ at h2;omega)).symm
   have C25:=cg [] (ch10.n.seq (hc15.n.seq (ch16.n.seq hc23.n)))
   replace bH:=bH.ca C25
   exact⟨rb e0,bH.below⟩
  refine ag rfl (df p9_24) (ak (al (a6 rfl (mi 1 (lx (aM (m:=1) (n:=1) rfl rfl (by omega)) (ai 2 (aa (cM (a7 (a7 (a6 rfl ?_)))))))))))
  refine mi 2 (lx (aZ (m:=2) (n:=2) rfl rfl) (aa (ag rfl rfl (aJ rfl (al (a6 rfl (mz zs3 (lx (aM (m:=↑k) (n:=1) rfl rfl (by omega)) (ai ((k:Int)+1) ?_)))))))))
  refine aa ?_
  have C26:=cg [] (ch10.n.seq (hc15.n.seq (ch16.n.seq hc23.n)))
  refine back4 (k+1,g9) _ _ ⟨bH.ca C26,zs1,rfl,Rg.cn hc23,bx5.cn hc23,by omega,?_⟩ ?_
  · show∀e∈List.take (k+1) g.2,pJ g.1 e
    rw[bB ‹_›]
    intro e he
    rcases List.mem_append.1 he with h|h
    · exact hinv4 e h
    · obtain rfl:=List.mem_singleton.1 h
      refine⟨?_,?_⟩<;>omega
  · show Int.toNat (((g.2.length:Int):Int)-((k+1):Int))<Int.toNat (((g.2.length:Int):Int)-(k:Int))
    omega
 refine ag rfl (df p4) (aJ rfl (a7 ?_))
 clear bx5
 refine a6 rfl (ma (vb true) (aa (ar (vs:=[vb true]) Tryz.func15 (.tmp rfl .nil) ?_)))
 have e0:(true:Bool)=(dq g):=by
   exact(mW ⟨by omega,by omega,by omega,by rw[List.take_of_length_le (by omega)] at hinv4;exact hinv4⟩).symm
 exact⟨rb e0,bH.below⟩
theorem vz(w0:World)(a:List Int)(a_v:Value)(ha_v:Ro w0 a_v a)(b:List Int)(b_v:Value)(hb_v:Ro w0 b_v b):
    Calls Tryz.prog 53 #[a_v,b_v] w0 (λee w=>ee= .returned (vb (decide (a=b)))/\cE w0.heap.size w0 w):=by
 refine au Tryz.func53 rfl nq ?_
 have bH:=aT.start w0
 have Ra:=ha_v.sl
 have Rb:=hb_v.sl
 refine a7 (a6 rfl (ma (vb false) (aa (a7 (a7 (a6 rfl (mv a_v ?_)))))))
 have len1:=(Ra).small
 refine lx (aQ cS rfl Ra) (mv b_v ?_)
 have len2:=(Rb).small
 refine lx (aQ cS rfl Rb) (lx (c5 (m:=(a.length:Int)) (n:=(b.length:Int)) rfl rfl) (aa ?_))
 by_cases p1:(a.length:Int)=(b.length:Int)
 ·
  refine ag rfl (congrArg Bool.not (dt p1)) (ak (a7 (a7 (a6 rfl (ai 0 (aa (am ?_)))))))
  refine aN (σ:=Nat×aK) (λ⟨k,gq⟩ f w=>aT w0 gq w/\f 0=a_v/\f 1=b_v/\f 5=vi ↑k/\Sl gq (is 0) w a_v a/\Sl gq (is 0) w b_v b/\(k:Int)<=((a.length:Int):Int)/\(List.take k a=List.take k b)) (λ⟨k,gq⟩=>Int.toNat (((a.length:Int):Int)-(k:Int))) (0,c0) ?_ ?_
  · exact⟨bH,rfl,rfl,rfl,Ra,Rb,by omega,by simp⟩
  clear Ra Rb bH
  rintro⟨k,g5⟩ f3 w4 ⟨bH,zs0,zs1,zs5,Ra,Rb,hle_k,hinv4⟩ back4
  refine a7 (a7 (a6 rfl (mz zs5 (mz zs0 (lx (aQ cS rfl Ra) (lx (aZ (m:=↑k) (n:=(a.length:Int)) rfl rfl) (aa ?_)))))))
  by_cases p4:(k:Int)<(a.length:Int)
  ·
   refine af rfl (dt p4) (ak (a7 (am (a7 (bz g5 rfl nM (by kernel_rfl) ?_)))))
   intro w7 ch6
   refine qz zs0 (qz zs5 ?_)
   replace Ra:=Ra.cn ch6
   refine qx (λw' hw'=>ad (v:=a_v) (i:=↑k) cS rfl rfl (Ra.bel hw') rfl (by omega) (by omega)) (qx (λw' hw'=>bA (v:=a_v) (i:=↑k) bY rfl (Ra.bel hw') (by omega) (by omega) (by decide) rfl) (qz zs1 (qz zs5 ?_)))
   replace Rb:=Rb.cn ch6
   refine qx (λw' hw'=>ad (v:=b_v) (i:=↑k) cS rfl rfl (Rb.bel hw') rfl (by omega) (by omega)) (qx (λw' hw'=>bA (v:=b_v) (i:=↑k) bY rfl (Rb.bel hw') (by omega) (by omega) (by decide) rfl) (qx (λw' hw'=>c5 (m:=(gI a ↑k)) (n:=(gI b ↑k)) rfl rfl) (bN ?_)))
   intro w8 hc9
   replace hc9:=ao hc9 g5
   by_cases p6:(gI a ↑k)=(gI b ↑k)
   ·
    refine ag rfl (congrArg Bool.not (dt p6)) (ak (al (a6 rfl (mz zs5 (lx (aM (m:=↑k) (n:=1) rfl rfl (by omega)) (ai ((k:Int)+1) (aa ?_)))))))
    replace bH:=bH.cn ch6
    refine back4 (k+1,g5) _ _ ⟨bH.cn hc9,zs0,zs1,rfl,Ra.cn hc9,Rb.cn hc9,by omega,?_⟩ ?_
    · show List.take (k+1) a=List.take (k+1) b
      rw[bB ‹_›,bB (by omega),hinv4];simp_all
    · show Int.toNat (((a.length:Int):Int)-((k+1):Int))<Int.toNat (((a.length:Int):Int)-(k:Int))
      omega
   refine af rfl (congrArg Bool.not (df p6)) (a7 (a6 rfl (ma (vb false) (aa (ar (vs:=[vb false]) Tryz.func53 (.tmp rfl .nil) ?_)))))
   have e0:(false:Bool)=(decide (a=b)):=by
     exact(df (λh=>by subst h;simp_all)).symm
   replace bH:=bH.cn ch6
   replace bH:=bH.cn hc9
   exact⟨rb e0,bH.below⟩
  refine ag rfl (df p4) (aJ rfl (a7 (a6 rfl (ma (vb true) (aa (ar (vs:=[vb true]) Tryz.func53 (.tmp rfl .nil) ?_))))))
  have e0:(true:Bool)=(decide (a=b)):=by
    (have e:=hinv4;rw[List.take_of_length_le (by omega),List.take_of_length_le (by omega)] at e;exact(dt e).symm)
  exact⟨rb e0,bH.below⟩
 refine af rfl (congrArg Bool.not (df p1)) (a7 (a6 rfl (ma (vb false) (aa (ar (vs:=[vb false]) Tryz.func53 (.tmp rfl .nil) ?_)))))
 have e0:(false:Bool)=(decide (a=b)):=by
   exact(df (λh=>by subst h;simp_all)).symm
 exact⟨rb e0,bH.below⟩
end TL
