import Derived.Test.YtmakonaaojadbaaBjTlP3
import Derived.Test.YtmakonaaojadbaaProg
import Derived.Test.YtmakonaaojadbaaBjTlAli
set_option linter.all false
set_option maxRecDepth 20000
namespace TL
open Go Go.Proofs
theorem lh:Try.prog.follows .mixedOrders=true:=by kernel_rfl
theorem ab:Tp Try.prog 3 false 1 8 (.int .i64 0):=Tp.of (by kernel_rfl)
theorem bD:Tp Try.prog 22 false 1 24 (.slice none 0 0):=Tp.of (by kernel_rfl)
theorem aE:Tp Try.prog 56 true 2 16 (.agg #[.int .i64 0,.int .i64 0]):=Tp.of (by kernel_rfl)
theorem g0(w0:World)(g:(Int)×(List Pt))(g_v:Value)(hg_v:Ro w0 g_v g.2):
    Calls Try.prog 36 #[vg [vi g.1,g_v]] w0 (λee w=>ee= .returned (vb (cd g))/\dE w0.heap.size w0 w):=by
 refine ar Try.func36 rfl nq ?_
 have bH:=bj.start w0
 have Rg:=hg_v.sl
 refine a6 (a0 rfl (dG rfl (d8 c0 (is 1) (1,0) rfl rfl ?_)))
 intro g4 w1 b3 ch2 bx5
 replace bx5:Bx g4 (is 1) w1 b3 [vi g.1,g_v]:=bx5
 refine ma (vb false) (aa (a6 (a6 (a0 rfl (lx (a7 d5 rfl rfl rfl rfl) (lx (a8 ab rfl bx5 rfl) (lx (aZ (m:=g.1) (n:=0) rfl rfl) (mv (vb (decide (g.1<0))) ?_))))))))
 by_cases q10:g.1<0
 ·
  refine aq (wn (dt q10)) (aq (wn (dt q10)) (aq (wn (dt q10)) (lw (vb true) (aI rfl (dt q10) rfl) (mv (vb true) (aq (wn rfl) (aq (wn rfl) (aq (wn rfl) (aq (wn rfl) (lw (vb true) (aI rfl rfl rfl) (aa (af rfl rfl (a6 ?_))))))))))))
  clear bx5
  refine a0 rfl (ma (vb false) (aa (aA (vs:=[vb false]) Try.func36 (.tmp rfl .nil) ?_)))
  have e0:(false:Bool)=(cd g):=by
    exact(bY (λh=>by unfold ba at h;omega)).symm
  replace bH:=bH.cn ch2
  exact⟨rb e0,bH.below⟩
 refine lv (vp b3 0) (wy (df q10)) (a7 d5 rfl rfl rfl rfl) (lv (vi g.1) (wy (df q10)) (a8 ab rfl bx5 rfl) (lv (vb (decide (1024<g.1))) (wy (df q10)) (dV (m:=g.1) (n:=1024) rfl rfl) (lw (vb (decide (1024<g.1))) (b9 rfl (df q10) rfl) (mv (vb (decide (1024<g.1))) ?_))))
 by_cases q15:1024<g.1
 ·
  refine aq (wn (dt q15)) (aq (wn (dt q15)) (aq (wn (dt q15)) (aq (wn (dt q15)) (lw (vb true) (aI rfl (dt q15) rfl) (aa (af rfl rfl (a6 ?_)))))))
  clear bx5
  refine a0 rfl (ma (vb false) (aa (aA (vs:=[vb false]) Try.func36 (.tmp rfl .nil) ?_)))
  have e0:(false:Bool)=(cd g):=by
    exact(bY (λh=>by unfold ba at h;omega)).symm
  replace bH:=bH.cn ch2
  exact⟨rb e0,bH.below⟩
 refine lv (vp b3 1) (wy (df q15)) (a7 d5 rfl rfl rfl rfl) (lv (g_v) (wy (df q15)) (a8 bD rfl bx5 rfl) ?_)
 replace Rg:=Rg.cn ch2
 have len6:=(Rg).small
 refine lv (vi (g.2.length:Int)) (wy (df q15)) (bC dB rfl Rg) (lv (vb (decide (3072<(g.2.length:Int)))) (wy (df q15)) (dV (m:=(g.2.length:Int)) (n:=3072) rfl rfl) (lw (vb (decide (3072<(g.2.length:Int)))) (b9 rfl (df q15) rfl) (aa ?_)))
 by_cases p1:3072<(g.2.length:Int)
 ·
  refine af rfl (dt p1) (a6 ?_)
  clear bx5
  refine a0 rfl (ma (vb false) (aa (aA (vs:=[vb false]) Try.func36 (.tmp rfl .nil) ?_)))
  have e0:(false:Bool)=(cd g):=by
    exact(bY (λh=>by unfold ba at h;omega)).symm
  replace bH:=bH.cn ch2
  exact⟨rb e0,bH.below⟩
 refine ae rfl (df p1) (ap (a6 (a6 (a0 rfl (lx (a7 d5 rfl rfl rfl rfl) (lx (a8 bD rfl bx5 rfl) (lx (bC dB rfl Rg) (mi 0 (aa (al ?_))))))))))
 refine bd (σ:=Nat×aC) (λ⟨k,gq⟩ f w=>bj w0 gq w/\f 1=vp b3 0/\f 22=g_v/\f 23=vi (g.2.length:Int)/\f 24=vi ↑k/\Sl gq (is 0) w g_v g.2/\Bx gq (is 1) w b3 [vi g.1,g_v]/\(k:Int)<=((g.2.length:Int):Int)/\(∀e∈List.take k g.2,kn g.1 e)) (λ⟨k,gq⟩=>Int.toNat (((g.2.length:Int):Int)-(k:Int))) (0,g4) ?_ ?_
 · exact⟨bH.cn ch2,rfl,rfl,rfl,rfl,Rg,bx5,by omega,by simp⟩
 clear Rg bx5 bH
 rintro⟨k,g9⟩ f7 w8 ⟨bH,zs1,zs22,zs23,zs24,Rg,bx5,hle_k,hinv4⟩ back4
 refine a6 (a0 rfl (lx (aZ (m:=↑k) (n:=(g.2.length:Int)) zs24 zs23) (aa (a6 ?_))))
 by_cases p4:(k:Int)<(g.2.length:Int)
 ·
  refine af rfl (dt p4) (ap (a6 (al (a6 (a0 rfl (lx (a9 (v:=g_v) (i:=↑k) dB rfl zs22 Rg zs24 (by omega) (by omega)) (lw (vg [vi ((gI g.2 ↑k).1),vi ((gI g.2 ↑k).2)]) (cG (v:=g_v) (i:=↑k) aE rfl Rg (by omega) (by omega) rfl) (lo (bf g9 (is 2) (2,0) rfl aE ?_)))))))))
  intro g13 w10 b12 ch11 bx14
  replace bx14:Bx g13 (is 2) w10 b12 [vi 0,vi 0]:=bx14
  refine lo (aw (cs':=[vi ((gI g.2 ↑k).1),vi ((gI g.2 ↑k).2)]) aE rfl rfl bx14 rfl nq (AllOne.all (.cons rfl (.cons rfl .nil))) rfl ?_)
  intro w15 ch16 bx17
  clear bx14
  refine aa (a6 (a0 rfl (lx (aB (ds:=[vi ((gI g.2 ↑k).1),vi ((gI g.2 ↑k).2)]) aE rfl bx17 rfl rfl) (mi 0 (aa (al (dn (a6 ?_))))))))
  clear bx17
  refine a0 rfl (lx (aZ (m:=0) (n:=2) rfl rfl) (aa (a6 (af rfl rfl (ap (a6 (al (a6 (a0 rfl (lw (vi ((gI g.2 ↑k).1)) (bL cJ ab rfl rfl (by decide) (by decide) rfl) (ai ((gI g.2 ↑k).1) ?_)))))))))))
  refine aa (a6 (a0 rfl (mi ((gI g.2 ↑k).1) (lx (aZ (m:=(gI g.2 ↑k).1) (n:=0) rfl rfl) (mv (vb (decide (((gI g.2 ↑k).1)<0))) ?_)))))
  by_cases q34:((gI g.2 ↑k).1)<0
  ·
   refine aq (wn (dt q34)) (aq (wn (dt q34)) (aq (wn (dt q34)) (aq (wn (dt q34)) (lw (vb true) (aI rfl (dt q34) rfl) (aa (af rfl rfl (a6 ?_)))))))
   clear bx5
   refine a0 rfl (ma (vb false) (aa (aA (vs:=[vb false]) Try.func36 (.tmp rfl .nil) ?_)))
   have e0:(false:Bool)=(cd g):=by
     exact(bY (λh=>by have h2:=h.2.2.2 _ (bO (xs:=g.2) (i:=↑k) (by omega) ‹_›);unfold kn at h2;omega)).symm
   replace bH:=bH.cn ch11
   replace bH:=bH.ce ch16
   exact⟨rb e0,bH.below⟩
  refine lv (vi ((gI g.2 ↑k).1)) (wy (df q34)) (ak rfl) (lv (vp b3 0) (wy (df q34)) (a7 d5 rfl rfl zs1 rfl) ?_)
  replace bx5:=(bx5.cn ch11).ce ch16
  refine lv (vi g.1) (wy (df q34)) (a8 ab rfl bx5 rfl) (lv (vb (decide (g.1<=((gI g.2 ↑k).1)))) (wy (df q34)) (eI (m:=(gI g.2 ↑k).1) (n:=g.1) rfl rfl) (lw (vb (decide (g.1<=((gI g.2 ↑k).1)))) (b9 rfl (df q34) rfl) (aa ?_)))
  by_cases p9:g.1<=((gI g.2 ↑k).1)
  ·
   refine af rfl (dt p9) (a6 ?_)
   clear bx5
   refine a0 rfl (ma (vb false) (aa (aA (vs:=[vb false]) Try.func36 (.tmp rfl .nil) ?_)))
   have e0:(false:Bool)=(cd g):=by
     exact(bY (λh=>by have h2:=h.2.2.2 _ (bO (xs:=g.2) (i:=↑k) (by omega) ‹_›);unfold kn at h2;omega)).symm
   replace bH:=bH.cn ch11
   replace bH:=bH.ce ch16
   exact⟨rb e0,bH.below⟩
  refine ae rfl (df p9) (ap (ag (a0 rfl (lx (aD (m:=0) (n:=1) rfl rfl (by omega)) (mi 1 (aa (aX (a6 (a0 rfl (lx (aZ (m:=1) (n:=2) rfl rfl) ?_))))))))))
  refine aa (a6 (af rfl rfl (ap (a6 (al (a6 (a0 rfl (lw (vi ((gI g.2 ↑k).2)) (bL cJ ab rfl rfl (by decide) (by decide) rfl) (ai ((gI g.2 ↑k).2) (aa (a6 (a0 rfl (mi ((gI g.2 ↑k).2) ?_)))))))))))))
  refine lx (aZ (m:=(gI g.2 ↑k).2) (n:=0) rfl rfl) (mv (vb (decide (((gI g.2 ↑k).2)<0))) ?_)
  by_cases q34_18:((gI g.2 ↑k).2)<0
  ·
   refine aq (wn (dt q34_18)) (aq (wn (dt q34_18)) (aq (wn (dt q34_18)) (aq (wn (dt q34_18)) (lw (vb true) (aI rfl (dt q34_18) rfl) (aa (af rfl rfl (a6 ?_)))))))
   clear bx5
   refine a0 rfl (ma (vb false) (aa (aA (vs:=[vb false]) Try.func36 (.tmp rfl .nil) ?_)))
   have e0:(false:Bool)=(cd g):=by
     exact(bY (λh=>by have h2:=h.2.2.2 _ (bO (xs:=g.2) (i:=↑k) (by omega) ‹_›);unfold kn at h2;omega)).symm
   replace bH:=bH.cn ch11
   replace bH:=bH.ce ch16
   exact⟨rb e0,bH.below⟩
  refine lv (vi ((gI g.2 ↑k).2)) (wy (df q34_18)) (ak rfl) (lv (vp b3 0) (wy (df q34_18)) (a7 d5 rfl rfl zs1 rfl) (lv (vi g.1) (wy (df q34_18)) (a8 ab rfl bx5 rfl) (lv (vb (decide (g.1<=((gI g.2 ↑k).2)))) (wy (df q34_18)) (eI (m:=(gI g.2 ↑k).2) (n:=g.1) rfl rfl) (lw (vb (decide (g.1<=((gI g.2 ↑k).2)))) (b9 rfl (df q34_18) rfl) (aa ?_)))))
  by_cases p9_19:g.1<=((gI g.2 ↑k).2)
  ·
   refine af rfl (dt p9_19) (a6 ?_)
   clear bx5
   refine a0 rfl (ma (vb false) (aa (aA (vs:=[vb false]) Try.func36 (.tmp rfl .nil) ?_)))
   have e0:(false:Bool)=(cd g):=by
     exact(bY (λh=>by have h2:=h.2.2.2 _ (bO (xs:=g.2) (i:=↑k) (by omega) ‹_›);unfold kn at h2;omega)).symm
   replace bH:=bH.cn ch11
   replace bH:=bH.ce ch16
   exact⟨rb e0,bH.below⟩
  refine ae rfl (df p9_19) (ap (ag (a0 rfl (lx (aD (m:=1) (n:=1) rfl rfl (by omega)) (mi 2 (aa (aX (a6 (a0 rfl (lx (aZ (m:=2) (n:=2) rfl rfl) ?_))))))))))
  refine aa (a6 (ae rfl rfl (aF rfl (ag (a0 rfl (lx (aD (m:=↑k) (n:=1) zs24 rfl (by omega)) (mi ((k:Int)+1) (aa ?_))))))))
  replace bH:=bH.cn ch11
  refine back4 (k+1,g13) _ _ ⟨bH.ce ch16,zs1,zs22,zs23,rfl,(Rg.cn ch11).ce ch16,bx5,by omega,?_⟩ ?_
  · show∀e∈List.take (k+1) g.2,kn g.1 e
    rw[ff ‹_›]
    intro e he
    rcases List.mem_append.1 he with h|h
    · exact hinv4 e h
    · obtain rfl:=List.mem_singleton.1 h
      refine⟨?_,?_⟩<;>omega
  · show Int.toNat (((g.2.length:Int):Int)-((k+1):Int))<Int.toNat (((g.2.length:Int):Int)-(k:Int))
    omega
 refine ae rfl (df p4) (aF rfl (a6 ?_))
 clear bx5
 refine a0 rfl (ma (vb true) (aa (aA (vs:=[vb true]) Try.func36 (.tmp rfl .nil) ?_)))
 have e0:(true:Bool)=(cd g):=by
   exact(iX ⟨by omega,by omega,by omega,by rw[List.take_of_length_le (by omega)] at hinv4;exact hinv4⟩).symm
 exact⟨rb e0,bH.below⟩
theorem kS(w0:World)(g:(Int)×(List Pt))(g_v:Value)(hg_v:Ro w0 g_v g.2):
    Calls Try.prog 16 #[vg [vi g.1,g_v]] w0 (λee w=>ee= .returned (vb (cd g))/\dE w0.heap.size w0 w):=by
 refine ar Try.func16 rfl nq ?_
 have bH:=bj.start w0
 have Rg:=hg_v.sl
 refine a6 (a0 rfl (dG rfl (d8 c0 (is 1) (1,0) rfl rfl ?_)))
 intro g4 w1 b3 ch2 bx5
 replace bx5:Bx g4 (is 1) w1 b3 [vi g.1,g_v]:=bx5
 refine ma (vb false) (aa (a6 (a6 (a0 rfl (lx (a7 d5 rfl rfl rfl rfl) (lx (a8 ab rfl bx5 rfl) (lx (aZ (m:=g.1) (n:=0) rfl rfl) (mv (vb (decide (g.1<0))) ?_))))))))
 by_cases q8:g.1<0
 ·
  refine aq (wn (dt q8)) (aq (wn (dt q8)) (aq (wn (dt q8)) (lw (vb true) (aI rfl (dt q8) rfl) (mv (vb true) (aq (wn rfl) (aq (wn rfl) (aq (wn rfl) (aq (wn rfl) (lw (vb true) (aI rfl rfl rfl) (aa (af rfl rfl (a6 ?_))))))))))))
  clear bx5
  refine a0 rfl (ma (vb false) (aa (aA (vs:=[vb false]) Try.func16 (.tmp rfl .nil) ?_)))
  have e0:(false:Bool)=(cd g):=by
    exact(bY (λh=>by unfold ba at h;omega)).symm
  replace bH:=bH.cn ch2
  exact⟨rb e0,bH.below⟩
 refine lv (vp b3 0) (wy (df q8)) (a7 d5 rfl rfl rfl rfl) (lv (vi g.1) (wy (df q8)) (a8 ab rfl bx5 rfl) (lv (vb (decide (1024<g.1))) (wy (df q8)) (dV (m:=g.1) (n:=1024) rfl rfl) (lw (vb (decide (1024<g.1))) (b9 rfl (df q8) rfl) (mv (vb (decide (1024<g.1))) ?_))))
 by_cases q13:1024<g.1
 ·
  refine aq (wn (dt q13)) (aq (wn (dt q13)) (aq (wn (dt q13)) (aq (wn (dt q13)) (lw (vb true) (aI rfl (dt q13) rfl) (aa (af rfl rfl (a6 ?_)))))))
  clear bx5
  refine a0 rfl (ma (vb false) (aa (aA (vs:=[vb false]) Try.func16 (.tmp rfl .nil) ?_)))
  have e0:(false:Bool)=(cd g):=by
    exact(bY (λh=>by unfold ba at h;omega)).symm
  replace bH:=bH.cn ch2
  exact⟨rb e0,bH.below⟩
 refine lv (vp b3 1) (wy (df q13)) (a7 d5 rfl rfl rfl rfl) (lv (g_v) (wy (df q13)) (a8 bD rfl bx5 rfl) ?_)
 replace Rg:=Rg.cn ch2
 have len6:=(Rg).small
 refine lv (vi (g.2.length:Int)) (wy (df q13)) (bC dB rfl Rg) (lv (vb (decide (3072<(g.2.length:Int)))) (wy (df q13)) (dV (m:=(g.2.length:Int)) (n:=3072) rfl rfl) (lw (vb (decide (3072<(g.2.length:Int)))) (b9 rfl (df q13) rfl) (aa ?_)))
 by_cases p1:3072<(g.2.length:Int)
 ·
  refine af rfl (dt p1) (a6 ?_)
  clear bx5
  refine a0 rfl (ma (vb false) (aa (aA (vs:=[vb false]) Try.func16 (.tmp rfl .nil) ?_)))
  have e0:(false:Bool)=(cd g):=by
    exact(bY (λh=>by unfold ba at h;omega)).symm
  replace bH:=bH.cn ch2
  exact⟨rb e0,bH.below⟩
 refine ae rfl (df p1) (ap (a6 (a6 (a0 rfl (ai 0 (aa (al ?_)))))))
 refine bd (σ:=Nat×aC) (λ⟨k,gq⟩ f w=>bj w0 gq w/\f 1=vp b3 0/\f 3=vi ↑k/\Sl gq (is 0) w g_v g.2/\Bx gq (is 1) w b3 [vi g.1,g_v]/\(k:Int)<=((g.2.length:Int):Int)/\(∀e∈List.take k g.2,kn g.1 e)) (λ⟨k,gq⟩=>Int.toNat (((g.2.length:Int):Int)-(k:Int))) (0,g4) ?_ ?_
 · exact⟨bH.cn ch2,rfl,rfl,Rg,bx5,by omega,by simp⟩
 clear Rg bx5 bH
 rintro⟨k,g9⟩ f7 w8 ⟨bH,zs1,zs3,Rg,bx5,hle_k,hinv4⟩ back4
 refine a6 (a6 (a0 rfl (mz zs3 (lx (a7 d5 rfl rfl zs1 rfl) (lx (a8 bD rfl bx5 rfl) (lx (bC dB rfl Rg) (lx (aZ (m:=↑k) (n:=(g.2.length:Int)) rfl rfl) (aa ?_))))))))
 by_cases p4:(k:Int)<(g.2.length:Int)
 ·
  refine af rfl (dt p4) (ap (a6 (al (a6 (a0 rfl (ai 0 (aa (al (dn (a6 (a6 (a0 rfl ?_))))))))))))
  refine mi 0 (lx (aZ (m:=0) (n:=2) rfl rfl) (aa (af rfl rfl (ap (a6 (al (a6 (cR g9 rfl lh (by kernel_rfl) ?_))))))))
  intro w11 ch10
  refine qx (λw' hw'=>a7 d5 rfl rfl zs1 rfl) ?_
  replace bx5:=bx5.cn ch10
  refine qx (λw' hw'=>a8 bD rfl (bx5.bel hw') rfl) (qz zs3 (qm (vi 0) ?_))
  replace Rg:=Rg.cn ch10
  refine qx (λw' hw'=>a9 (v:=g_v) (i:=↑k) dB rfl rfl (Rg.bel hw') rfl (by omega) (by omega)) (qx (λw' hw'=>bw cJ rfl rfl rfl (by decide) (by decide) rfl) (qx (λw' hw'=>bN (v:=g_v) (i:=↑k) ab rfl (Rg.bel hw') (by omega) (by omega) (by decide) rfl) (qx (λw' hw'=>aZ (m:=(gI g.2 ↑k).1) (n:=0) rfl rfl) (qm (vb (decide (((gI g.2 ↑k).1)<0))) ?_))))
  by_cases q38:((gI g.2 ↑k).1)<0
  ·
   refine aK (wn (dt q38)) (aK (wn (dt q38)) (aK (wn (dt q38)) (aK (wn (dt q38)) (aK (wn (dt q38)) (aK (wn (dt q38)) (aK (wn (dt q38)) (aK (wn (dt q38)) (aK (wn (dt q38)) (aK (wn (dt q38)) ?_)))))))))
   refine qv (vb true) (λw' hw'=>aI rfl (dt q38) rfl) (dC ?_)
   intro w12 hc13
   replace hc13:=aY hc13 g9
   refine af rfl rfl (a6 ?_)
   clear bx5
   refine a0 rfl (ma (vb false) (aa (aA (vs:=[vb false]) Try.func16 (.tmp rfl .nil) ?_)))
   have e0:(false:Bool)=(cd g):=by
     exact(bY (λh=>by have h2:=h.2.2.2 _ (bO (xs:=g.2) (i:=↑k) (by omega) ‹_›);unfold kn at h2;omega)).symm
   replace bH:=bH.cn ch10
   replace bH:=bH.cn hc13
   exact⟨rb e0,bH.below⟩
  refine bc (v:=vp b3 1) (wy (df q38)) (λw' hw'=>a7 d5 rfl rfl zs1 rfl) (bc (v:=g_v) (wy (df q38)) (λw' hw'=>a8 bD rfl (bx5.bel hw') rfl) (bc (v:=vi ↑k) (wy (df q38)) (λw' hw'=>ak zs3) (bc (v:=vi 0) (wy (df q38)) (λw' hw'=>ak rfl) (bc (v:=Value.pointer (some (aP g_v 2 (Int.toNat ↑k)))) (wy (df q38)) (λw' hw'=>a9 (α:=Pt) (xs:=g.2) (v:=g_v) (i:=↑k) dB rfl rfl (Rg.bel hw') rfl (by omega) (by omega)) ?_))))
  refine bc (v:=Value.pointer (some ⟨(aP g_v 2 (Int.toNat ↑k)).block,(aP g_v 2 (Int.toNat ↑k)).off+0,none⟩)) (wy (df q38)) (λw' hw'=>bw cJ rfl rfl rfl (by decide) (by decide) rfl) (bc (v:=vi ((gI g.2 ↑k).1)) (wy (df q38)) (λw' hw'=>bN (α:=Pt) (xs:=g.2) (v:=g_v) (i:=↑k) ab rfl (Rg.bel hw') (by omega) (by omega) (by decide) rfl) (bc (v:=vp b3 0) (wy (df q38)) (λw' hw'=>a7 d5 rfl rfl zs1 rfl) (bc (v:=vi g.1) (wy (df q38)) (λw' hw'=>a8 ab rfl (bx5.bel hw') rfl) ?_)))
  refine bc (v:=vb (decide (g.1<=((gI g.2 ↑k).1)))) (wy (df q38)) (λw' hw'=>eI (m:=(gI g.2 ↑k).1) (n:=g.1) rfl rfl) (qv (vb (decide (g.1<=((gI g.2 ↑k).1)))) (λw' hw'=>b9 rfl (df q38) rfl) (dC ?_))
  intro w14 hc15
  replace hc15:=aY hc15 g9
  by_cases p9:g.1<=((gI g.2 ↑k).1)
  ·
   refine af rfl (dt p9) (a6 ?_)
   clear bx5
   refine a0 rfl (ma (vb false) (aa (aA (vs:=[vb false]) Try.func16 (.tmp rfl .nil) ?_)))
   have e0:(false:Bool)=(cd g):=by
     exact(bY (λh=>by have h2:=h.2.2.2 _ (bO (xs:=g.2) (i:=↑k) (by omega) ‹_›);unfold kn at h2;omega)).symm
   replace bH:=bH.cn ch10
   replace bH:=bH.cn hc15
   exact⟨rb e0,bH.below⟩
  refine ae rfl (df p9) (ap (ag (a0 rfl (mi 0 (lx (aD (m:=0) (n:=1) rfl rfl (by omega)) (ai 1 (aa (aX (a6 (a6 (a0 rfl ?_)))))))))))
  refine mi 1 (lx (aZ (m:=1) (n:=2) rfl rfl) (aa (af rfl rfl (ap (a6 (al (a6 (cR g9 rfl lh (by kernel_rfl) ?_))))))))
  intro w17 ch16
  refine qx (λw' hw'=>a7 d5 rfl rfl zs1 rfl) ?_
  replace bx5:=(bx5.cn hc15).cn ch16
  refine qx (λw' hw'=>a8 bD rfl (bx5.bel hw') rfl) (qz zs3 (qm (vi 1) ?_))
  replace Rg:=(Rg.cn hc15).cn ch16
  refine qx (λw' hw'=>a9 (v:=g_v) (i:=↑k) dB rfl rfl (Rg.bel hw') rfl (by omega) (by omega)) (qx (λw' hw'=>bw cJ rfl rfl rfl (by decide) (by decide) rfl) (qx (λw' hw'=>bN (v:=g_v) (i:=↑k) ab rfl (Rg.bel hw') (by omega) (by omega) (by decide) rfl) (qx (λw' hw'=>aZ (m:=(gI g.2 ↑k).2) (n:=0) rfl rfl) (qm (vb (decide (((gI g.2 ↑k).2)<0))) ?_))))
  by_cases q38_18:((gI g.2 ↑k).2)<0
  ·
   refine aK (wn (dt q38_18)) (aK (wn (dt q38_18)) (aK (wn (dt q38_18)) (aK (wn (dt q38_18)) (aK (wn (dt q38_18)) (aK (wn (dt q38_18)) (aK (wn (dt q38_18)) (aK (wn (dt q38_18)) (aK (wn (dt q38_18)) (aK (wn (dt q38_18)) ?_)))))))))
   refine qv (vb true) (λw' hw'=>aI rfl (dt q38_18) rfl) (dC ?_)
   intro w19 hc20
   replace hc20:=aY hc20 g9
   refine af rfl rfl (a6 ?_)
   clear bx5
   refine a0 rfl (ma (vb false) (aa (aA (vs:=[vb false]) Try.func16 (.tmp rfl .nil) ?_)))
   have e0:(false:Bool)=(cd g):=by
     exact(bY (λh=>by have h2:=h.2.2.2 _ (bO (xs:=g.2) (i:=↑k) (by omega) ‹_›);unfold kn at h2;omega)).symm
   have C21:=cg [] (ch10.n.seq (hc15.n.seq (ch16.n.seq hc20.n)))
   replace bH:=bH.ca C21
   exact⟨rb e0,bH.below⟩
  refine bc (v:=vp b3 1) (wy (df q38_18)) (λw' hw'=>a7 d5 rfl rfl zs1 rfl) (bc (v:=g_v) (wy (df q38_18)) (λw' hw'=>a8 bD rfl (bx5.bel hw') rfl) (bc (v:=vi ↑k) (wy (df q38_18)) (λw' hw'=>ak zs3) (bc (v:=vi 1) (wy (df q38_18)) (λw' hw'=>ak rfl) (bc (v:=Value.pointer (some (aP g_v 2 (Int.toNat ↑k)))) (wy (df q38_18)) (λw' hw'=>a9 (α:=Pt) (xs:=g.2) (v:=g_v) (i:=↑k) dB rfl rfl (Rg.bel hw') rfl (by omega) (by omega)) ?_))))
  refine bc (v:=Value.pointer (some ⟨(aP g_v 2 (Int.toNat ↑k)).block,(aP g_v 2 (Int.toNat ↑k)).off+1,none⟩)) (wy (df q38_18)) (λw' hw'=>bw cJ rfl rfl rfl (by decide) (by decide) rfl) (bc (v:=vi ((gI g.2 ↑k).2)) (wy (df q38_18)) (λw' hw'=>bN (α:=Pt) (xs:=g.2) (v:=g_v) (i:=↑k) ab rfl (Rg.bel hw') (by omega) (by omega) (by decide) rfl) (bc (v:=vp b3 0) (wy (df q38_18)) (λw' hw'=>a7 d5 rfl rfl zs1 rfl) (bc (v:=vi g.1) (wy (df q38_18)) (λw' hw'=>a8 ab rfl (bx5.bel hw') rfl) ?_)))
  refine bc (v:=vb (decide (g.1<=((gI g.2 ↑k).2)))) (wy (df q38_18)) (λw' hw'=>eI (m:=(gI g.2 ↑k).2) (n:=g.1) rfl rfl) (qv (vb (decide (g.1<=((gI g.2 ↑k).2)))) (λw' hw'=>b9 rfl (df q38_18) rfl) (dC ?_))
  intro w22 hc23
  replace hc23:=aY hc23 g9
  by_cases p9_24:g.1<=((gI g.2 ↑k).2)
  ·
   refine af rfl (dt p9_24) (a6 ?_)
   clear bx5
   refine a0 rfl (ma (vb false) (aa (aA (vs:=[vb false]) Try.func16 (.tmp rfl .nil) ?_)))
   have e0:(false:Bool)=(cd g):=by
     exact(bY (λh=>by have h2:=h.2.2.2 _ (bO (xs:=g.2) (i:=↑k) (by omega) ‹_›);unfold kn at h2;omega)).symm
   have C25:=cg [] (ch10.n.seq (hc15.n.seq (ch16.n.seq hc23.n)))
   replace bH:=bH.ca C25
   exact⟨rb e0,bH.below⟩
  refine ae rfl (df p9_24) (ap (ag (a0 rfl (mi 1 (lx (aD (m:=1) (n:=1) rfl rfl (by omega)) (ai 2 (aa (aX (a6 (a6 (a0 rfl ?_)))))))))))
  refine mi 2 (lx (aZ (m:=2) (n:=2) rfl rfl) (aa (ae rfl rfl (aF rfl (ag (a0 rfl (mz zs3 (lx (aD (m:=↑k) (n:=1) rfl rfl (by omega)) (ai ((k:Int)+1) ?_)))))))))
  refine aa ?_
  have C26:=cg [] (ch10.n.seq (hc15.n.seq (ch16.n.seq hc23.n)))
  refine back4 (k+1,g9) _ _ ⟨bH.ca C26,zs1,rfl,Rg.cn hc23,bx5.cn hc23,by omega,?_⟩ ?_
  · show∀e∈List.take (k+1) g.2,kn g.1 e
    rw[ff ‹_›]
    intro e he
    rcases List.mem_append.1 he with h|h
    · exact hinv4 e h
    · obtain rfl:=List.mem_singleton.1 h
      refine⟨?_,?_⟩<;>omega
  · show Int.toNat (((g.2.length:Int):Int)-((k+1):Int))<Int.toNat (((g.2.length:Int):Int)-(k:Int))
    omega
 refine ae rfl (df p4) (aF rfl (a6 ?_))
 clear bx5
 refine a0 rfl (ma (vb true) (aa (aA (vs:=[vb true]) Try.func16 (.tmp rfl .nil) ?_)))
 have e0:(true:Bool)=(cd g):=by
   exact(iX ⟨by omega,by omega,by omega,by rw[List.take_of_length_le (by omega)] at hinv4;exact hinv4⟩).symm
 exact⟨rb e0,bH.below⟩
end TL
