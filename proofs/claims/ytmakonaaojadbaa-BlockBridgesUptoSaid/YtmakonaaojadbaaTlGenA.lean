import Derived.Test.YtmakonaaojadbaaTlP2
import Derived.Test.YtmakonaaojadbaaProg
import Derived.Test.YtmakonaaojadbaaTlAli
set_option linter.all false
set_option maxRecDepth 20000
namespace TL
open Go Go.Proofs
theorem k5:Try.prog.follows .mixedOrders=true:=by kernel_rfl
theorem a9:Tp Try.prog 3 false 1 8 (.int .i64 0):=Tp.of (by kernel_rfl)
theorem bt:Tp Try.prog 22 false 1 24 (.slice none 0 0):=Tp.of (by kernel_rfl)
theorem az:Tp Try.prog 56 true 2 16 (.agg #[.int .i64 0,.int .i64 0]):=Tp.of (by kernel_rfl)
theorem fJ(w0:World)(g:(Int)×(List Pt))(g_v:Value)(hg_v:Ro w0 g_v g.2):
    Calls Try.prog 36 #[vg [vi g.1,g_v]] w0 (λee w=>ee= .returned (vb (c6 g))/\d6 w0.heap.size w0 w):=by
 refine aq Try.func36 rfl nq ?_
 have bH:=bd.start w0
 have Rg:=hg_v.sl
 refine a4 (a3 rfl (dG rfl (d3 c0 (is 1) (1,0) rfl rfl ?_)))
 intro g4 w1 b3 ch2 bx5
 replace bx5:Bx g4 (is 1) w1 b3 [vi g.1,g_v]:=bx5
 refine ma (vb false) (a8 (a4 (a4 (a3 rfl (lx (a5 cQ rfl rfl rfl rfl) (lx (a6 a9 rfl bx5 rfl) (lx (aV (m:=g.1) (n:=0) rfl rfl) (mv (vb (decide (g.1<0))) ?_))))))))
 by_cases q10:g.1<0
 ·
  refine aO (wn (dt q10)) (aO (wn (dt q10)) (aO (wn (dt q10)) (lw (vb true) (aS rfl (dt q10) rfl) (mv (vb true) (aO (wn rfl) (aO (wn rfl) (aO (wn rfl) (aO (wn rfl) (lw (vb true) (aS rfl rfl rfl) (a8 (af rfl rfl (a4 ?_))))))))))))
  clear bx5
  refine a3 rfl (ma (vb false) (a8 (aE (vs:=[vb false]) Try.func36 (.tmp rfl .nil) ?_)))
  have e0:(false:Bool)=(c6 g):=by
    exact(bO (λh=>by unfold bw at h;omega)).symm
  replace bH:=bH.cn ch2
  exact⟨rb e0,bH.below⟩
 refine lv (vp b3 0) (wy (df q10)) (a5 cQ rfl rfl rfl rfl) (lv (vi g.1) (wy (df q10)) (a6 a9 rfl bx5 rfl) (lv (vb (decide (1024<g.1))) (wy (df q10)) (dr (m:=g.1) (n:=1024) rfl rfl) (lw (vb (decide (1024<g.1))) (ba rfl (df q10) rfl) (mv (vb (decide (1024<g.1))) ?_))))
 by_cases q15:1024<g.1
 ·
  refine aO (wn (dt q15)) (aO (wn (dt q15)) (aO (wn (dt q15)) (aO (wn (dt q15)) (lw (vb true) (aS rfl (dt q15) rfl) (a8 (af rfl rfl (a4 ?_)))))))
  clear bx5
  refine a3 rfl (ma (vb false) (a8 (aE (vs:=[vb false]) Try.func36 (.tmp rfl .nil) ?_)))
  have e0:(false:Bool)=(c6 g):=by
    exact(bO (λh=>by unfold bw at h;omega)).symm
  replace bH:=bH.cn ch2
  exact⟨rb e0,bH.below⟩
 refine lv (vp b3 1) (wy (df q15)) (a5 cQ rfl rfl rfl rfl) (lv (g_v) (wy (df q15)) (a6 bt rfl bx5 rfl) ?_)
 replace Rg:=Rg.cn ch2
 have len6:=(Rg).small
 refine lv (vi (g.2.length:Int)) (wy (df q15)) (bm da rfl Rg) (lv (vb (decide (3072<(g.2.length:Int)))) (wy (df q15)) (dr (m:=(g.2.length:Int)) (n:=3072) rfl rfl) (lw (vb (decide (3072<(g.2.length:Int)))) (ba rfl (df q15) rfl) (a8 ?_)))
 by_cases p1:3072<(g.2.length:Int)
 ·
  refine af rfl (dt p1) (a4 ?_)
  clear bx5
  refine a3 rfl (ma (vb false) (a8 (aE (vs:=[vb false]) Try.func36 (.tmp rfl .nil) ?_)))
  have e0:(false:Bool)=(c6 g):=by
    exact(bO (λh=>by unfold bw at h;omega)).symm
  replace bH:=bH.cn ch2
  exact⟨rb e0,bH.below⟩
 refine ab rfl (df p1) (al (a4 (a4 (a3 rfl (lx (a5 cQ rfl rfl rfl rfl) (lx (a6 bt rfl bx5 rfl) (lx (bm da rfl Rg) (mi 0 (a8 (aj ?_))))))))))
 refine aZ (σ:=Nat×av) (λ⟨k,gq⟩ f w=>bd w0 gq w/\f 1=vp b3 0/\f 22=g_v/\f 23=vi (g.2.length:Int)/\f 24=vi ↑k/\Sl gq (is 0) w g_v g.2/\Bx gq (is 1) w b3 [vi g.1,g_v]/\(k:Int)<=((g.2.length:Int):Int)/\(∀e∈List.take k g.2,j4 g.1 e)) (λ⟨k,gq⟩=>Int.toNat (((g.2.length:Int):Int)-(k:Int))) (0,g4) ?_ ?_
 · exact⟨bH.cn ch2,rfl,rfl,rfl,rfl,Rg,bx5,by omega,by simp⟩
 clear Rg bx5 bH
 rintro⟨k,g9⟩ f7 w8 ⟨bH,zs1,zs22,zs23,zs24,Rg,bx5,hle_k,hinv4⟩ back4
 refine a4 (a3 rfl (lx (aV (m:=↑k) (n:=(g.2.length:Int)) zs24 zs23) (a8 (a4 ?_))))
 by_cases p4:(k:Int)<(g.2.length:Int)
 ·
  refine af rfl (dt p4) (al (a4 (aj (a4 (a3 rfl (lx (a7 (v:=g_v) (i:=↑k) da rfl zs22 Rg zs24 (by omega) (by omega)) (lw (vg [vi ((gI g.2 ↑k).1),vi ((gI g.2 ↑k).2)]) (cy (v:=g_v) (i:=↑k) az rfl Rg (by omega) (by omega) rfl) (lo (bg g9 (is 2) (2,0) rfl az ?_)))))))))
  intro g13 w10 b12 ch11 bx14
  replace bx14:Bx g13 (is 2) w10 b12 [vi 0,vi 0]:=bx14
  refine lo (au (cs':=[vi ((gI g.2 ↑k).1),vi ((gI g.2 ↑k).2)]) az rfl rfl bx14 rfl nq (AllOne.all (.cons rfl (.cons rfl .nil))) rfl ?_)
  intro w15 ch16 bx17
  clear bx14
  refine a8 (a4 (a3 rfl (lx (aC (ds:=[vi ((gI g.2 ↑k).1),vi ((gI g.2 ↑k).2)]) az rfl bx17 rfl rfl) (mi 0 (a8 (aj (d1 (a4 ?_))))))))
  clear bx17
  refine a3 rfl (lx (aV (m:=0) (n:=2) rfl rfl) (a8 (a4 (af rfl rfl (al (a4 (aj (a4 (a3 rfl (lw (vi ((gI g.2 ↑k).1)) (bC ck a9 rfl rfl (by decide) (by decide) rfl) (ai ((gI g.2 ↑k).1) ?_)))))))))))
  refine a8 (a4 (a3 rfl (mi ((gI g.2 ↑k).1) (lx (aV (m:=(gI g.2 ↑k).1) (n:=0) rfl rfl) (mv (vb (decide (((gI g.2 ↑k).1)<0))) ?_)))))
  by_cases q34:((gI g.2 ↑k).1)<0
  ·
   refine aO (wn (dt q34)) (aO (wn (dt q34)) (aO (wn (dt q34)) (aO (wn (dt q34)) (lw (vb true) (aS rfl (dt q34) rfl) (a8 (af rfl rfl (a4 ?_)))))))
   clear bx5
   refine a3 rfl (ma (vb false) (a8 (aE (vs:=[vb false]) Try.func36 (.tmp rfl .nil) ?_)))
   have e0:(false:Bool)=(c6 g):=by
     exact(bO (λh=>by have h2:=h.2.2.2 _ (bV (xs:=g.2) (i:=↑k) (by omega) ‹_›);unfold j4 at h2;omega)).symm
   replace bH:=bH.cn ch11
   replace bH:=bH.ce ch16
   exact⟨rb e0,bH.below⟩
  refine lv (vi ((gI g.2 ↑k).1)) (wy (df q34)) (ah rfl) (lv (vp b3 0) (wy (df q34)) (a5 cQ rfl rfl zs1 rfl) ?_)
  replace bx5:=(bx5.cn ch11).ce ch16
  refine lv (vi g.1) (wy (df q34)) (a6 a9 rfl bx5 rfl) (lv (vb (decide (g.1<=((gI g.2 ↑k).1)))) (wy (df q34)) (ep (m:=(gI g.2 ↑k).1) (n:=g.1) rfl rfl) (lw (vb (decide (g.1<=((gI g.2 ↑k).1)))) (ba rfl (df q34) rfl) (a8 ?_)))
  by_cases p9:g.1<=((gI g.2 ↑k).1)
  ·
   refine af rfl (dt p9) (a4 ?_)
   clear bx5
   refine a3 rfl (ma (vb false) (a8 (aE (vs:=[vb false]) Try.func36 (.tmp rfl .nil) ?_)))
   have e0:(false:Bool)=(c6 g):=by
     exact(bO (λh=>by have h2:=h.2.2.2 _ (bV (xs:=g.2) (i:=↑k) (by omega) ‹_›);unfold j4 at h2;omega)).symm
   replace bH:=bH.cn ch11
   replace bH:=bH.ce ch16
   exact⟨rb e0,bH.below⟩
  refine ab rfl (df p9) (al (ad (a3 rfl (lx (aw (m:=0) (n:=1) rfl rfl (by omega)) (mi 1 (a8 (aN (a4 (a3 rfl (lx (aV (m:=1) (n:=2) rfl rfl) ?_))))))))))
  refine a8 (a4 (af rfl rfl (al (a4 (aj (a4 (a3 rfl (lw (vi ((gI g.2 ↑k).2)) (bC ck a9 rfl rfl (by decide) (by decide) rfl) (ai ((gI g.2 ↑k).2) (a8 (a4 (a3 rfl (mi ((gI g.2 ↑k).2) ?_)))))))))))))
  refine lx (aV (m:=(gI g.2 ↑k).2) (n:=0) rfl rfl) (mv (vb (decide (((gI g.2 ↑k).2)<0))) ?_)
  by_cases q34_18:((gI g.2 ↑k).2)<0
  ·
   refine aO (wn (dt q34_18)) (aO (wn (dt q34_18)) (aO (wn (dt q34_18)) (aO (wn (dt q34_18)) (lw (vb true) (aS rfl (dt q34_18) rfl) (a8 (af rfl rfl (a4 ?_)))))))
   clear bx5
   refine a3 rfl (ma (vb false) (a8 (aE (vs:=[vb false]) Try.func36 (.tmp rfl .nil) ?_)))
   have e0:(false:Bool)=(c6 g):=by
     exact(bO (λh=>by have h2:=h.2.2.2 _ (bV (xs:=g.2) (i:=↑k) (by omega) ‹_›);unfold j4 at h2;omega)).symm
   replace bH:=bH.cn ch11
   replace bH:=bH.ce ch16
   exact⟨rb e0,bH.below⟩
  refine lv (vi ((gI g.2 ↑k).2)) (wy (df q34_18)) (ah rfl) (lv (vp b3 0) (wy (df q34_18)) (a5 cQ rfl rfl zs1 rfl) (lv (vi g.1) (wy (df q34_18)) (a6 a9 rfl bx5 rfl) (lv (vb (decide (g.1<=((gI g.2 ↑k).2)))) (wy (df q34_18)) (ep (m:=(gI g.2 ↑k).2) (n:=g.1) rfl rfl) (lw (vb (decide (g.1<=((gI g.2 ↑k).2)))) (ba rfl (df q34_18) rfl) (a8 ?_)))))
  by_cases p9_19:g.1<=((gI g.2 ↑k).2)
  ·
   refine af rfl (dt p9_19) (a4 ?_)
   clear bx5
   refine a3 rfl (ma (vb false) (a8 (aE (vs:=[vb false]) Try.func36 (.tmp rfl .nil) ?_)))
   have e0:(false:Bool)=(c6 g):=by
     exact(bO (λh=>by have h2:=h.2.2.2 _ (bV (xs:=g.2) (i:=↑k) (by omega) ‹_›);unfold j4 at h2;omega)).symm
   replace bH:=bH.cn ch11
   replace bH:=bH.ce ch16
   exact⟨rb e0,bH.below⟩
  refine ab rfl (df p9_19) (al (ad (a3 rfl (lx (aw (m:=1) (n:=1) rfl rfl (by omega)) (mi 2 (a8 (aN (a4 (a3 rfl (lx (aV (m:=2) (n:=2) rfl rfl) ?_))))))))))
  refine a8 (a4 (ab rfl rfl (aA rfl (ad (a3 rfl (lx (aw (m:=↑k) (n:=1) zs24 rfl (by omega)) (mi ((k:Int)+1) (a8 ?_))))))))
  replace bH:=bH.cn ch11
  refine back4 (k+1,g13) _ _ ⟨bH.ce ch16,zs1,zs22,zs23,rfl,(Rg.cn ch11).ce ch16,bx5,by omega,?_⟩ ?_
  · show∀e∈List.take (k+1) g.2,j4 g.1 e
    rw[fb ‹_›]
    intro e he
    rcases List.mem_append.1 he with h|h
    · exact hinv4 e h
    · obtain rfl:=List.mem_singleton.1 h
      refine⟨?_,?_⟩<;>omega
  · show Int.toNat (((g.2.length:Int):Int)-((k+1):Int))<Int.toNat (((g.2.length:Int):Int)-(k:Int))
    omega
 refine ab rfl (df p4) (aA rfl (a4 ?_))
 clear bx5
 refine a3 rfl (ma (vb true) (a8 (aE (vs:=[vb true]) Try.func36 (.tmp rfl .nil) ?_)))
 have e0:(true:Bool)=(c6 g):=by
   exact(hG ⟨by omega,by omega,by omega,by rw[List.take_of_length_le (by omega)] at hinv4;exact hinv4⟩).symm
 exact⟨rb e0,bH.below⟩
theorem jD(w0:World)(g:(Int)×(List Pt))(g_v:Value)(hg_v:Ro w0 g_v g.2):
    Calls Try.prog 16 #[vg [vi g.1,g_v]] w0 (λee w=>ee= .returned (vb (c6 g))/\d6 w0.heap.size w0 w):=by
 refine aq Try.func16 rfl nq ?_
 have bH:=bd.start w0
 have Rg:=hg_v.sl
 refine a4 (a3 rfl (dG rfl (d3 c0 (is 1) (1,0) rfl rfl ?_)))
 intro g4 w1 b3 ch2 bx5
 replace bx5:Bx g4 (is 1) w1 b3 [vi g.1,g_v]:=bx5
 refine ma (vb false) (a8 (a4 (a4 (a3 rfl (lx (a5 cQ rfl rfl rfl rfl) (lx (a6 a9 rfl bx5 rfl) (lx (aV (m:=g.1) (n:=0) rfl rfl) (mv (vb (decide (g.1<0))) ?_))))))))
 by_cases q8:g.1<0
 ·
  refine aO (wn (dt q8)) (aO (wn (dt q8)) (aO (wn (dt q8)) (lw (vb true) (aS rfl (dt q8) rfl) (mv (vb true) (aO (wn rfl) (aO (wn rfl) (aO (wn rfl) (aO (wn rfl) (lw (vb true) (aS rfl rfl rfl) (a8 (af rfl rfl (a4 ?_))))))))))))
  clear bx5
  refine a3 rfl (ma (vb false) (a8 (aE (vs:=[vb false]) Try.func16 (.tmp rfl .nil) ?_)))
  have e0:(false:Bool)=(c6 g):=by
    exact(bO (λh=>by unfold bw at h;omega)).symm
  replace bH:=bH.cn ch2
  exact⟨rb e0,bH.below⟩
 refine lv (vp b3 0) (wy (df q8)) (a5 cQ rfl rfl rfl rfl) (lv (vi g.1) (wy (df q8)) (a6 a9 rfl bx5 rfl) (lv (vb (decide (1024<g.1))) (wy (df q8)) (dr (m:=g.1) (n:=1024) rfl rfl) (lw (vb (decide (1024<g.1))) (ba rfl (df q8) rfl) (mv (vb (decide (1024<g.1))) ?_))))
 by_cases q13:1024<g.1
 ·
  refine aO (wn (dt q13)) (aO (wn (dt q13)) (aO (wn (dt q13)) (aO (wn (dt q13)) (lw (vb true) (aS rfl (dt q13) rfl) (a8 (af rfl rfl (a4 ?_)))))))
  clear bx5
  refine a3 rfl (ma (vb false) (a8 (aE (vs:=[vb false]) Try.func16 (.tmp rfl .nil) ?_)))
  have e0:(false:Bool)=(c6 g):=by
    exact(bO (λh=>by unfold bw at h;omega)).symm
  replace bH:=bH.cn ch2
  exact⟨rb e0,bH.below⟩
 refine lv (vp b3 1) (wy (df q13)) (a5 cQ rfl rfl rfl rfl) (lv (g_v) (wy (df q13)) (a6 bt rfl bx5 rfl) ?_)
 replace Rg:=Rg.cn ch2
 have len6:=(Rg).small
 refine lv (vi (g.2.length:Int)) (wy (df q13)) (bm da rfl Rg) (lv (vb (decide (3072<(g.2.length:Int)))) (wy (df q13)) (dr (m:=(g.2.length:Int)) (n:=3072) rfl rfl) (lw (vb (decide (3072<(g.2.length:Int)))) (ba rfl (df q13) rfl) (a8 ?_)))
 by_cases p1:3072<(g.2.length:Int)
 ·
  refine af rfl (dt p1) (a4 ?_)
  clear bx5
  refine a3 rfl (ma (vb false) (a8 (aE (vs:=[vb false]) Try.func16 (.tmp rfl .nil) ?_)))
  have e0:(false:Bool)=(c6 g):=by
    exact(bO (λh=>by unfold bw at h;omega)).symm
  replace bH:=bH.cn ch2
  exact⟨rb e0,bH.below⟩
 refine ab rfl (df p1) (al (a4 (a4 (a3 rfl (ai 0 (a8 (aj ?_)))))))
 refine aZ (σ:=Nat×av) (λ⟨k,gq⟩ f w=>bd w0 gq w/\f 1=vp b3 0/\f 3=vi ↑k/\Sl gq (is 0) w g_v g.2/\Bx gq (is 1) w b3 [vi g.1,g_v]/\(k:Int)<=((g.2.length:Int):Int)/\(∀e∈List.take k g.2,j4 g.1 e)) (λ⟨k,gq⟩=>Int.toNat (((g.2.length:Int):Int)-(k:Int))) (0,g4) ?_ ?_
 · exact⟨bH.cn ch2,rfl,rfl,Rg,bx5,by omega,by simp⟩
 clear Rg bx5 bH
 rintro⟨k,g9⟩ f7 w8 ⟨bH,zs1,zs3,Rg,bx5,hle_k,hinv4⟩ back4
 refine a4 (a4 (a3 rfl (mz zs3 (lx (a5 cQ rfl rfl zs1 rfl) (lx (a6 bt rfl bx5 rfl) (lx (bm da rfl Rg) (lx (aV (m:=↑k) (n:=(g.2.length:Int)) rfl rfl) (a8 ?_))))))))
 by_cases p4:(k:Int)<(g.2.length:Int)
 ·
  refine af rfl (dt p4) (al (a4 (aj (a4 (a3 rfl (ai 0 (a8 (aj (d1 (a4 (a4 (a3 rfl ?_))))))))))))
  refine mi 0 (lx (aV (m:=0) (n:=2) rfl rfl) (a8 (af rfl rfl (al (a4 (aj (a4 (cG g9 rfl k5 (by kernel_rfl) ?_))))))))
  intro w11 ch10
  refine qx (λw' hw'=>a5 cQ rfl rfl zs1 rfl) ?_
  replace bx5:=bx5.cn ch10
  refine qx (λw' hw'=>a6 bt rfl (bx5.bel hw') rfl) (qz zs3 (qm (vi 0) ?_))
  replace Rg:=Rg.cn ch10
  refine qx (λw' hw'=>a7 (v:=g_v) (i:=↑k) da rfl rfl (Rg.bel hw') rfl (by omega) (by omega)) (qx (λw' hw'=>bn ck rfl rfl rfl (by decide) (by decide) rfl) (qx (λw' hw'=>bL (v:=g_v) (i:=↑k) a9 rfl (Rg.bel hw') (by omega) (by omega) (by decide) rfl) (qx (λw' hw'=>aV (m:=(gI g.2 ↑k).1) (n:=0) rfl rfl) (qm (vb (decide (((gI g.2 ↑k).1)<0))) ?_))))
  by_cases q38:((gI g.2 ↑k).1)<0
  ·
   refine bc (wn (dt q38)) (bc (wn (dt q38)) (bc (wn (dt q38)) (bc (wn (dt q38)) (bc (wn (dt q38)) (bc (wn (dt q38)) (bc (wn (dt q38)) (bc (wn (dt q38)) (bc (wn (dt q38)) (bc (wn (dt q38)) ?_)))))))))
   refine qv (vb true) (λw' hw'=>aS rfl (dt q38) rfl) (d8 ?_)
   intro w12 hc13
   replace hc13:=aQ hc13 g9
   refine af rfl rfl (a4 ?_)
   clear bx5
   refine a3 rfl (ma (vb false) (a8 (aE (vs:=[vb false]) Try.func16 (.tmp rfl .nil) ?_)))
   have e0:(false:Bool)=(c6 g):=by
     exact(bO (λh=>by have h2:=h.2.2.2 _ (bV (xs:=g.2) (i:=↑k) (by omega) ‹_›);unfold j4 at h2;omega)).symm
   replace bH:=bH.cn ch10
   replace bH:=bH.cn hc13
   exact⟨rb e0,bH.below⟩
  refine bu (v:=vp b3 1) (wy (df q38)) (λw' hw'=>a5 cQ rfl rfl zs1 rfl) (bu (v:=g_v) (wy (df q38)) (λw' hw'=>a6 bt rfl (bx5.bel hw') rfl) (bu (v:=vi ↑k) (wy (df q38)) (λw' hw'=>ah zs3) (bu (v:=vi 0) (wy (df q38)) (λw' hw'=>ah rfl) (bu (v:=Value.pointer (some (aK g_v 2 (Int.toNat ↑k)))) (wy (df q38)) (λw' hw'=>a7 (α:=Pt) (xs:=g.2) (v:=g_v) (i:=↑k) da rfl rfl (Rg.bel hw') rfl (by omega) (by omega)) ?_))))
  refine bu (v:=Value.pointer (some ⟨(aK g_v 2 (Int.toNat ↑k)).block,(aK g_v 2 (Int.toNat ↑k)).off+0,none⟩)) (wy (df q38)) (λw' hw'=>bn ck rfl rfl rfl (by decide) (by decide) rfl) (bu (v:=vi ((gI g.2 ↑k).1)) (wy (df q38)) (λw' hw'=>bL (α:=Pt) (xs:=g.2) (v:=g_v) (i:=↑k) a9 rfl (Rg.bel hw') (by omega) (by omega) (by decide) rfl) (bu (v:=vp b3 0) (wy (df q38)) (λw' hw'=>a5 cQ rfl rfl zs1 rfl) (bu (v:=vi g.1) (wy (df q38)) (λw' hw'=>a6 a9 rfl (bx5.bel hw') rfl) ?_)))
  refine bu (v:=vb (decide (g.1<=((gI g.2 ↑k).1)))) (wy (df q38)) (λw' hw'=>ep (m:=(gI g.2 ↑k).1) (n:=g.1) rfl rfl) (qv (vb (decide (g.1<=((gI g.2 ↑k).1)))) (λw' hw'=>ba rfl (df q38) rfl) (d8 ?_))
  intro w14 hc15
  replace hc15:=aQ hc15 g9
  by_cases p9:g.1<=((gI g.2 ↑k).1)
  ·
   refine af rfl (dt p9) (a4 ?_)
   clear bx5
   refine a3 rfl (ma (vb false) (a8 (aE (vs:=[vb false]) Try.func16 (.tmp rfl .nil) ?_)))
   have e0:(false:Bool)=(c6 g):=by
     exact(bO (λh=>by have h2:=h.2.2.2 _ (bV (xs:=g.2) (i:=↑k) (by omega) ‹_›);unfold j4 at h2;omega)).symm
   replace bH:=bH.cn ch10
   replace bH:=bH.cn hc15
   exact⟨rb e0,bH.below⟩
  refine ab rfl (df p9) (al (ad (a3 rfl (mi 0 (lx (aw (m:=0) (n:=1) rfl rfl (by omega)) (ai 1 (a8 (aN (a4 (a4 (a3 rfl ?_)))))))))))
  refine mi 1 (lx (aV (m:=1) (n:=2) rfl rfl) (a8 (af rfl rfl (al (a4 (aj (a4 (cG g9 rfl k5 (by kernel_rfl) ?_))))))))
  intro w17 ch16
  refine qx (λw' hw'=>a5 cQ rfl rfl zs1 rfl) ?_
  replace bx5:=(bx5.cn hc15).cn ch16
  refine qx (λw' hw'=>a6 bt rfl (bx5.bel hw') rfl) (qz zs3 (qm (vi 1) ?_))
  replace Rg:=(Rg.cn hc15).cn ch16
  refine qx (λw' hw'=>a7 (v:=g_v) (i:=↑k) da rfl rfl (Rg.bel hw') rfl (by omega) (by omega)) (qx (λw' hw'=>bn ck rfl rfl rfl (by decide) (by decide) rfl) (qx (λw' hw'=>bL (v:=g_v) (i:=↑k) a9 rfl (Rg.bel hw') (by omega) (by omega) (by decide) rfl) (qx (λw' hw'=>aV (m:=(gI g.2 ↑k).2) (n:=0) rfl rfl) (qm (vb (decide (((gI g.2 ↑k).2)<0))) ?_))))
  by_cases q38_18:((gI g.2 ↑k).2)<0
  ·
   refine bc (wn (dt q38_18)) (bc (wn (dt q38_18)) (bc (wn (dt q38_18)) (bc (wn (dt q38_18)) (bc (wn (dt q38_18)) (bc (wn (dt q38_18)) (bc (wn (dt q38_18)) (bc (wn (dt q38_18)) (bc (wn (dt q38_18)) (bc (wn (dt q38_18)) ?_)))))))))
   refine qv (vb true) (λw' hw'=>aS rfl (dt q38_18) rfl) (d8 ?_)
   intro w19 hc20
   replace hc20:=aQ hc20 g9
   refine af rfl rfl (a4 ?_)
   clear bx5
   refine a3 rfl (ma (vb false) (a8 (aE (vs:=[vb false]) Try.func16 (.tmp rfl .nil) ?_)))
   have e0:(false:Bool)=(c6 g):=by
     exact(bO (λh=>by have h2:=h.2.2.2 _ (bV (xs:=g.2) (i:=↑k) (by omega) ‹_›);unfold j4 at h2;omega)).symm
   have C21:=cg [] (ch10.n.seq (hc15.n.seq (ch16.n.seq hc20.n)))
   replace bH:=bH.ca C21
   exact⟨rb e0,bH.below⟩
  refine bu (v:=vp b3 1) (wy (df q38_18)) (λw' hw'=>a5 cQ rfl rfl zs1 rfl) (bu (v:=g_v) (wy (df q38_18)) (λw' hw'=>a6 bt rfl (bx5.bel hw') rfl) (bu (v:=vi ↑k) (wy (df q38_18)) (λw' hw'=>ah zs3) (bu (v:=vi 1) (wy (df q38_18)) (λw' hw'=>ah rfl) (bu (v:=Value.pointer (some (aK g_v 2 (Int.toNat ↑k)))) (wy (df q38_18)) (λw' hw'=>a7 (α:=Pt) (xs:=g.2) (v:=g_v) (i:=↑k) da rfl rfl (Rg.bel hw') rfl (by omega) (by omega)) ?_))))
  refine bu (v:=Value.pointer (some ⟨(aK g_v 2 (Int.toNat ↑k)).block,(aK g_v 2 (Int.toNat ↑k)).off+1,none⟩)) (wy (df q38_18)) (λw' hw'=>bn ck rfl rfl rfl (by decide) (by decide) rfl) (bu (v:=vi ((gI g.2 ↑k).2)) (wy (df q38_18)) (λw' hw'=>bL (α:=Pt) (xs:=g.2) (v:=g_v) (i:=↑k) a9 rfl (Rg.bel hw') (by omega) (by omega) (by decide) rfl) (bu (v:=vp b3 0) (wy (df q38_18)) (λw' hw'=>a5 cQ rfl rfl zs1 rfl) (bu (v:=vi g.1) (wy (df q38_18)) (λw' hw'=>a6 a9 rfl (bx5.bel hw') rfl) ?_)))
  refine bu (v:=vb (decide (g.1<=((gI g.2 ↑k).2)))) (wy (df q38_18)) (λw' hw'=>ep (m:=(gI g.2 ↑k).2) (n:=g.1) rfl rfl) (qv (vb (decide (g.1<=((gI g.2 ↑k).2)))) (λw' hw'=>ba rfl (df q38_18) rfl) (d8 ?_))
  intro w22 hc23
  replace hc23:=aQ hc23 g9
  by_cases p9_24:g.1<=((gI g.2 ↑k).2)
  ·
   refine af rfl (dt p9_24) (a4 ?_)
   clear bx5
   refine a3 rfl (ma (vb false) (a8 (aE (vs:=[vb false]) Try.func16 (.tmp rfl .nil) ?_)))
   have e0:(false:Bool)=(c6 g):=by
     exact(bO (λh=>by have h2:=h.2.2.2 _ (bV (xs:=g.2) (i:=↑k) (by omega) ‹_›);unfold j4 at h2;omega)).symm
   have C25:=cg [] (ch10.n.seq (hc15.n.seq (ch16.n.seq hc23.n)))
   replace bH:=bH.ca C25
   exact⟨rb e0,bH.below⟩
  refine ab rfl (df p9_24) (al (ad (a3 rfl (mi 1 (lx (aw (m:=1) (n:=1) rfl rfl (by omega)) (ai 2 (a8 (aN (a4 (a4 (a3 rfl ?_)))))))))))
  refine mi 2 (lx (aV (m:=2) (n:=2) rfl rfl) (a8 (ab rfl rfl (aA rfl (ad (a3 rfl (mz zs3 (lx (aw (m:=↑k) (n:=1) rfl rfl (by omega)) (ai ((k:Int)+1) ?_)))))))))
  refine a8 ?_
  have C26:=cg [] (ch10.n.seq (hc15.n.seq (ch16.n.seq hc23.n)))
  refine back4 (k+1,g9) _ _ ⟨bH.ca C26,zs1,rfl,Rg.cn hc23,bx5.cn hc23,by omega,?_⟩ ?_
  · show∀e∈List.take (k+1) g.2,j4 g.1 e
    rw[fb ‹_›]
    intro e he
    rcases List.mem_append.1 he with h|h
    · exact hinv4 e h
    · obtain rfl:=List.mem_singleton.1 h
      refine⟨?_,?_⟩<;>omega
  · show Int.toNat (((g.2.length:Int):Int)-((k+1):Int))<Int.toNat (((g.2.length:Int):Int)-(k:Int))
    omega
 refine ab rfl (df p4) (aA rfl (a4 ?_))
 clear bx5
 refine a3 rfl (ma (vb true) (a8 (aE (vs:=[vb true]) Try.func16 (.tmp rfl .nil) ?_)))
 have e0:(true:Bool)=(c6 g):=by
   exact(hG ⟨by omega,by omega,by omega,by rw[List.take_of_length_le (by omega)] at hinv4;exact hinv4⟩).symm
 exact⟨rb e0,bH.below⟩
end TL
