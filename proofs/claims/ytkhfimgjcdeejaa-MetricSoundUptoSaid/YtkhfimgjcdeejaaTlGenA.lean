import Derived.Test.YtkhfimgjcdeejaaTlP3
import Derived.Test.YtkhfimgjcdeejaaProg
import Derived.Test.YtkhfimgjcdeejaaTlAli
set_option linter.all false
set_option maxRecDepth 20000
namespace TL
open Go Go.Proofs
theorem oO:Try.prog.follows .mixedOrders=true:=by kernel_rfl
theorem ft:Tp Try.prog 3 false 1 8 (.int .i64 0):=Tp.of (by kernel_rfl)
theorem ch:Tp Try.prog 27 false 1 24 (.slice none 0 0):=Tp.of (by kernel_rfl)
theorem fH:Tp Try.prog 41 true 2 16 (.agg #[.int .i64 0,.int .i64 0]):=Tp.of (by kernel_rfl)
theorem rz(w0:World)(g:(Int)×(List Pt))(g_v:Value)(hg_v:Ro w0 g_v g.2):
    Calls Try.prog 35 #[vg [vi g.1,g_v]] w0 (λee w=>ee= .returned (vb (dm g))/\cW w0.heap.size w0 w):=by
 refine aI Try.func35 rfl nq ?_
 have bH:=bo.start w0
 have Rg:=hg_v.sl
 refine a6 (a5 rfl (cj rfl (bA c0 (is 1) (1,0) rfl rfl ?_)))
 intro g4 w1 b3 ch2 bx5
 replace bx5:Bx g4 (is 1) w1 b3 [vi g.1,g_v]:=bx5
 refine ma (vb false) (a8 (a6 (a6 (a5 rfl (lx (a7 eR rfl rfl rfl rfl) (lx (a9 ft rfl bx5 rfl) (lx (b6 (m:=g.1) (n:=0) rfl rfl) (mv (vb (decide (g.1<0))) ?_))))))))
 by_cases q10:g.1<0
 ·
  refine aa (wn (dt q10)) (aa (wn (dt q10)) (aa (wn (dt q10)) (lw (vb true) (aD rfl (dt q10) rfl) (mv (vb true) (aa (wn rfl) (aa (wn rfl) (aa (wn rfl) (aa (wn rfl) (lw (vb true) (aD rfl rfl rfl) (a8 (ae rfl rfl (a6 ?_))))))))))))
  clear bx5
  refine a5 rfl (ma (vb false) (a8 (av (vs:=[vb false]) Try.func35 (.tmp rfl .nil) ?_)))
  have e0:(false:Bool)=(dm g):=by
    exact(cz (λh=>by unfold dp at h;omega)).symm
  replace bH:=bH.cn ch2
  exact⟨rb e0,bH.below⟩
 refine lv (vp b3 0) (wy (df q10)) (a7 eR rfl rfl rfl rfl) (lv (vi g.1) (wy (df q10)) (a9 ft rfl bx5 rfl) (lv (vb (decide (1024<g.1))) (wy (df q10)) (dZ (m:=g.1) (n:=1024) rfl rfl) (lw (vb (decide (1024<g.1))) (aB rfl (df q10) rfl) (mv (vb (decide (1024<g.1))) ?_))))
 by_cases q15:1024<g.1
 ·
  refine aa (wn (dt q15)) (aa (wn (dt q15)) (aa (wn (dt q15)) (aa (wn (dt q15)) (lw (vb true) (aD rfl (dt q15) rfl) (a8 (ae rfl rfl (a6 ?_)))))))
  clear bx5
  refine a5 rfl (ma (vb false) (a8 (av (vs:=[vb false]) Try.func35 (.tmp rfl .nil) ?_)))
  have e0:(false:Bool)=(dm g):=by
    exact(cz (λh=>by unfold dp at h;omega)).symm
  replace bH:=bH.cn ch2
  exact⟨rb e0,bH.below⟩
 refine lv (vp b3 1) (wy (df q15)) (a7 eR rfl rfl rfl rfl) (lv (g_v) (wy (df q15)) (a9 ch rfl bx5 rfl) ?_)
 replace Rg:=Rg.cn ch2
 have len6:=(Rg).small
 refine lv (vi (g.2.length:Int)) (wy (df q15)) (bE gv rfl Rg) (lv (vb (decide (3072<(g.2.length:Int)))) (wy (df q15)) (dZ (m:=(g.2.length:Int)) (n:=3072) rfl rfl) (lw (vb (decide (3072<(g.2.length:Int)))) (aB rfl (df q15) rfl) (a8 ?_)))
 by_cases p1:3072<(g.2.length:Int)
 ·
  refine ae rfl (dt p1) (a6 ?_)
  clear bx5
  refine a5 rfl (ma (vb false) (a8 (av (vs:=[vb false]) Try.func35 (.tmp rfl .nil) ?_)))
  have e0:(false:Bool)=(dm g):=by
    exact(cz (λh=>by unfold dp at h;omega)).symm
  replace bH:=bH.cn ch2
  exact⟨rb e0,bH.below⟩
 refine af rfl (df p1) (am (a6 (a6 (a5 rfl (lx (a7 eR rfl rfl rfl rfl) (lx (a9 ch rfl bx5 rfl) (lx (bE gv rfl Rg) (mi 0 (a8 (ao ?_))))))))))
 refine bf (σ:=Nat×aW) (λ⟨k,gq⟩ f w=>bo w0 gq w/\f 1=vp b3 0/\f 22=g_v/\f 23=vi (g.2.length:Int)/\f 24=vi ↑k/\Sl gq (is 0) w g_v g.2/\Bx gq (is 1) w b3 [vi g.1,g_v]/\(k:Int)<=((g.2.length:Int):Int)/\(∀e∈List.take k g.2,od g.1 e)) (λ⟨k,gq⟩=>Int.toNat (((g.2.length:Int):Int)-(k:Int))) (0,g4) ?_ ?_
 · exact⟨bH.cn ch2,rfl,rfl,rfl,rfl,Rg,bx5,by omega,by simp⟩
 clear Rg bx5 bH
 rintro⟨k,g9⟩ f7 w8 ⟨bH,zs1,zs22,zs23,zs24,Rg,bx5,hle_k,hinv4⟩ back4
 refine a6 (a5 rfl (lx (b6 (m:=↑k) (n:=(g.2.length:Int)) zs24 zs23) (a8 (a6 ?_))))
 by_cases p4:(k:Int)<(g.2.length:Int)
 ·
  refine ae rfl (dt p4) (am (a6 (ao (a6 (a5 rfl (lx (ab (v:=g_v) (i:=↑k) gv rfl zs22 Rg zs24 (by omega) (by omega)) (lw (vg [vi ((gI g.2 ↑k).1),vi ((gI g.2 ↑k).2)]) (aM (v:=g_v) (i:=↑k) fH rfl Rg (by omega) (by omega) rfl) (lo (bB g9 (is 2) (2,0) rfl fH ?_)))))))))
  intro g13 w10 b12 ch11 bx14
  replace bx14:Bx g13 (is 2) w10 b12 [vi 0,vi 0]:=bx14
  refine lo (au (cs':=[vi ((gI g.2 ↑k).1),vi ((gI g.2 ↑k).2)]) fH rfl rfl bx14 rfl nq (AllOne.all (.cons rfl (.cons rfl .nil))) rfl ?_)
  intro w15 ch16 bx17
  clear bx14
  refine a8 (a6 (a5 rfl (lx (ad (ds:=[vi ((gI g.2 ↑k).1),vi ((gI g.2 ↑k).2)]) fH rfl bx17 rfl rfl) (mi 0 (a8 (ao (fh (a6 ?_))))))))
  clear bx17
  refine a5 rfl (lx (b6 (m:=0) (n:=2) rfl rfl) (a8 (a6 (ae rfl rfl (am (a6 (ao (a6 (a5 rfl (lw (vi ((gI g.2 ↑k).1)) (dg jZ ft rfl rfl (by decide) (by decide) rfl) (ai ((gI g.2 ↑k).1) ?_)))))))))))
  refine a8 (a6 (a5 rfl (mi ((gI g.2 ↑k).1) (lx (b6 (m:=(gI g.2 ↑k).1) (n:=0) rfl rfl) (mv (vb (decide (((gI g.2 ↑k).1)<0))) ?_)))))
  by_cases q34:((gI g.2 ↑k).1)<0
  ·
   refine aa (wn (dt q34)) (aa (wn (dt q34)) (aa (wn (dt q34)) (aa (wn (dt q34)) (lw (vb true) (aD rfl (dt q34) rfl) (a8 (ae rfl rfl (a6 ?_)))))))
   clear bx5
   refine a5 rfl (ma (vb false) (a8 (av (vs:=[vb false]) Try.func35 (.tmp rfl .nil) ?_)))
   have e0:(false:Bool)=(dm g):=by
     exact(cz (λh=>by have h2:=h.2.2.2 _ (ba (xs:=g.2) (i:=↑k) (by omega) ‹_›);unfold od at h2;omega)).symm
   replace bH:=bH.cn ch11
   replace bH:=bH.ce ch16
   exact⟨rb e0,bH.below⟩
  refine lv (vi ((gI g.2 ↑k).1)) (wy (df q34)) (aw rfl) (lv (vp b3 0) (wy (df q34)) (a7 eR rfl rfl zs1 rfl) ?_)
  replace bx5:=(bx5.cn ch11).ce ch16
  refine lv (vi g.1) (wy (df q34)) (a9 ft rfl bx5 rfl) (lv (vb (decide (g.1<=((gI g.2 ↑k).1)))) (wy (df q34)) (fW (m:=(gI g.2 ↑k).1) (n:=g.1) rfl rfl) (lw (vb (decide (g.1<=((gI g.2 ↑k).1)))) (aB rfl (df q34) rfl) (a8 ?_)))
  by_cases p9:g.1<=((gI g.2 ↑k).1)
  ·
   refine ae rfl (dt p9) (a6 ?_)
   clear bx5
   refine a5 rfl (ma (vb false) (a8 (av (vs:=[vb false]) Try.func35 (.tmp rfl .nil) ?_)))
   have e0:(false:Bool)=(dm g):=by
     exact(cz (λh=>by have h2:=h.2.2.2 _ (ba (xs:=g.2) (i:=↑k) (by omega) ‹_›);unfold od at h2;omega)).symm
   replace bH:=bH.cn ch11
   replace bH:=bH.ce ch16
   exact⟨rb e0,bH.below⟩
  refine af rfl (df p9) (am (ak (a5 rfl (lx (aQ (m:=0) (n:=1) rfl rfl (by omega)) (mi 1 (a8 (aY (a6 (a5 rfl (lx (b6 (m:=1) (n:=2) rfl rfl) ?_))))))))))
  refine a8 (a6 (ae rfl rfl (am (a6 (ao (a6 (a5 rfl (lw (vi ((gI g.2 ↑k).2)) (dg jZ ft rfl rfl (by decide) (by decide) rfl) (ai ((gI g.2 ↑k).2) (a8 (a6 (a5 rfl (mi ((gI g.2 ↑k).2) ?_)))))))))))))
  refine lx (b6 (m:=(gI g.2 ↑k).2) (n:=0) rfl rfl) (mv (vb (decide (((gI g.2 ↑k).2)<0))) ?_)
  by_cases q34_18:((gI g.2 ↑k).2)<0
  ·
   refine aa (wn (dt q34_18)) (aa (wn (dt q34_18)) (aa (wn (dt q34_18)) (aa (wn (dt q34_18)) (lw (vb true) (aD rfl (dt q34_18) rfl) (a8 (ae rfl rfl (a6 ?_)))))))
   clear bx5
   refine a5 rfl (ma (vb false) (a8 (av (vs:=[vb false]) Try.func35 (.tmp rfl .nil) ?_)))
   have e0:(false:Bool)=(dm g):=by
     exact(cz (λh=>by have h2:=h.2.2.2 _ (ba (xs:=g.2) (i:=↑k) (by omega) ‹_›);unfold od at h2;omega)).symm
   replace bH:=bH.cn ch11
   replace bH:=bH.ce ch16
   exact⟨rb e0,bH.below⟩
  refine lv (vi ((gI g.2 ↑k).2)) (wy (df q34_18)) (aw rfl) (lv (vp b3 0) (wy (df q34_18)) (a7 eR rfl rfl zs1 rfl) (lv (vi g.1) (wy (df q34_18)) (a9 ft rfl bx5 rfl) (lv (vb (decide (g.1<=((gI g.2 ↑k).2)))) (wy (df q34_18)) (fW (m:=(gI g.2 ↑k).2) (n:=g.1) rfl rfl) (lw (vb (decide (g.1<=((gI g.2 ↑k).2)))) (aB rfl (df q34_18) rfl) (a8 ?_)))))
  by_cases p9_19:g.1<=((gI g.2 ↑k).2)
  ·
   refine ae rfl (dt p9_19) (a6 ?_)
   clear bx5
   refine a5 rfl (ma (vb false) (a8 (av (vs:=[vb false]) Try.func35 (.tmp rfl .nil) ?_)))
   have e0:(false:Bool)=(dm g):=by
     exact(cz (λh=>by have h2:=h.2.2.2 _ (ba (xs:=g.2) (i:=↑k) (by omega) ‹_›);unfold od at h2;omega)).symm
   replace bH:=bH.cn ch11
   replace bH:=bH.ce ch16
   exact⟨rb e0,bH.below⟩
  refine af rfl (df p9_19) (am (ak (a5 rfl (lx (aQ (m:=1) (n:=1) rfl rfl (by omega)) (mi 2 (a8 (aY (a6 (a5 rfl (lx (b6 (m:=2) (n:=2) rfl rfl) ?_))))))))))
  refine a8 (a6 (af rfl rfl (aO rfl (ak (a5 rfl (lx (aQ (m:=↑k) (n:=1) zs24 rfl (by omega)) (mi ((k:Int)+1) (a8 ?_))))))))
  replace bH:=bH.cn ch11
  refine back4 (k+1,g13) _ _ ⟨bH.ce ch16,zs1,zs22,zs23,rfl,(Rg.cn ch11).ce ch16,bx5,by omega,?_⟩ ?_
  · show∀e∈List.take (k+1) g.2,od g.1 e
    rw[e9 ‹_›]
    intro e he
    rcases List.mem_append.1 he with h|h
    · exact hinv4 e h
    · obtain rfl:=List.mem_singleton.1 h
      refine⟨?_,?_⟩<;>omega
  · show Int.toNat (((g.2.length:Int):Int)-((k+1):Int))<Int.toNat (((g.2.length:Int):Int)-(k:Int))
    omega
 refine af rfl (df p4) (aO rfl (a6 ?_))
 clear bx5
 refine a5 rfl (ma (vb true) (a8 (av (vs:=[vb true]) Try.func35 (.tmp rfl .nil) ?_)))
 have e0:(true:Bool)=(dm g):=by
   exact(lc ⟨by omega,by omega,by omega,by rw[List.take_of_length_le (by omega)] at hinv4;exact hinv4⟩).symm
 exact⟨rb e0,bH.below⟩
theorem pC(w0:World)(g:(Int)×(List Pt))(g_v:Value)(hg_v:Ro w0 g_v g.2):
    Calls Try.prog 12 #[vg [vi g.1,g_v]] w0 (λee w=>ee= .returned (vb (dm g))/\cW w0.heap.size w0 w):=by
 refine aI Try.func12 rfl nq ?_
 have bH:=bo.start w0
 have Rg:=hg_v.sl
 refine a6 (a5 rfl (cj rfl (bA c0 (is 1) (1,0) rfl rfl ?_)))
 intro g4 w1 b3 ch2 bx5
 replace bx5:Bx g4 (is 1) w1 b3 [vi g.1,g_v]:=bx5
 refine ma (vb false) (a8 (a6 (a6 (a5 rfl (lx (a7 eR rfl rfl rfl rfl) (lx (a9 ft rfl bx5 rfl) (lx (b6 (m:=g.1) (n:=0) rfl rfl) (mv (vb (decide (g.1<0))) ?_))))))))
 by_cases q8:g.1<0
 ·
  refine aa (wn (dt q8)) (aa (wn (dt q8)) (aa (wn (dt q8)) (lw (vb true) (aD rfl (dt q8) rfl) (mv (vb true) (aa (wn rfl) (aa (wn rfl) (aa (wn rfl) (aa (wn rfl) (lw (vb true) (aD rfl rfl rfl) (a8 (ae rfl rfl (a6 ?_))))))))))))
  clear bx5
  refine a5 rfl (ma (vb false) (a8 (av (vs:=[vb false]) Try.func12 (.tmp rfl .nil) ?_)))
  have e0:(false:Bool)=(dm g):=by
    exact(cz (λh=>by unfold dp at h;omega)).symm
  replace bH:=bH.cn ch2
  exact⟨rb e0,bH.below⟩
 refine lv (vp b3 0) (wy (df q8)) (a7 eR rfl rfl rfl rfl) (lv (vi g.1) (wy (df q8)) (a9 ft rfl bx5 rfl) (lv (vb (decide (1024<g.1))) (wy (df q8)) (dZ (m:=g.1) (n:=1024) rfl rfl) (lw (vb (decide (1024<g.1))) (aB rfl (df q8) rfl) (mv (vb (decide (1024<g.1))) ?_))))
 by_cases q13:1024<g.1
 ·
  refine aa (wn (dt q13)) (aa (wn (dt q13)) (aa (wn (dt q13)) (aa (wn (dt q13)) (lw (vb true) (aD rfl (dt q13) rfl) (a8 (ae rfl rfl (a6 ?_)))))))
  clear bx5
  refine a5 rfl (ma (vb false) (a8 (av (vs:=[vb false]) Try.func12 (.tmp rfl .nil) ?_)))
  have e0:(false:Bool)=(dm g):=by
    exact(cz (λh=>by unfold dp at h;omega)).symm
  replace bH:=bH.cn ch2
  exact⟨rb e0,bH.below⟩
 refine lv (vp b3 1) (wy (df q13)) (a7 eR rfl rfl rfl rfl) (lv (g_v) (wy (df q13)) (a9 ch rfl bx5 rfl) ?_)
 replace Rg:=Rg.cn ch2
 have len6:=(Rg).small
 refine lv (vi (g.2.length:Int)) (wy (df q13)) (bE gv rfl Rg) (lv (vb (decide (3072<(g.2.length:Int)))) (wy (df q13)) (dZ (m:=(g.2.length:Int)) (n:=3072) rfl rfl) (lw (vb (decide (3072<(g.2.length:Int)))) (aB rfl (df q13) rfl) (a8 ?_)))
 by_cases p1:3072<(g.2.length:Int)
 ·
  refine ae rfl (dt p1) (a6 ?_)
  clear bx5
  refine a5 rfl (ma (vb false) (a8 (av (vs:=[vb false]) Try.func12 (.tmp rfl .nil) ?_)))
  have e0:(false:Bool)=(dm g):=by
    exact(cz (λh=>by unfold dp at h;omega)).symm
  replace bH:=bH.cn ch2
  exact⟨rb e0,bH.below⟩
 refine af rfl (df p1) (am (a6 (a6 (a5 rfl (ai 0 (a8 (ao ?_)))))))
 refine bf (σ:=Nat×aW) (λ⟨k,gq⟩ f w=>bo w0 gq w/\f 1=vp b3 0/\f 3=vi ↑k/\Sl gq (is 0) w g_v g.2/\Bx gq (is 1) w b3 [vi g.1,g_v]/\(k:Int)<=((g.2.length:Int):Int)/\(∀e∈List.take k g.2,od g.1 e)) (λ⟨k,gq⟩=>Int.toNat (((g.2.length:Int):Int)-(k:Int))) (0,g4) ?_ ?_
 · exact⟨bH.cn ch2,rfl,rfl,Rg,bx5,by omega,by simp⟩
 clear Rg bx5 bH
 rintro⟨k,g9⟩ f7 w8 ⟨bH,zs1,zs3,Rg,bx5,hle_k,hinv4⟩ back4
 refine a6 (a6 (a5 rfl (mz zs3 (lx (a7 eR rfl rfl zs1 rfl) (lx (a9 ch rfl bx5 rfl) (lx (bE gv rfl Rg) (lx (b6 (m:=↑k) (n:=(g.2.length:Int)) rfl rfl) (a8 ?_))))))))
 by_cases p4:(k:Int)<(g.2.length:Int)
 ·
  refine ae rfl (dt p4) (am (a6 (ao (a6 (a5 rfl (ai 0 (a8 (ao (fh (a6 (a6 (a5 rfl ?_))))))))))))
  refine mi 0 (lx (b6 (m:=0) (n:=2) rfl rfl) (a8 (ae rfl rfl (am (a6 (ao (a6 (bv g9 rfl oO (by kernel_rfl) ?_))))))))
  intro w11 ch10
  refine qx (λw' hw'=>a7 eR rfl rfl zs1 rfl) ?_
  replace bx5:=bx5.cn ch10
  refine qx (λw' hw'=>a9 ch rfl (bx5.bel hw') rfl) (qz zs3 (qm (vi 0) ?_))
  replace Rg:=Rg.cn ch10
  refine qx (λw' hw'=>ab (v:=g_v) (i:=↑k) gv rfl rfl (Rg.bel hw') rfl (by omega) (by omega)) (qx (λw' hw'=>bj jZ rfl rfl rfl (by decide) (by decide) rfl) (qx (λw' hw'=>bN (v:=g_v) (i:=↑k) ft rfl (Rg.bel hw') (by omega) (by omega) (by decide) rfl) (qx (λw' hw'=>b6 (m:=(gI g.2 ↑k).1) (n:=0) rfl rfl) (qm (vb (decide (((gI g.2 ↑k).1)<0))) ?_))))
  by_cases q38:((gI g.2 ↑k).1)<0
  ·
   refine aq (wn (dt q38)) (aq (wn (dt q38)) (aq (wn (dt q38)) (aq (wn (dt q38)) (aq (wn (dt q38)) (aq (wn (dt q38)) (aq (wn (dt q38)) (aq (wn (dt q38)) (aq (wn (dt q38)) (aq (wn (dt q38)) ?_)))))))))
   refine qv (vb true) (λw' hw'=>aD rfl (dt q38) rfl) (bM ?_)
   intro w12 hc13
   replace hc13:=aj hc13 g9
   refine ae rfl rfl (a6 ?_)
   clear bx5
   refine a5 rfl (ma (vb false) (a8 (av (vs:=[vb false]) Try.func12 (.tmp rfl .nil) ?_)))
   have e0:(false:Bool)=(dm g):=by
     exact(cz (λh=>by have h2:=h.2.2.2 _ (ba (xs:=g.2) (i:=↑k) (by omega) ‹_›);unfold od at h2;omega)).symm
   replace bH:=bH.cn ch10
   replace bH:=bH.cn hc13
   exact⟨rb e0,bH.below⟩
  refine aR (v:=vp b3 1) (wy (df q38)) (λw' hw'=>a7 eR rfl rfl zs1 rfl) (aR (v:=g_v) (wy (df q38)) (λw' hw'=>a9 ch rfl (bx5.bel hw') rfl) (aR (v:=vi ↑k) (wy (df q38)) (λw' hw'=>aw zs3) (aR (v:=vi 0) (wy (df q38)) (λw' hw'=>aw rfl) (aR (v:=Value.pointer (some (aU g_v 2 (Int.toNat ↑k)))) (wy (df q38)) (λw' hw'=>ab (α:=Pt) (xs:=g.2) (v:=g_v) (i:=↑k) gv rfl rfl (Rg.bel hw') rfl (by omega) (by omega)) ?_))))
  refine aR (v:=Value.pointer (some ⟨(aU g_v 2 (Int.toNat ↑k)).block,(aU g_v 2 (Int.toNat ↑k)).off+0,none⟩)) (wy (df q38)) (λw' hw'=>bj jZ rfl rfl rfl (by decide) (by decide) rfl) (aR (v:=vi ((gI g.2 ↑k).1)) (wy (df q38)) (λw' hw'=>bN (α:=Pt) (xs:=g.2) (v:=g_v) (i:=↑k) ft rfl (Rg.bel hw') (by omega) (by omega) (by decide) rfl) (aR (v:=vp b3 0) (wy (df q38)) (λw' hw'=>a7 eR rfl rfl zs1 rfl) (aR (v:=vi g.1) (wy (df q38)) (λw' hw'=>a9 ft rfl (bx5.bel hw') rfl) ?_)))
  refine aR (v:=vb (decide (g.1<=((gI g.2 ↑k).1)))) (wy (df q38)) (λw' hw'=>fW (m:=(gI g.2 ↑k).1) (n:=g.1) rfl rfl) (qv (vb (decide (g.1<=((gI g.2 ↑k).1)))) (λw' hw'=>aB rfl (df q38) rfl) (bM ?_))
  intro w14 hc15
  replace hc15:=aj hc15 g9
  by_cases p9:g.1<=((gI g.2 ↑k).1)
  ·
   refine ae rfl (dt p9) (a6 ?_)
   clear bx5
   refine a5 rfl (ma (vb false) (a8 (av (vs:=[vb false]) Try.func12 (.tmp rfl .nil) ?_)))
   have e0:(false:Bool)=(dm g):=by
     exact(cz (λh=>by have h2:=h.2.2.2 _ (ba (xs:=g.2) (i:=↑k) (by omega) ‹_›);unfold od at h2;omega)).symm
   replace bH:=bH.cn ch10
   replace bH:=bH.cn hc15
   exact⟨rb e0,bH.below⟩
  refine af rfl (df p9) (am (ak (a5 rfl (mi 0 (lx (aQ (m:=0) (n:=1) rfl rfl (by omega)) (ai 1 (a8 (aY (a6 (a6 (a5 rfl ?_)))))))))))
  refine mi 1 (lx (b6 (m:=1) (n:=2) rfl rfl) (a8 (ae rfl rfl (am (a6 (ao (a6 (bv g9 rfl oO (by kernel_rfl) ?_))))))))
  intro w17 ch16
  refine qx (λw' hw'=>a7 eR rfl rfl zs1 rfl) ?_
  replace bx5:=(bx5.cn hc15).cn ch16
  refine qx (λw' hw'=>a9 ch rfl (bx5.bel hw') rfl) (qz zs3 (qm (vi 1) ?_))
  replace Rg:=(Rg.cn hc15).cn ch16
  refine qx (λw' hw'=>ab (v:=g_v) (i:=↑k) gv rfl rfl (Rg.bel hw') rfl (by omega) (by omega)) (qx (λw' hw'=>bj jZ rfl rfl rfl (by decide) (by decide) rfl) (qx (λw' hw'=>bN (v:=g_v) (i:=↑k) ft rfl (Rg.bel hw') (by omega) (by omega) (by decide) rfl) (qx (λw' hw'=>b6 (m:=(gI g.2 ↑k).2) (n:=0) rfl rfl) (qm (vb (decide (((gI g.2 ↑k).2)<0))) ?_))))
  by_cases q38_18:((gI g.2 ↑k).2)<0
  ·
   refine aq (wn (dt q38_18)) (aq (wn (dt q38_18)) (aq (wn (dt q38_18)) (aq (wn (dt q38_18)) (aq (wn (dt q38_18)) (aq (wn (dt q38_18)) (aq (wn (dt q38_18)) (aq (wn (dt q38_18)) (aq (wn (dt q38_18)) (aq (wn (dt q38_18)) ?_)))))))))
   refine qv (vb true) (λw' hw'=>aD rfl (dt q38_18) rfl) (bM ?_)
   intro w19 hc20
   replace hc20:=aj hc20 g9
   refine ae rfl rfl (a6 ?_)
   clear bx5
   refine a5 rfl (ma (vb false) (a8 (av (vs:=[vb false]) Try.func12 (.tmp rfl .nil) ?_)))
   have e0:(false:Bool)=(dm g):=by
     exact(cz (λh=>by have h2:=h.2.2.2 _ (ba (xs:=g.2) (i:=↑k) (by omega) ‹_›);unfold od at h2;omega)).symm
   have C21:=cg [] (ch10.n.seq (hc15.n.seq (ch16.n.seq hc20.n)))
   replace bH:=bH.ca C21
   exact⟨rb e0,bH.below⟩
  refine aR (v:=vp b3 1) (wy (df q38_18)) (λw' hw'=>a7 eR rfl rfl zs1 rfl) (aR (v:=g_v) (wy (df q38_18)) (λw' hw'=>a9 ch rfl (bx5.bel hw') rfl) (aR (v:=vi ↑k) (wy (df q38_18)) (λw' hw'=>aw zs3) (aR (v:=vi 1) (wy (df q38_18)) (λw' hw'=>aw rfl) (aR (v:=Value.pointer (some (aU g_v 2 (Int.toNat ↑k)))) (wy (df q38_18)) (λw' hw'=>ab (α:=Pt) (xs:=g.2) (v:=g_v) (i:=↑k) gv rfl rfl (Rg.bel hw') rfl (by omega) (by omega)) ?_))))
  refine aR (v:=Value.pointer (some ⟨(aU g_v 2 (Int.toNat ↑k)).block,(aU g_v 2 (Int.toNat ↑k)).off+1,none⟩)) (wy (df q38_18)) (λw' hw'=>bj jZ rfl rfl rfl (by decide) (by decide) rfl) (aR (v:=vi ((gI g.2 ↑k).2)) (wy (df q38_18)) (λw' hw'=>bN (α:=Pt) (xs:=g.2) (v:=g_v) (i:=↑k) ft rfl (Rg.bel hw') (by omega) (by omega) (by decide) rfl) (aR (v:=vp b3 0) (wy (df q38_18)) (λw' hw'=>a7 eR rfl rfl zs1 rfl) (aR (v:=vi g.1) (wy (df q38_18)) (λw' hw'=>a9 ft rfl (bx5.bel hw') rfl) ?_)))
  refine aR (v:=vb (decide (g.1<=((gI g.2 ↑k).2)))) (wy (df q38_18)) (λw' hw'=>fW (m:=(gI g.2 ↑k).2) (n:=g.1) rfl rfl) (qv (vb (decide (g.1<=((gI g.2 ↑k).2)))) (λw' hw'=>aB rfl (df q38_18) rfl) (bM ?_))
  intro w22 hc23
  replace hc23:=aj hc23 g9
  by_cases p9_24:g.1<=((gI g.2 ↑k).2)
  ·
   refine ae rfl (dt p9_24) (a6 ?_)
   clear bx5
   refine a5 rfl (ma (vb false) (a8 (av (vs:=[vb false]) Try.func12 (.tmp rfl .nil) ?_)))
   have e0:(false:Bool)=(dm g):=by
     exact(cz (λh=>by have h2:=h.2.2.2 _ (ba (xs:=g.2) (i:=↑k) (by omega) ‹_›);unfold od at h2;omega)).symm
   have C25:=cg [] (ch10.n.seq (hc15.n.seq (ch16.n.seq hc23.n)))
   replace bH:=bH.ca C25
   exact⟨rb e0,bH.below⟩
  refine af rfl (df p9_24) (am (ak (a5 rfl (mi 1 (lx (aQ (m:=1) (n:=1) rfl rfl (by omega)) (ai 2 (a8 (aY (a6 (a6 (a5 rfl ?_)))))))))))
  refine mi 2 (lx (b6 (m:=2) (n:=2) rfl rfl) (a8 (af rfl rfl (aO rfl (ak (a5 rfl (mz zs3 (lx (aQ (m:=↑k) (n:=1) rfl rfl (by omega)) (ai ((k:Int)+1) ?_)))))))))
  refine a8 ?_
  have C26:=cg [] (ch10.n.seq (hc15.n.seq (ch16.n.seq hc23.n)))
  refine back4 (k+1,g9) _ _ ⟨bH.ca C26,zs1,rfl,Rg.cn hc23,bx5.cn hc23,by omega,?_⟩ ?_
  · show∀e∈List.take (k+1) g.2,od g.1 e
    rw[e9 ‹_›]
    intro e he
    rcases List.mem_append.1 he with h|h
    · exact hinv4 e h
    · obtain rfl:=List.mem_singleton.1 h
      refine⟨?_,?_⟩<;>omega
  · show Int.toNat (((g.2.length:Int):Int)-((k+1):Int))<Int.toNat (((g.2.length:Int):Int)-(k:Int))
    omega
 refine af rfl (df p4) (aO rfl (a6 ?_))
 clear bx5
 refine a5 rfl (ma (vb true) (a8 (av (vs:=[vb true]) Try.func12 (.tmp rfl .nil) ?_)))
 have e0:(true:Bool)=(dm g):=by
   exact(lc ⟨by omega,by omega,by omega,by rw[List.take_of_length_le (by omega)] at hinv4;exact hinv4⟩).symm
 exact⟨rb e0,bH.below⟩
end TL
