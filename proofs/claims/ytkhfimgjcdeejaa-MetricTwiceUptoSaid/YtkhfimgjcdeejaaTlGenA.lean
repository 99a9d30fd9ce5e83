import Derived.Test.YtkhfimgjcdeejaaTlP2
import Derived.Test.YtkhfimgjcdeejaaProg
import Derived.Test.YtkhfimgjcdeejaaTlAli
set_option linter.all false
set_option maxRecDepth 20000
namespace TL
open Go Go.Proofs
theorem lW:Try.prog.follows .mixedOrders=true:=by kernel_rfl
theorem dU:Tp Try.prog 3 false 1 8 (.int .i64 0):=Tp.of (by kernel_rfl)
theorem cO:Tp Try.prog 27 false 1 24 (.slice none 0 0):=Tp.of (by kernel_rfl)
theorem ep:Tp Try.prog 41 true 2 16 (.agg #[.int .i64 0,.int .i64 0]):=Tp.of (by kernel_rfl)
theorem oh(w0:World)(g:(Int)×(List Pt))(g_v:Value)(hg_v:Ro w0 g_v g.2):
    Calls Try.prog 35 #[vg [vi g.1,g_v]] w0 (λee w=>ee= .returned (vb (cK g))/\cG w0.heap.size w0 w):=by
 refine aK Try.func35 rfl nq ?_
 have bH:=bu.start w0
 have Rg:=hg_v.sl
 refine a8 (a7 rfl (cN rfl (bC c0 (is 1) (1,0) rfl rfl ?_)))
 intro g4 w1 b3 ch2 bx5
 replace bx5:Bx g4 (is 1) w1 b3 [vi g.1,g_v]:=bx5
 refine ma (vb false) (ab (a8 (a8 (a7 rfl (lx (a9 fO rfl rfl rfl rfl) (lx (aa dU rfl bx5 rfl) (lx (bc (m:=g.1) (n:=0) rfl rfl) (mv (vb (decide (g.1<0))) ?_))))))))
 by_cases q10:g.1<0
 ·
  refine ak (wn (dt q10)) (ak (wn (dt q10)) (ak (wn (dt q10)) (lw (vb true) (aM rfl (dt q10) rfl) (mv (vb true) (ak (wn rfl) (ak (wn rfl) (ak (wn rfl) (ak (wn rfl) (lw (vb true) (aM rfl rfl rfl) (ab (ag rfl rfl (a8 ?_))))))))))))
  clear bx5
  refine a7 rfl (ma (vb false) (ab (aw (vs:=[vb false]) Try.func35 (.tmp rfl .nil) ?_)))
  have e0:(false:Bool)=(cK g):=by
    exact(bU (λh=>by unfold dd at h;omega)).symm
  replace bH:=bH.cn ch2
  exact⟨rb e0,bH.below⟩
 refine lv (vp b3 0) (wy (df q10)) (a9 fO rfl rfl rfl rfl) (lv (vi g.1) (wy (df q10)) (aa dU rfl bx5 rfl) (lv (vb (decide (1024<g.1))) (wy (df q10)) (ez (m:=g.1) (n:=1024) rfl rfl) (lw (vb (decide (1024<g.1))) (aS rfl (df q10) rfl) (mv (vb (decide (1024<g.1))) ?_))))
 by_cases q15:1024<g.1
 ·
  refine ak (wn (dt q15)) (ak (wn (dt q15)) (ak (wn (dt q15)) (ak (wn (dt q15)) (lw (vb true) (aM rfl (dt q15) rfl) (ab (ag rfl rfl (a8 ?_)))))))
  clear bx5
  refine a7 rfl (ma (vb false) (ab (aw (vs:=[vb false]) Try.func35 (.tmp rfl .nil) ?_)))
  have e0:(false:Bool)=(cK g):=by
    exact(bU (λh=>by unfold dd at h;omega)).symm
  replace bH:=bH.cn ch2
  exact⟨rb e0,bH.below⟩
 refine lv (vp b3 1) (wy (df q15)) (a9 fO rfl rfl rfl rfl) (lv (g_v) (wy (df q15)) (aa cO rfl bx5 rfl) ?_)
 replace Rg:=Rg.cn ch2
 have len6:=(Rg).small
 refine lv (vi (g.2.length:Int)) (wy (df q15)) (bO iJ rfl Rg) (lv (vb (decide (3072<(g.2.length:Int)))) (wy (df q15)) (ez (m:=(g.2.length:Int)) (n:=3072) rfl rfl) (lw (vb (decide (3072<(g.2.length:Int)))) (aS rfl (df q15) rfl) (ab ?_)))
 by_cases p1:3072<(g.2.length:Int)
 ·
  refine ag rfl (dt p1) (a8 ?_)
  clear bx5
  refine a7 rfl (ma (vb false) (ab (aw (vs:=[vb false]) Try.func35 (.tmp rfl .nil) ?_)))
  have e0:(false:Bool)=(cK g):=by
    exact(bU (λh=>by unfold dd at h;omega)).symm
  replace bH:=bH.cn ch2
  exact⟨rb e0,bH.below⟩
 refine ah rfl (df p1) (au (a8 (a8 (a7 rfl (lx (a9 fO rfl rfl rfl rfl) (lx (aa cO rfl bx5 rfl) (lx (bO iJ rfl Rg) (mi 0 (ab (aC ?_))))))))))
 refine bF (σ:=Nat×aV) (λ⟨k,gq⟩ f w=>bu w0 gq w/\f 1=vp b3 0/\f 22=g_v/\f 23=vi (g.2.length:Int)/\f 24=vi ↑k/\Sl gq (is 0) w g_v g.2/\Bx gq (is 1) w b3 [vi g.1,g_v]/\(k:Int)<=((g.2.length:Int):Int)/\(∀e∈List.take k g.2,lk g.1 e)) (λ⟨k,gq⟩=>Int.toNat (((g.2.length:Int):Int)-(k:Int))) (0,g4) ?_ ?_
 · exact⟨bH.cn ch2,rfl,rfl,rfl,rfl,Rg,bx5,by omega,by simp⟩
 clear Rg bx5 bH
 rintro⟨k,g9⟩ f7 w8 ⟨bH,zs1,zs22,zs23,zs24,Rg,bx5,hle_k,hinv4⟩ back4
 refine a8 (a7 rfl (lx (bc (m:=↑k) (n:=(g.2.length:Int)) zs24 zs23) (ab (a8 ?_))))
 by_cases p4:(k:Int)<(g.2.length:Int)
 ·
  refine ag rfl (dt p4) (au (a8 (aC (a8 (a7 rfl (lx (af (v:=g_v) (i:=↑k) iJ rfl zs22 Rg zs24 (by omega) (by omega)) (lw (vg [vi ((gI g.2 ↑k).1),vi ((gI g.2 ↑k).2)]) (aT (v:=g_v) (i:=↑k) ep rfl Rg (by omega) (by omega) rfl) (lo (bo g9 (is 2) (2,0) rfl ep ?_)))))))))
  intro g13 w10 b12 ch11 bx14
  replace bx14:Bx g13 (is 2) w10 b12 [vi 0,vi 0]:=bx14
  refine lo (ao (cs':=[vi ((gI g.2 ↑k).1),vi ((gI g.2 ↑k).2)]) ep rfl rfl bx14 rfl nq (AllOne.all (.cons rfl (.cons rfl .nil))) rfl ?_)
  intro w15 ch16 bx17
  clear bx14
  refine ab (a8 (a7 rfl (lx (ae (ds:=[vi ((gI g.2 ↑k).1),vi ((gI g.2 ↑k).2)]) ep rfl bx17 rfl rfl) (mi 0 (ab (aC (dQ (a8 ?_))))))))
  clear bx17
  refine a7 rfl (lx (bc (m:=0) (n:=2) rfl rfl) (ab (a8 (ag rfl rfl (au (a8 (aC (a8 (a7 rfl (lw (vi ((gI g.2 ↑k).1)) (cD kr dU rfl rfl (by decide) (by decide) rfl) (ai ((gI g.2 ↑k).1) ?_)))))))))))
  refine ab (a8 (a7 rfl (mi ((gI g.2 ↑k).1) (lx (bc (m:=(gI g.2 ↑k).1) (n:=0) rfl rfl) (mv (vb (decide (((gI g.2 ↑k).1)<0))) ?_)))))
  by_cases q34:((gI g.2 ↑k).1)<0
  ·
   refine ak (wn (dt q34)) (ak (wn (dt q34)) (ak (wn (dt q34)) (ak (wn (dt q34)) (lw (vb true) (aM rfl (dt q34) rfl) (ab (ag rfl rfl (a8 ?_)))))))
   clear bx5
   refine a7 rfl (ma (vb false) (ab (aw (vs:=[vb false]) Try.func35 (.tmp rfl .nil) ?_)))
   have e0:(false:Bool)=(cK g):=by
     exact(bU (λh=>by have h2:=h.2.2.2 _ (bl (xs:=g.2) (i:=↑k) (by omega) ‹_›);unfold lk at h2;omega)).symm
   replace bH:=bH.cn ch11
   replace bH:=bH.ce ch16
   exact⟨rb e0,bH.below⟩
  refine lv (vi ((gI g.2 ↑k).1)) (wy (df q34)) (aR rfl) (lv (vp b3 0) (wy (df q34)) (a9 fO rfl rfl zs1 rfl) ?_)
  replace bx5:=(bx5.cn ch11).ce ch16
  refine lv (vi g.1) (wy (df q34)) (aa dU rfl bx5 rfl) (lv (vb (decide (g.1<=((gI g.2 ↑k).1)))) (wy (df q34)) (eL (m:=(gI g.2 ↑k).1) (n:=g.1) rfl rfl) (lw (vb (decide (g.1<=((gI g.2 ↑k).1)))) (aS rfl (df q34) rfl) (ab ?_)))
  by_cases p9:g.1<=((gI g.2 ↑k).1)
  ·
   refine ag rfl (dt p9) (a8 ?_)
   clear bx5
   refine a7 rfl (ma (vb false) (ab (aw (vs:=[vb false]) Try.func35 (.tmp rfl .nil) ?_)))
   have e0:(false:Bool)=(cK g):=by
     exact(bU (λh=>by have h2:=h.2.2.2 _ (bl (xs:=g.2) (i:=↑k) (by omega) ‹_›);unfold lk at h2;omega)).symm
   replace bH:=bH.cn ch11
   replace bH:=bH.ce ch16
   exact⟨rb e0,bH.below⟩
  refine ah rfl (df p9) (au (ap (a7 rfl (lx (ba (m:=0) (n:=1) rfl rfl (by omega)) (mi 1 (ab (aN (a8 (a7 rfl (lx (bc (m:=1) (n:=2) rfl rfl) ?_))))))))))
  refine ab (a8 (ag rfl rfl (au (a8 (aC (a8 (a7 rfl (lw (vi ((gI g.2 ↑k).2)) (cD kr dU rfl rfl (by decide) (by decide) rfl) (ai ((gI g.2 ↑k).2) (ab (a8 (a7 rfl (mi ((gI g.2 ↑k).2) ?_)))))))))))))
  refine lx (bc (m:=(gI g.2 ↑k).2) (n:=0) rfl rfl) (mv (vb (decide (((gI g.2 ↑k).2)<0))) ?_)
  by_cases q34_18:((gI g.2 ↑k).2)<0
  ·
   refine ak (wn (dt q34_18)) (ak (wn (dt q34_18)) (ak (wn (dt q34_18)) (ak (wn (dt q34_18)) (lw (vb true) (aM rfl (dt q34_18) rfl) (ab (ag rfl rfl (a8 ?_)))))))
   clear bx5
   refine a7 rfl (ma (vb false) (ab (aw (vs:=[vb false]) Try.func35 (.tmp rfl .nil) ?_)))
   have e0:(false:Bool)=(cK g):=by
     exact(bU (λh=>by have h2:=h.2.2.2 _ (bl (xs:=g.2) (i:=↑k) (by omega) ‹_›);unfold lk at h2;omega)).symm
   replace bH:=bH.cn ch11
   replace bH:=bH.ce ch16
   exact⟨rb e0,bH.below⟩
  refine lv (vi ((gI g.2 ↑k).2)) (wy (df q34_18)) (aR rfl) (lv (vp b3 0) (wy (df q34_18)) (a9 fO rfl rfl zs1 rfl) (lv (vi g.1) (wy (df q34_18)) (aa dU rfl bx5 rfl) (lv (vb (decide (g.1<=((gI g.2 ↑k).2)))) (wy (df q34_18)) (eL (m:=(gI g.2 ↑k).2) (n:=g.1) rfl rfl) (lw (vb (decide (g.1<=((gI g.2 ↑k).2)))) (aS rfl (df q34_18) rfl) (ab ?_)))))
  by_cases p9_19:g.1<=((gI g.2 ↑k).2)
  ·
   refine ag rfl (dt p9_19) (a8 ?_)
   clear bx5
   refine a7 rfl (ma (vb false) (ab (aw (vs:=[vb false]) Try.func35 (.tmp rfl .nil) ?_)))
   have e0:(false:Bool)=(cK g):=by
     exact(bU (λh=>by have h2:=h.2.2.2 _ (bl (xs:=g.2) (i:=↑k) (by omega) ‹_›);unfold lk at h2;omega)).symm
   replace bH:=bH.cn ch11
   replace bH:=bH.ce ch16
   exact⟨rb e0,bH.below⟩
  refine ah rfl (df p9_19) (au (ap (a7 rfl (lx (ba (m:=1) (n:=1) rfl rfl (by omega)) (mi 2 (ab (aN (a8 (a7 rfl (lx (bc (m:=2) (n:=2) rfl rfl) ?_))))))))))
  refine ab (a8 (ah rfl rfl (aQ rfl (ap (a7 rfl (lx (ba (m:=↑k) (n:=1) zs24 rfl (by omega)) (mi ((k:Int)+1) (ab ?_))))))))
  replace bH:=bH.cn ch11
  refine back4 (k+1,g13) _ _ ⟨bH.ce ch16,zs1,zs22,zs23,rfl,(Rg.cn ch11).ce ch16,bx5,by omega,?_⟩ ?_
  · show∀e∈List.take (k+1) g.2,lk g.1 e
    rw[dn ‹_›]
    intro e he
    rcases List.mem_append.1 he with h|h
    · exact hinv4 e h
    · obtain rfl:=List.mem_singleton.1 h
      refine⟨?_,?_⟩<;>omega
  · show Int.toNat (((g.2.length:Int):Int)-((k+1):Int))<Int.toNat (((g.2.length:Int):Int)-(k:Int))
    omega
 refine ah rfl (df p4) (aQ rfl (a8 ?_))
 clear bx5
 refine a7 rfl (ma (vb true) (ab (aw (vs:=[vb true]) Try.func35 (.tmp rfl .nil) ?_)))
 have e0:(true:Bool)=(cK g):=by
   exact(ja ⟨by omega,by omega,by omega,by rw[List.take_of_length_le (by omega)] at hinv4;exact hinv4⟩).symm
 exact⟨rb e0,bH.below⟩
theorem mp(w0:World)(g:(Int)×(List Pt))(g_v:Value)(hg_v:Ro w0 g_v g.2):
    Calls Try.prog 12 #[vg [vi g.1,g_v]] w0 (λee w=>ee= .returned (vb (cK g))/\cG w0.heap.size w0 w):=by
 refine aK Try.func12 rfl nq ?_
 have bH:=bu.start w0
 have Rg:=hg_v.sl
 refine a8 (a7 rfl (cN rfl (bC c0 (is 1) (1,0) rfl rfl ?_)))
 intro g4 w1 b3 ch2 bx5
 replace bx5:Bx g4 (is 1) w1 b3 [vi g.1,g_v]:=bx5
 refine ma (vb false) (ab (a8 (a8 (a7 rfl (lx (a9 fO rfl rfl rfl rfl) (lx (aa dU rfl bx5 rfl) (lx (bc (m:=g.1) (n:=0) rfl rfl) (mv (vb (decide (g.1<0))) ?_))))))))
 by_cases q8:g.1<0
 ·
  refine ak (wn (dt q8)) (ak (wn (dt q8)) (ak (wn (dt q8)) (lw (vb true) (aM rfl (dt q8) rfl) (mv (vb true) (ak (wn rfl) (ak (wn rfl) (ak (wn rfl) (ak (wn rfl) (lw (vb true) (aM rfl rfl rfl) (ab (ag rfl rfl (a8 ?_))))))))))))
  clear bx5
  refine a7 rfl (ma (vb false) (ab (aw (vs:=[vb false]) Try.func12 (.tmp rfl .nil) ?_)))
  have e0:(false:Bool)=(cK g):=by
    exact(bU (λh=>by unfold dd at h;omega)).symm
  replace bH:=bH.cn ch2
  exact⟨rb e0,bH.below⟩
 refine lv (vp b3 0) (wy (df q8)) (a9 fO rfl rfl rfl rfl) (lv (vi g.1) (wy (df q8)) (aa dU rfl bx5 rfl) (lv (vb (decide (1024<g.1))) (wy (df q8)) (ez (m:=g.1) (n:=1024) rfl rfl) (lw (vb (decide (1024<g.1))) (aS rfl (df q8) rfl) (mv (vb (decide (1024<g.1))) ?_))))
 by_cases q13:1024<g.1
 ·
  refine ak (wn (dt q13)) (ak (wn (dt q13)) (ak (wn (dt q13)) (ak (wn (dt q13)) (lw (vb true) (aM rfl (dt q13) rfl) (ab (ag rfl rfl (a8 ?_)))))))
  clear bx5
  refine a7 rfl (ma (vb false) (ab (aw (vs:=[vb false]) Try.func12 (.tmp rfl .nil) ?_)))
  have e0:(false:Bool)=(cK g):=by
    exact(bU (λh=>by unfold dd at h;omega)).symm
  replace bH:=bH.cn ch2
  exact⟨rb e0,bH.below⟩
 refine lv (vp b3 1) (wy (df q13)) (a9 fO rfl rfl rfl rfl) (lv (g_v) (wy (df q13)) (aa cO rfl bx5 rfl) ?_)
 replace Rg:=Rg.cn ch2
 have len6:=(Rg).small
 refine lv (vi (g.2.length:Int)) (wy (df q13)) (bO iJ rfl Rg) (lv (vb (decide (3072<(g.2.length:Int)))) (wy (df q13)) (ez (m:=(g.2.length:Int)) (n:=3072) rfl rfl) (lw (vb (decide (3072<(g.2.length:Int)))) (aS rfl (df q13) rfl) (ab ?_)))
 by_cases p1:3072<(g.2.length:Int)
 ·
  refine ag rfl (dt p1) (a8 ?_)
  clear bx5
  refine a7 rfl (ma (vb false) (ab (aw (vs:=[vb false]) Try.func12 (.tmp rfl .nil) ?_)))
  have e0:(false:Bool)=(cK g):=by
    exact(bU (λh=>by unfold dd at h;omega)).symm
  replace bH:=bH.cn ch2
  exact⟨rb e0,bH.below⟩
 refine ah rfl (df p1) (au (a8 (a8 (a7 rfl (ai 0 (ab (aC ?_)))))))
 refine bF (σ:=Nat×aV) (λ⟨k,gq⟩ f w=>bu w0 gq w/\f 1=vp b3 0/\f 3=vi ↑k/\Sl gq (is 0) w g_v g.2/\Bx gq (is 1) w b3 [vi g.1,g_v]/\(k:Int)<=((g.2.length:Int):Int)/\(∀e∈List.take k g.2,lk g.1 e)) (λ⟨k,gq⟩=>Int.toNat (((g.2.length:Int):Int)-(k:Int))) (0,g4) ?_ ?_
 · exact⟨bH.cn ch2,rfl,rfl,Rg,bx5,by omega,by simp⟩
 clear Rg bx5 bH
 rintro⟨k,g9⟩ f7 w8 ⟨bH,zs1,zs3,Rg,bx5,hle_k,hinv4⟩ back4
 refine a8 (a8 (a7 rfl (mz zs3 (lx (a9 fO rfl rfl zs1 rfl) (lx (aa cO rfl bx5 rfl) (lx (bO iJ rfl Rg) (lx (bc (m:=↑k) (n:=(g.2.length:Int)) rfl rfl) (ab ?_))))))))
 by_cases p4:(k:Int)<(g.2.length:Int)
 ·
  refine ag rfl (dt p4) (au (a8 (aC (a8 (a7 rfl (ai 0 (ab (aC (dQ (a8 (a8 (a7 rfl ?_))))))))))))
  refine mi 0 (lx (bc (m:=0) (n:=2) rfl rfl) (ab (ag rfl rfl (au (a8 (aC (a8 (bq g9 rfl lW (by kernel_rfl) ?_))))))))
  intro w11 ch10
  refine qx (λw' hw'=>a9 fO rfl rfl zs1 rfl) ?_
  replace bx5:=bx5.cn ch10
  refine qx (λw' hw'=>aa cO rfl (bx5.bel hw') rfl) (qz zs3 (qm (vi 0) ?_))
  replace Rg:=Rg.cn ch10
  refine qx (λw' hw'=>af (v:=g_v) (i:=↑k) iJ rfl rfl (Rg.bel hw') rfl (by omega) (by omega)) (qx (λw' hw'=>dm kr rfl rfl rfl (by decide) (by decide) rfl) (qx (λw' hw'=>cX (v:=g_v) (i:=↑k) dU rfl (Rg.bel hw') (by omega) (by omega) (by decide) rfl) (qx (λw' hw'=>bc (m:=(gI g.2 ↑k).1) (n:=0) rfl rfl) (qm (vb (decide (((gI g.2 ↑k).1)<0))) ?_))))
  by_cases q38:((gI g.2 ↑k).1)<0
  ·
   refine aU (wn (dt q38)) (aU (wn (dt q38)) (aU (wn (dt q38)) (aU (wn (dt q38)) (aU (wn (dt q38)) (aU (wn (dt q38)) (aU (wn (dt q38)) (aU (wn (dt q38)) (aU (wn (dt q38)) (aU (wn (dt q38)) ?_)))))))))
   refine qv (vb true) (λw' hw'=>aM rfl (dt q38) rfl) (bT ?_)
   intro w12 hc13
   replace hc13:=am hc13 g9
   refine ag rfl rfl (a8 ?_)
   clear bx5
   refine a7 rfl (ma (vb false) (ab (aw (vs:=[vb false]) Try.func12 (.tmp rfl .nil) ?_)))
   have e0:(false:Bool)=(cK g):=by
     exact(bU (λh=>by have h2:=h.2.2.2 _ (bl (xs:=g.2) (i:=↑k) (by omega) ‹_›);unfold lk at h2;omega)).symm
   replace bH:=bH.cn ch10
   replace bH:=bH.cn hc13
   exact⟨rb e0,bH.below⟩
  refine bv (v:=vp b3 1) (wy (df q38)) (λw' hw'=>a9 fO rfl rfl zs1 rfl) (bv (v:=g_v) (wy (df q38)) (λw' hw'=>aa cO rfl (bx5.bel hw') rfl) (bv (v:=vi ↑k) (wy (df q38)) (λw' hw'=>aR zs3) (bv (v:=vi 0) (wy (df q38)) (λw' hw'=>aR rfl) (bv (v:=Value.pointer (some (bb g_v 2 (Int.toNat ↑k)))) (wy (df q38)) (λw' hw'=>af (α:=Pt) (xs:=g.2) (v:=g_v) (i:=↑k) iJ rfl rfl (Rg.bel hw') rfl (by omega) (by omega)) ?_))))
  refine bv (v:=Value.pointer (some ⟨(bb g_v 2 (Int.toNat ↑k)).block,(bb g_v 2 (Int.toNat ↑k)).off+0,none⟩)) (wy (df q38)) (λw' hw'=>dm kr rfl rfl rfl (by decide) (by decide) rfl) (bv (v:=vi ((gI g.2 ↑k).1)) (wy (df q38)) (λw' hw'=>cX (α:=Pt) (xs:=g.2) (v:=g_v) (i:=↑k) dU rfl (Rg.bel hw') (by omega) (by omega) (by decide) rfl) (bv (v:=vp b3 0) (wy (df q38)) (λw' hw'=>a9 fO rfl rfl zs1 rfl) (bv (v:=vi g.1) (wy (df q38)) (λw' hw'=>aa dU rfl (bx5.bel hw') rfl) ?_)))
  refine bv (v:=vb (decide (g.1<=((gI g.2 ↑k).1)))) (wy (df q38)) (λw' hw'=>eL (m:=(gI g.2 ↑k).1) (n:=g.1) rfl rfl) (qv (vb (decide (g.1<=((gI g.2 ↑k).1)))) (λw' hw'=>aS rfl (df q38) rfl) (bT ?_))
  intro w14 hc15
  replace hc15:=am hc15 g9
  by_cases p9:g.1<=((gI g.2 ↑k).1)
  ·
   refine ag rfl (dt p9) (a8 ?_)
   clear bx5
   refine a7 rfl (ma (vb false) (ab (aw (vs:=[vb false]) Try.func12 (.tmp rfl .nil) ?_)))
   have e0:(false:Bool)=(cK g):=by
     exact(bU (λh=>by have h2:=h.2.2.2 _ (bl (xs:=g.2) (i:=↑k) (by omega) ‹_›);unfold lk at h2;omega)).symm
   replace bH:=bH.cn ch10
   replace bH:=bH.cn hc15
   exact⟨rb e0,bH.below⟩
  refine ah rfl (df p9) (au (ap (a7 rfl (mi 0 (lx (ba (m:=0) (n:=1) rfl rfl (by omega)) (ai 1 (ab (aN (a8 (a8 (a7 rfl ?_)))))))))))
  refine mi 1 (lx (bc (m:=1) (n:=2) rfl rfl) (ab (ag rfl rfl (au (a8 (aC (a8 (bq g9 rfl lW (by kernel_rfl) ?_))))))))
  intro w17 ch16
  refine qx (λw' hw'=>a9 fO rfl rfl zs1 rfl) ?_
  replace bx5:=(bx5.cn hc15).cn ch16
  refine qx (λw' hw'=>aa cO rfl (bx5.bel hw') rfl) (qz zs3 (qm (vi 1) ?_))
  replace Rg:=(Rg.cn hc15).cn ch16
  refine qx (λw' hw'=>af (v:=g_v) (i:=↑k) iJ rfl rfl (Rg.bel hw') rfl (by omega) (by omega)) (qx (λw' hw'=>dm kr rfl rfl rfl (by decide) (by decide) rfl) (qx (λw' hw'=>cX (v:=g_v) (i:=↑k) dU rfl (Rg.bel hw') (by omega) (by omega) (by decide) rfl) (qx (λw' hw'=>bc (m:=(gI g.2 ↑k).2) (n:=0) rfl rfl) (qm (vb (decide (((gI g.2 ↑k).2)<0))) ?_))))
  by_cases q38_18:((gI g.2 ↑k).2)<0
  ·
   refine aU (wn (dt q38_18)) (aU (wn (dt q38_18)) (aU (wn (dt q38_18)) (aU (wn (dt q38_18)) (aU (wn (dt q38_18)) (aU (wn (dt q38_18)) (aU (wn (dt q38_18)) (aU (wn (dt q38_18)) (aU (wn (dt q38_18)) (aU (wn (dt q38_18)) ?_)))))))))
   refine qv (vb true) (λw' hw'=>aM rfl (dt q38_18) rfl) (bT ?_)
   intro w19 hc20
   replace hc20:=am hc20 g9
   refine ag rfl rfl (a8 ?_)
   clear bx5
   refine a7 rfl (ma (vb false) (ab (aw (vs:=[vb false]) Try.func12 (.tmp rfl .nil) ?_)))
   have e0:(false:Bool)=(cK g):=by
     exact(bU (λh=>by have h2:=h.2.2.2 _ (bl (xs:=g.2) (i:=↑k) (by omega) ‹_›);unfold lk at h2;omega)).symm
   have C21:=cg [] (ch10.n.seq (hc15.n.seq (ch16.n.seq hc20.n)))
   replace bH:=bH.ca C21
   exact⟨rb e0,bH.below⟩
  refine bv (v:=vp b3 1) (wy (df q38_18)) (λw' hw'=>a9 fO rfl rfl zs1 rfl) (bv (v:=g_v) (wy (df q38_18)) (λw' hw'=>aa cO rfl (bx5.bel hw') rfl) (bv (v:=vi ↑k) (wy (df q38_18)) (λw' hw'=>aR zs3) (bv (v:=vi 1) (wy (df q38_18)) (λw' hw'=>aR rfl) (bv (v:=Value.pointer (some (bb g_v 2 (Int.toNat ↑k)))) (wy (df q38_18)) (λw' hw'=>af (α:=Pt) (xs:=g.2) (v:=g_v) (i:=↑k) iJ rfl rfl (Rg.bel hw') rfl (by omega) (by omega)) ?_))))
  refine bv (v:=Value.pointer (some ⟨(bb g_v 2 (Int.toNat ↑k)).block,(bb g_v 2 (Int.toNat ↑k)).off+1,none⟩)) (wy (df q38_18)) (λw' hw'=>dm kr rfl rfl rfl (by decide) (by decide) rfl) (bv (v:=vi ((gI g.2 ↑k).2)) (wy (df q38_18)) (λw' hw'=>cX (α:=Pt) (xs:=g.2) (v:=g_v) (i:=↑k) dU rfl (Rg.bel hw') (by omega) (by omega) (by decide) rfl) (bv (v:=vp b3 0) (wy (df q38_18)) (λw' hw'=>a9 fO rfl rfl zs1 rfl) (bv (v:=vi g.1) (wy (df q38_18)) (λw' hw'=>aa dU rfl (bx5.bel hw') rfl) ?_)))
  refine bv (v:=vb (decide (g.1<=((gI g.2 ↑k).2)))) (wy (df q38_18)) (λw' hw'=>eL (m:=(gI g.2 ↑k).2) (n:=g.1) rfl rfl) (qv (vb (decide (g.1<=((gI g.2 ↑k).2)))) (λw' hw'=>aS rfl (df q38_18) rfl) (bT ?_))
  intro w22 hc23
  replace hc23:=am hc23 g9
  by_cases p9_24:g.1<=((gI g.2 ↑k).2)
  ·
   refine ag rfl (dt p9_24) (a8 ?_)
   clear bx5
   refine a7 rfl (ma (vb false) (ab (aw (vs:=[vb false]) Try.func12 (.tmp rfl .nil) ?_)))
   have e0:(false:Bool)=(cK g):=by
     exact(bU (λh=>by have h2:=h.2.2.2 _ (bl (xs:=g.2) (i:=↑k) (by omega) ‹_›);unfold lk at h2;omega)).symm
   have C25:=cg [] (ch10.n.seq (hc15.n.seq (ch16.n.seq hc23.n)))
   replace bH:=bH.ca C25
   exact⟨rb e0,bH.below⟩
  refine ah rfl (df p9_24) (au (ap (a7 rfl (mi 1 (lx (ba (m:=1) (n:=1) rfl rfl (by omega)) (ai 2 (ab (aN (a8 (a8 (a7 rfl ?_)))))))))))
  refine mi 2 (lx (bc (m:=2) (n:=2) rfl rfl) (ab (ah rfl rfl (aQ rfl (ap (a7 rfl (mz zs3 (lx (ba (m:=↑k) (n:=1) rfl rfl (by omega)) (ai ((k:Int)+1) ?_)))))))))
  refine ab ?_
  have C26:=cg [] (ch10.n.seq (hc15.n.seq (ch16.n.seq hc23.n)))
  refine back4 (k+1,g9) _ _ ⟨bH.ca C26,zs1,rfl,Rg.cn hc23,bx5.cn hc23,by omega,?_⟩ ?_
  · show∀e∈List.take (k+1) g.2,lk g.1 e
    rw[dn ‹_›]
    intro e he
    rcases List.mem_append.1 he with h|h
    · exact hinv4 e h
    · obtain rfl:=List.mem_singleton.1 h
      refine⟨?_,?_⟩<;>omega
  · show Int.toNat (((g.2.length:Int):Int)-((k+1):Int))<Int.toNat (((g.2.length:Int):Int)-(k:Int))
    omega
 refine ah rfl (df p4) (aQ rfl (a8 ?_))
 clear bx5
 refine a7 rfl (ma (vb true) (ab (aw (vs:=[vb true]) Try.func12 (.tmp rfl .nil) ?_)))
 have e0:(true:Bool)=(cK g):=by
   exact(ja ⟨by omega,by omega,by omega,by rw[List.take_of_length_le (by omega)] at hinv4;exact hinv4⟩).symm
 exact⟨rb e0,bH.below⟩
end TL
