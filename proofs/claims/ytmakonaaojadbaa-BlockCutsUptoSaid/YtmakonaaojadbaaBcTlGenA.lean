import Derived.Test.YtmakonaaojadbaaBcTlP4
import Derived.Test.YtmakonaaojadbaaProg
import Derived.Test.YtmakonaaojadbaaBcTlAli
set_option linter.all false
set_option maxRecDepth 20000
namespace TL
open Go Go.Proofs
theorem nO:Try.prog.follows .mixedOrders=true:=by kernel_rfl
theorem ah:Tp Try.prog 3 false 1 8 (.int .i64 0):=Tp.of (by kernel_rfl)
theorem bQ:Tp Try.prog 22 false 1 24 (.slice none 0 0):=Tp.of (by kernel_rfl)
theorem aR:Tp Try.prog 56 true 2 16 (.agg #[.int .i64 0,.int .i64 0]):=Tp.of (by kernel_rfl)
theorem iH(w0:World)(g:(Int)×(List Pt))(g_v:Value)(hg_v:Ro w0 g_v g.2):
    Calls Try.prog 36 #[vg [vi g.1,g_v]] w0 (λee w=>ee= .returned (vb (cP g))/\dW w0.heap.size w0 w):=by
 refine aD Try.func36 rfl nq ?_
 have bH:=bx.start w0
 have Rg:=hg_v.sl
 refine ab (a8 rfl (dL rfl (dE c0 (is 1) (1,0) rfl rfl ?_)))
 intro g4 w1 b3 ch2 bx5
 replace bx5:Bx g4 (is 1) w1 b3 [vi g.1,g_v]:=bx5
 refine ma (vb false) (ag (ab (ab (a8 rfl (lx (ae dw rfl rfl rfl rfl) (lx (af ah rfl bx5 rfl) (lx (bp (m:=g.1) (n:=0) rfl rfl) (mv (vb (decide (g.1<0))) ?_))))))))
 by_cases q10:g.1<0
 ·
  refine az (wn (dt q10)) (az (wn (dt q10)) (az (wn (dt q10)) (lw (vb true) (aY rfl (dt q10) rfl) (mv (vb true) (az (wn rfl) (az (wn rfl) (az (wn rfl) (az (wn rfl) (lw (vb true) (aY rfl rfl rfl) (ag (ao rfl rfl (ab ?_))))))))))))
  clear bx5
  refine a8 rfl (ma (vb false) (ag (aQ (vs:=[vb false]) Try.func36 (.tmp rfl .nil) ?_)))
  have e0:(false:Bool)=(cP g):=by
    exact(cB (λh=>by unfold aV at h;omega)).symm
  replace bH:=bH.cn ch2
  exact⟨rb e0,bH.below⟩
 refine lv (vp b3 0) (wy (df q10)) (ae dw rfl rfl rfl rfl) (lv (vi g.1) (wy (df q10)) (af ah rfl bx5 rfl) (lv (vb (decide (1024<g.1))) (wy (df q10)) (eb (m:=g.1) (n:=1024) rfl rfl) (lw (vb (decide (1024<g.1))) (bh rfl (df q10) rfl) (mv (vb (decide (1024<g.1))) ?_))))
 by_cases q15:1024<g.1
 ·
  refine az (wn (dt q15)) (az (wn (dt q15)) (az (wn (dt q15)) (az (wn (dt q15)) (lw (vb true) (aY rfl (dt q15) rfl) (ag (ao rfl rfl (ab ?_)))))))
  clear bx5
  refine a8 rfl (ma (vb false) (ag (aQ (vs:=[vb false]) Try.func36 (.tmp rfl .nil) ?_)))
  have e0:(false:Bool)=(cP g):=by
    exact(cB (λh=>by unfold aV at h;omega)).symm
  replace bH:=bH.cn ch2
  exact⟨rb e0,bH.below⟩
 refine lv (vp b3 1) (wy (df q15)) (ae dw rfl rfl rfl rfl) (lv (g_v) (wy (df q15)) (af bQ rfl bx5 rfl) ?_)
 replace Rg:=Rg.cn ch2
 have len6:=(Rg).small
 refine lv (vi (g.2.length:Int)) (wy (df q15)) (bF eI rfl Rg) (lv (vb (decide (3072<(g.2.length:Int)))) (wy (df q15)) (eb (m:=(g.2.length:Int)) (n:=3072) rfl rfl) (lw (vb (decide (3072<(g.2.length:Int)))) (bh rfl (df q15) rfl) (ag ?_)))
 by_cases p1:3072<(g.2.length:Int)
 ·
  refine ao rfl (dt p1) (ab ?_)
  clear bx5
  refine a8 rfl (ma (vb false) (ag (aQ (vs:=[vb false]) Try.func36 (.tmp rfl .nil) ?_)))
  have e0:(false:Bool)=(cP g):=by
    exact(cB (λh=>by unfold aV at h;omega)).symm
  replace bH:=bH.cn ch2
  exact⟨rb e0,bH.below⟩
 refine aj rfl (df p1) (ay (ab (ab (a8 rfl (lx (ae dw rfl rfl rfl rfl) (lx (af bQ rfl bx5 rfl) (lx (bF eI rfl Rg) (mi 0 (ag (ax ?_))))))))))
 refine bn (σ:=Nat×aG) (λ⟨k,gq⟩ f w=>bx w0 gq w/\f 1=vp b3 0/\f 22=g_v/\f 23=vi (g.2.length:Int)/\f 24=vi ↑k/\Sl gq (is 0) w g_v g.2/\Bx gq (is 1) w b3 [vi g.1,g_v]/\(k:Int)<=((g.2.length:Int):Int)/\(∀e∈List.take k g.2,lP g.1 e)) (λ⟨k,gq⟩=>Int.toNat (((g.2.length:Int):Int)-(k:Int))) (0,g4) ?_ ?_
 · exact⟨bH.cn ch2,rfl,rfl,rfl,rfl,Rg,bx5,by omega,by simp⟩
 clear Rg bx5 bH
 rintro⟨k,g9⟩ f7 w8 ⟨bH,zs1,zs22,zs23,zs24,Rg,bx5,hle_k,hinv4⟩ back4
 refine ab (a8 rfl (lx (bp (m:=↑k) (n:=(g.2.length:Int)) zs24 zs23) (ag (ab ?_))))
 by_cases p4:(k:Int)<(g.2.length:Int)
 ·
  refine ao rfl (dt p4) (ay (ab (ax (ab (a8 rfl (lx (ad (v:=g_v) (i:=↑k) eI rfl zs22 Rg zs24 (by omega) (by omega)) (lw (vg [vi ((gI g.2 ↑k).1),vi ((gI g.2 ↑k).2)]) (eG (v:=g_v) (i:=↑k) aR rfl Rg (by omega) (by omega) rfl) (lo (bG g9 (is 2) (2,0) rfl aR ?_)))))))))
  intro g13 w10 b12 ch11 bx14
  replace bx14:Bx g13 (is 2) w10 b12 [vi 0,vi 0]:=bx14
  refine lo (aJ (cs':=[vi ((gI g.2 ↑k).1),vi ((gI g.2 ↑k).2)]) aR rfl rfl bx14 rfl nq (AllOne.all (.cons rfl (.cons rfl .nil))) rfl ?_)
  intro w15 ch16 bx17
  clear bx14
  refine ag (ab (a8 rfl (lx (aH (ds:=[vi ((gI g.2 ↑k).1),vi ((gI g.2 ↑k).2)]) aR rfl bx17 rfl rfl) (mi 0 (ag (ax (eE (ab ?_))))))))
  clear bx17
  refine a8 rfl (lx (bp (m:=0) (n:=2) rfl rfl) (ag (ab (ao rfl rfl (ay (ab (ax (ab (a8 rfl (lw (vi ((gI g.2 ↑k).1)) (cj d4 ah rfl rfl (by decide) (by decide) rfl) (ai ((gI g.2 ↑k).1) ?_)))))))))))
  refine ag (ab (a8 rfl (mi ((gI g.2 ↑k).1) (lx (bp (m:=(gI g.2 ↑k).1) (n:=0) rfl rfl) (mv (vb (decide (((gI g.2 ↑k).1)<0))) ?_)))))
  by_cases q34:((gI g.2 ↑k).1)<0
  ·
   refine az (wn (dt q34)) (az (wn (dt q34)) (az (wn (dt q34)) (az (wn (dt q34)) (lw (vb true) (aY rfl (dt q34) rfl) (ag (ao rfl rfl (ab ?_)))))))
   clear bx5
   refine a8 rfl (ma (vb false) (ag (aQ (vs:=[vb false]) Try.func36 (.tmp rfl .nil) ?_)))
   have e0:(false:Bool)=(cP g):=by
     exact(cB (λh=>by have h2:=h.2.2.2 _ (bP (xs:=g.2) (i:=↑k) (by omega) ‹_›);unfold lP at h2;omega)).symm
   replace bH:=bH.cn ch11
   replace bH:=bH.ce ch16
   exact⟨rb e0,bH.below⟩
  refine lv (vi ((gI g.2 ↑k).1)) (wy (df q34)) (av rfl) (lv (vp b3 0) (wy (df q34)) (ae dw rfl rfl zs1 rfl) ?_)
  replace bx5:=(bx5.cn ch11).ce ch16
  refine lv (vi g.1) (wy (df q34)) (af ah rfl bx5 rfl) (lv (vb (decide (g.1<=((gI g.2 ↑k).1)))) (wy (df q34)) (gB (m:=(gI g.2 ↑k).1) (n:=g.1) rfl rfl) (lw (vb (decide (g.1<=((gI g.2 ↑k).1)))) (bh rfl (df q34) rfl) (ag ?_)))
  by_cases p9:g.1<=((gI g.2 ↑k).1)
  ·
   refine ao rfl (dt p9) (ab ?_)
   clear bx5
   refine a8 rfl (ma (vb false) (ag (aQ (vs:=[vb false]) Try.func36 (.tmp rfl .nil) ?_)))
   have e0:(false:Bool)=(cP g):=by
     exact(cB (λh=>by have h2:=h.2.2.2 _ (bP (xs:=g.2) (i:=↑k) (by omega) ‹_›);unfold lP at h2;omega)).symm
   replace bH:=bH.cn ch11
   replace bH:=bH.ce ch16
   exact⟨rb e0,bH.below⟩
  refine aj rfl (df p9) (ay (am (a8 rfl (lx (aF (m:=0) (n:=1) rfl rfl (by omega)) (mi 1 (ag (bj (ab (a8 rfl (lx (bp (m:=1) (n:=2) rfl rfl) ?_))))))))))
  refine ag (ab (ao rfl rfl (ay (ab (ax (ab (a8 rfl (lw (vi ((gI g.2 ↑k).2)) (cj d4 ah rfl rfl (by decide) (by decide) rfl) (ai ((gI g.2 ↑k).2) (ag (ab (a8 rfl (mi ((gI g.2 ↑k).2) ?_)))))))))))))
  refine lx (bp (m:=(gI g.2 ↑k).2) (n:=0) rfl rfl) (mv (vb (decide (((gI g.2 ↑k).2)<0))) ?_)
  by_cases q34_18:((gI g.2 ↑k).2)<0
  ·
   refine az (wn (dt q34_18)) (az (wn (dt q34_18)) (az (wn (dt q34_18)) (az (wn (dt q34_18)) (lw (vb true) (aY rfl (dt q34_18) rfl) (ag (ao rfl rfl (ab ?_)))))))
   clear bx5
   refine a8 rfl (ma (vb false) (ag (aQ (vs:=[vb false]) Try.func36 (.tmp rfl .nil) ?_)))
   have e0:(false:Bool)=(cP g):=by
     exact(cB (λh=>by have h2:=h.2.2.2 _ (bP (xs:=g.2) (i:=↑k) (by omega) ‹_›);unfold lP at h2;omega)).symm
   replace bH:=bH.cn ch11
   replace bH:=bH.ce ch16
   exact⟨rb e0,bH.below⟩
  refine lv (vi ((gI g.2 ↑k).2)) (wy (df q34_18)) (av rfl) (lv (vp b3 0) (wy (df q34_18)) (ae dw rfl rfl zs1 rfl) (lv (vi g.1) (wy (df q34_18)) (af ah rfl bx5 rfl) (lv (vb (decide (g.1<=((gI g.2 ↑k).2)))) (wy (df q34_18)) (gB (m:=(gI g.2 ↑k).2) (n:=g.1) rfl rfl) (lw (vb (decide (g.1<=((gI g.2 ↑k).2)))) (bh rfl (df q34_18) rfl) (ag ?_)))))
  by_cases p9_19:g.1<=((gI g.2 ↑k).2)
  ·
   refine ao rfl (dt p9_19) (ab ?_)
   clear bx5
   refine a8 rfl (ma (vb false) (ag (aQ (vs:=[vb false]) Try.func36 (.tmp rfl .nil) ?_)))
   have e0:(false:Bool)=(cP g):=by
     exact(cB (λh=>by have h2:=h.2.2.2 _ (bP (xs:=g.2) (i:=↑k) (by omega) ‹_›);unfold lP at h2;omega)).symm
   replace bH:=bH.cn ch11
   replace bH:=bH.ce ch16
   exact⟨rb e0,bH.below⟩
  refine aj rfl (df p9_19) (ay (am (a8 rfl (lx (aF (m:=1) (n:=1) rfl rfl (by omega)) (mi 2 (ag (bj (ab (a8 rfl (lx (bp (m:=2) (n:=2) rfl rfl) ?_))))))))))
  refine ag (ab (aj rfl rfl (aI rfl (am (a8 rfl (lx (aF (m:=↑k) (n:=1) zs24 rfl (by omega)) (mi ((k:Int)+1) (ag ?_))))))))
  replace bH:=bH.cn ch11
  refine back4 (k+1,g13) _ _ ⟨bH.ce ch16,zs1,zs22,zs23,rfl,(Rg.cn ch11).ce ch16,bx5,by omega,?_⟩ ?_
  · show∀e∈List.take (k+1) g.2,lP g.1 e
    rw[gf ‹_›]
    intro e he
    rcases List.mem_append.1 he with h|h
    · exact hinv4 e h
    · obtain rfl:=List.mem_singleton.1 h
      refine⟨?_,?_⟩<;>omega
  · show Int.toNat (((g.2.length:Int):Int)-((k+1):Int))<Int.toNat (((g.2.length:Int):Int)-(k:Int))
    omega
 refine aj rfl (df p4) (aI rfl (ab ?_))
 clear bx5
 refine a8 rfl (ma (vb true) (ag (aQ (vs:=[vb true]) Try.func36 (.tmp rfl .nil) ?_)))
 have e0:(true:Bool)=(cP g):=by
   exact(kq ⟨by omega,by omega,by omega,by rw[List.take_of_length_le (by omega)] at hinv4;exact hinv4⟩).symm
 exact⟨rb e0,bH.below⟩
theorem o6(w0:World)(g:(Int)×(List Pt))(g_v:Value)(hg_v:Ro w0 g_v g.2):
    Calls Try.prog 16 #[vg [vi g.1,g_v]] w0 (λee w=>ee= .returned (vb (cP g))/\dW w0.heap.size w0 w):=by
 refine aD Try.func16 rfl nq ?_
 have bH:=bx.start w0
 have Rg:=hg_v.sl
 refine ab (a8 rfl (dL rfl (dE c0 (is 1) (1,0) rfl rfl ?_)))
 intro g4 w1 b3 ch2 bx5
 replace bx5:Bx g4 (is 1) w1 b3 [vi g.1,g_v]:=bx5
 refine ma (vb false) (ag (ab (ab (a8 rfl (lx (ae dw rfl rfl rfl rfl) (lx (af ah rfl bx5 rfl) (lx (bp (m:=g.1) (n:=0) rfl rfl) (mv (vb (decide (g.1<0))) ?_))))))))
 by_cases q8:g.1<0
 ·
  refine az (wn (dt q8)) (az (wn (dt q8)) (az (wn (dt q8)) (lw (vb true) (aY rfl (dt q8) rfl) (mv (vb true) (az (wn rfl) (az (wn rfl) (az (wn rfl) (az (wn rfl) (lw (vb true) (aY rfl rfl rfl) (ag (ao rfl rfl (ab ?_))))))))))))
  clear bx5
  refine a8 rfl (ma (vb false) (ag (aQ (vs:=[vb false]) Try.func16 (.tmp rfl .nil) ?_)))
  have e0:(false:Bool)=(cP g):=by
    exact(cB (λh=>by unfold aV at h;omega)).symm
  replace bH:=bH.cn ch2
  exact⟨rb e0,bH.below⟩
 refine lv (vp b3 0) (wy (df q8)) (ae dw rfl rfl rfl rfl) (lv (vi g.1) (wy (df q8)) (af ah rfl bx5 rfl) (lv (vb (decide (1024<g.1))) (wy (df q8)) (eb (m:=g.1) (n:=1024) rfl rfl) (lw (vb (decide (1024<g.1))) (bh rfl (df q8) rfl) (mv (vb (decide (1024<g.1))) ?_))))
 by_cases q13:1024<g.1
 ·
  refine az (wn (dt q13)) (az (wn (dt q13)) (az (wn (dt q13)) (az (wn (dt q13)) (lw (vb true) (aY rfl (dt q13) rfl) (ag (ao rfl rfl (ab ?_)))))))
  clear bx5
  refine a8 rfl (ma (vb false) (ag (aQ (vs:=[vb false]) Try.func16 (.tmp rfl .nil) ?_)))
  have e0:(false:Bool)=(cP g):=by
    exact(cB (λh=>by unfold aV at h;omega)).symm
  replace bH:=bH.cn ch2
  exact⟨rb e0,bH.below⟩
 refine lv (vp b3 1) (wy (df q13)) (ae dw rfl rfl rfl rfl) (lv (g_v) (wy (df q13)) (af bQ rfl bx5 rfl) ?_)
 replace Rg:=Rg.cn ch2
 have len6:=(Rg).small
 refine lv (vi (g.2.length:Int)) (wy (df q13)) (bF eI rfl Rg) (lv (vb (decide (3072<(g.2.length:Int)))) (wy (df q13)) (eb (m:=(g.2.length:Int)) (n:=3072) rfl rfl) (lw (vb (decide (3072<(g.2.length:Int)))) (bh rfl (df q13) rfl) (ag ?_)))
 by_cases p1:3072<(g.2.length:Int)
 ·
  refine ao rfl (dt p1) (ab ?_)
  clear bx5
  refine a8 rfl (ma (vb false) (ag (aQ (vs:=[vb false]) Try.func16 (.tmp rfl .nil) ?_)))
  have e0:(false:Bool)=(cP g):=by
    exact(cB (λh=>by unfold aV at h;omega)).symm
  replace bH:=bH.cn ch2
  exact⟨rb e0,bH.below⟩
 refine aj rfl (df p1) (ay (ab (ab (a8 rfl (ai 0 (ag (ax ?_)))))))
 refine bn (σ:=Nat×aG) (λ⟨k,gq⟩ f w=>bx w0 gq w/\f 1=vp b3 0/\f 3=vi ↑k/\Sl gq (is 0) w g_v g.2/\Bx gq (is 1) w b3 [vi g.1,g_v]/\(k:Int)<=((g.2.length:Int):Int)/\(∀e∈List.take k g.2,lP g.1 e)) (λ⟨k,gq⟩=>Int.toNat (((g.2.length:Int):Int)-(k:Int))) (0,g4) ?_ ?_
 · exact⟨bH.cn ch2,rfl,rfl,Rg,bx5,by omega,by simp⟩
 clear Rg bx5 bH
 rintro⟨k,g9⟩ f7 w8 ⟨bH,zs1,zs3,Rg,bx5,hle_k,hinv4⟩ back4
 refine ab (ab (a8 rfl (mz zs3 (lx (ae dw rfl rfl zs1 rfl) (lx (af bQ rfl bx5 rfl) (lx (bF eI rfl Rg) (lx (bp (m:=↑k) (n:=(g.2.length:Int)) rfl rfl) (ag ?_))))))))
 by_cases p4:(k:Int)<(g.2.length:Int)
 ·
  refine ao rfl (dt p4) (ay (ab (ax (ab (a8 rfl (ai 0 (ag (ax (eE (ab (ab (a8 rfl ?_))))))))))))
  refine mi 0 (lx (bp (m:=0) (n:=2) rfl rfl) (ag (ao rfl rfl (ay (ab (ax (ab (cZ g9 rfl nO (by kernel_rfl) ?_))))))))
  intro w11 ch10
  refine qx (λw' hw'=>ae dw rfl rfl zs1 rfl) ?_
  replace bx5:=bx5.cn ch10
  refine qx (λw' hw'=>af bQ rfl (bx5.bel hw') rfl) (qz zs3 (qm (vi 0) ?_))
  replace Rg:=Rg.cn ch10
  refine qx (λw' hw'=>ad (v:=g_v) (i:=↑k) eI rfl rfl (Rg.bel hw') rfl (by omega) (by omega)) (qx (λw' hw'=>bB d4 rfl rfl rfl (by decide) (by decide) rfl) (qx (λw' hw'=>c7 (v:=g_v) (i:=↑k) ah rfl (Rg.bel hw') (by omega) (by omega) (by decide) rfl) (qx (λw' hw'=>bp (m:=(gI g.2 ↑k).1) (n:=0) rfl rfl) (qm (vb (decide (((gI g.2 ↑k).1)<0))) ?_))))
  by_cases q38:((gI g.2 ↑k).1)<0
  ·
   refine bm (wn (dt q38)) (bm (wn (dt q38)) (bm (wn (dt q38)) (bm (wn (dt q38)) (bm (wn (dt q38)) (bm (wn (dt q38)) (bm (wn (dt q38)) (bm (wn (dt q38)) (bm (wn (dt q38)) (bm (wn (dt q38)) ?_)))))))))
   refine qv (vb true) (λw' hw'=>aY rfl (dt q38) rfl) (dQ ?_)
   intro w12 hc13
   replace hc13:=aZ hc13 g9
   refine ao rfl rfl (ab ?_)
   clear bx5
   refine a8 rfl (ma (vb false) (ag (aQ (vs:=[vb false]) Try.func16 (.tmp rfl .nil) ?_)))
   have e0:(false:Bool)=(cP g):=by
     exact(cB (λh=>by have h2:=h.2.2.2 _ (bP (xs:=g.2) (i:=↑k) (by omega) ‹_›);unfold lP at h2;omega)).symm
   replace bH:=bH.cn ch10
   replace bH:=bH.cn hc13
   exact⟨rb e0,bH.below⟩
  refine bE (v:=vp b3 1) (wy (df q38)) (λw' hw'=>ae dw rfl rfl zs1 rfl) (bE (v:=g_v) (wy (df q38)) (λw' hw'=>af bQ rfl (bx5.bel hw') rfl) (bE (v:=vi ↑k) (wy (df q38)) (λw' hw'=>av zs3) (bE (v:=vi 0) (wy (df q38)) (λw' hw'=>av rfl) (bE (v:=Value.pointer (some (aU g_v 2 (Int.toNat ↑k)))) (wy (df q38)) (λw' hw'=>ad (α:=Pt) (xs:=g.2) (v:=g_v) (i:=↑k) eI rfl rfl (Rg.bel hw') rfl (by omega) (by omega)) ?_))))
  refine bE (v:=Value.pointer (some ⟨(aU g_v 2 (Int.toNat ↑k)).block,(aU g_v 2 (Int.toNat ↑k)).off+0,none⟩)) (wy (df q38)) (λw' hw'=>bB d4 rfl rfl rfl (by decide) (by decide) rfl) (bE (v:=vi ((gI g.2 ↑k).1)) (wy (df q38)) (λw' hw'=>c7 (α:=Pt) (xs:=g.2) (v:=g_v) (i:=↑k) ah rfl (Rg.bel hw') (by omega) (by omega) (by decide) rfl) (bE (v:=vp b3 0) (wy (df q38)) (λw' hw'=>ae dw rfl rfl zs1 rfl) (bE (v:=vi g.1) (wy (df q38)) (λw' hw'=>af ah rfl (bx5.bel hw') rfl) ?_)))
  refine bE (v:=vb (decide (g.1<=((gI g.2 ↑k).1)))) (wy (df q38)) (λw' hw'=>gB (m:=(gI g.2 ↑k).1) (n:=g.1) rfl rfl) (qv (vb (decide (g.1<=((gI g.2 ↑k).1)))) (λw' hw'=>bh rfl (df q38) rfl) (dQ ?_))
  intro w14 hc15
  replace hc15:=aZ hc15 g9
  by_cases p9:g.1<=((gI g.2 ↑k).1)
  ·
   refine ao rfl (dt p9) (ab ?_)
   clear bx5
   refine a8 rfl (ma (vb false) (ag (aQ (vs:=[vb false]) Try.func16 (.tmp rfl .nil) ?_)))
   have e0:(false:Bool)=(cP g):=by
     exact(cB (λh=>by have h2:=h.2.2.2 _ (bP (xs:=g.2) (i:=↑k) (by omega) ‹_›);unfold lP at h2;omega)).symm
   replace bH:=bH.cn ch10
   replace bH:=bH.cn hc15
   exact⟨rb e0,bH.below⟩
  refine aj rfl (df p9) (ay (am (a8 rfl (mi 0 (lx (aF (m:=0) (n:=1) rfl rfl (by omega)) (ai 1 (ag (bj (ab (ab (a8 rfl ?_)))))))))))
  refine mi 1 (lx (bp (m:=1) (n:=2) rfl rfl) (ag (ao rfl rfl (ay (ab (ax (ab (cZ g9 rfl nO (by kernel_rfl) ?_))))))))
  intro w17 ch16
  refine qx (λw' hw'=>ae dw rfl rfl zs1 rfl) ?_
  replace bx5:=(bx5.cn hc15).cn ch16
  refine qx (λw' hw'=>af bQ rfl (bx5.bel hw') rfl) (qz zs3 (qm (vi 1) ?_))
  replace Rg:=(Rg.cn hc15).cn ch16
  refine qx (λw' hw'=>ad (v:=g_v) (i:=↑k) eI rfl rfl (Rg.bel hw') rfl (by omega) (by omega)) (qx (λw' hw'=>bB d4 rfl rfl rfl (by decide) (by decide) rfl) (qx (λw' hw'=>c7 (v:=g_v) (i:=↑k) ah rfl (Rg.bel hw') (by omega) (by omega) (by decide) rfl) (qx (λw' hw'=>bp (m:=(gI g.2 ↑k).2) (n:=0) rfl rfl) (qm (vb (decide (((gI g.2 ↑k).2)<0))) ?_))))
  by_cases q38_18:((gI g.2 ↑k).2)<0
  ·
   refine bm (wn (dt q38_18)) (bm (wn (dt q38_18)) (bm (wn (dt q38_18)) (bm (wn (dt q38_18)) (bm (wn (dt q38_18)) (bm (wn (dt q38_18)) (bm (wn (dt q38_18)) (bm (wn (dt q38_18)) (bm (wn (dt q38_18)) (bm (wn (dt q38_18)) ?_)))))))))
   refine qv (vb true) (λw' hw'=>aY rfl (dt q38_18) rfl) (dQ ?_)
   intro w19 hc20
   replace hc20:=aZ hc20 g9
   refine ao rfl rfl (ab ?_)
   clear bx5
   refine a8 rfl (ma (vb false) (ag (aQ (vs:=[vb false]) Try.func16 (.tmp rfl .nil) ?_)))
   have e0:(false:Bool)=(cP g):=by
     exact(cB (λh=>by have h2:=h.2.2.2 _ (bP (xs:=g.2) (i:=↑k) (by omega) ‹_›);unfold lP at h2;omega)).symm
   have C21:=cg [] (ch10.n.seq (hc15.n.seq (ch16.n.seq hc20.n)))
   replace bH:=bH.ca C21
   exact⟨rb e0,bH.below⟩
  refine bE (v:=vp b3 1) (wy (df q38_18)) (λw' hw'=>ae dw rfl rfl zs1 rfl) (bE (v:=g_v) (wy (df q38_18)) (λw' hw'=>af bQ rfl (bx5.bel hw') rfl) (bE (v:=vi ↑k) (wy (df q38_18)) (λw' hw'=>av zs3) (bE (v:=vi 1) (wy (df q38_18)) (λw' hw'=>av rfl) (bE (v:=Value.pointer (some (aU g_v 2 (Int.toNat ↑k)))) (wy (df q38_18)) (λw' hw'=>ad (α:=Pt) (xs:=g.2) (v:=g_v) (i:=↑k) eI rfl rfl (Rg.bel hw') rfl (by omega) (by omega)) ?_))))
  refine bE (v:=Value.pointer (some ⟨(aU g_v 2 (Int.toNat ↑k)).block,(aU g_v 2 (Int.toNat ↑k)).off+1,none⟩)) (wy (df q38_18)) (λw' hw'=>bB d4 rfl rfl rfl (by decide) (by decide) rfl) (bE (v:=vi ((gI g.2 ↑k).2)) (wy (df q38_18)) (λw' hw'=>c7 (α:=Pt) (xs:=g.2) (v:=g_v) (i:=↑k) ah rfl (Rg.bel hw') (by omega) (by omega) (by decide) rfl) (bE (v:=vp b3 0) (wy (df q38_18)) (λw' hw'=>ae dw rfl rfl zs1 rfl) (bE (v:=vi g.1) (wy (df q38_18)) (λw' hw'=>af ah rfl (bx5.bel hw') rfl) ?_)))
  refine bE (v:=vb (decide (g.1<=((gI g.2 ↑k).2)))) (wy (df q38_18)) (λw' hw'=>gB (m:=(gI g.2 ↑k).2) (n:=g.1) rfl rfl) (qv (vb (decide (g.1<=((gI g.2 ↑k).2)))) (λw' hw'=>bh rfl (df q38_18) rfl) (dQ ?_))
  intro w22 hc23
  replace hc23:=aZ hc23 g9
  by_cases p9_24:g.1<=((gI g.2 ↑k).2)
  ·
   refine ao rfl (dt p9_24) (ab ?_)
   clear bx5
   refine a8 rfl (ma (vb false) (ag (aQ (vs:=[vb false]) Try.func16 (.tmp rfl .nil) ?_)))
   have e0:(false:Bool)=(cP g):=by
     exact(cB (λh=>by have h2:=h.2.2.2 _ (bP (xs:=g.2) (i:=↑k) (by omega) ‹_›);unfold lP at h2;omega)).symm
   have C25:=cg [] (ch10.n.seq (hc15.n.seq (ch16.n.seq hc23.n)))
   replace bH:=bH.ca C25
   exact⟨rb e0,bH.below⟩
  refine aj rfl (df p9_24) (ay (am (a8 rfl (mi 1 (lx (aF (m:=1) (n:=1) rfl rfl (by omega)) (ai 2 (ag (bj (ab (ab (a8 rfl ?_)))))))))))
  refine mi 2 (lx (bp (m:=2) (n:=2) rfl rfl) (ag (aj rfl rfl (aI rfl (am (a8 rfl (mz zs3 (lx (aF (m:=↑k) (n:=1) rfl rfl (by omega)) (ai ((k:Int)+1) ?_)))))))))
  refine ag ?_
  have C26:=cg [] (ch10.n.seq (hc15.n.seq (ch16.n.seq hc23.n)))
  refine back4 (k+1,g9) _ _ ⟨bH.ca C26,zs1,rfl,Rg.cn hc23,bx5.cn hc23,by omega,?_⟩ ?_
  · show∀e∈List.take (k+1) g.2,lP g.1 e
    rw[gf ‹_›]
    intro e he
    rcases List.mem_append.1 he with h|h
    · exact hinv4 e h
    · obtain rfl:=List.mem_singleton.1 h
      refine⟨?_,?_⟩<;>omega
  · show Int.toNat (((g.2.length:Int):Int)-((k+1):Int))<Int.toNat (((g.2.length:Int):Int)-(k:Int))
    omega
 refine aj rfl (df p4) (aI rfl (ab ?_))
 clear bx5
 refine a8 rfl (ma (vb true) (ag (aQ (vs:=[vb true]) Try.func16 (.tmp rfl .nil) ?_)))
 have e0:(true:Bool)=(cP g):=by
   exact(kq ⟨by omega,by omega,by omega,by rw[List.take_of_length_le (by omega)] at hinv4;exact hinv4⟩).symm
 exact⟨rb e0,bH.below⟩
end TL
