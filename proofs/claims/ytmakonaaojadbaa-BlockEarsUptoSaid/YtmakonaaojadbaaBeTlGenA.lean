import Derived.Test.YtmakonaaojadbaaBeTlP4
import Derived.Test.YtmakonaaojadbaaProg
import Derived.Test.YtmakonaaojadbaaBeTlAli
set_option linter.all false
set_option maxRecDepth 20000
namespace TL
open Go Go.Proofs
theorem lF:Try.prog.follows .mixedOrders=true:=by kernel_rfl
theorem ah:Tp Try.prog 3 false 1 8 (.int .i64 0):=Tp.of (by kernel_rfl)
theorem bT:Tp Try.prog 22 false 1 24 (.slice none 0 0):=Tp.of (by kernel_rfl)
theorem aS:Tp Try.prog 56 true 2 16 (.agg #[.int .i64 0,.int .i64 0]):=Tp.of (by kernel_rfl)
theorem jh(w0:World)(g:(Int)×(List Pt))(g_v:Value)(hg_v:Ro w0 g_v g.2):
    Calls Try.prog 36 #[vg [vi g.1,g_v]] w0 (λee w=>ee= .returned (vb (da g))/\eB w0.heap.size w0 w):=by
 refine aB Try.func36 rfl nq ?_
 have bH:=bp.start w0
 have Rg:=hg_v.sl
 refine aa (a8 rfl (du rfl (dk c0 (is 1) (1,0) rfl rfl ?_)))
 intro g4 w1 b3 ch2 bx5
 replace bx5:Bx g4 (is 1) w1 b3 [vi g.1,g_v]:=bx5
 refine ma (vb false) (ag (aa (aa (a8 rfl (lx (ae dD rfl rfl rfl rfl) (lx (af ah rfl bx5 rfl) (lx (b7 (m:=g.1) (n:=0) rfl rfl) (mv (vb (decide (g.1<0))) ?_))))))))
 by_cases q10:g.1<0
 ·
  refine ax (wn (dt q10)) (ax (wn (dt q10)) (ax (wn (dt q10)) (lw (vb true) (aZ rfl (dt q10) rfl) (mv (vb true) (ax (wn rfl) (ax (wn rfl) (ax (wn rfl) (ax (wn rfl) (lw (vb true) (aZ rfl rfl rfl) (ag (ao rfl rfl (aa ?_))))))))))))
  clear bx5
  refine a8 rfl (ma (vb false) (ag (aH (vs:=[vb false]) Try.func36 (.tmp rfl .nil) ?_)))
  have e0:(false:Bool)=(da g):=by
    exact(cN (λh=>by unfold bf at h;omega)).symm
  replace bH:=bH.cn ch2
  exact⟨rb e0,bH.below⟩
 refine lv (vp b3 0) (wy (df q10)) (ae dD rfl rfl rfl rfl) (lv (vi g.1) (wy (df q10)) (af ah rfl bx5 rfl) (lv (vb (decide (1024<g.1))) (wy (df q10)) (ej (m:=g.1) (n:=1024) rfl rfl) (lw (vb (decide (1024<g.1))) (aV rfl (df q10) rfl) (mv (vb (decide (1024<g.1))) ?_))))
 by_cases q15:1024<g.1
 ·
  refine ax (wn (dt q15)) (ax (wn (dt q15)) (ax (wn (dt q15)) (ax (wn (dt q15)) (lw (vb true) (aZ rfl (dt q15) rfl) (ag (ao rfl rfl (aa ?_)))))))
  clear bx5
  refine a8 rfl (ma (vb false) (ag (aH (vs:=[vb false]) Try.func36 (.tmp rfl .nil) ?_)))
  have e0:(false:Bool)=(da g):=by
    exact(cN (λh=>by unfold bf at h;omega)).symm
  replace bH:=bH.cn ch2
  exact⟨rb e0,bH.below⟩
 refine lv (vp b3 1) (wy (df q15)) (ae dD rfl rfl rfl rfl) (lv (g_v) (wy (df q15)) (af bT rfl bx5 rfl) ?_)
 replace Rg:=Rg.cn ch2
 have len6:=(Rg).small
 refine lv (vi (g.2.length:Int)) (wy (df q15)) (bh eM rfl Rg) (lv (vb (decide (3072<(g.2.length:Int)))) (wy (df q15)) (ej (m:=(g.2.length:Int)) (n:=3072) rfl rfl) (lw (vb (decide (3072<(g.2.length:Int)))) (aV rfl (df q15) rfl) (ag ?_)))
 by_cases p1:3072<(g.2.length:Int)
 ·
  refine ao rfl (dt p1) (aa ?_)
  clear bx5
  refine a8 rfl (ma (vb false) (ag (aH (vs:=[vb false]) Try.func36 (.tmp rfl .nil) ?_)))
  have e0:(false:Bool)=(da g):=by
    exact(cN (λh=>by unfold bf at h;omega)).symm
  replace bH:=bH.cn ch2
  exact⟨rb e0,bH.below⟩
 refine aj rfl (df p1) (aw (aa (aa (a8 rfl (lx (ae dD rfl rfl rfl rfl) (lx (af bT rfl bx5 rfl) (lx (bh eM rfl Rg) (mi 0 (ag (av ?_))))))))))
 refine aW (σ:=Nat×aF) (λ⟨k,gq⟩ f w=>bp w0 gq w/\f 1=vp b3 0/\f 22=g_v/\f 23=vi (g.2.length:Int)/\f 24=vi ↑k/\Sl gq (is 0) w g_v g.2/\Bx gq (is 1) w b3 [vi g.1,g_v]/\(k:Int)<=((g.2.length:Int):Int)/\(∀e∈List.take k g.2,mF g.1 e)) (λ⟨k,gq⟩=>Int.toNat (((g.2.length:Int):Int)-(k:Int))) (0,g4) ?_ ?_
 · exact⟨bH.cn ch2,rfl,rfl,rfl,rfl,Rg,bx5,by omega,by simp⟩
 clear Rg bx5 bH
 rintro⟨k,g9⟩ f7 w8 ⟨bH,zs1,zs22,zs23,zs24,Rg,bx5,hle_k,hinv4⟩ back4
 refine aa (a8 rfl (lx (b7 (m:=↑k) (n:=(g.2.length:Int)) zs24 zs23) (ag (aa ?_))))
 by_cases p4:(k:Int)<(g.2.length:Int)
 ·
  refine ao rfl (dt p4) (aw (aa (av (aa (a8 rfl (lx (ad (v:=g_v) (i:=↑k) eM rfl zs22 Rg zs24 (by omega) (by omega)) (lw (vg [vi ((gI g.2 ↑k).1),vi ((gI g.2 ↑k).2)]) (dw (v:=g_v) (i:=↑k) aS rfl Rg (by omega) (by omega) rfl) (lo (bO g9 (is 2) (2,0) rfl aS ?_)))))))))
  intro g13 w10 b12 ch11 bx14
  replace bx14:Bx g13 (is 2) w10 b12 [vi 0,vi 0]:=bx14
  refine lo (aK (cs':=[vi ((gI g.2 ↑k).1),vi ((gI g.2 ↑k).2)]) aS rfl rfl bx14 rfl nq (AllOne.all (.cons rfl (.cons rfl .nil))) rfl ?_)
  intro w15 ch16 bx17
  clear bx14
  refine ag (aa (a8 rfl (lx (aD (ds:=[vi ((gI g.2 ↑k).1),vi ((gI g.2 ↑k).2)]) aS rfl bx17 rfl rfl) (mi 0 (ag (av (eu (aa ?_))))))))
  clear bx17
  refine a8 rfl (lx (b7 (m:=0) (n:=2) rfl rfl) (ag (aa (ao rfl rfl (aw (aa (av (aa (a8 rfl (lw (vi ((gI g.2 ↑k).1)) (cD dj ah rfl rfl (by decide) (by decide) rfl) (ai ((gI g.2 ↑k).1) ?_)))))))))))
  refine ag (aa (a8 rfl (mi ((gI g.2 ↑k).1) (lx (b7 (m:=(gI g.2 ↑k).1) (n:=0) rfl rfl) (mv (vb (decide (((gI g.2 ↑k).1)<0))) ?_)))))
  by_cases q34:((gI g.2 ↑k).1)<0
  ·
   refine ax (wn (dt q34)) (ax (wn (dt q34)) (ax (wn (dt q34)) (ax (wn (dt q34)) (lw (vb true) (aZ rfl (dt q34) rfl) (ag (ao rfl rfl (aa ?_)))))))
   clear bx5
   refine a8 rfl (ma (vb false) (ag (aH (vs:=[vb false]) Try.func36 (.tmp rfl .nil) ?_)))
   have e0:(false:Bool)=(da g):=by
     exact(cN (λh=>by have h2:=h.2.2.2 _ (bD (xs:=g.2) (i:=↑k) (by omega) ‹_›);unfold mF at h2;omega)).symm
   replace bH:=bH.cn ch11
   replace bH:=bH.ce ch16
   exact⟨rb e0,bH.below⟩
  refine lv (vi ((gI g.2 ↑k).1)) (wy (df q34)) (au rfl) (lv (vp b3 0) (wy (df q34)) (ae dD rfl rfl zs1 rfl) ?_)
  replace bx5:=(bx5.cn ch11).ce ch16
  refine lv (vi g.1) (wy (df q34)) (af ah rfl bx5 rfl) (lv (vb (decide (g.1<=((gI g.2 ↑k).1)))) (wy (df q34)) (eX (m:=(gI g.2 ↑k).1) (n:=g.1) rfl rfl) (lw (vb (decide (g.1<=((gI g.2 ↑k).1)))) (aV rfl (df q34) rfl) (ag ?_)))
  by_cases p9:g.1<=((gI g.2 ↑k).1)
  ·
   refine ao rfl (dt p9) (aa ?_)
   clear bx5
   refine a8 rfl (ma (vb false) (ag (aH (vs:=[vb false]) Try.func36 (.tmp rfl .nil) ?_)))
   have e0:(false:Bool)=(da g):=by
     exact(cN (λh=>by have h2:=h.2.2.2 _ (bD (xs:=g.2) (i:=↑k) (by omega) ‹_›);unfold mF at h2;omega)).symm
   replace bH:=bH.cn ch11
   replace bH:=bH.ce ch16
   exact⟨rb e0,bH.below⟩
  refine aj rfl (df p9) (aw (am (a8 rfl (lx (aE (m:=0) (n:=1) rfl rfl (by omega)) (mi 1 (ag (bu (aa (a8 rfl (lx (b7 (m:=1) (n:=2) rfl rfl) ?_))))))))))
  refine ag (aa (ao rfl rfl (aw (aa (av (aa (a8 rfl (lw (vi ((gI g.2 ↑k).2)) (cD dj ah rfl rfl (by decide) (by decide) rfl) (ai ((gI g.2 ↑k).2) (ag (aa (a8 rfl (mi ((gI g.2 ↑k).2) ?_)))))))))))))
  refine lx (b7 (m:=(gI g.2 ↑k).2) (n:=0) rfl rfl) (mv (vb (decide (((gI g.2 ↑k).2)<0))) ?_)
  by_cases q34_18:((gI g.2 ↑k).2)<0
  ·
   refine ax (wn (dt q34_18)) (ax (wn (dt q34_18)) (ax (wn (dt q34_18)) (ax (wn (dt q34_18)) (lw (vb true) (aZ rfl (dt q34_18) rfl) (ag (ao rfl rfl (aa ?_)))))))
   clear bx5
   refine a8 rfl (ma (vb false) (ag (aH (vs:=[vb false]) Try.func36 (.tmp rfl .nil) ?_)))
   have e0:(false:Bool)=(da g):=by
     exact(cN (λh=>by have h2:=h.2.2.2 _ (bD (xs:=g.2) (i:=↑k) (by omega) ‹_›);unfold mF at h2;omega)).symm
   replace bH:=bH.cn ch11
   replace bH:=bH.ce ch16
   exact⟨rb e0,bH.below⟩
  refine lv (vi ((gI g.2 ↑k).2)) (wy (df q34_18)) (au rfl) (lv (vp b3 0) (wy (df q34_18)) (ae dD rfl rfl zs1 rfl) (lv (vi g.1) (wy (df q34_18)) (af ah rfl bx5 rfl) (lv (vb (decide (g.1<=((gI g.2 ↑k).2)))) (wy (df q34_18)) (eX (m:=(gI g.2 ↑k).2) (n:=g.1) rfl rfl) (lw (vb (decide (g.1<=((gI g.2 ↑k).2)))) (aV rfl (df q34_18) rfl) (ag ?_)))))
  by_cases p9_19:g.1<=((gI g.2 ↑k).2)
  ·
   refine ao rfl (dt p9_19) (aa ?_)
   clear bx5
   refine a8 rfl (ma (vb false) (ag (aH (vs:=[vb false]) Try.func36 (.tmp rfl .nil) ?_)))
   have e0:(false:Bool)=(da g):=by
     exact(cN (λh=>by have h2:=h.2.2.2 _ (bD (xs:=g.2) (i:=↑k) (by omega) ‹_›);unfold mF at h2;omega)).symm
   replace bH:=bH.cn ch11
   replace bH:=bH.ce ch16
   exact⟨rb e0,bH.below⟩
  refine aj rfl (df p9_19) (aw (am (a8 rfl (lx (aE (m:=1) (n:=1) rfl rfl (by omega)) (mi 2 (ag (bu (aa (a8 rfl (lx (b7 (m:=2) (n:=2) rfl rfl) ?_))))))))))
  refine ag (aa (aj rfl rfl (aC rfl (am (a8 rfl (lx (aE (m:=↑k) (n:=1) zs24 rfl (by omega)) (mi ((k:Int)+1) (ag ?_))))))))
  replace bH:=bH.cn ch11
  refine back4 (k+1,g13) _ _ ⟨bH.ce ch16,zs1,zs22,zs23,rfl,(Rg.cn ch11).ce ch16,bx5,by omega,?_⟩ ?_
  · show∀e∈List.take (k+1) g.2,mF g.1 e
    rw[cj ‹_›]
    intro e he
    rcases List.mem_append.1 he with h|h
    · exact hinv4 e h
    · obtain rfl:=List.mem_singleton.1 h
      refine⟨?_,?_⟩<;>omega
  · show Int.toNat (((g.2.length:Int):Int)-((k+1):Int))<Int.toNat (((g.2.length:Int):Int)-(k:Int))
    omega
 refine aj rfl (df p4) (aC rfl (aa ?_))
 clear bx5
 refine a8 rfl (ma (vb true) (ag (aH (vs:=[vb true]) Try.func36 (.tmp rfl .nil) ?_)))
 have e0:(true:Bool)=(da g):=by
   exact(kX ⟨by omega,by omega,by omega,by rw[List.take_of_length_le (by omega)] at hinv4;exact hinv4⟩).symm
 exact⟨rb e0,bH.below⟩
theorem oy(w0:World)(g:(Int)×(List Pt))(g_v:Value)(hg_v:Ro w0 g_v g.2):
    Calls Try.prog 16 #[vg [vi g.1,g_v]] w0 (λee w=>ee= .returned (vb (da g))/\eB w0.heap.size w0 w):=by
 refine aB Try.func16 rfl nq ?_
 have bH:=bp.start w0
 have Rg:=hg_v.sl
 refine aa (a8 rfl (du rfl (dk c0 (is 1) (1,0) rfl rfl ?_)))
 intro g4 w1 b3 ch2 bx5
 replace bx5:Bx g4 (is 1) w1 b3 [vi g.1,g_v]:=bx5
 refine ma (vb false) (ag (aa (aa (a8 rfl (lx (ae dD rfl rfl rfl rfl) (lx (af ah rfl bx5 rfl) (lx (b7 (m:=g.1) (n:=0) rfl rfl) (mv (vb (decide (g.1<0))) ?_))))))))
 by_cases q8:g.1<0
 ·
  refine ax (wn (dt q8)) (ax (wn (dt q8)) (ax (wn (dt q8)) (lw (vb true) (aZ rfl (dt q8) rfl) (mv (vb true) (ax (wn rfl) (ax (wn rfl) (ax (wn rfl) (ax (wn rfl) (lw (vb true) (aZ rfl rfl rfl) (ag (ao rfl rfl (aa ?_))))))))))))
  clear bx5
  refine a8 rfl (ma (vb false) (ag (aH (vs:=[vb false]) Try.func16 (.tmp rfl .nil) ?_)))
  have e0:(false:Bool)=(da g):=by
    exact(cN (λh=>by unfold bf at h;omega)).symm
  replace bH:=bH.cn ch2
  exact⟨rb e0,bH.below⟩
 refine lv (vp b3 0) (wy (df q8)) (ae dD rfl rfl rfl rfl) (lv (vi g.1) (wy (df q8)) (af ah rfl bx5 rfl) (lv (vb (decide (1024<g.1))) (wy (df q8)) (ej (m:=g.1) (n:=1024) rfl rfl) (lw (vb (decide (1024<g.1))) (aV rfl (df q8) rfl) (mv (vb (decide (1024<g.1))) ?_))))
 by_cases q13:1024<g.1
 ·
  refine ax (wn (dt q13)) (ax (wn (dt q13)) (ax (wn (dt q13)) (ax (wn (dt q13)) (lw (vb true) (aZ rfl (dt q13) rfl) (ag (ao rfl rfl (aa ?_)))))))
  clear bx5
  refine a8 rfl (ma (vb false) (ag (aH (vs:=[vb false]) Try.func16 (.tmp rfl .nil) ?_)))
  have e0:(false:Bool)=(da g):=by
    exact(cN (λh=>by unfold bf at h;omega)).symm
  replace bH:=bH.cn ch2
  exact⟨rb e0,bH.below⟩
 refine lv (vp b3 1) (wy (df q13)) (ae dD rfl rfl rfl rfl) (lv (g_v) (wy (df q13)) (af bT rfl bx5 rfl) ?_)
 replace Rg:=Rg.cn ch2
 have len6:=(Rg).small
 refine lv (vi (g.2.length:Int)) (wy (df q13)) (bh eM rfl Rg) (lv (vb (decide (3072<(g.2.length:Int)))) (wy (df q13)) (ej (m:=(g.2.length:Int)) (n:=3072) rfl rfl) (lw (vb (decide (3072<(g.2.length:Int)))) (aV rfl (df q13) rfl) (ag ?_)))
 by_cases p1:3072<(g.2.length:Int)
 ·
  refine ao rfl (dt p1) (aa ?_)
  clear bx5
  refine a8 rfl (ma (vb false) (ag (aH (vs:=[vb false]) Try.func16 (.tmp rfl .nil) ?_)))
  have e0:(false:Bool)=(da g):=by
    exact(cN (λh=>by unfold bf at h;omega)).symm
  replace bH:=bH.cn ch2
  exact⟨rb e0,bH.below⟩
 refine aj rfl (df p1) (aw (aa (aa (a8 rfl (ai 0 (ag (av ?_)))))))
 refine aW (σ:=Nat×aF) (λ⟨k,gq⟩ f w=>bp w0 gq w/\f 1=vp b3 0/\f 3=vi ↑k/\Sl gq (is 0) w g_v g.2/\Bx gq (is 1) w b3 [vi g.1,g_v]/\(k:Int)<=((g.2.length:Int):Int)/\(∀e∈List.take k g.2,mF g.1 e)) (λ⟨k,gq⟩=>Int.toNat (((g.2.length:Int):Int)-(k:Int))) (0,g4) ?_ ?_
 · exact⟨bH.cn ch2,rfl,rfl,Rg,bx5,by omega,by simp⟩
 clear Rg bx5 bH
 rintro⟨k,g9⟩ f7 w8 ⟨bH,zs1,zs3,Rg,bx5,hle_k,hinv4⟩ back4
 refine aa (aa (a8 rfl (mz zs3 (lx (ae dD rfl rfl zs1 rfl) (lx (af bT rfl bx5 rfl) (lx (bh eM rfl Rg) (lx (b7 (m:=↑k) (n:=(g.2.length:Int)) rfl rfl) (ag ?_))))))))
 by_cases p4:(k:Int)<(g.2.length:Int)
 ·
  refine ao rfl (dt p4) (aw (aa (av (aa (a8 rfl (ai 0 (ag (av (eu (aa (aa (a8 rfl ?_))))))))))))
  refine mi 0 (lx (b7 (m:=0) (n:=2) rfl rfl) (ag (ao rfl rfl (aw (aa (av (aa (c6 g9 rfl lF (by kernel_rfl) ?_))))))))
  intro w11 ch10
  refine qx (λw' hw'=>ae dD rfl rfl zs1 rfl) ?_
  replace bx5:=bx5.cn ch10
  refine qx (λw' hw'=>af bT rfl (bx5.bel hw') rfl) (qz zs3 (qm (vi 0) ?_))
  replace Rg:=Rg.cn ch10
  refine qx (λw' hw'=>ad (v:=g_v) (i:=↑k) eM rfl rfl (Rg.bel hw') rfl (by omega) (by omega)) (qx (λw' hw'=>bP dj rfl rfl rfl (by decide) (by decide) rfl) (qx (λw' hw'=>cB (v:=g_v) (i:=↑k) ah rfl (Rg.bel hw') (by omega) (by omega) (by decide) rfl) (qx (λw' hw'=>b7 (m:=(gI g.2 ↑k).1) (n:=0) rfl rfl) (qm (vb (decide (((gI g.2 ↑k).1)<0))) ?_))))
  by_cases q38:((gI g.2 ↑k).1)<0
  ·
   refine bx (wn (dt q38)) (bx (wn (dt q38)) (bx (wn (dt q38)) (bx (wn (dt q38)) (bx (wn (dt q38)) (bx (wn (dt q38)) (bx (wn (dt q38)) (bx (wn (dt q38)) (bx (wn (dt q38)) (bx (wn (dt q38)) ?_)))))))))
   refine qv (vb true) (λw' hw'=>aZ rfl (dt q38) rfl) (db ?_)
   intro w12 hc13
   replace hc13:=aN hc13 g9
   refine ao rfl rfl (aa ?_)
   clear bx5
   refine a8 rfl (ma (vb false) (ag (aH (vs:=[vb false]) Try.func16 (.tmp rfl .nil) ?_)))
   have e0:(false:Bool)=(da g):=by
     exact(cN (λh=>by have h2:=h.2.2.2 _ (bD (xs:=g.2) (i:=↑k) (by omega) ‹_›);unfold mF at h2;omega)).symm
   replace bH:=bH.cn ch10
   replace bH:=bH.cn hc13
   exact⟨rb e0,bH.below⟩
  refine b6 (v:=vp b3 1) (wy (df q38)) (λw' hw'=>ae dD rfl rfl zs1 rfl) (b6 (v:=g_v) (wy (df q38)) (λw' hw'=>af bT rfl (bx5.bel hw') rfl) (b6 (v:=vi ↑k) (wy (df q38)) (λw' hw'=>au zs3) (b6 (v:=vi 0) (wy (df q38)) (λw' hw'=>au rfl) (b6 (v:=Value.pointer (some (aT g_v 2 (Int.toNat ↑k)))) (wy (df q38)) (λw' hw'=>ad (α:=Pt) (xs:=g.2) (v:=g_v) (i:=↑k) eM rfl rfl (Rg.bel hw') rfl (by omega) (by omega)) ?_))))
  refine b6 (v:=Value.pointer (some ⟨(aT g_v 2 (Int.toNat ↑k)).block,(aT g_v 2 (Int.toNat ↑k)).off+0,none⟩)) (wy (df q38)) (λw' hw'=>bP dj rfl rfl rfl (by decide) (by decide) rfl) (b6 (v:=vi ((gI g.2 ↑k).1)) (wy (df q38)) (λw' hw'=>cB (α:=Pt) (xs:=g.2) (v:=g_v) (i:=↑k) ah rfl (Rg.bel hw') (by omega) (by omega) (by decide) rfl) (b6 (v:=vp b3 0) (wy (df q38)) (λw' hw'=>ae dD rfl rfl zs1 rfl) (b6 (v:=vi g.1) (wy (df q38)) (λw' hw'=>af ah rfl (bx5.bel hw') rfl) ?_)))
  refine b6 (v:=vb (decide (g.1<=((gI g.2 ↑k).1)))) (wy (df q38)) (λw' hw'=>eX (m:=(gI g.2 ↑k).1) (n:=g.1) rfl rfl) (qv (vb (decide (g.1<=((gI g.2 ↑k).1)))) (λw' hw'=>aV rfl (df q38) rfl) (db ?_))
  intro w14 hc15
  replace hc15:=aN hc15 g9
  by_cases p9:g.1<=((gI g.2 ↑k).1)
  ·
   refine ao rfl (dt p9) (aa ?_)
   clear bx5
   refine a8 rfl (ma (vb false) (ag (aH (vs:=[vb false]) Try.func16 (.tmp rfl .nil) ?_)))
   have e0:(false:Bool)=(da g):=by
     exact(cN (λh=>by have h2:=h.2.2.2 _ (bD (xs:=g.2) (i:=↑k) (by omega) ‹_›);unfold mF at h2;omega)).symm
   replace bH:=bH.cn ch10
   replace bH:=bH.cn hc15
   exact⟨rb e0,bH.below⟩
  refine aj rfl (df p9) (aw (am (a8 rfl (mi 0 (lx (aE (m:=0) (n:=1) rfl rfl (by omega)) (ai 1 (ag (bu (aa (aa (a8 rfl ?_)))))))))))
  refine mi 1 (lx (b7 (m:=1) (n:=2) rfl rfl) (ag (ao rfl rfl (aw (aa (av (aa (c6 g9 rfl lF (by kernel_rfl) ?_))))))))
  intro w17 ch16
  refine qx (λw' hw'=>ae dD rfl rfl zs1 rfl) ?_
  replace bx5:=(bx5.cn hc15).cn ch16
  refine qx (λw' hw'=>af bT rfl (bx5.bel hw') rfl) (qz zs3 (qm (vi 1) ?_))
  replace Rg:=(Rg.cn hc15).cn ch16
  refine qx (λw' hw'=>ad (v:=g_v) (i:=↑k) eM rfl rfl (Rg.bel hw') rfl (by omega) (by omega)) (qx (λw' hw'=>bP dj rfl rfl rfl (by decide) (by decide) rfl) (qx (λw' hw'=>cB (v:=g_v) (i:=↑k) ah rfl (Rg.bel hw') (by omega) (by omega) (by decide) rfl) (qx (λw' hw'=>b7 (m:=(gI g.2 ↑k).2) (n:=0) rfl rfl) (qm (vb (decide (((gI g.2 ↑k).2)<0))) ?_))))
  by_cases q38_18:((gI g.2 ↑k).2)<0
  ·
   refine bx (wn (dt q38_18)) (bx (wn (dt q38_18)) (bx (wn (dt q38_18)) (bx (wn (dt q38_18)) (bx (wn (dt q38_18)) (bx (wn (dt q38_18)) (bx (wn (dt q38_18)) (bx (wn (dt q38_18)) (bx (wn (dt q38_18)) (bx (wn (dt q38_18)) ?_)))))))))
   refine qv (vb true) (λw' hw'=>aZ rfl (dt q38_18) rfl) (db ?_)
   intro w19 hc20
   replace hc20:=aN hc20 g9
   refine ao rfl rfl (aa ?_)
   clear bx5
   refine a8 rfl (ma (vb false) (ag (aH (vs:=[vb false]) Try.func16 (.tmp rfl .nil) ?_)))
   have e0:(false:Bool)=(da g):=by
     exact(cN (λh=>by have h2:=h.2.2.2 _ (bD (xs:=g.2) (i:=↑k) (by omega) ‹_›);unfold mF at h2;omega)).symm
   have C21:=cg [] (ch10.n.seq (hc15.n.seq (ch16.n.seq hc20.n)))
   replace bH:=bH.ca C21
   exact⟨rb e0,bH.below⟩
  refine b6 (v:=vp b3 1) (wy (df q38_18)) (λw' hw'=>ae dD rfl rfl zs1 rfl) (b6 (v:=g_v) (wy (df q38_18)) (λw' hw'=>af bT rfl (bx5.bel hw') rfl) (b6 (v:=vi ↑k) (wy (df q38_18)) (λw' hw'=>au zs3) (b6 (v:=vi 1) (wy (df q38_18)) (λw' hw'=>au rfl) (b6 (v:=Value.pointer (some (aT g_v 2 (Int.toNat ↑k)))) (wy (df q38_18)) (λw' hw'=>ad (α:=Pt) (xs:=g.2) (v:=g_v) (i:=↑k) eM rfl rfl (Rg.bel hw') rfl (by omega) (by omega)) ?_))))
  refine b6 (v:=Value.pointer (some ⟨(aT g_v 2 (Int.toNat ↑k)).block,(aT g_v 2 (Int.toNat ↑k)).off+1,none⟩)) (wy (df q38_18)) (λw' hw'=>bP dj rfl rfl rfl (by decide) (by decide) rfl) (b6 (v:=vi ((gI g.2 ↑k).2)) (wy (df q38_18)) (λw' hw'=>cB (α:=Pt) (xs:=g.2) (v:=g_v) (i:=↑k) ah rfl (Rg.bel hw') (by omega) (by omega) (by decide) rfl) (b6 (v:=vp b3 0) (wy (df q38_18)) (λw' hw'=>ae dD rfl rfl zs1 rfl) (b6 (v:=vi g.1) (wy (df q38_18)) (λw' hw'=>af ah rfl (bx5.bel hw') rfl) ?_)))
  refine b6 (v:=vb (decide (g.1<=((gI g.2 ↑k).2)))) (wy (df q38_18)) (λw' hw'=>eX (m:=(gI g.2 ↑k).2) (n:=g.1) rfl rfl) (qv (vb (decide (g.1<=((gI g.2 ↑k).2)))) (λw' hw'=>aV rfl (df q38_18) rfl) (db ?_))
  intro w22 hc23
  replace hc23:=aN hc23 g9
  by_cases p9_24:g.1<=((gI g.2 ↑k).2)
  ·
   refine ao rfl (dt p9_24) (aa ?_)
   clear bx5
   refine a8 rfl (ma (vb false) (ag (aH (vs:=[vb false]) Try.func16 (.tmp rfl .nil) ?_)))
   have e0:(false:Bool)=(da g):=by
     exact(cN (λh=>by have h2:=h.2.2.2 _ (bD (xs:=g.2) (i:=↑k) (by omega) ‹_›);unfold mF at h2;omega)).symm
   have C25:=cg [] (ch10.n.seq (hc15.n.seq (ch16.n.seq hc23.n)))
   replace bH:=bH.ca C25
   exact⟨rb e0,bH.below⟩
  refine aj rfl (df p9_24) (aw (am (a8 rfl (mi 1 (lx (aE (m:=1) (n:=1) rfl rfl (by omega)) (ai 2 (ag (bu (aa (aa (a8 rfl ?_)))))))))))
  refine mi 2 (lx (b7 (m:=2) (n:=2) rfl rfl) (ag (aj rfl rfl (aC rfl (am (a8 rfl (mz zs3 (lx (aE (m:=↑k) (n:=1) rfl rfl (by omega)) (ai ((k:Int)+1) ?_)))))))))
  refine ag ?_
  have C26:=cg [] (ch10.n.seq (hc15.n.seq (ch16.n.seq hc23.n)))
  refine back4 (k+1,g9) _ _ ⟨bH.ca C26,zs1,rfl,Rg.cn hc23,bx5.cn hc23,by omega,?_⟩ ?_
  · show∀e∈List.take (k+1) g.2,mF g.1 e
    rw[cj ‹_›]
    intro e he
    rcases List.mem_append.1 he with h|h
    · exact hinv4 e h
    · obtain rfl:=List.mem_singleton.1 h
      refine⟨?_,?_⟩<;>omega
  · show Int.toNat (((g.2.length:Int):Int)-((k+1):Int))<Int.toNat (((g.2.length:Int):Int)-(k:Int))
    omega
 refine aj rfl (df p4) (aC rfl (aa ?_))
 clear bx5
 refine a8 rfl (ma (vb true) (ag (aH (vs:=[vb true]) Try.func16 (.tmp rfl .nil) ?_)))
 have e0:(true:Bool)=(da g):=by
   exact(kX ⟨by omega,by omega,by omega,by rw[List.take_of_length_le (by omega)] at hinv4;exact hinv4⟩).symm
 exact⟨rb e0,bH.below⟩
theorem qK(w0:World)(a:List Int)(a_v:Value)(ha_v:Ro w0 a_v a)(b:List Int)(b_v:Value)(hb_v:Ro w0 b_v b):
    Calls Try.prog 19 #[a_v,b_v] w0 (λee w=>ee= .returned (vb (decide (a=b)))/\eB w0.heap.size w0 w):=by
 refine aB Try.func19 rfl nq ?_
 have bH:=bp.start w0
 have Ra:=ha_v.sl
 have Rb:=hb_v.sl
 refine aa (a8 rfl (ma (vb false) (ag (aa (aa (a8 rfl (mv a_v ?_)))))))
 have len1:=(Ra).small
 refine lx (bh aY rfl Ra) (mv b_v ?_)
 have len2:=(Rb).small
 refine lx (bh aY rfl Rb) (lx (eQ (m:=(a.length:Int)) (n:=(b.length:Int)) rfl rfl) (ag ?_))
 by_cases p1:(a.length:Int)=(b.length:Int)
 ·
  refine aj rfl (congrArg Bool.not (dt p1)) (aw (aa (aa (a8 rfl (ai 0 (ag (av ?_)))))))
  refine aW (σ:=Nat×aF) (λ⟨k,gq⟩ f w=>bp w0 gq w/\f 0=a_v/\f 1=b_v/\f 5=vi ↑k/\Sl gq (is 0) w a_v a/\Sl gq (is 0) w b_v b/\(k:Int)<=((a.length:Int):Int)/\(List.take k a=List.take k b)) (λ⟨k,gq⟩=>Int.toNat (((a.length:Int):Int)-(k:Int))) (0,c0) ?_ ?_
  · exact⟨bH,rfl,rfl,rfl,Ra,Rb,by omega,by simp⟩
  clear Ra Rb bH
  rintro⟨k,g5⟩ f3 w4 ⟨bH,zs0,zs1,zs5,Ra,Rb,hle_k,hinv4⟩ back4
  refine aa (aa (a8 rfl (mz zs5 (mz zs0 (lx (bh aY rfl Ra) (lx (b7 (m:=↑k) (n:=(a.length:Int)) rfl rfl) (ag ?_)))))))
  by_cases p4:(k:Int)<(a.length:Int)
  ·
   refine ao rfl (dt p4) (aw (aa (av (aa (c6 g5 rfl lF (by kernel_rfl) ?_)))))
   intro w7 ch6
   refine qz zs0 (qz zs5 ?_)
   replace Ra:=Ra.cn ch6
   refine qx (λw' hw'=>ad (v:=a_v) (i:=↑k) aY rfl rfl (Ra.bel hw') rfl (by omega) (by omega)) (qx (λw' hw'=>al (v:=a_v) (i:=↑k) ah rfl (Ra.bel hw') (by omega) (by omega) (by decide) rfl) (qz zs1 (qz zs5 ?_)))
   replace Rb:=Rb.cn ch6
   refine qx (λw' hw'=>ad (v:=b_v) (i:=↑k) aY rfl rfl (Rb.bel hw') rfl (by omega) (by omega)) (qx (λw' hw'=>al (v:=b_v) (i:=↑k) ah rfl (Rb.bel hw') (by omega) (by omega) (by decide) rfl) (qx (λw' hw'=>eQ (m:=(gI a ↑k)) (n:=(gI b ↑k)) rfl rfl) (db ?_)))
   intro w8 hc9
   replace hc9:=aN hc9 g5
   by_cases p6:(gI a ↑k)=(gI b ↑k)
   ·
    refine aj rfl (congrArg Bool.not (dt p6)) (aw (am (a8 rfl (mz zs5 (lx (aE (m:=↑k) (n:=1) rfl rfl (by omega)) (ai ((k:Int)+1) (ag ?_)))))))
    replace bH:=bH.cn ch6
    refine back4 (k+1,g5) _ _ ⟨bH.cn hc9,zs0,zs1,rfl,Ra.cn hc9,Rb.cn hc9,by omega,?_⟩ ?_
    · show List.take (k+1) a=List.take (k+1) b
      rw[cj ‹_›,cj (by omega),hinv4];simp_all
    · show Int.toNat (((a.length:Int):Int)-((k+1):Int))<Int.toNat (((a.length:Int):Int)-(k:Int))
      omega
   refine ao rfl (congrArg Bool.not (df p6)) (aa (a8 rfl (ma (vb false) (ag (aH (vs:=[vb false]) Try.func19 (.tmp rfl .nil) ?_)))))
   have e0:(false:Bool)=(decide (a=b)):=by
     exact(df (λh=>by subst h;simp_all)).symm
   replace bH:=bH.cn ch6
   replace bH:=bH.cn hc9
   exact⟨rb e0,bH.below⟩
  refine aj rfl (df p4) (aC rfl (aa (a8 rfl (ma (vb true) (ag (aH (vs:=[vb true]) Try.func19 (.tmp rfl .nil) ?_))))))
  have e0:(true:Bool)=(decide (a=b)):=by
    (have e:=hinv4;rw[List.take_of_length_le (by omega),List.take_of_length_le (by omega)] at e;exact(dt e).symm)
  exact⟨rb e0,bH.below⟩
 refine ao rfl (congrArg Bool.not (df p1)) (aa (a8 rfl (ma (vb false) (ag (aH (vs:=[vb false]) Try.func19 (.tmp rfl .nil) ?_)))))
 have e0:(false:Bool)=(decide (a=b)):=by
   exact(df (λh=>by subst h;simp_all)).symm
 exact⟨rb e0,bH.below⟩
end TL
