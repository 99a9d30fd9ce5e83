import Derived.Test.YtfpckpgnnplhnaaGreatSkTlAli
set_option linter.all false
set_option maxRecDepth 20000
namespace TL
open Go Go.Proofs
theorem lH:Tryz.prog.follows .mixedOrders=true:=by kernel_rfl
theorem ah:Tp Tryz.prog 3 false 1 8 (.int .i64 0):=Tp.of (by kernel_rfl)
theorem dL:Tp Tryz.prog 4 false 1 1 (.bool false):=Tp.of (by kernel_rfl)
theorem bR:Tp Tryz.prog 23 false 1 24 (.slice none 0 0):=Tp.of (by kernel_rfl)
theorem aX:Tp Tryz.prog 25 true 2 32 (.agg #[.int .i64 0,.slice none 0 0]):=Tp.of (by kernel_rfl)
theorem bx:Tp Tryz.prog 59 true 2 16 (.agg #[.int .i64 0,.int .i64 0]):=Tp.of (by kernel_rfl)
theorem iH:Tryz.f32.body.isNone=false:=rfl
theorem iY:(Tryz.f32.name== "runtime.NumGoroutine")=false:=by decide+kernel
theorem yX:Tryz.f152.body.isNone=false:=rfl
theorem za:(Tryz.f152.name== "runtime.NumGoroutine")=false:=by decide+kernel
theorem iP(w0:World)(g:(Int)×(List Pt))(g_v:Value)(hg_v:Ro w0 g_v g.2):
    Calls Tryz.prog 32 #[vg [vi g.1,g_v]] w0 (λee w=>ee= .returned (vb (dm g))/\eJ w0.heap.size w0 w):=by
 refine ap Tryz.func32 rfl nq ?_
 have bH:=b6.start w0
 have Rg:=hg_v.sl
 refine a7 (a6 rfl (cN rfl (cq c0 (is 1) (1,0) rfl rfl ?_)))
 intro g4 w1 b3 ch2 bx5
 refine ma (vb false) (ab (a7 (a7 (a6 rfl (lx (aa ea rfl rfl rfl rfl) (lx (a8 ah rfl bx5 rfl) (lx (bw (m:=g.1) (n:=0) rfl rfl) (mv (vb (decide (g.1<0))) ?_))))))))
 by_cases q10:g.1<0
 ·
  refine aA (wn (dt q10)) (aA (wn (dt q10)) (aA (wn (dt q10)) (lw (vb true) (bj rfl (dt q10) rfl) (mv (vb true) (aA (wn rfl) (aA (wn rfl) (aA (wn rfl) (aA (wn rfl) (lw (vb true) (bj rfl rfl rfl) (ab (af rfl rfl (a7 ?_))))))))))))
  clear bx5
  refine a6 rfl (ma (vb false) (ab (au (vs:=[vb false]) Tryz.func32 (.tmp rfl .nil) ?_)))
  have e0:(false:Bool)=(dm g):=by
    exact(cW (λh=>by unfold c7 at h;omega)).symm
  replace bH:=bH.cn ch2
  exact⟨rb e0,bH.below⟩
 refine lv (vp b3 0) (wy (df q10)) (aa ea rfl rfl rfl rfl) (lv (vi g.1) (wy (df q10)) (a8 ah rfl bx5 rfl) (lv (vb (decide (1024<g.1))) (wy (df q10)) (fm (m:=g.1) (n:=1024) rfl rfl) (lw (vb (decide (1024<g.1))) (bt rfl (df q10) rfl) (mv (vb (decide (1024<g.1))) ?_))))
 by_cases q15:1024<g.1
 ·
  refine aA (wn (dt q15)) (aA (wn (dt q15)) (aA (wn (dt q15)) (aA (wn (dt q15)) (lw (vb true) (bj rfl (dt q15) rfl) (ab (af rfl rfl (a7 ?_)))))))
  clear bx5
  refine a6 rfl (ma (vb false) (ab (au (vs:=[vb false]) Tryz.func32 (.tmp rfl .nil) ?_)))
  have e0:(false:Bool)=(dm g):=by
    exact(cW (λh=>by unfold c7 at h;omega)).symm
  replace bH:=bH.cn ch2
  exact⟨rb e0,bH.below⟩
 refine lv (vp b3 1) (wy (df q15)) (aa ea rfl rfl rfl rfl) (lv (g_v) (wy (df q15)) (a8 bR rfl bx5 rfl) ?_)
 replace Rg:=Rg.cn ch2
 have len6:=(Rg).small
 refine lv (vi (g.2.length:Int)) (wy (df q15)) (bp eR rfl Rg) (lv (vb (decide (3072<(g.2.length:Int)))) (wy (df q15)) (fm (m:=(g.2.length:Int)) (n:=3072) rfl rfl) (lw (vb (decide (3072<(g.2.length:Int)))) (bt rfl (df q15) rfl) (ab ?_)))
 by_cases p1:3072<(g.2.length:Int)
 ·
  refine af rfl (dt p1) (a7 ?_)
  clear bx5
  refine a6 rfl (ma (vb false) (ab (au (vs:=[vb false]) Tryz.func32 (.tmp rfl .nil) ?_)))
  have e0:(false:Bool)=(dm g):=by
    exact(cW (λh=>by unfold c7 at h;omega)).symm
  replace bH:=bH.cn ch2
  exact⟨rb e0,bH.below⟩
 refine ag rfl (df p1) (ao (a7 (a7 (a6 rfl (lx (aa ea rfl rfl rfl rfl) (lx (a8 bR rfl bx5 rfl) (lx (bp eR rfl Rg) (mi 0 (ab (am ?_))))))))))
 refine aV (σ:=Nat×aw) (λ⟨k,gq⟩ f w=>b6 w0 gq w/\f 1=vp b3 0/\f 22=g_v/\f 23=vi (g.2.length:Int)/\f 24=vi ↑k/\Sl gq (is 0) w g_v g.2/\Bx gq (is 1) w b3 [vi g.1,g_v]/\(k:Int)<=((g.2.length:Int):Int)/\(∀e∈List.take k g.2,pb g.1 e)) (λ⟨k,gq⟩=>Int.toNat (((g.2.length:Int):Int)-(k:Int))) (0,g4) ?_ ?_
 · exact⟨bH.cn ch2,rfl,rfl,rfl,rfl,Rg,bx5,by omega,by simp⟩
 clear Rg bx5 bH
 rintro⟨k,g9⟩ f7 w8 ⟨bH,zs1,zs22,zs23,zs24,Rg,bx5,hle_k,hinv4⟩ back4
 refine a7 (a6 rfl (lx (bw (m:=↑k) (n:=(g.2.length:Int)) zs24 zs23) (ab (a7 ?_))))
 by_cases p4:(k:Int)<(g.2.length:Int)
 ·
  refine af rfl (dt p4) (ao (a7 (am (a7 (a6 rfl (lx (ad (v:=g_v) (i:=↑k) eR rfl zs22 Rg zs24 (by omega) (by omega)) (lw (vg [vi ((gI g.2 ↑k).1),vi ((gI g.2 ↑k).2)]) (bJ (v:=g_v) (i:=↑k) bx rfl Rg (by omega) (by omega) rfl) (lo (bi g9 (is 2) (2,0) rfl bx ?_)))))))))
  intro g13 w10 b12 ch11 bx14
  refine lo (ax (cs':=[vi ((gI g.2 ↑k).1),vi ((gI g.2 ↑k).2)]) bx rfl rfl bx14 rfl nq (AllOne.all (.cons rfl (.cons rfl .nil))) rfl ?_)
  intro w15 ch16 bx17
  clear bx14
  refine ab (a7 (a6 rfl (lx (ay (ds:=[vi ((gI g.2 ↑k).1),vi ((gI g.2 ↑k).2)]) bx rfl bx17 rfl rfl) (mi 0 (ab (am (fF (a7 ?_))))))))
  clear bx17
  refine a6 rfl (lx (bw (m:=0) (n:=2) rfl rfl) (ab (a7 (af rfl rfl (ao (a7 (am (a7 (a6 rfl (lw (vi ((gI g.2 ↑k).1)) (eo eO ah rfl rfl (by decide) (by decide) rfl) (ai ((gI g.2 ↑k).1) ?_)))))))))))
  refine ab (a7 (a6 rfl (mi ((gI g.2 ↑k).1) (lx (bw (m:=(gI g.2 ↑k).1) (n:=0) rfl rfl) (mv (vb (decide (((gI g.2 ↑k).1)<0))) ?_)))))
  by_cases q34:((gI g.2 ↑k).1)<0
  ·
   refine aA (wn (dt q34)) (aA (wn (dt q34)) (aA (wn (dt q34)) (aA (wn (dt q34)) (lw (vb true) (bj rfl (dt q34) rfl) (ab (af rfl rfl (a7 ?_)))))))
   clear bx5
   refine a6 rfl (ma (vb false) (ab (au (vs:=[vb false]) Tryz.func32 (.tmp rfl .nil) ?_)))
   have e0:(false:Bool)=(dm g):=by
     exact(cW (λh=>by have h2:=h.2.2.2 _ (bC (xs:=g.2) (i:=↑k) (by omega) ‹_›);unfold pb at h2;omega)).symm
   replace bH:=bH.cn ch11
   replace bH:=bH.ce ch16
   exact⟨rb e0,bH.below⟩
  refine lv (vi ((gI g.2 ↑k).1)) (wy (df q34)) (aq rfl) (lv (vp b3 0) (wy (df q34)) (aa ea rfl rfl zs1 rfl) ?_)
  replace bx5:=(bx5.cn ch11).ce ch16
  refine lv (vi g.1) (wy (df q34)) (a8 ah rfl bx5 rfl) (lv (vb (decide (g.1<=((gI g.2 ↑k).1)))) (wy (df q34)) (eB (m:=(gI g.2 ↑k).1) (n:=g.1) rfl rfl) (lw (vb (decide (g.1<=((gI g.2 ↑k).1)))) (bt rfl (df q34) rfl) (ab ?_)))
  by_cases p9:g.1<=((gI g.2 ↑k).1)
  ·
   refine af rfl (dt p9) (a7 ?_)
   clear bx5
   refine a6 rfl (ma (vb false) (ab (au (vs:=[vb false]) Tryz.func32 (.tmp rfl .nil) ?_)))
   have e0:(false:Bool)=(dm g):=by
     exact(cW (λh=>by have h2:=h.2.2.2 _ (bC (xs:=g.2) (i:=↑k) (by omega) ‹_›);unfold pb at h2;omega)).symm
   replace bH:=bH.cn ch11
   replace bH:=bH.ce ch16
   exact⟨rb e0,bH.below⟩
  refine ag rfl (df p9) (ao (ak (a6 rfl (lx (aS (m:=0) (n:=1) rfl rfl (by omega)) (mi 1 (ab (dE (a7 (a6 rfl (lx (bw (m:=1) (n:=2) rfl rfl) ?_))))))))))
  refine ab (a7 (af rfl rfl (ao (a7 (am (a7 (a6 rfl (lw (vi ((gI g.2 ↑k).2)) (eo eO ah rfl rfl (by decide) (by decide) rfl) (ai ((gI g.2 ↑k).2) (ab (a7 (a6 rfl (mi ((gI g.2 ↑k).2) ?_)))))))))))))
  refine lx (bw (m:=(gI g.2 ↑k).2) (n:=0) rfl rfl) (mv (vb (decide (((gI g.2 ↑k).2)<0))) ?_)
  by_cases q34_18:((gI g.2 ↑k).2)<0
  ·
   refine aA (wn (dt q34_18)) (aA (wn (dt q34_18)) (aA (wn (dt q34_18)) (aA (wn (dt q34_18)) (lw (vb true) (bj rfl (dt q34_18) rfl) (ab (af rfl rfl (a7 ?_)))))))
   clear bx5
   refine a6 rfl (ma (vb false) (ab (au (vs:=[vb false]) Tryz.func32 (.tmp rfl .nil) ?_)))
   have e0:(false:Bool)=(dm g):=by
     exact(cW (λh=>by have h2:=h.2.2.2 _ (bC (xs:=g.2) (i:=↑k) (by omega) ‹_›);unfold pb at h2;omega)).symm
   replace bH:=bH.cn ch11
   replace bH:=bH.ce ch16
   exact⟨rb e0,bH.below⟩
  refine lv (vi ((gI g.2 ↑k).2)) (wy (df q34_18)) (aq rfl) (lv (vp b3 0) (wy (df q34_18)) (aa ea rfl rfl zs1 rfl) (lv (vi g.1) (wy (df q34_18)) (a8 ah rfl bx5 rfl) (lv (vb (decide (g.1<=((gI g.2 ↑k).2)))) (wy (df q34_18)) (eB (m:=(gI g.2 ↑k).2) (n:=g.1) rfl rfl) (lw (vb (decide (g.1<=((gI g.2 ↑k).2)))) (bt rfl (df q34_18) rfl) (ab ?_)))))
  by_cases p9_19:g.1<=((gI g.2 ↑k).2)
  ·
   refine af rfl (dt p9_19) (a7 ?_)
   clear bx5
   refine a6 rfl (ma (vb false) (ab (au (vs:=[vb false]) Tryz.func32 (.tmp rfl .nil) ?_)))
   have e0:(false:Bool)=(dm g):=by
     exact(cW (λh=>by have h2:=h.2.2.2 _ (bC (xs:=g.2) (i:=↑k) (by omega) ‹_›);unfold pb at h2;omega)).symm
   replace bH:=bH.cn ch11
   replace bH:=bH.ce ch16
   exact⟨rb e0,bH.below⟩
  refine ag rfl (df p9_19) (ao (ak (a6 rfl (lx (aS (m:=1) (n:=1) rfl rfl (by omega)) (mi 2 (ab (dE (a7 (a6 rfl (lx (bw (m:=2) (n:=2) rfl rfl) ?_))))))))))
  refine ab (a7 (ag rfl rfl (aO rfl (ak (a6 rfl (lx (aS (m:=↑k) (n:=1) zs24 rfl (by omega)) (mi ((k:Int)+1) (ab ?_))))))))
  replace bH:=bH.cn ch11
  refine back4 (k+1,g13) _ _ ⟨bH.ce ch16,zs1,zs22,zs23,rfl,(Rg.cn ch11).ce ch16,bx5,by omega,?_⟩ ?_
  · show∀e∈List.take (k+1) g.2,pb g.1 e
    rw[aT ‹_›]
    intro e he
    rcases List.mem_append.1 he with h|h
    · exact hinv4 e h
    · obtain rfl:=List.mem_singleton.1 h
      refine⟨?_,?_⟩<;>omega
  · show Int.toNat (_-_)<Int.toNat (_-_)
    omega
 refine ag rfl (df p4) (aO rfl (a7 ?_))
 clear bx5
 refine a6 rfl (ma (vb true) (ab (au (vs:=[vb true]) Tryz.func32 (.tmp rfl .nil) ?_)))
 have e0:(true:Bool)=(dm g):=by
   exact(nf ⟨by omega,by omega,by omega,by rw[List.take_of_length_le (by omega)] at hinv4;exact hinv4⟩).symm
 exact⟨rb e0,bH.below⟩
theorem zO(w0:World)(g:(Int)×(List Pt))(g_v:Value)(hg_v:Ro w0 g_v g.2):
    Calls Tryz.prog 35 #[vg [vi g.1,g_v]] w0 (λee w=>ee= .returned (vb (dm g))/\eJ w0.heap.size w0 w):=by
 refine ap Tryz.func35 rfl nq ?_
 have bH:=b6.start w0
 have Rg:=hg_v.sl
 refine a7 (a6 rfl (cN rfl (cq c0 (is 1) (1,0) rfl rfl ?_)))
 intro g4 w1 b3 ch2 bx5
 refine ma (vb false) (ab (a7 (a7 (a6 rfl (lx (aa ea rfl rfl rfl rfl) (lx (a8 ah rfl bx5 rfl) (lx (bw (m:=g.1) (n:=0) rfl rfl) (mv (vb (decide (g.1<0))) ?_))))))))
 by_cases q8:g.1<0
 ·
  refine aA (wn (dt q8)) (aA (wn (dt q8)) (aA (wn (dt q8)) (lw (vb true) (bj rfl (dt q8) rfl) (mv (vb true) (aA (wn rfl) (aA (wn rfl) (aA (wn rfl) (aA (wn rfl) (lw (vb true) (bj rfl rfl rfl) (ab (af rfl rfl (a7 ?_))))))))))))
  clear bx5
  refine a6 rfl (ma (vb false) (ab (au (vs:=[vb false]) Tryz.func35 (.tmp rfl .nil) ?_)))
  have e0:(false:Bool)=(dm g):=by
    exact(cW (λh=>by unfold c7 at h;omega)).symm
  replace bH:=bH.cn ch2
  exact⟨rb e0,bH.below⟩
 refine lv (vp b3 0) (wy (df q8)) (aa ea rfl rfl rfl rfl) (lv (vi g.1) (wy (df q8)) (a8 ah rfl bx5 rfl) (lv (vb (decide (1024<g.1))) (wy (df q8)) (fm (m:=g.1) (n:=1024) rfl rfl) (lw (vb (decide (1024<g.1))) (bt rfl (df q8) rfl) (mv (vb (decide (1024<g.1))) ?_))))
 by_cases q13:1024<g.1
 ·
  refine aA (wn (dt q13)) (aA (wn (dt q13)) (aA (wn (dt q13)) (aA (wn (dt q13)) (lw (vb true) (bj rfl (dt q13) rfl) (ab (af rfl rfl (a7 ?_)))))))
  clear bx5
  refine a6 rfl (ma (vb false) (ab (au (vs:=[vb false]) Tryz.func35 (.tmp rfl .nil) ?_)))
  have e0:(false:Bool)=(dm g):=by
    exact(cW (λh=>by unfold c7 at h;omega)).symm
  replace bH:=bH.cn ch2
  exact⟨rb e0,bH.below⟩
 refine lv (vp b3 1) (wy (df q13)) (aa ea rfl rfl rfl rfl) (lv (g_v) (wy (df q13)) (a8 bR rfl bx5 rfl) ?_)
 replace Rg:=Rg.cn ch2
 have len6:=(Rg).small
 refine lv (vi (g.2.length:Int)) (wy (df q13)) (bp eR rfl Rg) (lv (vb (decide (3072<(g.2.length:Int)))) (wy (df q13)) (fm (m:=(g.2.length:Int)) (n:=3072) rfl rfl) (lw (vb (decide (3072<(g.2.length:Int)))) (bt rfl (df q13) rfl) (ab ?_)))
 by_cases p1:3072<(g.2.length:Int)
 ·
  refine af rfl (dt p1) (a7 ?_)
  clear bx5
  refine a6 rfl (ma (vb false) (ab (au (vs:=[vb false]) Tryz.func35 (.tmp rfl .nil) ?_)))
  have e0:(false:Bool)=(dm g):=by
    exact(cW (λh=>by unfold c7 at h;omega)).symm
  replace bH:=bH.cn ch2
  exact⟨rb e0,bH.below⟩
 refine ag rfl (df p1) (ao (a7 (a7 (a6 rfl (ai 0 (ab (am ?_)))))))
 refine aV (σ:=Nat×aw) (λ⟨k,gq⟩ f w=>b6 w0 gq w/\f 1=vp b3 0/\f 3=vi ↑k/\Sl gq (is 0) w g_v g.2/\Bx gq (is 1) w b3 [vi g.1,g_v]/\(k:Int)<=((g.2.length:Int):Int)/\(∀e∈List.take k g.2,pb g.1 e)) (λ⟨k,gq⟩=>Int.toNat (((g.2.length:Int):Int)-(k:Int))) (0,g4) ?_ ?_
 · exact⟨bH.cn ch2,rfl,rfl,Rg,bx5,by omega,by simp⟩
 clear Rg bx5 bH
 rintro⟨k,g9⟩ f7 w8 ⟨bH,zs1,zs3,Rg,bx5,hle_k,hinv4⟩ back4
 refine a7 (a7 (a6 rfl (mz zs3 (lx (aa ea rfl rfl zs1 rfl) (lx (a8 bR rfl bx5 rfl) (lx (bp eR rfl Rg) (lx (bw (m:=↑k) (n:=(g.2.length:Int)) rfl rfl) (ab ?_))))))))
 by_cases p4:(k:Int)<(g.2.length:Int)
 ·
  refine af rfl (dt p4) (ao (a7 (am (a7 (a6 rfl (ai 0 (ab (am (fF (a7 (a7 (a6 rfl ?_))))))))))))
  refine mi 0 (lx (bw (m:=0) (n:=2) rfl rfl) (ab (af rfl rfl (ao (a7 (am (a7 (cG g9 rfl lH (by kernel_rfl) ?_))))))))
  intro w11 ch10
  refine qx (λw' hw'=>aa ea rfl rfl zs1 rfl) ?_
  replace bx5:=bx5.cn ch10
  refine qx (λw' hw'=>a8 bR rfl (bx5.bel hw') rfl) (qz zs3 (qm (vi 0) ?_))
  replace Rg:=Rg.cn ch10
  refine qx (λw' hw'=>ad (v:=g_v) (i:=↑k) eR rfl rfl (Rg.bel hw') rfl (by omega) (by omega)) (qx (λw' hw'=>cA eO rfl rfl rfl (by decide) (by decide) rfl) (qx (λw' hw'=>cK (v:=g_v) (i:=↑k) ah rfl (Rg.bel hw') (by omega) (by omega) (by decide) rfl) (qx (λw' hw'=>bw (m:=(gI g.2 ↑k).1) (n:=0) rfl rfl) (qm (vb (decide (((gI g.2 ↑k).1)<0))) ?_))))
  by_cases q38:((gI g.2 ↑k).1)<0
  ·
   refine bA (wn (dt q38)) (bA (wn (dt q38)) (bA (wn (dt q38)) (bA (wn (dt q38)) (bA (wn (dt q38)) (bA (wn (dt q38)) (bA (wn (dt q38)) (bA (wn (dt q38)) (bA (wn (dt q38)) (bA (wn (dt q38)) ?_)))))))))
   refine qv (vb true) (λw' hw'=>bj rfl (dt q38) rfl) (ep ?_)
   intro w12 hc13
   replace hc13:=aN hc13 g9
   refine af rfl rfl (a7 ?_)
   clear bx5
   refine a6 rfl (ma (vb false) (ab (au (vs:=[vb false]) Tryz.func35 (.tmp rfl .nil) ?_)))
   have e0:(false:Bool)=(dm g):=by
     exact(cW (λh=>by have h2:=h.2.2.2 _ (bC (xs:=g.2) (i:=↑k) (by omega) ‹_›);unfold pb at h2;omega)).symm
   replace bH:=bH.cn ch10
   replace bH:=bH.cn hc13
   exact⟨rb e0,bH.below⟩
  refine c8 (v:=vp b3 1) (wy (df q38)) (λw' hw'=>aa ea rfl rfl zs1 rfl) (c8 (v:=g_v) (wy (df q38)) (λw' hw'=>a8 bR rfl (bx5.bel hw') rfl) (c8 (v:=vi ↑k) (wy (df q38)) (λw' hw'=>aq zs3) (c8 (v:=vi 0) (wy (df q38)) (λw' hw'=>aq rfl) (c8 (v:=Value.pointer (some (aB g_v 2 (Int.toNat ↑k)))) (wy (df q38)) (λw' hw'=>ad (α:=Pt) (xs:=g.2) (v:=g_v) (i:=↑k) eR rfl rfl (Rg.bel hw') rfl (by omega) (by omega)) ?_))))
  refine c8 (v:=Value.pointer (some ⟨(aB g_v 2 (Int.toNat ↑k)).block,(aB g_v 2 (Int.toNat ↑k)).off+0,none⟩)) (wy (df q38)) (λw' hw'=>cA eO rfl rfl rfl (by decide) (by decide) rfl) (c8 (v:=vi ((gI g.2 ↑k).1)) (wy (df q38)) (λw' hw'=>cK (α:=Pt) (xs:=g.2) (v:=g_v) (i:=↑k) ah rfl (Rg.bel hw') (by omega) (by omega) (by decide) rfl) (c8 (v:=vp b3 0) (wy (df q38)) (λw' hw'=>aa ea rfl rfl zs1 rfl) (c8 (v:=vi g.1) (wy (df q38)) (λw' hw'=>a8 ah rfl (bx5.bel hw') rfl) ?_)))
  refine c8 (v:=vb (decide (g.1<=((gI g.2 ↑k).1)))) (wy (df q38)) (λw' hw'=>eB (m:=(gI g.2 ↑k).1) (n:=g.1) rfl rfl) (qv (vb (decide (g.1<=((gI g.2 ↑k).1)))) (λw' hw'=>bt rfl (df q38) rfl) (ep ?_))
  intro w14 hc15
  replace hc15:=aN hc15 g9
  by_cases p9:g.1<=((gI g.2 ↑k).1)
  ·
   refine af rfl (dt p9) (a7 ?_)
   clear bx5
   refine a6 rfl (ma (vb false) (ab (au (vs:=[vb false]) Tryz.func35 (.tmp rfl .nil) ?_)))
   have e0:(false:Bool)=(dm g):=by
     exact(cW (λh=>by have h2:=h.2.2.2 _ (bC (xs:=g.2) (i:=↑k) (by omega) ‹_›);unfold pb at h2;omega)).symm
   replace bH:=bH.cn ch10
   replace bH:=bH.cn hc15
   exact⟨rb e0,bH.below⟩
  refine ag rfl (df p9) (ao (ak (a6 rfl (mi 0 (lx (aS (m:=0) (n:=1) rfl rfl (by omega)) (ai 1 (ab (dE (a7 (a7 (a6 rfl ?_)))))))))))
  refine mi 1 (lx (bw (m:=1) (n:=2) rfl rfl) (ab (af rfl rfl (ao (a7 (am (a7 (cG g9 rfl lH (by kernel_rfl) ?_))))))))
  intro w17 ch16
  refine qx (λw' hw'=>aa ea rfl rfl zs1 rfl) ?_
  replace bx5:=(bx5.cn hc15).cn ch16
  refine qx (λw' hw'=>a8 bR rfl (bx5.bel hw') rfl) (qz zs3 (qm (vi 1) ?_))
  replace Rg:=(Rg.cn hc15).cn ch16
  refine qx (λw' hw'=>ad (v:=g_v) (i:=↑k) eR rfl rfl (Rg.bel hw') rfl (by omega) (by omega)) (qx (λw' hw'=>cA eO rfl rfl rfl (by decide) (by decide) rfl) (qx (λw' hw'=>cK (v:=g_v) (i:=↑k) ah rfl (Rg.bel hw') (by omega) (by omega) (by decide) rfl) (qx (λw' hw'=>bw (m:=(gI g.2 ↑k).2) (n:=0) rfl rfl) (qm (vb (decide (((gI g.2 ↑k).2)<0))) ?_))))
  by_cases q38_18:((gI g.2 ↑k).2)<0
  ·
   refine bA (wn (dt q38_18)) (bA (wn (dt q38_18)) (bA (wn (dt q38_18)) (bA (wn (dt q38_18)) (bA (wn (dt q38_18)) (bA (wn (dt q38_18)) (bA (wn (dt q38_18)) (bA (wn (dt q38_18)) (bA (wn (dt q38_18)) (bA (wn (dt q38_18)) ?_)))))))))
   refine qv (vb true) (λw' hw'=>bj rfl (dt q38_18) rfl) (ep ?_)
   intro w19 hc20
   replace hc20:=aN hc20 g9
   refine af rfl rfl (a7 ?_)
   clear bx5
   refine a6 rfl (ma (vb false) (ab (au (vs:=[vb false]) Tryz.func35 (.tmp rfl .nil) ?_)))
   have e0:(false:Bool)=(dm g):=by
     exact(cW (λh=>by have h2:=h.2.2.2 _ (bC (xs:=g.2) (i:=↑k) (by omega) ‹_›);unfold pb at h2;omega)).symm
   have C21:=cg [] (ch10.n.seq (hc15.n.seq (ch16.n.seq hc20.n)))
   replace bH:=bH.ca C21
   exact⟨rb e0,bH.below⟩
  refine c8 (v:=vp b3 1) (wy (df q38_18)) (λw' hw'=>aa ea rfl rfl zs1 rfl) (c8 (v:=g_v) (wy (df q38_18)) (λw' hw'=>a8 bR rfl (bx5.bel hw') rfl) (c8 (v:=vi ↑k) (wy (df q38_18)) (λw' hw'=>aq zs3) (c8 (v:=vi 1) (wy (df q38_18)) (λw' hw'=>aq rfl) (c8 (v:=Value.pointer (some (aB g_v 2 (Int.toNat ↑k)))) (wy (df q38_18)) (λw' hw'=>ad (α:=Pt) (xs:=g.2) (v:=g_v) (i:=↑k) eR rfl rfl (Rg.bel hw') rfl (by omega) (by omega)) ?_))))
  refine c8 (v:=Value.pointer (some ⟨(aB g_v 2 (Int.toNat ↑k)).block,(aB g_v 2 (Int.toNat ↑k)).off+1,none⟩)) (wy (df q38_18)) (λw' hw'=>cA eO rfl rfl rfl (by decide) (by decide) rfl) (c8 (v:=vi ((gI g.2 ↑k).2)) (wy (df q38_18)) (λw' hw'=>cK (α:=Pt) (xs:=g.2) (v:=g_v) (i:=↑k) ah rfl (Rg.bel hw') (by omega) (by omega) (by decide) rfl) (c8 (v:=vp b3 0) (wy (df q38_18)) (λw' hw'=>aa ea rfl rfl zs1 rfl) (c8 (v:=vi g.1) (wy (df q38_18)) (λw' hw'=>a8 ah rfl (bx5.bel hw') rfl) ?_)))
  refine c8 (v:=vb (decide (g.1<=((gI g.2 ↑k).2)))) (wy (df q38_18)) (λw' hw'=>eB (m:=(gI g.2 ↑k).2) (n:=g.1) rfl rfl) (qv (vb (decide (g.1<=((gI g.2 ↑k).2)))) (λw' hw'=>bt rfl (df q38_18) rfl) (ep ?_))
  intro w22 hc23
  replace hc23:=aN hc23 g9
  by_cases p9_24:g.1<=((gI g.2 ↑k).2)
  ·
   refine af rfl (dt p9_24) (a7 ?_)
   clear bx5
   refine a6 rfl (ma (vb false) (ab (au (vs:=[vb false]) Tryz.func35 (.tmp rfl .nil) ?_)))
   have e0:(false:Bool)=(dm g):=by
     exact(cW (λh=>by have h2:=h.2.2.2 _ (bC (xs:=g.2) (i:=↑k) (by omega) ‹_›);unfold pb at h2;omega)).symm
   have C25:=cg [] (ch10.n.seq (hc15.n.seq (ch16.n.seq hc23.n)))
   replace bH:=bH.ca C25
   exact⟨rb e0,bH.below⟩
  refine ag rfl (df p9_24) (ao (ak (a6 rfl (mi 1 (lx (aS (m:=1) (n:=1) rfl rfl (by omega)) (ai 2 (ab (dE (a7 (a7 (a6 rfl ?_)))))))))))
  refine mi 2 (lx (bw (m:=2) (n:=2) rfl rfl) (ab (ag rfl rfl (aO rfl (ak (a6 rfl (mz zs3 (lx (aS (m:=↑k) (n:=1) rfl rfl (by omega)) (ai ((k:Int)+1) ?_)))))))))
  refine ab ?_
  have C26:=cg [] (ch10.n.seq (hc15.n.seq (ch16.n.seq hc23.n)))
  refine back4 (k+1,g9) _ _ ⟨bH.ca C26,zs1,rfl,Rg.cn hc23,bx5.cn hc23,by omega,?_⟩ ?_
  · show∀e∈List.take (k+1) g.2,pb g.1 e
    rw[aT ‹_›]
    intro e he
    rcases List.mem_append.1 he with h|h
    · exact hinv4 e h
    · obtain rfl:=List.mem_singleton.1 h
      refine⟨?_,?_⟩<;>omega
  · show Int.toNat (_-_)<Int.toNat (_-_)
    omega
 refine ag rfl (df p4) (aO rfl (a7 ?_))
 clear bx5
 refine a6 rfl (ma (vb true) (ab (au (vs:=[vb true]) Tryz.func35 (.tmp rfl .nil) ?_)))
 have e0:(true:Bool)=(dm g):=by
   exact(nf ⟨by omega,by omega,by omega,by rw[List.take_of_length_le (by omega)] at hinv4;exact hinv4⟩).symm
 exact⟨rb e0,bH.below⟩
theorem ux(w0:World)(a:List Int)(a_v:Value)(ha_v:Ro w0 a_v a)(b:List Int)(b_v:Value)(hb_v:Ro w0 b_v b):
    Calls Tryz.prog 33 #[a_v,b_v] w0 (λee w=>ee= .returned (vb (decide (a=b)))/\eJ w0.heap.size w0 w):=by
 refine ap Tryz.func33 rfl nq ?_
 have bH:=b6.start w0
 have Ra:=ha_v.sl
 have Rb:=hb_v.sl
 refine a7 (a6 rfl (ma (vb false) (ab (a7 (a7 (a6 rfl (mv a_v ?_)))))))
 have len1:=(Ra).small
 refine lx (bp bF rfl Ra) (mv b_v ?_)
 have len2:=(Rb).small
 refine lx (bp bF rfl Rb) (lx (dq (m:=(a.length:Int)) (n:=(b.length:Int)) rfl rfl) (ab ?_))
 by_cases p1:(a.length:Int)=(b.length:Int)
 ·
  refine ag rfl (congrArg Bool.not (dt p1)) (ao (a7 (a7 (a6 rfl (ai 0 (ab (am ?_)))))))
  refine aV (σ:=Nat×aw) (λ⟨k,gq⟩ f w=>b6 w0 gq w/\f 0=a_v/\f 1=b_v/\f 5=vi ↑k/\Sl gq (is 0) w a_v a/\Sl gq (is 0) w b_v b/\(k:Int)<=((a.length:Int):Int)/\(List.take k a=List.take k b)) (λ⟨k,gq⟩=>Int.toNat (((a.length:Int):Int)-(k:Int))) (0,c0) ?_ ?_
  · exact⟨bH,rfl,rfl,rfl,Ra,Rb,by omega,by simp⟩
  clear Ra Rb bH
  rintro⟨k,g5⟩ f3 w4 ⟨bH,zs0,zs1,zs5,Ra,Rb,hle_k,hinv4⟩ back4
  refine a7 (a7 (a6 rfl (mz zs5 (mz zs0 (lx (bp bF rfl Ra) (lx (bw (m:=↑k) (n:=(a.length:Int)) rfl rfl) (ab ?_)))))))
  by_cases p4:(k:Int)<(a.length:Int)
  ·
   refine af rfl (dt p4) (ao (a7 (am (a7 (cG g5 rfl lH (by kernel_rfl) ?_)))))
   intro w7 ch6
   refine qz zs0 (qz zs5 ?_)
   replace Ra:=Ra.cn ch6
   refine qx (λw' hw'=>ad (v:=a_v) (i:=↑k) bF rfl rfl (Ra.bel hw') rfl (by omega) (by omega)) (qx (λw' hw'=>av (v:=a_v) (i:=↑k) ah rfl (Ra.bel hw') (by omega) (by omega) (by decide) rfl) (qz zs1 (qz zs5 ?_)))
   replace Rb:=Rb.cn ch6
   refine qx (λw' hw'=>ad (v:=b_v) (i:=↑k) bF rfl rfl (Rb.bel hw') rfl (by omega) (by omega)) (qx (λw' hw'=>av (v:=b_v) (i:=↑k) ah rfl (Rb.bel hw') (by omega) (by omega) (by decide) rfl) (qx (λw' hw'=>dq (m:=(gI a ↑k)) (n:=(gI b ↑k)) rfl rfl) (ep ?_)))
   intro w8 hc9
   replace hc9:=aN hc9 g5
   by_cases p6:(gI a ↑k)=(gI b ↑k)
   ·
    refine ag rfl (congrArg Bool.not (dt p6)) (ao (ak (a6 rfl (mz zs5 (lx (aS (m:=↑k) (n:=1) rfl rfl (by omega)) (ai ((k:Int)+1) (ab ?_)))))))
    replace bH:=bH.cn ch6
    refine back4 (k+1,g5) _ _ ⟨bH.cn hc9,zs0,zs1,rfl,Ra.cn hc9,Rb.cn hc9,by omega,?_⟩ ?_
    · show List.take (k+1) a=List.take (k+1) b
      rw[aT ‹_›,aT (by omega),hinv4];simp_all
    · show Int.toNat (_-_)<Int.toNat (_-_)
      omega
   refine af rfl (congrArg Bool.not (df p6)) (a7 (a6 rfl (ma (vb false) (ab (au (vs:=[vb false]) Tryz.func33 (.tmp rfl .nil) ?_)))))
   have e0:(false:Bool)=(decide (a=b)):=by
     exact(df (λh=>by subst h;simp_all)).symm
   replace bH:=bH.cn ch6
   replace bH:=bH.cn hc9
   exact⟨rb e0,bH.below⟩
  refine ag rfl (df p4) (aO rfl (a7 (a6 rfl (ma (vb true) (ab (au (vs:=[vb true]) Tryz.func33 (.tmp rfl .nil) ?_))))))
  have e0:(true:Bool)=(decide (a=b)):=by
    (have e:=hinv4;rw[List.take_of_length_le (by omega),List.take_of_length_le (by omega)] at e;exact(dt e).symm)
  exact⟨rb e0,bH.below⟩
 refine af rfl (congrArg Bool.not (df p1)) (a7 (a6 rfl (ma (vb false) (ab (au (vs:=[vb false]) Tryz.func33 (.tmp rfl .nil) ?_)))))
 have e0:(false:Bool)=(decide (a=b)):=by
   exact(df (λh=>by subst h;simp_all)).symm
 exact⟨rb e0,bH.below⟩
theorem yb(w0:World)(e:Pt):
    Calls Tryz.prog 151 #[vg [vi e.1,vi e.2]] w0 (λee w=>ee= .returned (vg [vi (min e.1 e.2),vi (max e.1 e.2)])/\eJ w0.heap.size w0 w):=by
 refine ap Tryz.func151 rfl nq ?_
 have bH:=b6.start w0
 refine a7 (a6 rfl (cN rfl (cq c0 (is 1) (1,0) rfl rfl ?_)))
 intro g4 w1 b3 ch2 bx5
 refine lo (bi g4 (is 2) (2,0) rfl bx ?_)
 intro g9 w6 b8 ch7 bx10
 refine ab (a7 (a6 rfl (lx (aQ eO rfl rfl rfl (by decide) (by decide) rfl) ?_)))
 replace bx5:=bx5.cn ch7
 refine lx (a8 ah rfl bx5 rfl) (lx (aQ eO rfl rfl rfl (by decide) (by decide) rfl) (lx (a8 ah rfl bx5 rfl) (lw (vi (min e.1 e.2)) (jj rfl rfl) (lx (aQ eO rfl rfl rfl (by decide) (by decide) rfl) (lx (a8 ah rfl bx5 rfl) (lx (aQ eO rfl rfl rfl (by decide) (by decide) rfl) (lx (a8 ah rfl bx5 rfl) (lw (vi (max e.1 e.2)) (sf rfl rfl) (lw (vg [vi (min e.1 e.2),vi (max e.1 e.2)]) (bh (vs:=[(0,vi (min e.1 e.2)),(1,vi (max e.1 e.2))]) rfl (by kernel_rfl)) ?_)))))))))
 refine lo (ax (cs':=[vi (min e.1 e.2),vi (max e.1 e.2)]) bx rfl rfl bx10 rfl nq (AllOne.all (.cons rfl (.cons rfl .nil))) rfl ?_)
 intro w11 ch12 bx13
 clear bx10
 refine ab (au (vs:=[vg [vi (min e.1 e.2),vi (max e.1 e.2)]]) Tryz.func151 (.cell rfl (cy (ds:=[vi (min e.1 e.2),vi (max e.1 e.2)]) bx bx13 rfl rfl) .nil) ?_)
 have e0:((min e.1 e.2,max e.1 e.2):Pt)=((min e.1 e.2,max e.1 e.2)):=by
   rfl
 have C14:=cg [2] (ch2.n.seq (ch7.n.seq (ch12.l rfl)))
 replace bH:=bH.ca C14
 exact⟨(congrArg (a₁:=(min e.1 e.2,max e.1 e.2)) (λ(z0:Pt)=>Ending.returned (vg [vi z0.1,vi z0.2])) e0),bH.below⟩
theorem sO(w0:World)(l:List Int)(l_v:Value)(hl_v:Ro w0 l_v l)(n:Int)(hn:0<=n/\n<=1000000):
    Calls Tryz.prog 152 #[l_v,vi n] w0 (λee w=>ee= .returned (vi (cI l n))/\eJ w0.heap.size w0 w):=by
 refine ap Tryz.func152 rfl nq ?_
 have bH:=b6.start w0
 have Rl:=hl_v.sl
 have hn1:=hn.1
 have hn2:=hn.2
 refine a7 (a6 rfl (ai 0 (ab (a7 (a6 rfl (mi n (lo (dN (α:=Bool) (l:=n) (cp:=n) c0 (is 1) (is 1) (1,0) rfl false jG dL rfl rfl rfl (by omega) (by omega) (by omega) (by omega) ?_))))))))
 intro g1 w2 v3 ch4 o5 _
 refine ma v3 (ab (a7 (a7 (a6 rfl (mv l_v ?_)))))
 replace Rl:=Rl.cn ch4
 have len6:=(Rl).small
 refine lx (bp bF rfl Rl) (mi 0 (ab (am ?_)))
 refine aV (σ:=Nat×(List Bool)×aw) (λ⟨k,seen,gq⟩ f w=>b6 w0 gq w/\f 1=vi n/\f 5=v3/\f 10=l_v/\f 11=vi (l.length:Int)/\f 12=vi ↑k/\Sl gq (is 0) w l_v l/\Ow gq (is 1) (is 1) w v3 seen/\(k:Int)<=((l.length:Int):Int)/\(eK seen l n k)) (λ⟨k,seen,gq⟩=>Int.toNat (((l.length:Int):Int)-(k:Int))) (0,(List.replicate (Int.toNat n) false),g1) ?_ ?_
 · exact⟨bH.cn ch4,rfl,rfl,rfl,rfl,rfl,Rl,o5,by omega,by exact eK.start l n hn1⟩
 clear Rl o5 bH
 rintro⟨k,seen,g9⟩ f7 w8 ⟨bH,zs1,zs5,zs10,zs11,zs12,Rl,o5,hle_k,hsI⟩ back3
 have hsl:=hsI.len
 refine a7 (a6 rfl (lx (bw (m:=↑k) (n:=(l.length:Int)) zs12 zs11) (ab (a7 ?_))))
 by_cases p3:(k:Int)<(l.length:Int)
 ·
  refine af rfl (dt p3) (ao (a7 (am (a7 (a6 rfl (lx (ad (v:=l_v) (i:=↑k) bF rfl zs10 Rl zs12 (by omega) (by omega)) (lx (av (v:=l_v) (i:=↑k) ah rfl Rl (by omega) (by omega) (by decide) rfl) (ai (gI l ↑k) (ab (a7 (a7 (a6 rfl (mi (gI l ↑k) ?_)))))))))))))
  refine lx (bw (m:=(gI l ↑k)) (n:=0) rfl rfl) (mv (vb (decide ((gI l ↑k)<0))) ?_)
  by_cases q18:(gI l ↑k)<0
  ·
   refine aA (wn (dt q18)) (aA (wn (dt q18)) (aA (wn (dt q18)) (lw (vb true) (bj rfl (dt q18) rfl) (ab (af rfl rfl (a7 ?_))))))
   clear o5
   refine a6 rfl (ai 2 (ab (au (vs:=[vi 2]) Tryz.func152 (.tmp rfl .nil) ?_)))
   have e0:(2:Int)=(cI l n):=by
     exact hsI.bad ‹_› (by omega)
   exact⟨ri e0,bH.below⟩
  refine lv (vi (gI l ↑k)) (wy (df q18)) (aq rfl) (lv (vi n) (wy (df q18)) (aq zs1) (lv (vb (decide (n<=(gI l ↑k)))) (wy (df q18)) (eB (m:=(gI l ↑k)) (n:=n) rfl rfl) (lw (vb (decide (n<=(gI l ↑k)))) (bt rfl (df q18) rfl) (ab ?_))))
  by_cases p5:n<=(gI l ↑k)
  ·
   refine af rfl (dt p5) (a7 ?_)
   clear o5
   refine a6 rfl (ai 2 (ab (au (vs:=[vi 2]) Tryz.func152 (.tmp rfl .nil) ?_)))
   have e0:(2:Int)=(cI l n):=by
     exact hsI.bad ‹_› (by omega)
   exact⟨ri e0,bH.below⟩
  refine ag rfl (df p5) (ao (a7 (a7 (a6 rfl (mz zs5 (mi (gI l ↑k) (lx (ad (v:=v3) (i:=(gI l ↑k)) jG rfl rfl o5.flat rfl (by omega) (by omega)) (lx (av (v:=v3) (i:=(gI l ↑k)) dL rfl o5.flat (by omega) (by omega) (by decide) rfl) (ab ?_)))))))))
  by_cases p7:(gI seen (gI l ↑k))=true
  ·
   refine af rfl p7 (a7 ?_)
   clear o5
   refine a6 rfl (ai 18 (ab (au (vs:=[vi 18]) Tryz.func152 (.tmp rfl .nil) ?_)))
   have e0:(18:Int)=(cI l n):=by
     exact hsI.twice ‹_› (by omega) (by omega) ‹_›
   exact⟨ri e0,bH.below⟩
  refine ag rfl (Bool.eq_false_iff.2 p7) (ao (a6 rfl (mz zs5 (mi (gI l ↑k) (lx (ad (v:=v3) (i:=(gI l ↑k)) jG rfl rfl o5.flat rfl (by omega) (by omega)) (lo (aZ (i:=(gI l ↑k)) true dL rfl rfl o5 (by omega) (by omega) rfl ?_)))))))
  intro w10 ch11 bx12
  clear o5
  refine ab (ak (a6 rfl (lx (aS (m:=↑k) (n:=1) zs12 rfl (by omega)) (mi ((k:Int)+1) (ab ?_)))))
  refine back3 (k+1,(List.set seen (Int.toNat (gI l ↑k)) true),g9) _ _ ⟨bH.ce ch11,zs1,zs5,zs10,zs11,rfl,Rl.ce ch11,bx12,by omega,?_⟩ ?_
  · show eK (List.set seen (Int.toNat (gI l ↑k)) true) l n (k+1)
    exact hsI.next ‹_› (by omega) (by omega) (Bool.eq_false_iff.2 ‹_›)
  · show Int.toNat (_-_)<Int.toNat (_-_)
    omega
 refine ag rfl (df p3) (aO rfl (a7 ?_))
 clear o5
 refine a6 rfl (ai 0 (ab (au (vs:=[vi 0]) Tryz.func152 (.tmp rfl .nil) ?_)))
 have e0:(0:Int)=(cI l n):=by
   exact hsI.done ‹_›
 exact⟨ri e0,bH.below⟩
theorem zH(w0:World)(g:(Int)×(List Pt))(g_v:Value)(hg_v:Ro w0 g_v g.2)(nodes:List Int)(nodes_v:Value)(hnodes_v:Ro w0 nodes_v nodes):
    Calls Tryz.prog 135 #[vg [vi g.1,g_v],nodes_v] w0 (λee w=>∃xx:aw×Value×Value,ee= .returned ((λ⟨δ,rv0,rv1⟩=>vt [vg [vi (((di g nodes).1).1),rv0],rv1,vi ((di g nodes).2.2)]) xx)/\(λ(⟨δ,rv0,rv1⟩:aw×Value×Value) (w:World)=>dU w0 δ w/\Ow δ (is 1) (is 1) w rv0 (((di g nodes).1).2)/\Ow δ (is 2) (is 2) w rv1 ((di g nodes).2.1)) xx w):=by
 refine ap Tryz.func135 rfl nq ?_
 have bH:=b6.start w0
 have Rg:=hg_v.sl
 have Rnodes:=hnodes_v.sl
 refine a7 (a6 rfl (cN rfl (cq c0 (is 1) (1,0) rfl rfl ?_)))
 intro g4 w1 b3 ch2 bx5
 refine lo (bi g4 (is 2) (2,0) rfl aX ?_)
 intro g9 w6 b8 ch7 bx10
 refine ma vn (ai 0 (ab (a7 (a7 (a6 rfl ?_)))))
 replace bx5:=bx5.cn ch7
 refine lx (ay (ds:=[vi g.1,g_v]) aX rfl bx5 rfl rfl) ?_
 replace Rg:=(Rg.cn ch2).cn ch7
 refine lo (bV (v:=vb (dm g)) (aH (vals:=[vg [vi g.1,g_v]]) Tryz.func32 iH iY rfl) (iP w6 g g_v (Rg).ro) ?_)
 intro w11 hb12
 replace hb12:=aN hb12 g9
 refine lx (eU (b:=(dm g)) rfl) (ab ?_)
 by_cases p1:(dm g)=true
 ·
  refine ag rfl (congrArg Bool.not p1) (ao (a7 (a7 ?_)))
  obtain⟨hm1,hm2,hm3,hm4⟩:=of_decide_eq_true p1
  refine a6 rfl (mv nodes_v (lx (aa ea rfl rfl rfl rfl) ?_))
  replace bx5:=bx5.cn hb12
  refine lx (a8 ah rfl bx5 rfl) ?_
  have C13:=cg [] (ch2.n.seq (ch7.n.seq hb12.n))
  replace Rnodes:=Rnodes.ca C13
  refine lo (bV (v:=vi (cI nodes g.1)) (aH (vals:=[nodes_v,vi g.1]) Tryz.func152 yX za rfl) (sO w11 nodes nodes_v (Rnodes).ro g.1 (by omega)) ?_)
  intro w14 hb15
  replace hb15:=aN hb15 g9
  refine ai (cI nodes g.1) (ab (a7 (a6 rfl (mi (cI nodes g.1) (lx (dq (m:=cI nodes g.1) (n:=0) rfl rfl) (ab ?_))))))
  by_cases p4:(cI nodes g.1)=0
  ·
   refine ag rfl (congrArg Bool.not (dt p4)) (ao (a7 ?_))
   have hch:=ry p4
   refine a6 rfl (lx (aa ea rfl rfl rfl rfl) ?_)
   replace bx5:=bx5.cn hb15
   refine lx (a8 ah rfl bx5 rfl) (lo (dN (α:=Int) (l:=g.1) (cp:=g.1) g9 (is 3) (is 3) (3,0) rfl (0:Int) bF ah rfl rfl rfl (by omega) (by omega) (by omega) (by omega) ?_))
   intro g16 w17 v18 ch19 o20 _
   refine ma v18 (ab (a7 (a7 (a6 rfl (mv nodes_v ?_)))))
   replace Rnodes:=(Rnodes.cn hb15).cn ch19
   have len21:=(Rnodes).small
   refine lx (bp bF rfl Rnodes) (mi 0 (ab (am ?_)))
   refine aV (σ:=Nat×(List Int)×aw) (λ⟨k,to_,gq⟩ f w=>b6 w0 gq w/\f 1=nodes_v/\f 2=vp b3 0/\f 4=vp b8 0/\f 8=v18/\f 30=nodes_v/\f 31=vi (nodes.length:Int)/\f 32=vi ↑k/\Sl gq (is 0) w g_v g.2/\Sl gq (is 0) w nodes_v nodes/\Bx gq (is 1) w b3 [vi g.1,g_v]/\Bx gq (is 2) w b8 [vi 0,vn]/\Ow gq (is 3) (is 3) w v18 to_/\(k:Int)<=((nodes.length:Int):Int)/\(iI to_ nodes g.1 k)) (λ⟨k,to_,gq⟩=>Int.toNat (((nodes.length:Int):Int)-(k:Int))) (0,(List.replicate (Int.toNat g.1) (0:Int)),g16) ?_ ?_
   have C23:=cg [] (hb12.n.seq (hb15.n.seq ch19.n))
   have C22:=ch2.n.seq (ch7.n.seq C23)
   · exact⟨bH.ca C22,rfl,rfl,rfl,rfl,rfl,rfl,rfl,Rg.ca C23,Rnodes,bx5.cn ch19,bx10.ca C23,o20,by omega,by exact iI.start nodes g.1 hm1⟩
   clear Rg Rnodes bx5 bx10 o20 bH
   rintro⟨k,to_,g26⟩ f24 w25 ⟨bH,zs1,zs2,zs4,zs8,zs30,zs31,zs32,Rg,Rnodes,bx5,bx10,o20,hle_k,hpi⟩ back8
   have htl:=hpi.len
   refine a7 (a6 rfl (lx (bw (m:=↑k) (n:=(nodes.length:Int)) zs32 zs31) (ab (a7 ?_))))
   by_cases p8:(k:Int)<(nodes.length:Int)
   ·
    refine af rfl (dt p8) (ao (a7 (am (a7 ?_))))
    obtain⟨hk1,hk2⟩:=hch.1 _ (bC (xs:=nodes) (i:=↑k) (by omega) p8)
    refine a6 rfl (mz zs32 (lx (ad (v:=nodes_v) (i:=↑k) bF rfl zs30 Rnodes zs32 (by omega) (by omega)) (lx (av (v:=nodes_v) (i:=↑k) ah rfl Rnodes (by omega) (by omega) (by decide) rfl) (ai (k:Int) (ai (gI nodes ↑k) (ab (a6 rfl (mz zs8 (mi (gI nodes ↑k) (mi ↑k ?_))))))))))
    refine lx (aS (m:=↑k) (n:=1) rfl rfl (by omega)) (lx (ad (v:=v18) (i:=(gI nodes ↑k)) bF rfl rfl o20.flat rfl (by omega) (by omega)) (lo (aZ (i:=(gI nodes ↑k)) ((k:Int)+1) ah rfl rfl o20 (by omega) (by omega) rfl ?_)))
    intro w27 ch28 bx29
    clear o20
    refine ab (ak (a6 rfl (lx (aS (m:=↑k) (n:=1) zs32 rfl (by omega)) (mi ((k:Int)+1) (ab ?_)))))
    refine back8 (k+1,(List.set to_ (Int.toNat (gI nodes ↑k)) ((k:Int)+1)),g26) _ _ ⟨bH.ce ch28,zs1,zs2,zs4,zs8,zs30,zs31,rfl,Rg.ce ch28,Rnodes.ce ch28,bx5.ce ch28,bx10.ce ch28,bx29,by omega,?_⟩ ?_
    · show iI (List.set to_ (Int.toNat (gI nodes ↑k)) ((k:Int)+1)) nodes g.1 (k+1)
      exact hpi.next ‹_› hk1 hk2 hch.2
    · show Int.toNat (_-_)<Int.toNat (_-_)
      omega
   refine ag rfl (df p8) (aO rfl (a7 ?_))
   have hto:∀v,0<=v->v<g.1->gI to_ v=gk nodes v:=by have:=hpi.pos;rwa[List.take_of_length_le (by omega)] at this
   clear hpi
   refine a6 rfl (mz zs1 (lx (bp bF rfl Rnodes) (lw (vg [vi (nodes.length:Int),vn]) (bh (vs:=[(0,vi (nodes.length:Int))]) rfl (by kernel_rfl)) (lo (bi g26 (is 4) (4,0) rfl aX ?_)))))
   intro g33 w30 b32 ch31 bx34
   refine lo (ax (cs':=[vi (nodes.length:Int),vn]) aX rfl rfl bx34 rfl nq (AllOne.all (.cons rfl (.cons rfl .nil))) rfl ?_)
   intro w35 ch36 bx37
   clear bx34
   refine ab (a7 (a6 rfl (ma vn (ab (a7 (a7 (a6 rfl (lx (aa ea rfl rfl zs2 rfl) ?_))))))))
   replace bx5:=(bx5.cn ch31).ce ch36
   refine lx (a8 bR rfl bx5 rfl) ?_
   replace Rg:=(Rg.cn ch31).ce ch36
   have len38:=(Rg).small
   refine lx (bp eR rfl Rg) (mi 0 (ab (am ?_)))
   clear bx5
   refine aV (σ:=Value×(List Pt)×Value×(List Int)×Nat×aw) (λ⟨out_1_v,out_1,which_v,which,k,gq⟩ f w=>b6 w0 gq w/\f 4=vp b8 0/\f 8=v18/\f 11=vp b32 0/\f 12=which_v/\f 47=g_v/\f 48=vi (g.2.length:Int)/\f 49=vi ↑k/\Sl gq (is 0) w g_v g.2/\Sl gq (is 0) w nodes_v nodes/\Bx gq (is 2) w b8 [vi 0,vn]/\Ow gq (is 3) (is 3) w v18 to_/\Bx gq (is 4) w b32 [vi (nodes.length:Int),out_1_v]/\Ow gq (is 7) (is 7) w out_1_v out_1/\Ow gq (is 9) (is 9) w which_v which/\(k:Int)<=((g.2.length:Int):Int)/\(which=dG g nodes k/\out_1=(dG g nodes k).map (λi=>(gk nodes (gI g.2 i).1-1,gk nodes (gI g.2 i).2-1)))) (λ⟨out_1_v,out_1,which_v,which,k,gq⟩=>Int.toNat (((g.2.length:Int):Int)-(k:Int))) (vn,[],vn,[],0,g33) ?_ ?_
   replace bH:=bH.cn ch31
   · exact⟨bH.ce ch36,zs4,zs8,rfl,rfl,rfl,rfl,rfl,Rg,(Rnodes.cn ch31).ce ch36,(bx10.cn ch31).ce ch36,(o20.cn ch31).ce ch36,bx37,Ow.nil,Ow.nil,by omega,by exact⟨rfl,rfl⟩⟩
   clear Rg Rnodes bx10 o20 bx37 bH
   rintro⟨out_1_v,out_1,which_v,which,k,g41⟩ f39 w40 ⟨bH,zs4,zs8,zs11,zs12,zs47,zs48,zs49,Rg,Rnodes,bx10,o20,bx37,o_out_1,o_which,hle_k,hinv15⟩ back15
   refine a7 (a6 rfl (lx (bw (m:=↑k) (n:=(g.2.length:Int)) zs49 zs48) (ab (a7 ?_))))
   by_cases p15:(k:Int)<(g.2.length:Int)
   ·
    refine af rfl (dt p15) (ao (a7 (am (a7 ?_))))
    obtain⟨⟨he1,he2⟩,he3,he4⟩:=hm4 _ (bC (xs:=g.2) (i:=↑k) (by omega) p15)
    have hg1:=hto _ he1 he2
    have hg2:=hto _ he3 he4
    refine a6 rfl (mz zs49 (lx (ad (v:=g_v) (i:=↑k) eR rfl zs47 Rg zs49 (by omega) (by omega)) (lw (vg [vi ((gI g.2 ↑k).1),vi ((gI g.2 ↑k).2)]) (bJ (v:=g_v) (i:=↑k) bx rfl Rg (by omega) (by omega) rfl) (lo (bi g41 (is 5) (5,0) rfl bx ?_)))))
    intro g45 w42 b44 ch43 bx46
    refine ai (k:Int) (lo (ax (cs':=[vi ((gI g.2 ↑k).1),vi ((gI g.2 ↑k).2)]) bx rfl rfl bx46 rfl nq (AllOne.all (.cons rfl (.cons rfl .nil))) rfl ?_))
    intro w47 ch48 bx49
    clear bx46
    refine ab (a7 (a6 rfl (mz zs8 (lx (aQ eO rfl rfl rfl (by decide) (by decide) rfl) (lx (a8 ah rfl bx49 rfl) ?_)))))
    replace o20:=(o20.cn ch43).ce ch48
    refine lx (ad (v:=v18) (i:=(gI g.2 ↑k).1) bF rfl rfl o20.flat rfl (by omega) (by omega)) (lx (av (v:=v18) (i:=(gI g.2 ↑k).1) ah rfl o20.flat (by omega) (by omega) (by decide) rfl) (lx (fm (m:=(gI to_ ((gI g.2 ↑k).1))) (n:=0) rfl rfl) (mv (vb (decide (0<(gI to_ ((gI g.2 ↑k).1))))) ?_)))
    by_cases q60:0<(gI to_ ((gI g.2 ↑k).1))
    ·
     refine lv (v18) (wy (dt q60)) (aq zs8) (lv (vp b44 1) (wy (dt q60)) (aQ eO rfl rfl rfl (by decide) (by decide) rfl) (lv (vi ((gI g.2 ↑k).2)) (wy (dt q60)) (a8 ah rfl bx49 rfl) (lv (Value.pointer (some (aB v18 1 (Int.toNat ((gI g.2 ↑k).2))))) (wy (dt q60)) (ad (α:=Int) (xs:=to_) (v:=v18) (i:=(gI g.2 ↑k).2) bF rfl rfl o20.flat rfl (by omega) (by omega)) (lv (vi (gI to_ ((gI g.2 ↑k).2))) (wy (dt q60)) (av (α:=Int) (xs:=to_) (v:=v18) (i:=(gI g.2 ↑k).2) ah rfl o20.flat (by omega) (by omega) (by decide) rfl) ?_))))
     refine lv (vb (decide (0<(gI to_ ((gI g.2 ↑k).2))))) (wy (dt q60)) (fm (m:=(gI to_ ((gI g.2 ↑k).2))) (n:=0) rfl rfl) (lw (vb (decide (0<(gI to_ ((gI g.2 ↑k).2))))) (bj rfl (dt q60) rfl) (ab ?_))
     by_cases p17:0<(gI to_ ((gI g.2 ↑k).2))
     ·
      refine af rfl (dt p17) (a7 ?_)
      have hn1:=lL nodes (gI g.2 ↑k).1
      have hn2:=lL nodes (gI g.2 ↑k).2
      have hw2:=r9 g nodes k
      rw[<-hinv15.1] at hw2
      have hw3:out_1.length<=k:=by rw[hinv15.2,List.length_map,<-hinv15.1];exact hw2
      refine bq g45 [0,1,2,3,4,5,6,7,8,9,10,11,12,13,14,17] lH ?_
      intro w51 ch50
      refine xp 0 rfl (λw=>aa ea rfl rfl zs11 rfl) ?_
      have C52:=cg [5] (ch43.n.seq ((ch48.l rfl).seq ch50.n))
      replace bx37:=bx37.ca C52
      refine xh 1 [0,2,3,8,9,4,10,5,11,6,12,7,13,14,15] rfl (λw' hw'=>a8 bR rfl (bx37.bel hw') rfl) (xp (v:=v18) 2 rfl (λw=>aq zs8) (xv 3 [2,1,0,8,9,10,11,12,13] rfl (aQ eO rfl rfl rfl (by decide) (by decide) rfl) ?_))
      replace bx49:=bx49.cn ch50
      refine xv 4 [3,2,1,0,8,9,10,11,12,13] rfl (a8 ah rfl bx49 rfl) ?_
      replace o20:=o20.cn ch50
      refine xv 5 [4,3,2,1,0,8,9,10,11,12,13] rfl (ad (v:=v18) (i:=(gI g.2 ↑k).1) bF rfl rfl o20.flat rfl (by omega) (by omega)) (xv 6 [5,4,3,2,1,0,8,9,10,11,12,13] rfl (av (v:=v18) (i:=(gI g.2 ↑k).1) ah rfl o20.flat (by omega) (by omega) (by decide) rfl) (xp 7 rfl (λw=>ej (m:=(gI to_ ((gI g.2 ↑k).1))) (n:=1) rfl rfl (by omega)) (xp (v:=v18) 8 rfl (λw=>aq zs8) (xv 9 [8,7,6,5,4,3,2,1,0] rfl (aQ eO rfl rfl rfl (by decide) (by decide) rfl) (xv 10 [9,8,7,6,5,4,3,2,1,0] rfl (a8 ah rfl bx49 rfl) (xv 11 [10,9,8,7,6,5,4,3,2,1,0] rfl (ad (v:=v18) (i:=(gI g.2 ↑k).2) bF rfl rfl o20.flat rfl (by omega) (by omega)) ?_))))))
      refine xv 12 [11,10,9,8,7,6,5,4,3,2,1,0] rfl (av (v:=v18) (i:=(gI g.2 ↑k).2) ah rfl o20.flat (by omega) (by omega) (by decide) rfl) (xp 13 rfl (λw=>ej (m:=(gI to_ ((gI g.2 ↑k).2))) (n:=1) rfl rfl (by omega)) (xp (v:=vg [vi ((gI to_ ((gI g.2 ↑k).1))-1),vi ((gI to_ ((gI g.2 ↑k).2))-1)]) 14 rfl (λw=>bh (vs:=[(0,vi ((gI to_ ((gI g.2 ↑k).1))-1)),(1,vi ((gI to_ ((gI g.2 ↑k).2))-1))]) rfl (by kernel_rfl)) (b9 15 rfl (by kernel_rfl) rfl ?_)))
      refine ar (α:=Pt) g45 (is 6) (is 6) (6,0) rfl [((gI to_ ((gI g.2 ↑k).1))-1,(gI to_ ((gI g.2 ↑k).2))-1)] eR bx (by decide) (by decide) (vs:=[(0,vg [vi ((gI to_ ((gI g.2 ↑k).1))-1),vi ((gI to_ ((gI g.2 ↑k).2))-1)])]) rfl rfl (.cons rfl .nil) ?_
      intro g53 w54 v55 ch56 o57
      refine b9 16 rfl (by kernel_rfl) rfl ?_
      have C58:=cg [5] (ch43.n.seq ((ch48.l rfl).seq (ch50.n.seq ch56.n)))
      replace o_out_1:=o_out_1.ca C58
      refine aK (α:=Pt) (xs:=out_1) (ys:=([((gI to_ ((gI g.2 ↑k).1))-1,(gI to_ ((gI g.2 ↑k).2))-1)])) g53 (J:=is 7) (S:=is 7) (7,0) rfl eR bx (by decide) rfl rfl rfl o_out_1 o57.flat (by decide) (by(simp;omega)) ?_
      intro g59 w60 v61 ch62 o63
      clear o_out_1
      refine xp 17 rfl (λw=>aa ea rfl rfl zs11 rfl) (b9 18 rfl (by kernel_rfl) rfl ?_)
      replace bx37:=(bx37.cn ch56).ce ch62
      refine aC (cs':=[vi (nodes.length:Int),v61]) bR rfl rfl bx37 (aP o63.flat) nq (aG o63.flat) rfl ?_
      intro w64 ch65 bx66
      clear bx37
      refine bS (by kernel_rfl) ?_
      clear bx49 o57
      refine a6 rfl (mz zs12 (mi ↑k (lo (ar (α:=Int) g59 (is 8) (is 8) (8,0) rfl [(k:Int)] bF ah (by decide) (by decide) (vs:=[(0,vi ↑k)]) rfl rfl (.cons rfl .nil) ?_))))
      intro g67 w68 v69 ch70 o71
      refine lo ?_
      have C72:=cg [4,5,7] (ch43.n.seq ((ch48.l rfl).seq (ch50.n.seq (ch56.n.seq ((ch62.l rfl).seq ((ch65.l rfl).seq ch70.n))))))
      replace o_which:=o_which.ca C72
      refine aK (α:=Int) (xs:=which) (ys:=([(k:Int)])) g67 (J:=is 9) (S:=is 9) (9,0) rfl bF ah (by decide) rfl rfl rfl o_which o71.flat (by decide) (by(simp;omega)) ?_
      intro g73 w74 v75 ch76 o77
      clear o_which
      refine ma v75 (ab (ak ?_))
      clear o71
      refine a6 rfl (lx (aS (m:=↑k) (n:=1) zs49 rfl (by omega)) (mi ((k:Int)+1) (ab ?_)))
      have C78:=cg [4,5,7,9] (ch43.n.seq ((ch48.l rfl).seq (ch50.n.seq (ch56.n.seq ((ch62.l rfl).seq ((ch65.l rfl).seq (ch70.n.seq (ch76.l rfl))))))))
      have C79:=cg [4,7,9] (ch56.n.seq ((ch62.l rfl).seq ((ch65.l rfl).seq (ch70.n.seq (ch76.l rfl)))))
      have C80:=cg [4,9] ((ch65.l rfl).seq (ch70.n.seq (ch76.l rfl)))
      refine back15 (v61,(out_1++[((gI to_ ((gI g.2 ↑k).1))-1,(gI to_ ((gI g.2 ↑k).2))-1)]),v75,(which++[(k:Int)]),k+1,g73) _ _ ⟨bH.ca C78,zs4,zs8,zs11,rfl,zs47,zs48,rfl,Rg.ca C78,Rnodes.ca C78,bx10.ca C78,o20.ca C79,(bx66.cn ch70).ce ch76,o63.ca C80,o77,by omega,?_⟩ ?_
      · show(which++[(k:Int)])=dG g nodes (k+1)/\(out_1++[((gI to_ ((gI g.2 ↑k).1))-1,(gI to_ ((gI g.2 ↑k).2))-1)])=(dG g nodes (k+1)).map (λi=>(gk nodes (gI g.2 i).1-1,gk nodes (gI g.2 i).2-1))
        rw[r6 (by omega) (by omega),hinv15.1,hinv15.2,hg1,hg2];simp
      · show Int.toNat (_-_)<Int.toNat (_-_)
        omega
     refine ag rfl (df p17) (ao (ak ?_))
     clear bx49
     refine a6 rfl (lx (aS (m:=↑k) (n:=1) zs49 rfl (by omega)) (mi ((k:Int)+1) (ab ?_)))
     replace bH:=bH.cn ch43
     refine back15 (out_1_v,out_1,which_v,which,k+1,g45) _ _ ⟨bH.ce ch48,zs4,zs8,zs11,zs12,zs47,zs48,rfl,(Rg.cn ch43).ce ch48,(Rnodes.cn ch43).ce ch48,(bx10.cn ch43).ce ch48,o20,(bx37.cn ch43).ce ch48,(o_out_1.cn ch43).ce ch48,(o_which.cn ch43).ce ch48,by omega,?_⟩ ?_
     · show which=dG g nodes (k+1)/\out_1=(dG g nodes (k+1)).map (λi=>(gk nodes (gI g.2 i).1-1,gk nodes (gI g.2 i).2-1))
       rw[rh (by omega)];exact hinv15
     · show Int.toNat (_-_)<Int.toNat (_-_)
       omega
    refine aA (wn (df q60)) (aA (wn (df q60)) (aA (wn (df q60)) (aA (wn (df q60)) (aA (wn (df q60)) (aA (wn (df q60)) (lw (vb false) (bt rfl (df q60) rfl) (ab (ag rfl rfl (ao ?_)))))))))
    refine ak ?_
    clear bx49
    refine a6 rfl (lx (aS (m:=↑k) (n:=1) zs49 rfl (by omega)) (mi ((k:Int)+1) (ab ?_)))
    replace bH:=bH.cn ch43
    refine back15 (out_1_v,out_1,which_v,which,k+1,g45) _ _ ⟨bH.ce ch48,zs4,zs8,zs11,zs12,zs47,zs48,rfl,(Rg.cn ch43).ce ch48,(Rnodes.cn ch43).ce ch48,(bx10.cn ch43).ce ch48,o20,(bx37.cn ch43).ce ch48,(o_out_1.cn ch43).ce ch48,(o_which.cn ch43).ce ch48,by omega,?_⟩ ?_
    · show which=dG g nodes (k+1)/\out_1=(dG g nodes (k+1)).map (λi=>(gk nodes (gI g.2 i).1-1,gk nodes (gI g.2 i).2-1))
      rw[qV (by omega)];exact hinv15
    · show Int.toNat (_-_)<Int.toNat (_-_)
      omega
   refine ag rfl (df p15) (aO rfl (a7 ?_))
   clear o20
   refine a6 rfl (lx (ay (ds:=[vi (nodes.length:Int),out_1_v]) aX zs11 bx37 rfl rfl) (mz zs12 (lo (ax (cs':=[vi (nodes.length:Int),out_1_v]) aX zs4 rfl bx10 rfl nq (AllOne.all (.cons rfl (.cons (aG o_out_1.flat) .nil))) rfl ?_))))
   intro w81 ch82 bx83
   clear bx10
   refine ma which_v (ai 0 (ab (au (vs:=[vg [vi (nodes.length:Int),out_1_v],which_v,vi 0]) Tryz.func135 (.cell zs4 (cy (ds:=[vi (nodes.length:Int),out_1_v]) aX bx83 rfl rfl) (.tmp rfl (.tmp rfl .nil))) ?_)))
   replace bH:=bH.ce ch82
   replace o_out_1:=o_out_1.ce ch82
   replace o_which:=o_which.ce ch82
   have e0:(((nodes.length:Int),out_1):(Int)×(List Pt))=((di g nodes).1):=by
     have hm:=of_decide_eq_true p1
     have hk:k=g.2.length:=by omega
     subst hk
     obtain⟨e1,e2⟩:=hinv15
     simp[di,hm,p4,e1,e2,dG,mC]
   have e1:(which:List Int)=((di g nodes).2.1):=by
     have hm:=of_decide_eq_true p1
     have hk:k=g.2.length:=by omega
     subst hk
     obtain⟨e1,e2⟩:=hinv15
     simp[di,hm,p4,e1,e2,dG,mC]
   have e2:(0:Int)=((di g nodes).2.2):=by
     have hm:=of_decide_eq_true p1
     have hk:k=g.2.length:=by omega
     subst hk
     obtain⟨e1,e2⟩:=hinv15
     simp[di,hm,p4,e1,e2,dG,mC]
   exact⟨(fin w0 g41 (λn=>if n=7 then 1 else if n=9 then 2 else 0),out_1_v,which_v),(iw (a:=((nodes.length:Int),out_1)) (b:=which) (c:=0) (λ(z0:(Int)×(List Pt)) (z1:List Int) (z2:Int)=>Ending.returned (vt [vg [vi z0.1,out_1_v],which_v,vi z2])) e0 e1 e2),bH.fresh _,((congrArg (λ(z:(Int)×(List Pt))=>z.2) e0)▸(o_out_1.glue (γ:=c0) (ren:=(λn=>if n=7 then 1 else if n=9 then 2 else 0)) (k:=1) bH.col rfl rfl)),(e1▸(o_which.glue (γ:=c0) (ren:=(λn=>if n=7 then 1 else if n=9 then 2 else 0)) (k:=2) bH.col rfl rfl))⟩
  refine af rfl (congrArg Bool.not (df p4)) (a7 ?_)
  clear bx5
  refine a6 rfl (lw (vg [vi 0,vn]) (bh (vs:=[]) rfl (by kernel_rfl)) (mi (cI nodes g.1) (lo ?_)))
  replace bx10:=(bx10.cn hb12).cn hb15
  refine ax (cs':=[vi 0,vn]) aX rfl rfl bx10 rfl nq (AllOne.all (.cons rfl (.cons rfl .nil))) rfl ?_
  intro w84 ch85 bx86
  clear bx10
  refine ma vn (ai (cI nodes g.1) (ab (au (vs:=[vg [vi 0,vn],vn,vi (cI nodes g.1)]) Tryz.func135 (.cell rfl (cy (ds:=[vi 0,vn]) aX bx86 rfl rfl) (.tmp rfl (.tmp rfl .nil))) ?_)))
  have C87:=cg [2] (ch2.n.seq (ch7.n.seq (hb12.n.seq (hb15.n.seq (ch85.l rfl)))))
  replace bH:=bH.ca C87
  have e0:((0,[]):(Int)×(List Pt))=((di g nodes).1):=by
    have hm:=of_decide_eq_true p1
    simp[di,hm,p4]
  have e1:([]:List Int)=((di g nodes).2.1):=by
    have hm:=of_decide_eq_true p1
    simp[di,hm,p4]
  have e2:(cI nodes g.1:Int)=((di g nodes).2.2):=by
    have hm:=of_decide_eq_true p1
    simp[di,hm,p4]
  exact⟨(fin w0 g9 (λn=>0),vn,vn),(iw (a:=(0,[])) (b:=[]) (c:=cI nodes g.1) (λ(z0:(Int)×(List Pt)) (z1:List Int) (z2:Int)=>Ending.returned (vt [vg [vi z0.1,vn],vn,vi z2])) e0 e1 e2),bH.fresh _,((congrArg (λ(z:(Int)×(List Pt))=>z.2) e0)▸Ow.nil),(e1▸Ow.nil)⟩
 refine af rfl (congrArg Bool.not (Bool.eq_false_iff.2 p1)) (a7 ?_)
 clear bx5
 refine a6 rfl (lw (vg [vi 0,vn]) (bh (vs:=[]) rfl (by kernel_rfl)) (lo ?_))
 replace bx10:=bx10.cn hb12
 refine ax (cs':=[vi 0,vn]) aX rfl rfl bx10 rfl nq (AllOne.all (.cons rfl (.cons rfl .nil))) rfl ?_
 intro w88 ch89 bx90
 clear bx10
 refine ma vn (ai 1 (ab (au (vs:=[vg [vi 0,vn],vn,vi 1]) Tryz.func135 (.cell rfl (cy (ds:=[vi 0,vn]) aX bx90 rfl rfl) (.tmp rfl (.tmp rfl .nil))) ?_)))
 have C91:=cg [2] (ch2.n.seq (ch7.n.seq (hb12.n.seq (ch89.l rfl))))
 replace bH:=bH.ca C91
 have e0:((0,[]):(Int)×(List Pt))=((di g nodes).1):=by
   have hn:¬c7 g:=λh=>p1 (dt h)
   simp[di,hn]
 have e1:([]:List Int)=((di g nodes).2.1):=by
   have hn:¬c7 g:=λh=>p1 (dt h)
   simp[di,hn]
 have e2:(1:Int)=((di g nodes).2.2):=by
   have hn:¬c7 g:=λh=>p1 (dt h)
   simp[di,hn]
 exact⟨(fin w0 g9 (λn=>0),vn,vn),(iw (a:=(0,[])) (b:=[]) (c:=1) (λ(z0:(Int)×(List Pt)) (z1:List Int) (z2:Int)=>Ending.returned (vt [vg [vi z0.1,vn],vn,vi z2])) e0 e1 e2),bH.fresh _,((congrArg (λ(z:(Int)×(List Pt))=>z.2) e0)▸Ow.nil),(e1▸Ow.nil)⟩
end TL
