import Derived.Test.YtcblhagfadineaaJpTlP4
import Derived.Test.YtcblhagfadineaaProg
import Derived.Test.YtcblhagfadineaaJpTlAli
set_option linter.all false
set_option maxRecDepth 20000
namespace TL
open Go Go.Proofs
theorem qy:Try.prog.follows .mixedOrders=true:=by kernel_rfl
theorem aI:Tp Try.prog 3 false 1 8 (.int .i64 0):=Tp.of (by kernel_rfl)
theorem cw:Tp Try.prog 22 false 1 24 (.slice none 0 0):=Tp.of (by kernel_rfl)
theorem dY:Tp Try.prog 68 true 2 16 (.agg #[.int .i64 0,.int .i64 0]):=Tp.of (by kernel_rfl)
theorem nv(w0:World)(g:(Int)×(List Pt))(g_v:Value)(hg_v:Ro w0 g_v g.2):
    Calls Try.prog 21 #[vg [vi g.1,g_v]] w0 (λee w=>ee= .returned (vb (d6 g))/\dd w0.heap.size w0 w):=by
 refine av Try.func21 rfl nq ?_
 have bH:=aX.start w0
 have Rg:=hg_v.sl
 refine aa (a8 rfl (cj rfl (bj c0 (is 1) (1,0) rfl rfl ?_)))
 intro g4 w1 b3 ch2 bx5
 replace bx5:Bx g4 (is 1) w1 b3 [vi g.1,g_v]:=bx5
 refine ma (vb false) (ab (aa (aa (a8 rfl (lx (ad fV rfl rfl rfl rfl) (lx (af aI rfl bx5 rfl) (lx (b6 (m:=g.1) (n:=0) rfl rfl) (mv (vb (decide (g.1<0))) ?_))))))))
 by_cases q10:g.1<0
 ·
  refine ae (wn (dt q10)) (ae (wn (dt q10)) (ae (wn (dt q10)) (lw (vb true) (aE rfl (dt q10) rfl) (mv (vb true) (ae (wn rfl) (ae (wn rfl) (ae (wn rfl) (ae (wn rfl) (lw (vb true) (aE rfl rfl rfl) (ab (ag rfl rfl (aa ?_))))))))))))
  clear bx5
  refine a8 rfl (ma (vb false) (ab (au (vs:=[vb false]) Try.func21 (.tmp rfl .nil) ?_)))
  have e0:(false:Bool)=(d6 g):=by
    exact(c5 (λh=>by unfold bF at h;omega)).symm
  replace bH:=bH.cn ch2
  exact⟨rb e0,bH.below⟩
 refine lv (vp b3 0) (wy (df q10)) (ad fV rfl rfl rfl rfl) (lv (vi g.1) (wy (df q10)) (af aI rfl bx5 rfl) (lv (vb (decide (1024<g.1))) (wy (df q10)) (e8 (m:=g.1) (n:=1024) rfl rfl) (lw (vb (decide (1024<g.1))) (aC rfl (df q10) rfl) (mv (vb (decide (1024<g.1))) ?_))))
 by_cases q15:1024<g.1
 ·
  refine ae (wn (dt q15)) (ae (wn (dt q15)) (ae (wn (dt q15)) (ae (wn (dt q15)) (lw (vb true) (aE rfl (dt q15) rfl) (ab (ag rfl rfl (aa ?_)))))))
  clear bx5
  refine a8 rfl (ma (vb false) (ab (au (vs:=[vb false]) Try.func21 (.tmp rfl .nil) ?_)))
  have e0:(false:Bool)=(d6 g):=by
    exact(c5 (λh=>by unfold bF at h;omega)).symm
  replace bH:=bH.cn ch2
  exact⟨rb e0,bH.below⟩
 refine lv (vp b3 1) (wy (df q15)) (ad fV rfl rfl rfl rfl) (lv (g_v) (wy (df q15)) (af cw rfl bx5 rfl) ?_)
 replace Rg:=Rg.cn ch2
 have len6:=(Rg).small
 refine lv (vi (g.2.length:Int)) (wy (df q15)) (aT jQ rfl Rg) (lv (vb (decide (3072<(g.2.length:Int)))) (wy (df q15)) (e8 (m:=(g.2.length:Int)) (n:=3072) rfl rfl) (lw (vb (decide (3072<(g.2.length:Int)))) (aC rfl (df q15) rfl) (ab ?_)))
 by_cases p1:3072<(g.2.length:Int)
 ·
  refine ag rfl (dt p1) (aa ?_)
  clear bx5
  refine a8 rfl (ma (vb false) (ab (au (vs:=[vb false]) Try.func21 (.tmp rfl .nil) ?_)))
  have e0:(false:Bool)=(d6 g):=by
    exact(c5 (λh=>by unfold bF at h;omega)).symm
  replace bH:=bH.cn ch2
  exact⟨rb e0,bH.below⟩
 refine aj rfl (df p1) (am (aa (aa (a8 rfl (lx (ad fV rfl rfl rfl rfl) (lx (af cw rfl bx5 rfl) (lx (aT jQ rfl Rg) (mi 0 (ab (aq ?_))))))))))
 refine aQ (σ:=Nat×aH) (λ⟨k,gq⟩ f w=>aX w0 gq w/\f 1=vp b3 0/\f 22=g_v/\f 23=vi (g.2.length:Int)/\f 24=vi ↑k/\Sl gq (is 0) w g_v g.2/\Bx gq (is 1) w b3 [vi g.1,g_v]/\(k:Int)<=((g.2.length:Int):Int)/\(∀e∈List.take k g.2,ox g.1 e)) (λ⟨k,gq⟩=>Int.toNat (((g.2.length:Int):Int)-(k:Int))) (0,g4) ?_ ?_
 · exact⟨bH.cn ch2,rfl,rfl,rfl,rfl,Rg,bx5,by omega,by simp⟩
 clear Rg bx5 bH
 rintro⟨k,g9⟩ f7 w8 ⟨bH,zs1,zs22,zs23,zs24,Rg,bx5,hle_k,hinv4⟩ back4
 refine aa (a8 rfl (lx (b6 (m:=↑k) (n:=(g.2.length:Int)) zs24 zs23) (ab (aa ?_))))
 by_cases p4:(k:Int)<(g.2.length:Int)
 ·
  refine ag rfl (dt p4) (am (aa (aq (aa (a8 rfl (lx (al (v:=g_v) (i:=↑k) jQ rfl zs22 Rg zs24 (by omega) (by omega)) (lw (vg [vi ((gI g.2 ↑k).1),vi ((gI g.2 ↑k).2)]) (aJ (v:=g_v) (i:=↑k) dY rfl Rg (by omega) (by omega) rfl) (lo (aY g9 (is 2) (2,0) rfl dY ?_)))))))))
  intro g13 w10 b12 ch11 bx14
  replace bx14:Bx g13 (is 2) w10 b12 [vi 0,vi 0]:=bx14
  refine lo (aw (cs':=[vi ((gI g.2 ↑k).1),vi ((gI g.2 ↑k).2)]) dY rfl rfl bx14 rfl nq (AllOne.all (.cons rfl (.cons rfl .nil))) rfl ?_)
  intro w15 ch16 bx17
  clear bx14
  refine ab (aa (a8 rfl (lx (ak (ds:=[vi ((gI g.2 ↑k).1),vi ((gI g.2 ↑k).2)]) dY rfl bx17 rfl rfl) (mi 0 (ab (aq (gy (aa ?_))))))))
  clear bx17
  refine a8 rfl (lx (b6 (m:=0) (n:=2) rfl rfl) (ab (aa (ag rfl rfl (am (aa (aq (aa (a8 rfl (lw (vi ((gI g.2 ↑k).1)) (dM m9 aI rfl rfl (by decide) (by decide) rfl) (ai ((gI g.2 ↑k).1) ?_)))))))))))
  refine ab (aa (a8 rfl (mi ((gI g.2 ↑k).1) (lx (b6 (m:=(gI g.2 ↑k).1) (n:=0) rfl rfl) (mv (vb (decide (((gI g.2 ↑k).1)<0))) ?_)))))
  by_cases q34:((gI g.2 ↑k).1)<0
  ·
   refine ae (wn (dt q34)) (ae (wn (dt q34)) (ae (wn (dt q34)) (ae (wn (dt q34)) (lw (vb true) (aE rfl (dt q34) rfl) (ab (ag rfl rfl (aa ?_)))))))
   clear bx5
   refine a8 rfl (ma (vb false) (ab (au (vs:=[vb false]) Try.func21 (.tmp rfl .nil) ?_)))
   have e0:(false:Bool)=(d6 g):=by
     exact(c5 (λh=>by have h2:=h.2.2.2 _ (aR (xs:=g.2) (i:=↑k) (by omega) ‹_›);unfold ox at h2;omega)).symm
   replace bH:=bH.cn ch11
   replace bH:=bH.ce ch16
   exact⟨rb e0,bH.below⟩
  refine lv (vi ((gI g.2 ↑k).1)) (wy (df q34)) (aD rfl) (lv (vp b3 0) (wy (df q34)) (ad fV rfl rfl zs1 rfl) ?_)
  replace bx5:=(bx5.cn ch11).ce ch16
  refine lv (vi g.1) (wy (df q34)) (af aI rfl bx5 rfl) (lv (vb (decide (g.1<=((gI g.2 ↑k).1)))) (wy (df q34)) (gh (m:=(gI g.2 ↑k).1) (n:=g.1) rfl rfl) (lw (vb (decide (g.1<=((gI g.2 ↑k).1)))) (aC rfl (df q34) rfl) (ab ?_)))
  by_cases p9:g.1<=((gI g.2 ↑k).1)
  ·
   refine ag rfl (dt p9) (aa ?_)
   clear bx5
   refine a8 rfl (ma (vb false) (ab (au (vs:=[vb false]) Try.func21 (.tmp rfl .nil) ?_)))
   have e0:(false:Bool)=(d6 g):=by
     exact(c5 (λh=>by have h2:=h.2.2.2 _ (aR (xs:=g.2) (i:=↑k) (by omega) ‹_›);unfold ox at h2;omega)).symm
   replace bH:=bH.cn ch11
   replace bH:=bH.ce ch16
   exact⟨rb e0,bH.below⟩
  refine aj rfl (df p9) (am (ao (a8 rfl (lx (aP (m:=0) (n:=1) rfl rfl (by omega)) (mi 1 (ab (cm (aa (a8 rfl (lx (b6 (m:=1) (n:=2) rfl rfl) ?_))))))))))
  refine ab (aa (ag rfl rfl (am (aa (aq (aa (a8 rfl (lw (vi ((gI g.2 ↑k).2)) (dM m9 aI rfl rfl (by decide) (by decide) rfl) (ai ((gI g.2 ↑k).2) (ab (aa (a8 rfl (mi ((gI g.2 ↑k).2) ?_)))))))))))))
  refine lx (b6 (m:=(gI g.2 ↑k).2) (n:=0) rfl rfl) (mv (vb (decide (((gI g.2 ↑k).2)<0))) ?_)
  by_cases q34_18:((gI g.2 ↑k).2)<0
  ·
   refine ae (wn (dt q34_18)) (ae (wn (dt q34_18)) (ae (wn (dt q34_18)) (ae (wn (dt q34_18)) (lw (vb true) (aE rfl (dt q34_18) rfl) (ab (ag rfl rfl (aa ?_)))))))
   clear bx5
   refine a8 rfl (ma (vb false) (ab (au (vs:=[vb false]) Try.func21 (.tmp rfl .nil) ?_)))
   have e0:(false:Bool)=(d6 g):=by
     exact(c5 (λh=>by have h2:=h.2.2.2 _ (aR (xs:=g.2) (i:=↑k) (by omega) ‹_›);unfold ox at h2;omega)).symm
   replace bH:=bH.cn ch11
   replace bH:=bH.ce ch16
   exact⟨rb e0,bH.below⟩
  refine lv (vi ((gI g.2 ↑k).2)) (wy (df q34_18)) (aD rfl) (lv (vp b3 0) (wy (df q34_18)) (ad fV rfl rfl zs1 rfl) (lv (vi g.1) (wy (df q34_18)) (af aI rfl bx5 rfl) (lv (vb (decide (g.1<=((gI g.2 ↑k).2)))) (wy (df q34_18)) (gh (m:=(gI g.2 ↑k).2) (n:=g.1) rfl rfl) (lw (vb (decide (g.1<=((gI g.2 ↑k).2)))) (aC rfl (df q34_18) rfl) (ab ?_)))))
  by_cases p9_19:g.1<=((gI g.2 ↑k).2)
  ·
   refine ag rfl (dt p9_19) (aa ?_)
   clear bx5
   refine a8 rfl (ma (vb false) (ab (au (vs:=[vb false]) Try.func21 (.tmp rfl .nil) ?_)))
   have e0:(false:Bool)=(d6 g):=by
     exact(c5 (λh=>by have h2:=h.2.2.2 _ (aR (xs:=g.2) (i:=↑k) (by omega) ‹_›);unfold ox at h2;omega)).symm
   replace bH:=bH.cn ch11
   replace bH:=bH.ce ch16
   exact⟨rb e0,bH.below⟩
  refine aj rfl (df p9_19) (am (ao (a8 rfl (lx (aP (m:=1) (n:=1) rfl rfl (by omega)) (mi 2 (ab (cm (aa (a8 rfl (lx (b6 (m:=2) (n:=2) rfl rfl) ?_))))))))))
  refine ab (aa (aj rfl rfl (aM rfl (ao (a8 rfl (lx (aP (m:=↑k) (n:=1) zs24 rfl (by omega)) (mi ((k:Int)+1) (ab ?_))))))))
  replace bH:=bH.cn ch11
  refine back4 (k+1,g13) _ _ ⟨bH.ce ch16,zs1,zs22,zs23,rfl,(Rg.cn ch11).ce ch16,bx5,by omega,?_⟩ ?_
  · show∀e∈List.take (k+1) g.2,ox g.1 e
    rw[bC ‹_›]
    intro e he
    rcases List.mem_append.1 he with h|h
    · exact hinv4 e h
    · obtain rfl:=List.mem_singleton.1 h
      refine⟨?_,?_⟩<;>omega
  · show Int.toNat (((g.2.length:Int):Int)-((k+1):Int))<Int.toNat (((g.2.length:Int):Int)-(k:Int))
    omega
 refine aj rfl (df p4) (aM rfl (aa ?_))
 clear bx5
 refine a8 rfl (ma (vb true) (ab (au (vs:=[vb true]) Try.func21 (.tmp rfl .nil) ?_)))
 have e0:(true:Bool)=(d6 g):=by
   exact(mF ⟨by omega,by omega,by omega,by rw[List.take_of_length_le (by omega)] at hinv4;exact hinv4⟩).symm
 exact⟨rb e0,bH.below⟩
theorem qn(w0:World)(g:(Int)×(List Pt))(g_v:Value)(hg_v:Ro w0 g_v g.2):
    Calls Try.prog 14 #[vg [vi g.1,g_v]] w0 (λee w=>ee= .returned (vb (d6 g))/\dd w0.heap.size w0 w):=by
 refine av Try.func14 rfl nq ?_
 have bH:=aX.start w0
 have Rg:=hg_v.sl
 refine aa (a8 rfl (cj rfl (bj c0 (is 1) (1,0) rfl rfl ?_)))
 intro g4 w1 b3 ch2 bx5
 replace bx5:Bx g4 (is 1) w1 b3 [vi g.1,g_v]:=bx5
 refine ma (vb false) (ab (aa (aa (a8 rfl (lx (ad fV rfl rfl rfl rfl) (lx (af aI rfl bx5 rfl) (lx (b6 (m:=g.1) (n:=0) rfl rfl) (mv (vb (decide (g.1<0))) ?_))))))))
 by_cases q8:g.1<0
 ·
  refine ae (wn (dt q8)) (ae (wn (dt q8)) (ae (wn (dt q8)) (lw (vb true) (aE rfl (dt q8) rfl) (mv (vb true) (ae (wn rfl) (ae (wn rfl) (ae (wn rfl) (ae (wn rfl) (lw (vb true) (aE rfl rfl rfl) (ab (ag rfl rfl (aa ?_))))))))))))
  clear bx5
  refine a8 rfl (ma (vb false) (ab (au (vs:=[vb false]) Try.func14 (.tmp rfl .nil) ?_)))
  have e0:(false:Bool)=(d6 g):=by
    exact(c5 (λh=>by unfold bF at h;omega)).symm
  replace bH:=bH.cn ch2
  exact⟨rb e0,bH.below⟩
 refine lv (vp b3 0) (wy (df q8)) (ad fV rfl rfl rfl rfl) (lv (vi g.1) (wy (df q8)) (af aI rfl bx5 rfl) (lv (vb (decide (1024<g.1))) (wy (df q8)) (e8 (m:=g.1) (n:=1024) rfl rfl) (lw (vb (decide (1024<g.1))) (aC rfl (df q8) rfl) (mv (vb (decide (1024<g.1))) ?_))))
 by_cases q13:1024<g.1
 ·
  refine ae (wn (dt q13)) (ae (wn (dt q13)) (ae (wn (dt q13)) (ae (wn (dt q13)) (lw (vb true) (aE rfl (dt q13) rfl) (ab (ag rfl rfl (aa ?_)))))))
  clear bx5
  refine a8 rfl (ma (vb false) (ab (au (vs:=[vb false]) Try.func14 (.tmp rfl .nil) ?_)))
  have e0:(false:Bool)=(d6 g):=by
    exact(c5 (λh=>by unfold bF at h;omega)).symm
  replace bH:=bH.cn ch2
  exact⟨rb e0,bH.below⟩
 refine lv (vp b3 1) (wy (df q13)) (ad fV rfl rfl rfl rfl) (lv (g_v) (wy (df q13)) (af cw rfl bx5 rfl) ?_)
 replace Rg:=Rg.cn ch2
 have len6:=(Rg).small
 refine lv (vi (g.2.length:Int)) (wy (df q13)) (aT jQ rfl Rg) (lv (vb (decide (3072<(g.2.length:Int)))) (wy (df q13)) (e8 (m:=(g.2.length:Int)) (n:=3072) rfl rfl) (lw (vb (decide (3072<(g.2.length:Int)))) (aC rfl (df q13) rfl) (ab ?_)))
 by_cases p1:3072<(g.2.length:Int)
 ·
  refine ag rfl (dt p1) (aa ?_)
  clear bx5
  refine a8 rfl (ma (vb false) (ab (au (vs:=[vb false]) Try.func14 (.tmp rfl .nil) ?_)))
  have e0:(false:Bool)=(d6 g):=by
    exact(c5 (λh=>by unfold bF at h;omega)).symm
  replace bH:=bH.cn ch2
  exact⟨rb e0,bH.below⟩
 refine aj rfl (df p1) (am (aa (aa (a8 rfl (ai 0 (ab (aq ?_)))))))
 refine aQ (σ:=Nat×aH) (λ⟨k,gq⟩ f w=>aX w0 gq w/\f 1=vp b3 0/\f 3=vi ↑k/\Sl gq (is 0) w g_v g.2/\Bx gq (is 1) w b3 [vi g.1,g_v]/\(k:Int)<=((g.2.length:Int):Int)/\(∀e∈List.take k g.2,ox g.1 e)) (λ⟨k,gq⟩=>Int.toNat (((g.2.length:Int):Int)-(k:Int))) (0,g4) ?_ ?_
 · exact⟨bH.cn ch2,rfl,rfl,Rg,bx5,by omega,by simp⟩
 clear Rg bx5 bH
 rintro⟨k,g9⟩ f7 w8 ⟨bH,zs1,zs3,Rg,bx5,hle_k,hinv4⟩ back4
 refine aa (aa (a8 rfl (mz zs3 (lx (ad fV rfl rfl zs1 rfl) (lx (af cw rfl bx5 rfl) (lx (aT jQ rfl Rg) (lx (b6 (m:=↑k) (n:=(g.2.length:Int)) rfl rfl) (ab ?_))))))))
 by_cases p4:(k:Int)<(g.2.length:Int)
 ·
  refine ag rfl (dt p4) (am (aa (aq (aa (a8 rfl (ai 0 (ab (aq (gy (aa (aa (a8 rfl ?_))))))))))))
  refine mi 0 (lx (b6 (m:=0) (n:=2) rfl rfl) (ab (ag rfl rfl (am (aa (aq (aa (cD g9 rfl qy (by kernel_rfl) ?_))))))))
  intro w11 ch10
  refine qx (λw' hw'=>ad fV rfl rfl zs1 rfl) ?_
  replace bx5:=bx5.cn ch10
  refine qx (λw' hw'=>af cw rfl (bx5.bel hw') rfl) (qz zs3 (qm (vi 0) ?_))
  replace Rg:=Rg.cn ch10
  refine qx (λw' hw'=>al (v:=g_v) (i:=↑k) jQ rfl rfl (Rg.bel hw') rfl (by omega) (by omega)) (qx (λw' hw'=>cN m9 rfl rfl rfl (by decide) (by decide) rfl) (qx (λw' hw'=>ei (v:=g_v) (i:=↑k) aI rfl (Rg.bel hw') (by omega) (by omega) (by decide) rfl) (qx (λw' hw'=>b6 (m:=(gI g.2 ↑k).1) (n:=0) rfl rfl) (qm (vb (decide (((gI g.2 ↑k).1)<0))) ?_))))
  by_cases q38:((gI g.2 ↑k).1)<0
  ·
   refine aN (wn (dt q38)) (aN (wn (dt q38)) (aN (wn (dt q38)) (aN (wn (dt q38)) (aN (wn (dt q38)) (aN (wn (dt q38)) (aN (wn (dt q38)) (aN (wn (dt q38)) (aN (wn (dt q38)) (aN (wn (dt q38)) ?_)))))))))
   refine qv (vb true) (λw' hw'=>aE rfl (dt q38) rfl) (dH ?_)
   intro w12 hc13
   replace hc13:=ar hc13 g9
   refine ag rfl rfl (aa ?_)
   clear bx5
   refine a8 rfl (ma (vb false) (ab (au (vs:=[vb false]) Try.func14 (.tmp rfl .nil) ?_)))
   have e0:(false:Bool)=(d6 g):=by
     exact(c5 (λh=>by have h2:=h.2.2.2 _ (aR (xs:=g.2) (i:=↑k) (by omega) ‹_›);unfold ox at h2;omega)).symm
   replace bH:=bH.cn ch10
   replace bH:=bH.cn hc13
   exact⟨rb e0,bH.below⟩
  refine aW (v:=vp b3 1) (wy (df q38)) (λw' hw'=>ad fV rfl rfl zs1 rfl) (aW (v:=g_v) (wy (df q38)) (λw' hw'=>af cw rfl (bx5.bel hw') rfl) (aW (v:=vi ↑k) (wy (df q38)) (λw' hw'=>aD zs3) (aW (v:=vi 0) (wy (df q38)) (λw' hw'=>aD rfl) (aW (v:=Value.pointer (some (bu g_v 2 (Int.toNat ↑k)))) (wy (df q38)) (λw' hw'=>al (α:=Pt) (xs:=g.2) (v:=g_v) (i:=↑k) jQ rfl rfl (Rg.bel hw') rfl (by omega) (by omega)) ?_))))
  refine aW (v:=Value.pointer (some ⟨(bu g_v 2 (Int.toNat ↑k)).block,(bu g_v 2 (Int.toNat ↑k)).off+0,none⟩)) (wy (df q38)) (λw' hw'=>cN m9 rfl rfl rfl (by decide) (by decide) rfl) (aW (v:=vi ((gI g.2 ↑k).1)) (wy (df q38)) (λw' hw'=>ei (α:=Pt) (xs:=g.2) (v:=g_v) (i:=↑k) aI rfl (Rg.bel hw') (by omega) (by omega) (by decide) rfl) (aW (v:=vp b3 0) (wy (df q38)) (λw' hw'=>ad fV rfl rfl zs1 rfl) (aW (v:=vi g.1) (wy (df q38)) (λw' hw'=>af aI rfl (bx5.bel hw') rfl) ?_)))
  refine aW (v:=vb (decide (g.1<=((gI g.2 ↑k).1)))) (wy (df q38)) (λw' hw'=>gh (m:=(gI g.2 ↑k).1) (n:=g.1) rfl rfl) (qv (vb (decide (g.1<=((gI g.2 ↑k).1)))) (λw' hw'=>aC rfl (df q38) rfl) (dH ?_))
  intro w14 hc15
  replace hc15:=ar hc15 g9
  by_cases p9:g.1<=((gI g.2 ↑k).1)
  ·
   refine ag rfl (dt p9) (aa ?_)
   clear bx5
   refine a8 rfl (ma (vb false) (ab (au (vs:=[vb false]) Try.func14 (.tmp rfl .nil) ?_)))
   have e0:(false:Bool)=(d6 g):=by
     exact(c5 (λh=>by have h2:=h.2.2.2 _ (aR (xs:=g.2) (i:=↑k) (by omega) ‹_›);unfold ox at h2;omega)).symm
   replace bH:=bH.cn ch10
   replace bH:=bH.cn hc15
   exact⟨rb e0,bH.below⟩
  refine aj rfl (df p9) (am (ao (a8 rfl (mi 0 (lx (aP (m:=0) (n:=1) rfl rfl (by omega)) (ai 1 (ab (cm (aa (aa (a8 rfl ?_)))))))))))
  refine mi 1 (lx (b6 (m:=1) (n:=2) rfl rfl) (ab (ag rfl rfl (am (aa (aq (aa (cD g9 rfl qy (by kernel_rfl) ?_))))))))
  intro w17 ch16
  refine qx (λw' hw'=>ad fV rfl rfl zs1 rfl) ?_
  replace bx5:=(bx5.cn hc15).cn ch16
  refine qx (λw' hw'=>af cw rfl (bx5.bel hw') rfl) (qz zs3 (qm (vi 1) ?_))
  replace Rg:=(Rg.cn hc15).cn ch16
  refine qx (λw' hw'=>al (v:=g_v) (i:=↑k) jQ rfl rfl (Rg.bel hw') rfl (by omega) (by omega)) (qx (λw' hw'=>cN m9 rfl rfl rfl (by decide) (by decide) rfl) (qx (λw' hw'=>ei (v:=g_v) (i:=↑k) aI rfl (Rg.bel hw') (by omega) (by omega) (by decide) rfl) (qx (λw' hw'=>b6 (m:=(gI g.2 ↑k).2) (n:=0) rfl rfl) (qm (vb (decide (((gI g.2 ↑k).2)<0))) ?_))))
  by_cases q38_18:((gI g.2 ↑k).2)<0
  ·
   refine aN (wn (dt q38_18)) (aN (wn (dt q38_18)) (aN (wn (dt q38_18)) (aN (wn (dt q38_18)) (aN (wn (dt q38_18)) (aN (wn (dt q38_18)) (aN (wn (dt q38_18)) (aN (wn (dt q38_18)) (aN (wn (dt q38_18)) (aN (wn (dt q38_18)) ?_)))))))))
   refine qv (vb true) (λw' hw'=>aE rfl (dt q38_18) rfl) (dH ?_)
   intro w19 hc20
   replace hc20:=ar hc20 g9
   refine ag rfl rfl (aa ?_)
   clear bx5
   refine a8 rfl (ma (vb false) (ab (au (vs:=[vb false]) Try.func14 (.tmp rfl .nil) ?_)))
   have e0:(false:Bool)=(d6 g):=by
     exact(c5 (λh=>by have h2:=h.2.2.2 _ (aR (xs:=g.2) (i:=↑k) (by omega) ‹_›);unfold ox at h2;omega)).symm
   have C21:=cg [] (ch10.n.seq (hc15.n.seq (ch16.n.seq hc20.n)))
   replace bH:=bH.ca C21
   exact⟨rb e0,bH.below⟩
  refine aW (v:=vp b3 1) (wy (df q38_18)) (λw' hw'=>ad fV rfl rfl zs1 rfl) (aW (v:=g_v) (wy (df q38_18)) (λw' hw'=>af cw rfl (bx5.bel hw') rfl) (aW (v:=vi ↑k) (wy (df q38_18)) (λw' hw'=>aD zs3) (aW (v:=vi 1) (wy (df q38_18)) (λw' hw'=>aD rfl) (aW (v:=Value.pointer (some (bu g_v 2 (Int.toNat ↑k)))) (wy (df q38_18)) (λw' hw'=>al (α:=Pt) (xs:=g.2) (v:=g_v) (i:=↑k) jQ rfl rfl (Rg.bel hw') rfl (by omega) (by omega)) ?_))))
  refine aW (v:=Value.pointer (some ⟨(bu g_v 2 (Int.toNat ↑k)).block,(bu g_v 2 (Int.toNat ↑k)).off+1,none⟩)) (wy (df q38_18)) (λw' hw'=>cN m9 rfl rfl rfl (by decide) (by decide) rfl) (aW (v:=vi ((gI g.2 ↑k).2)) (wy (df q38_18)) (λw' hw'=>ei (α:=Pt) (xs:=g.2) (v:=g_v) (i:=↑k) aI rfl (Rg.bel hw') (by omega) (by omega) (by decide) rfl) (aW (v:=vp b3 0) (wy (df q38_18)) (λw' hw'=>ad fV rfl rfl zs1 rfl) (aW (v:=vi g.1) (wy (df q38_18)) (λw' hw'=>af aI rfl (bx5.bel hw') rfl) ?_)))
  refine aW (v:=vb (decide (g.1<=((gI g.2 ↑k).2)))) (wy (df q38_18)) (λw' hw'=>gh (m:=(gI g.2 ↑k).2) (n:=g.1) rfl rfl) (qv (vb (decide (g.1<=((gI g.2 ↑k).2)))) (λw' hw'=>aC rfl (df q38_18) rfl) (dH ?_))
  intro w22 hc23
  replace hc23:=ar hc23 g9
  by_cases p9_24:g.1<=((gI g.2 ↑k).2)
  ·
   refine ag rfl (dt p9_24) (aa ?_)
   clear bx5
   refine a8 rfl (ma (vb false) (ab (au (vs:=[vb false]) Try.func14 (.tmp rfl .nil) ?_)))
   have e0:(false:Bool)=(d6 g):=by
     exact(c5 (λh=>by have h2:=h.2.2.2 _ (aR (xs:=g.2) (i:=↑k) (by omega) ‹_›);unfold ox at h2;omega)).symm
   have C25:=cg [] (ch10.n.seq (hc15.n.seq (ch16.n.seq hc23.n)))
   replace bH:=bH.ca C25
   exact⟨rb e0,bH.below⟩
  refine aj rfl (df p9_24) (am (ao (a8 rfl (mi 1 (lx (aP (m:=1) (n:=1) rfl rfl (by omega)) (ai 2 (ab (cm (aa (aa (a8 rfl ?_)))))))))))
  refine mi 2 (lx (b6 (m:=2) (n:=2) rfl rfl) (ab (aj rfl rfl (aM rfl (ao (a8 rfl (mz zs3 (lx (aP (m:=↑k) (n:=1) rfl rfl (by omega)) (ai ((k:Int)+1) ?_)))))))))
  refine ab ?_
  have C26:=cg [] (ch10.n.seq (hc15.n.seq (ch16.n.seq hc23.n)))
  refine back4 (k+1,g9) _ _ ⟨bH.ca C26,zs1,rfl,Rg.cn hc23,bx5.cn hc23,by omega,?_⟩ ?_
  · show∀e∈List.take (k+1) g.2,ox g.1 e
    rw[bC ‹_›]
    intro e he
    rcases List.mem_append.1 he with h|h
    · exact hinv4 e h
    · obtain rfl:=List.mem_singleton.1 h
      refine⟨?_,?_⟩<;>omega
  · show Int.toNat (((g.2.length:Int):Int)-((k+1):Int))<Int.toNat (((g.2.length:Int):Int)-(k:Int))
    omega
 refine aj rfl (df p4) (aM rfl (aa ?_))
 clear bx5
 refine a8 rfl (ma (vb true) (ab (au (vs:=[vb true]) Try.func14 (.tmp rfl .nil) ?_)))
 have e0:(true:Bool)=(d6 g):=by
   exact(mF ⟨by omega,by omega,by omega,by rw[List.take_of_length_le (by omega)] at hinv4;exact hinv4⟩).symm
 exact⟨rb e0,bH.below⟩
end TL
