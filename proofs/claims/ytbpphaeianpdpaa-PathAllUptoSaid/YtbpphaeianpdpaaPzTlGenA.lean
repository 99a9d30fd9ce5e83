import Derived.Test.YtbpphaeianpdpaaPzTlP2
import Derived.Test.YtbpphaeianpdpaaProg
import Derived.Test.YtbpphaeianpdpaaPzTlAli
set_option linter.all false
set_option maxRecDepth 20000
namespace TL
open Go Go.Proofs
theorem iZ:Try.prog.follows .mixedOrders=true:=by kernel_rfl
theorem ay:Tp Try.prog 3 false 1 8 (.int .i64 0):=Tp.of (by kernel_rfl)
theorem bJ:Tp Try.prog 22 false 1 24 (.slice none 0 0):=Tp.of (by kernel_rfl)
theorem bP:Tp Try.prog 24 true 2 32 (.agg #[.int .i64 0,.slice none 0 0]):=Tp.of (by kernel_rfl)
theorem e9:Tp Try.prog 61 true 2 16 (.agg #[.int .i64 0,.int .i64 0]):=Tp.of (by kernel_rfl)
theorem kj:Try.f29.body.isNone=false:=rfl
theorem kx:(Try.f29.name== "runtime.NumGoroutine")=false:=by decide+kernel
theorem nu(w0:World)(g:(Int)×(List Pt))(g_v:Value)(hg_v:Ro w0 g_v g.2):
    Calls Try.prog 54 #[vg [vi g.1,g_v]] w0 (λee w=>ee= .returned (vb (bZ g))/\cl w0.heap.size w0 w):=by
 refine ar Try.func54 rfl nq ?_
 have bH:=aU.start w0
 have Rg:=hg_v.sl
 refine a7 (a6 rfl (cu rfl (cN c0 (is 1) (1,0) rfl rfl ?_)))
 intro g4 w1 b3 ch2 bx5
 replace bx5:Bx g4 (is 1) w1 b3 [vi g.1,g_v]:=bx5
 refine ma (vb false) (a8 (a7 (a7 (a6 rfl (lx (ad cT rfl rfl rfl rfl) (lx (ae ay rfl bx5 rfl) (lx (aW (m:=g.1) (n:=0) rfl rfl) (mv (vb (decide (g.1<0))) ?_))))))))
 by_cases q10:g.1<0
 ·
  refine ah (wn (dt q10)) (ah (wn (dt q10)) (ah (wn (dt q10)) (lw (vb true) (aB rfl (dt q10) rfl) (mv (vb true) (ah (wn rfl) (ah (wn rfl) (ah (wn rfl) (ah (wn rfl) (lw (vb true) (aB rfl rfl rfl) (a8 (af rfl rfl (a7 ?_))))))))))))
  clear bx5
  refine a6 rfl (ma (vb false) (a8 (au (vs:=[vb false]) Try.func54 (.tmp rfl .nil) ?_)))
  have e0:(false:Bool)=(bZ g):=by
    exact(bG (λh=>by unfold bU at h;omega)).symm
  replace bH:=bH.cn ch2
  exact⟨rb e0,bH.below⟩
 refine lv (vp b3 0) (wy (df q10)) (ad cT rfl rfl rfl rfl) (lv (vi g.1) (wy (df q10)) (ae ay rfl bx5 rfl) (lv (vb (decide (1024<g.1))) (wy (df q10)) (dW (m:=g.1) (n:=1024) rfl rfl) (lw (vb (decide (1024<g.1))) (aI rfl (df q10) rfl) (mv (vb (decide (1024<g.1))) ?_))))
 by_cases q15:1024<g.1
 ·
  refine ah (wn (dt q15)) (ah (wn (dt q15)) (ah (wn (dt q15)) (ah (wn (dt q15)) (lw (vb true) (aB rfl (dt q15) rfl) (a8 (af rfl rfl (a7 ?_)))))))
  clear bx5
  refine a6 rfl (ma (vb false) (a8 (au (vs:=[vb false]) Try.func54 (.tmp rfl .nil) ?_)))
  have e0:(false:Bool)=(bZ g):=by
    exact(bG (λh=>by unfold bU at h;omega)).symm
  replace bH:=bH.cn ch2
  exact⟨rb e0,bH.below⟩
 refine lv (vp b3 1) (wy (df q15)) (ad cT rfl rfl rfl rfl) (lv (g_v) (wy (df q15)) (ae bJ rfl bx5 rfl) ?_)
 replace Rg:=Rg.cn ch2
 have len6:=(Rg).small
 refine lv (vi (g.2.length:Int)) (wy (df q15)) (aV fu rfl Rg) (lv (vb (decide (3072<(g.2.length:Int)))) (wy (df q15)) (dW (m:=(g.2.length:Int)) (n:=3072) rfl rfl) (lw (vb (decide (3072<(g.2.length:Int)))) (aI rfl (df q15) rfl) (a8 ?_)))
 by_cases p1:3072<(g.2.length:Int)
 ·
  refine af rfl (dt p1) (a7 ?_)
  clear bx5
  refine a6 rfl (ma (vb false) (a8 (au (vs:=[vb false]) Try.func54 (.tmp rfl .nil) ?_)))
  have e0:(false:Bool)=(bZ g):=by
    exact(bG (λh=>by unfold bU at h;omega)).symm
  replace bH:=bH.cn ch2
  exact⟨rb e0,bH.below⟩
 refine ag rfl (df p1) (ak (a7 (a7 (a6 rfl (lx (ad cT rfl rfl rfl rfl) (lx (ae bJ rfl bx5 rfl) (lx (aV fu rfl Rg) (mi 0 (a8 (al ?_))))))))))
 refine aP (σ:=Nat×aA) (λ⟨k,gq⟩ f w=>aU w0 gq w/\f 1=vp b3 0/\f 22=g_v/\f 23=vi (g.2.length:Int)/\f 24=vi ↑k/\Sl gq (is 0) w g_v g.2/\Bx gq (is 1) w b3 [vi g.1,g_v]/\(k:Int)<=((g.2.length:Int):Int)/\(∀e∈List.take k g.2,jT g.1 e)) (λ⟨k,gq⟩=>Int.toNat (((g.2.length:Int):Int)-(k:Int))) (0,g4) ?_ ?_
 · exact⟨bH.cn ch2,rfl,rfl,rfl,rfl,Rg,bx5,by omega,by simp⟩
 clear Rg bx5 bH
 rintro⟨k,g9⟩ f7 w8 ⟨bH,zs1,zs22,zs23,zs24,Rg,bx5,hle_k,hinv4⟩ back4
 refine a7 (a6 rfl (lx (aW (m:=↑k) (n:=(g.2.length:Int)) zs24 zs23) (a8 (a7 ?_))))
 by_cases p4:(k:Int)<(g.2.length:Int)
 ·
  refine af rfl (dt p4) (ak (a7 (al (a7 (a6 rfl (lx (aa (v:=g_v) (i:=↑k) fu rfl zs22 Rg zs24 (by omega) (by omega)) (lw (vg [vi ((gI g.2 ↑k).1),vi ((gI g.2 ↑k).2)]) (bN (v:=g_v) (i:=↑k) e9 rfl Rg (by omega) (by omega) rfl) (lo (bR g9 (is 2) (2,0) rfl e9 ?_)))))))))
  intro g13 w10 b12 ch11 bx14
  replace bx14:Bx g13 (is 2) w10 b12 [vi 0,vi 0]:=bx14
  refine lo (aQ (cs':=[vi ((gI g.2 ↑k).1),vi ((gI g.2 ↑k).2)]) e9 rfl rfl bx14 rfl nq (AllOne.all (.cons rfl (.cons rfl .nil))) rfl ?_)
  intro w15 ch16 bx17
  clear bx14
  refine a8 (a7 (a6 rfl (lx (aR (ds:=[vi ((gI g.2 ↑k).1),vi ((gI g.2 ↑k).2)]) e9 rfl bx17 rfl rfl) (mi 0 (a8 (al (cS (a7 ?_))))))))
  clear bx17
  refine a6 rfl (lx (aW (m:=0) (n:=2) rfl rfl) (a8 (a7 (af rfl rfl (ak (a7 (al (a7 (a6 rfl (lw (vi ((gI g.2 ↑k).1)) (dC iy ay rfl rfl (by decide) (by decide) rfl) (ai ((gI g.2 ↑k).1) ?_)))))))))))
  refine a8 (a7 (a6 rfl (mi ((gI g.2 ↑k).1) (lx (aW (m:=(gI g.2 ↑k).1) (n:=0) rfl rfl) (mv (vb (decide (((gI g.2 ↑k).1)<0))) ?_)))))
  by_cases q34:((gI g.2 ↑k).1)<0
  ·
   refine ah (wn (dt q34)) (ah (wn (dt q34)) (ah (wn (dt q34)) (ah (wn (dt q34)) (lw (vb true) (aB rfl (dt q34) rfl) (a8 (af rfl rfl (a7 ?_)))))))
   clear bx5
   refine a6 rfl (ma (vb false) (a8 (au (vs:=[vb false]) Try.func54 (.tmp rfl .nil) ?_)))
   have e0:(false:Bool)=(bZ g):=by
     exact(bG (λh=>by have h2:=h.2.2.2 _ (bu (xs:=g.2) (i:=↑k) (by omega) ‹_›);unfold jT at h2;omega)).symm
   replace bH:=bH.cn ch11
   replace bH:=bH.ce ch16
   exact⟨rb e0,bH.below⟩
  refine lv (vi ((gI g.2 ↑k).1)) (wy (df q34)) (ao rfl) (lv (vp b3 0) (wy (df q34)) (ad cT rfl rfl zs1 rfl) ?_)
  replace bx5:=(bx5.cn ch11).ce ch16
  refine lv (vi g.1) (wy (df q34)) (ae ay rfl bx5 rfl) (lv (vb (decide (g.1<=((gI g.2 ↑k).1)))) (wy (df q34)) (dm (m:=(gI g.2 ↑k).1) (n:=g.1) rfl rfl) (lw (vb (decide (g.1<=((gI g.2 ↑k).1)))) (aI rfl (df q34) rfl) (a8 ?_)))
  by_cases p9:g.1<=((gI g.2 ↑k).1)
  ·
   refine af rfl (dt p9) (a7 ?_)
   clear bx5
   refine a6 rfl (ma (vb false) (a8 (au (vs:=[vb false]) Try.func54 (.tmp rfl .nil) ?_)))
   have e0:(false:Bool)=(bZ g):=by
     exact(bG (λh=>by have h2:=h.2.2.2 _ (bu (xs:=g.2) (i:=↑k) (by omega) ‹_›);unfold jT at h2;omega)).symm
   replace bH:=bH.cn ch11
   replace bH:=bH.ce ch16
   exact⟨rb e0,bH.below⟩
  refine ag rfl (df p9) (ak (aq (a6 rfl (lx (aY (m:=0) (n:=1) rfl rfl (by omega)) (mi 1 (a8 (ck (a7 (a6 rfl (lx (aW (m:=1) (n:=2) rfl rfl) ?_))))))))))
  refine a8 (a7 (af rfl rfl (ak (a7 (al (a7 (a6 rfl (lw (vi ((gI g.2 ↑k).2)) (dC iy ay rfl rfl (by decide) (by decide) rfl) (ai ((gI g.2 ↑k).2) (a8 (a7 (a6 rfl (mi ((gI g.2 ↑k).2) ?_)))))))))))))
  refine lx (aW (m:=(gI g.2 ↑k).2) (n:=0) rfl rfl) (mv (vb (decide (((gI g.2 ↑k).2)<0))) ?_)
  by_cases q34_18:((gI g.2 ↑k).2)<0
  ·
   refine ah (wn (dt q34_18)) (ah (wn (dt q34_18)) (ah (wn (dt q34_18)) (ah (wn (dt q34_18)) (lw (vb true) (aB rfl (dt q34_18) rfl) (a8 (af rfl rfl (a7 ?_)))))))
   clear bx5
   refine a6 rfl (ma (vb false) (a8 (au (vs:=[vb false]) Try.func54 (.tmp rfl .nil) ?_)))
   have e0:(false:Bool)=(bZ g):=by
     exact(bG (λh=>by have h2:=h.2.2.2 _ (bu (xs:=g.2) (i:=↑k) (by omega) ‹_›);unfold jT at h2;omega)).symm
   replace bH:=bH.cn ch11
   replace bH:=bH.ce ch16
   exact⟨rb e0,bH.below⟩
  refine lv (vi ((gI g.2 ↑k).2)) (wy (df q34_18)) (ao rfl) (lv (vp b3 0) (wy (df q34_18)) (ad cT rfl rfl zs1 rfl) (lv (vi g.1) (wy (df q34_18)) (ae ay rfl bx5 rfl) (lv (vb (decide (g.1<=((gI g.2 ↑k).2)))) (wy (df q34_18)) (dm (m:=(gI g.2 ↑k).2) (n:=g.1) rfl rfl) (lw (vb (decide (g.1<=((gI g.2 ↑k).2)))) (aI rfl (df q34_18) rfl) (a8 ?_)))))
  by_cases p9_19:g.1<=((gI g.2 ↑k).2)
  ·
   refine af rfl (dt p9_19) (a7 ?_)
   clear bx5
   refine a6 rfl (ma (vb false) (a8 (au (vs:=[vb false]) Try.func54 (.tmp rfl .nil) ?_)))
   have e0:(false:Bool)=(bZ g):=by
     exact(bG (λh=>by have h2:=h.2.2.2 _ (bu (xs:=g.2) (i:=↑k) (by omega) ‹_›);unfold jT at h2;omega)).symm
   replace bH:=bH.cn ch11
   replace bH:=bH.ce ch16
   exact⟨rb e0,bH.below⟩
  refine ag rfl (df p9_19) (ak (aq (a6 rfl (lx (aY (m:=1) (n:=1) rfl rfl (by omega)) (mi 2 (a8 (ck (a7 (a6 rfl (lx (aW (m:=2) (n:=2) rfl rfl) ?_))))))))))
  refine a8 (a7 (ag rfl rfl (aD rfl (aq (a6 rfl (lx (aY (m:=↑k) (n:=1) zs24 rfl (by omega)) (mi ((k:Int)+1) (a8 ?_))))))))
  replace bH:=bH.cn ch11
  refine back4 (k+1,g13) _ _ ⟨bH.ce ch16,zs1,zs22,zs23,rfl,(Rg.cn ch11).ce ch16,bx5,by omega,?_⟩ ?_
  · show∀e∈List.take (k+1) g.2,jT g.1 e
    rw[cA ‹_›]
    intro e he
    rcases List.mem_append.1 he with h|h
    · exact hinv4 e h
    · obtain rfl:=List.mem_singleton.1 h
      refine⟨?_,?_⟩<;>omega
  · show Int.toNat (((g.2.length:Int):Int)-((k+1):Int))<Int.toNat (((g.2.length:Int):Int)-(k:Int))
    omega
 refine ag rfl (df p4) (aD rfl (a7 ?_))
 clear bx5
 refine a6 rfl (ma (vb true) (a8 (au (vs:=[vb true]) Try.func54 (.tmp rfl .nil) ?_)))
 have e0:(true:Bool)=(bZ g):=by
   exact(iJ ⟨by omega,by omega,by omega,by rw[List.take_of_length_le (by omega)] at hinv4;exact hinv4⟩).symm
 exact⟨rb e0,bH.below⟩
theorem je(w0:World)(g:(Int)×(List Pt))(g_v:Value)(hg_v:Ro w0 g_v g.2):
    Calls Try.prog 29 #[vg [vi g.1,g_v]] w0 (λee w=>ee= .returned (vb (bZ g))/\cl w0.heap.size w0 w):=by
 refine ar Try.func29 rfl nq ?_
 have bH:=aU.start w0
 have Rg:=hg_v.sl
 refine a7 (a6 rfl (cu rfl (cN c0 (is 1) (1,0) rfl rfl ?_)))
 intro g4 w1 b3 ch2 bx5
 replace bx5:Bx g4 (is 1) w1 b3 [vi g.1,g_v]:=bx5
 refine ma (vb false) (a8 (a7 (a7 (a6 rfl (lx (ad cT rfl rfl rfl rfl) (lx (ae ay rfl bx5 rfl) (lx (aW (m:=g.1) (n:=0) rfl rfl) (mv (vb (decide (g.1<0))) ?_))))))))
 by_cases q8:g.1<0
 ·
  refine ah (wn (dt q8)) (ah (wn (dt q8)) (ah (wn (dt q8)) (lw (vb true) (aB rfl (dt q8) rfl) (mv (vb true) (ah (wn rfl) (ah (wn rfl) (ah (wn rfl) (ah (wn rfl) (lw (vb true) (aB rfl rfl rfl) (a8 (af rfl rfl (a7 ?_))))))))))))
  clear bx5
  refine a6 rfl (ma (vb false) (a8 (au (vs:=[vb false]) Try.func29 (.tmp rfl .nil) ?_)))
  have e0:(false:Bool)=(bZ g):=by
    exact(bG (λh=>by unfold bU at h;omega)).symm
  replace bH:=bH.cn ch2
  exact⟨rb e0,bH.below⟩
 refine lv (vp b3 0) (wy (df q8)) (ad cT rfl rfl rfl rfl) (lv (vi g.1) (wy (df q8)) (ae ay rfl bx5 rfl) (lv (vb (decide (1024<g.1))) (wy (df q8)) (dW (m:=g.1) (n:=1024) rfl rfl) (lw (vb (decide (1024<g.1))) (aI rfl (df q8) rfl) (mv (vb (decide (1024<g.1))) ?_))))
 by_cases q13:1024<g.1
 ·
  refine ah (wn (dt q13)) (ah (wn (dt q13)) (ah (wn (dt q13)) (ah (wn (dt q13)) (lw (vb true) (aB rfl (dt q13) rfl) (a8 (af rfl rfl (a7 ?_)))))))
  clear bx5
  refine a6 rfl (ma (vb false) (a8 (au (vs:=[vb false]) Try.func29 (.tmp rfl .nil) ?_)))
  have e0:(false:Bool)=(bZ g):=by
    exact(bG (λh=>by unfold bU at h;omega)).symm
  replace bH:=bH.cn ch2
  exact⟨rb e0,bH.below⟩
 refine lv (vp b3 1) (wy (df q13)) (ad cT rfl rfl rfl rfl) (lv (g_v) (wy (df q13)) (ae bJ rfl bx5 rfl) ?_)
 replace Rg:=Rg.cn ch2
 have len6:=(Rg).small
 refine lv (vi (g.2.length:Int)) (wy (df q13)) (aV fu rfl Rg) (lv (vb (decide (3072<(g.2.length:Int)))) (wy (df q13)) (dW (m:=(g.2.length:Int)) (n:=3072) rfl rfl) (lw (vb (decide (3072<(g.2.length:Int)))) (aI rfl (df q13) rfl) (a8 ?_)))
 by_cases p1:3072<(g.2.length:Int)
 ·
  refine af rfl (dt p1) (a7 ?_)
  clear bx5
  refine a6 rfl (ma (vb false) (a8 (au (vs:=[vb false]) Try.func29 (.tmp rfl .nil) ?_)))
  have e0:(false:Bool)=(bZ g):=by
    exact(bG (λh=>by unfold bU at h;omega)).symm
  replace bH:=bH.cn ch2
  exact⟨rb e0,bH.below⟩
 refine ag rfl (df p1) (ak (a7 (a7 (a6 rfl (ai 0 (a8 (al ?_)))))))
 refine aP (σ:=Nat×aA) (λ⟨k,gq⟩ f w=>aU w0 gq w/\f 1=vp b3 0/\f 3=vi ↑k/\Sl gq (is 0) w g_v g.2/\Bx gq (is 1) w b3 [vi g.1,g_v]/\(k:Int)<=((g.2.length:Int):Int)/\(∀e∈List.take k g.2,jT g.1 e)) (λ⟨k,gq⟩=>Int.toNat (((g.2.length:Int):Int)-(k:Int))) (0,g4) ?_ ?_
 · exact⟨bH.cn ch2,rfl,rfl,Rg,bx5,by omega,by simp⟩
 clear Rg bx5 bH
 rintro⟨k,g9⟩ f7 w8 ⟨bH,zs1,zs3,Rg,bx5,hle_k,hinv4⟩ back4
 refine a7 (a7 (a6 rfl (mz zs3 (lx (ad cT rfl rfl zs1 rfl) (lx (ae bJ rfl bx5 rfl) (lx (aV fu rfl Rg) (lx (aW (m:=↑k) (n:=(g.2.length:Int)) rfl rfl) (a8 ?_))))))))
 by_cases p4:(k:Int)<(g.2.length:Int)
 ·
  refine af rfl (dt p4) (ak (a7 (al (a7 (a6 rfl (ai 0 (a8 (al (cS (a7 (a7 (a6 rfl ?_))))))))))))
  refine mi 0 (lx (aW (m:=0) (n:=2) rfl rfl) (a8 (af rfl rfl (ak (a7 (al (a7 (bL g9 rfl iZ (by kernel_rfl) ?_))))))))
  intro w11 ch10
  refine qx (λw' hw'=>ad cT rfl rfl zs1 rfl) ?_
  replace bx5:=bx5.cn ch10
  refine qx (λw' hw'=>ae bJ rfl (bx5.bel hw') rfl) (qz zs3 (qm (vi 0) ?_))
  replace Rg:=Rg.cn ch10
  refine qx (λw' hw'=>aa (v:=g_v) (i:=↑k) fu rfl rfl (Rg.bel hw') rfl (by omega) (by omega)) (qx (λw' hw'=>b5 iy rfl rfl rfl (by decide) (by decide) rfl) (qx (λw' hw'=>b9 (v:=g_v) (i:=↑k) ay rfl (Rg.bel hw') (by omega) (by omega) (by decide) rfl) (qx (λw' hw'=>aW (m:=(gI g.2 ↑k).1) (n:=0) rfl rfl) (qm (vb (decide (((gI g.2 ↑k).1)<0))) ?_))))
  by_cases q38:((gI g.2 ↑k).1)<0
  ·
   refine aC (wn (dt q38)) (aC (wn (dt q38)) (aC (wn (dt q38)) (aC (wn (dt q38)) (aC (wn (dt q38)) (aC (wn (dt q38)) (aC (wn (dt q38)) (aC (wn (dt q38)) (aC (wn (dt q38)) (aC (wn (dt q38)) ?_)))))))))
   refine qv (vb true) (λw' hw'=>aB rfl (dt q38) rfl) (cm ?_)
   intro w12 hc13
   replace hc13:=av hc13 g9
   refine af rfl rfl (a7 ?_)
   clear bx5
   refine a6 rfl (ma (vb false) (a8 (au (vs:=[vb false]) Try.func29 (.tmp rfl .nil) ?_)))
   have e0:(false:Bool)=(bZ g):=by
     exact(bG (λh=>by have h2:=h.2.2.2 _ (bu (xs:=g.2) (i:=↑k) (by omega) ‹_›);unfold jT at h2;omega)).symm
   replace bH:=bH.cn ch10
   replace bH:=bH.cn hc13
   exact⟨rb e0,bH.below⟩
  refine ba (v:=vp b3 1) (wy (df q38)) (λw' hw'=>ad cT rfl rfl zs1 rfl) (ba (v:=g_v) (wy (df q38)) (λw' hw'=>ae bJ rfl (bx5.bel hw') rfl) (ba (v:=vi ↑k) (wy (df q38)) (λw' hw'=>ao zs3) (ba (v:=vi 0) (wy (df q38)) (λw' hw'=>ao rfl) (ba (v:=Value.pointer (some (aO g_v 2 (Int.toNat ↑k)))) (wy (df q38)) (λw' hw'=>aa (α:=Pt) (xs:=g.2) (v:=g_v) (i:=↑k) fu rfl rfl (Rg.bel hw') rfl (by omega) (by omega)) ?_))))
  refine ba (v:=Value.pointer (some ⟨(aO g_v 2 (Int.toNat ↑k)).block,(aO g_v 2 (Int.toNat ↑k)).off+0,none⟩)) (wy (df q38)) (λw' hw'=>b5 iy rfl rfl rfl (by decide) (by decide) rfl) (ba (v:=vi ((gI g.2 ↑k).1)) (wy (df q38)) (λw' hw'=>b9 (α:=Pt) (xs:=g.2) (v:=g_v) (i:=↑k) ay rfl (Rg.bel hw') (by omega) (by omega) (by decide) rfl) (ba (v:=vp b3 0) (wy (df q38)) (λw' hw'=>ad cT rfl rfl zs1 rfl) (ba (v:=vi g.1) (wy (df q38)) (λw' hw'=>ae ay rfl (bx5.bel hw') rfl) ?_)))
  refine ba (v:=vb (decide (g.1<=((gI g.2 ↑k).1)))) (wy (df q38)) (λw' hw'=>dm (m:=(gI g.2 ↑k).1) (n:=g.1) rfl rfl) (qv (vb (decide (g.1<=((gI g.2 ↑k).1)))) (λw' hw'=>aI rfl (df q38) rfl) (cm ?_))
  intro w14 hc15
  replace hc15:=av hc15 g9
  by_cases p9:g.1<=((gI g.2 ↑k).1)
  ·
   refine af rfl (dt p9) (a7 ?_)
   clear bx5
   refine a6 rfl (ma (vb false) (a8 (au (vs:=[vb false]) Try.func29 (.tmp rfl .nil) ?_)))
   have e0:(false:Bool)=(bZ g):=by
     exact(bG (λh=>by have h2:=h.2.2.2 _ (bu (xs:=g.2) (i:=↑k) (by omega) ‹_›);unfold jT at h2;omega)).symm
   replace bH:=bH.cn ch10
   replace bH:=bH.cn hc15
   exact⟨rb e0,bH.below⟩
  refine ag rfl (df p9) (ak (aq (a6 rfl (mi 0 (lx (aY (m:=0) (n:=1) rfl rfl (by omega)) (ai 1 (a8 (ck (a7 (a7 (a6 rfl ?_)))))))))))
  refine mi 1 (lx (aW (m:=1) (n:=2) rfl rfl) (a8 (af rfl rfl (ak (a7 (al (a7 (bL g9 rfl iZ (by kernel_rfl) ?_))))))))
  intro w17 ch16
  refine qx (λw' hw'=>ad cT rfl rfl zs1 rfl) ?_
  replace bx5:=(bx5.cn hc15).cn ch16
  refine qx (λw' hw'=>ae bJ rfl (bx5.bel hw') rfl) (qz zs3 (qm (vi 1) ?_))
  replace Rg:=(Rg.cn hc15).cn ch16
  refine qx (λw' hw'=>aa (v:=g_v) (i:=↑k) fu rfl rfl (Rg.bel hw') rfl (by omega) (by omega)) (qx (λw' hw'=>b5 iy rfl rfl rfl (by decide) (by decide) rfl) (qx (λw' hw'=>b9 (v:=g_v) (i:=↑k) ay rfl (Rg.bel hw') (by omega) (by omega) (by decide) rfl) (qx (λw' hw'=>aW (m:=(gI g.2 ↑k).2) (n:=0) rfl rfl) (qm (vb (decide (((gI g.2 ↑k).2)<0))) ?_))))
  by_cases q38_18:((gI g.2 ↑k).2)<0
  ·
   refine aC (wn (dt q38_18)) (aC (wn (dt q38_18)) (aC (wn (dt q38_18)) (aC (wn (dt q38_18)) (aC (wn (dt q38_18)) (aC (wn (dt q38_18)) (aC (wn (dt q38_18)) (aC (wn (dt q38_18)) (aC (wn (dt q38_18)) (aC (wn (dt q38_18)) ?_)))))))))
   refine qv (vb true) (λw' hw'=>aB rfl (dt q38_18) rfl) (cm ?_)
   intro w19 hc20
   replace hc20:=av hc20 g9
   refine af rfl rfl (a7 ?_)
   clear bx5
   refine a6 rfl (ma (vb false) (a8 (au (vs:=[vb false]) Try.func29 (.tmp rfl .nil) ?_)))
   have e0:(false:Bool)=(bZ g):=by
     exact(bG (λh=>by have h2:=h.2.2.2 _ (bu (xs:=g.2) (i:=↑k) (by omega) ‹_›);unfold jT at h2;omega)).symm
   have C21:=cg [] (ch10.n.seq (hc15.n.seq (ch16.n.seq hc20.n)))
   replace bH:=bH.ca C21
   exact⟨rb e0,bH.below⟩
  refine ba (v:=vp b3 1) (wy (df q38_18)) (λw' hw'=>ad cT rfl rfl zs1 rfl) (ba (v:=g_v) (wy (df q38_18)) (λw' hw'=>ae bJ rfl (bx5.bel hw') rfl) (ba (v:=vi ↑k) (wy (df q38_18)) (λw' hw'=>ao zs3) (ba (v:=vi 1) (wy (df q38_18)) (λw' hw'=>ao rfl) (ba (v:=Value.pointer (some (aO g_v 2 (Int.toNat ↑k)))) (wy (df q38_18)) (λw' hw'=>aa (α:=Pt) (xs:=g.2) (v:=g_v) (i:=↑k) fu rfl rfl (Rg.bel hw') rfl (by omega) (by omega)) ?_))))
  refine ba (v:=Value.pointer (some ⟨(aO g_v 2 (Int.toNat ↑k)).block,(aO g_v 2 (Int.toNat ↑k)).off+1,none⟩)) (wy (df q38_18)) (λw' hw'=>b5 iy rfl rfl rfl (by decide) (by decide) rfl) (ba (v:=vi ((gI g.2 ↑k).2)) (wy (df q38_18)) (λw' hw'=>b9 (α:=Pt) (xs:=g.2) (v:=g_v) (i:=↑k) ay rfl (Rg.bel hw') (by omega) (by omega) (by decide) rfl) (ba (v:=vp b3 0) (wy (df q38_18)) (λw' hw'=>ad cT rfl rfl zs1 rfl) (ba (v:=vi g.1) (wy (df q38_18)) (λw' hw'=>ae ay rfl (bx5.bel hw') rfl) ?_)))
  refine ba (v:=vb (decide (g.1<=((gI g.2 ↑k).2)))) (wy (df q38_18)) (λw' hw'=>dm (m:=(gI g.2 ↑k).2) (n:=g.1) rfl rfl) (qv (vb (decide (g.1<=((gI g.2 ↑k).2)))) (λw' hw'=>aI rfl (df q38_18) rfl) (cm ?_))
  intro w22 hc23
  replace hc23:=av hc23 g9
  by_cases p9_24:g.1<=((gI g.2 ↑k).2)
  ·
   refine af rfl (dt p9_24) (a7 ?_)
   clear bx5
   refine a6 rfl (ma (vb false) (a8 (au (vs:=[vb false]) Try.func29 (.tmp rfl .nil) ?_)))
   have e0:(false:Bool)=(bZ g):=by
     exact(bG (λh=>by have h2:=h.2.2.2 _ (bu (xs:=g.2) (i:=↑k) (by omega) ‹_›);unfold jT at h2;omega)).symm
   have C25:=cg [] (ch10.n.seq (hc15.n.seq (ch16.n.seq hc23.n)))
   replace bH:=bH.ca C25
   exact⟨rb e0,bH.below⟩
  refine ag rfl (df p9_24) (ak (aq (a6 rfl (mi 1 (lx (aY (m:=1) (n:=1) rfl rfl (by omega)) (ai 2 (a8 (ck (a7 (a7 (a6 rfl ?_)))))))))))
  refine mi 2 (lx (aW (m:=2) (n:=2) rfl rfl) (a8 (ag rfl rfl (aD rfl (aq (a6 rfl (mz zs3 (lx (aY (m:=↑k) (n:=1) rfl rfl (by omega)) (ai ((k:Int)+1) ?_)))))))))
  refine a8 ?_
  have C26:=cg [] (ch10.n.seq (hc15.n.seq (ch16.n.seq hc23.n)))
  refine back4 (k+1,g9) _ _ ⟨bH.ca C26,zs1,rfl,Rg.cn hc23,bx5.cn hc23,by omega,?_⟩ ?_
  · show∀e∈List.take (k+1) g.2,jT g.1 e
    rw[cA ‹_›]
    intro e he
    rcases List.mem_append.1 he with h|h
    · exact hinv4 e h
    · obtain rfl:=List.mem_singleton.1 h
      refine⟨?_,?_⟩<;>omega
  · show Int.toNat (((g.2.length:Int):Int)-((k+1):Int))<Int.toNat (((g.2.length:Int):Int)-(k:Int))
    omega
 refine ag rfl (df p4) (aD rfl (a7 ?_))
 clear bx5
 refine a6 rfl (ma (vb true) (a8 (au (vs:=[vb true]) Try.func29 (.tmp rfl .nil) ?_)))
 have e0:(true:Bool)=(bZ g):=by
   exact(iJ ⟨by omega,by omega,by omega,by rw[List.take_of_length_le (by omega)] at hinv4;exact hinv4⟩).symm
 exact⟨rb e0,bH.below⟩
theorem eu(w0:World)(a:List Int)(a_v:Value)(ha_v:Ro w0 a_v a)(b:List Int)(b_v:Value)(hb_v:Ro w0 b_v b):
    Calls Try.prog 17 #[a_v,b_v] w0 (λee w=>ee= .returned (vb (decide (a=b)))/\cl w0.heap.size w0 w):=by
 refine ar Try.func17 rfl nq ?_
 have bH:=aU.start w0
 have Ra:=ha_v.sl
 have Rb:=hb_v.sl
 refine a7 (a6 rfl (ma (vb false) (a8 (a7 (a7 (a6 rfl (mv a_v ?_)))))))
 have len1:=(Ra).small
 refine lx (aV bM rfl Ra) (mv b_v ?_)
 have len2:=(Rb).small
 refine lx (aV bM rfl Rb) (lx (ch (m:=(a.length:Int)) (n:=(b.length:Int)) rfl rfl) (a8 ?_))
 by_cases p1:(a.length:Int)=(b.length:Int)
 ·
  refine ag rfl (congrArg Bool.not (dt p1)) (ak (a7 (a7 (a6 rfl (ai 0 (a8 (al ?_)))))))
  refine aP (σ:=Nat×aA) (λ⟨k,gq⟩ f w=>aU w0 gq w/\f 0=a_v/\f 1=b_v/\f 5=vi ↑k/\Sl gq (is 0) w a_v a/\Sl gq (is 0) w b_v b/\(k:Int)<=((a.length:Int):Int)/\(List.take k a=List.take k b)) (λ⟨k,gq⟩=>Int.toNat (((a.length:Int):Int)-(k:Int))) (0,c0) ?_ ?_
  · exact⟨bH,rfl,rfl,rfl,Ra,Rb,by omega,by simp⟩
  clear Ra Rb bH
  rintro⟨k,g5⟩ f3 w4 ⟨bH,zs0,zs1,zs5,Ra,Rb,hle_k,hinv4⟩ back4
  refine a7 (a7 (a6 rfl (mz zs5 (mz zs0 (lx (aV bM rfl Ra) (lx (aW (m:=↑k) (n:=(a.length:Int)) rfl rfl) (a8 ?_)))))))
  by_cases p4:(k:Int)<(a.length:Int)
  ·
   refine af rfl (dt p4) (ak (a7 (al (a7 (bL g5 rfl iZ (by kernel_rfl) ?_)))))
   intro w7 ch6
   refine qz zs0 (qz zs5 ?_)
   replace Ra:=Ra.cn ch6
   refine qx (λw' hw'=>aa (v:=a_v) (i:=↑k) bM rfl rfl (Ra.bel hw') rfl (by omega) (by omega)) (qx (λw' hw'=>az (v:=a_v) (i:=↑k) ay rfl (Ra.bel hw') (by omega) (by omega) (by decide) rfl) (qz zs1 (qz zs5 ?_)))
   replace Rb:=Rb.cn ch6
   refine qx (λw' hw'=>aa (v:=b_v) (i:=↑k) bM rfl rfl (Rb.bel hw') rfl (by omega) (by omega)) (qx (λw' hw'=>az (v:=b_v) (i:=↑k) ay rfl (Rb.bel hw') (by omega) (by omega) (by decide) rfl) (qx (λw' hw'=>ch (m:=(gI a ↑k)) (n:=(gI b ↑k)) rfl rfl) (cm ?_)))
   intro w8 hc9
   replace hc9:=av hc9 g5
   by_cases p6:(gI a ↑k)=(gI b ↑k)
   ·
    refine ag rfl (congrArg Bool.not (dt p6)) (ak (aq (a6 rfl (mz zs5 (lx (aY (m:=↑k) (n:=1) rfl rfl (by omega)) (ai ((k:Int)+1) (a8 ?_)))))))
    replace bH:=bH.cn ch6
    refine back4 (k+1,g5) _ _ ⟨bH.cn hc9,zs0,zs1,rfl,Ra.cn hc9,Rb.cn hc9,by omega,?_⟩ ?_
    · show List.take (k+1) a=List.take (k+1) b
      rw[cA ‹_›,cA (by omega),hinv4];simp_all
    · show Int.toNat (((a.length:Int):Int)-((k+1):Int))<Int.toNat (((a.length:Int):Int)-(k:Int))
      omega
   refine af rfl (congrArg Bool.not (df p6)) (a7 (a6 rfl (ma (vb false) (a8 (au (vs:=[vb false]) Try.func17 (.tmp rfl .nil) ?_)))))
   have e0:(false:Bool)=(decide (a=b)):=by
     exact(df (λh=>by subst h;simp_all)).symm
   replace bH:=bH.cn ch6
   replace bH:=bH.cn hc9
   exact⟨rb e0,bH.below⟩
  refine ag rfl (df p4) (aD rfl (a7 (a6 rfl (ma (vb true) (a8 (au (vs:=[vb true]) Try.func17 (.tmp rfl .nil) ?_))))))
  have e0:(true:Bool)=(decide (a=b)):=by
    (have e:=hinv4;rw[List.take_of_length_le (by omega),List.take_of_length_le (by omega)] at e;exact(dt e).symm)
  exact⟨rb e0,bH.below⟩
 refine af rfl (congrArg Bool.not (df p1)) (a7 (a6 rfl (ma (vb false) (a8 (au (vs:=[vb false]) Try.func17 (.tmp rfl .nil) ?_)))))
 have e0:(false:Bool)=(decide (a=b)):=by
   exact(df (λh=>by subst h;simp_all)).symm
 exact⟨rb e0,bH.below⟩
theorem nI(w0:World)(g:(Int)×(List Pt))(g_v:Value)(hg_v:Ro w0 g_v g.2):
    Calls Try.prog 10 #[vg [vi g.1,g_v]] w0 (λee w=>ee= .returned (vb (decide (g.2.length<=300/\(g.1<=300\/¬bU g))))/\cl w0.heap.size w0 w):=by
 refine ar Try.func10 rfl nq ?_
 have bH:=aU.start w0
 have Rg:=hg_v.sl
 refine a7 (a6 rfl (cu rfl (cN c0 (is 1) (1,0) rfl rfl ?_)))
 intro g4 w1 b3 ch2 bx5
 replace bx5:Bx g4 (is 1) w1 b3 [vi g.1,g_v]:=bx5
 refine ma (vb false) (a8 (a7 (a6 rfl (lx (ad cT rfl rfl rfl rfl) (lx (ae bJ rfl bx5 rfl) ?_)))))
 replace Rg:=Rg.cn ch2
 have len6:=(Rg).small
 refine lx (aV fu rfl Rg) (lx (iQ (m:=(g.2.length:Int)) (n:=300) rfl rfl) (mv (vb (decide ((g.2.length:Int)<=300))) ?_))
 by_cases q7:(g.2.length:Int)<=300
 ·
  refine lv (vp b3 0) (wy (dt q7)) (ad cT rfl rfl rfl rfl) (lv (vi g.1) (wy (dt q7)) (ae ay rfl bx5 rfl) (lv (vb (decide (g.1<=300))) (wy (dt q7)) (iQ (m:=g.1) (n:=300) rfl rfl) (lv (vb (decide (g.1<=300))) (wy (dt q7)) (ao rfl) ?_)))
  by_cases q11:g.1<=300
  ·
   refine ah (wn (dt q11)) (ah (wn (dt q11)) (ah (wn (dt q11)) (lv (vb true) (wy (dt q7)) (aB rfl (dt q11) rfl) (lw (vb true) (aB rfl (dt q7) rfl) (ma (vb true) (a8 (au (vs:=[vb true]) Try.func10 (.tmp rfl .nil) ?_)))))))
   have e0:(true:Bool)=(decide (g.2.length<=300/\(g.1<=300\/¬bU g))):=by
     (try simp only[bZ] at*)
     by_cases h:bU g<;>simp_all<;>omega
   replace bH:=bH.cn ch2
   exact⟨rb e0,bH.below⟩
  refine lv (vg [vi g.1,g_v]) (wy (df q11)) (aR (ds:=[vi g.1,g_v]) bP rfl bx5 rfl rfl) (cu (wy (df q11)) (aZ (v:=vb (bZ g)) (aE (vals:=[vg [vi g.1,g_v]]) Try.func29 kj kx rfl) (je w1 g g_v (Rg).ro) ?_))
  intro w7 hb8
  replace hb8:=av hb8 g4
  refine lv (vb (!(bZ g))) (wy (df q11)) (cv (b:=(bZ g)) rfl) (lv (vb (!(bZ g))) (wy (dt q7)) (aI rfl (df q11) rfl) (lw (vb (!(bZ g))) (aB rfl (dt q7) rfl) (ma (vb (!(bZ g))) (a8 (au (vs:=[vb (!(bZ g))]) Try.func10 (.tmp rfl .nil) ?_)))))
  have e0:(!(bZ g):Bool)=(decide (g.2.length<=300/\(g.1<=300\/¬bU g))):=by
    (try simp only[bZ] at*)
    by_cases h:bU g<;>simp_all<;>omega
  replace bH:=bH.cn ch2
  replace bH:=bH.cn hb8
  exact⟨rb e0,bH.below⟩
 refine ah (wn (df q7)) (ah (wn (df q7)) (ah (wn (df q7)) (ah (wn (df q7)) (ah (bj rfl rfl rfl) (ah (bj rfl rfl rfl) (ah (bj rfl rfl rfl) (ah (wn (df q7)) (lw (vb false) (aI rfl (df q7) rfl) (ma (vb false) ?_)))))))))
 refine a8 (au (vs:=[vb false]) Try.func10 (.tmp rfl .nil) ?_)
 have e0:(false:Bool)=(decide (g.2.length<=300/\(g.1<=300\/¬bU g))):=by
   (try simp only[bZ] at*)
   by_cases h:bU g<;>simp_all<;>omega
 replace bH:=bH.cn ch2
 exact⟨rb e0,bH.below⟩
end TL
