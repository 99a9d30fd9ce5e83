import Derived.Test.YtbpphaeianpdpaaPmTlP2
import Derived.Test.YtbpphaeianpdpaaProg
import Derived.Test.YtbpphaeianpdpaaPmTlAli
set_option linter.all false
set_option maxRecDepth 20000
namespace TL
open Go Go.Proofs
theorem lu:Try.prog.follows .mixedOrders=true:=by kernel_rfl
theorem ax:Tp Try.prog 3 false 1 8 (.int .i64 0):=Tp.of (by kernel_rfl)
theorem bC:Tp Try.prog 22 false 1 24 (.slice none 0 0):=Tp.of (by kernel_rfl)
theorem bv:Tp Try.prog 24 true 2 32 (.agg #[.int .i64 0,.slice none 0 0]):=Tp.of (by kernel_rfl)
theorem cB:Tp Try.prog 61 true 2 16 (.agg #[.int .i64 0,.int .i64 0]):=Tp.of (by kernel_rfl)
theorem qY:Try.f29.body.isNone=false:=rfl
theorem qb:(Try.f29.name== "runtime.NumGoroutine")=false:=by decide+kernel
theorem jX(w0:World)(g:(Int)×(List Pt))(g_v:Value)(hg_v:Ro w0 g_v g.2):
    Calls Try.prog 54 #[vg [vi g.1,g_v]] w0 (λee w=>ee= .returned (vb (bX g))/\cr w0.heap.size w0 w):=by
 refine am Try.func54 rfl nq ?_
 have bH:=b7.start w0
 have Rg:=hg_v.sl
 refine a8 (a7 rfl (d8 rfl (cW c0 (is 1) (1,0) rfl rfl ?_)))
 intro g4 w1 b3 ch2 bx5
 replace bx5:Bx g4 (is 1) w1 b3 [vi g.1,g_v]:=bx5
 refine ma (vb false) (aa (a8 (a8 (a7 rfl (lx (ad d5 rfl rfl rfl rfl) (lx (ae ax rfl bx5 rfl) (lx (aX (m:=g.1) (n:=0) rfl rfl) (mv (vb (decide (g.1<0))) ?_))))))))
 by_cases q10:g.1<0
 ·
  refine ak (wn (dt q10)) (ak (wn (dt q10)) (ak (wn (dt q10)) (lw (vb true) (aH rfl (dt q10) rfl) (mv (vb true) (ak (wn rfl) (ak (wn rfl) (ak (wn rfl) (ak (wn rfl) (lw (vb true) (aH rfl rfl rfl) (aa (ah rfl rfl (a8 ?_))))))))))))
  clear bx5
  refine a7 rfl (ma (vb false) (aa (ar (vs:=[vb false]) Try.func54 (.tmp rfl .nil) ?_)))
  have e0:(false:Bool)=(bX g):=by
    exact(bE (λh=>by unfold aY at h;omega)).symm
  replace bH:=bH.cn ch2
  exact⟨rb e0,bH.below⟩
 refine lv (vp b3 0) (wy (df q10)) (ad d5 rfl rfl rfl rfl) (lv (vi g.1) (wy (df q10)) (ae ax rfl bx5 rfl) (lv (vb (decide (1024<g.1))) (wy (df q10)) (eS (m:=g.1) (n:=1024) rfl rfl) (lw (vb (decide (1024<g.1))) (aI rfl (df q10) rfl) (mv (vb (decide (1024<g.1))) ?_))))
 by_cases q15:1024<g.1
 ·
  refine ak (wn (dt q15)) (ak (wn (dt q15)) (ak (wn (dt q15)) (ak (wn (dt q15)) (lw (vb true) (aH rfl (dt q15) rfl) (aa (ah rfl rfl (a8 ?_)))))))
  clear bx5
  refine a7 rfl (ma (vb false) (aa (ar (vs:=[vb false]) Try.func54 (.tmp rfl .nil) ?_)))
  have e0:(false:Bool)=(bX g):=by
    exact(bE (λh=>by unfold aY at h;omega)).symm
  replace bH:=bH.cn ch2
  exact⟨rb e0,bH.below⟩
 refine lv (vp b3 1) (wy (df q15)) (ad d5 rfl rfl rfl rfl) (lv (g_v) (wy (df q15)) (ae bC rfl bx5 rfl) ?_)
 replace Rg:=Rg.cn ch2
 have len6:=(Rg).small
 refine lv (vi (g.2.length:Int)) (wy (df q15)) (bA eN rfl Rg) (lv (vb (decide (3072<(g.2.length:Int)))) (wy (df q15)) (eS (m:=(g.2.length:Int)) (n:=3072) rfl rfl) (lw (vb (decide (3072<(g.2.length:Int)))) (aI rfl (df q15) rfl) (aa ?_)))
 by_cases p1:3072<(g.2.length:Int)
 ·
  refine ah rfl (dt p1) (a8 ?_)
  clear bx5
  refine a7 rfl (ma (vb false) (aa (ar (vs:=[vb false]) Try.func54 (.tmp rfl .nil) ?_)))
  have e0:(false:Bool)=(bX g):=by
    exact(bE (λh=>by unfold aY at h;omega)).symm
  replace bH:=bH.cn ch2
  exact⟨rb e0,bH.below⟩
 refine aj rfl (df p1) (ap (a8 (a8 (a7 rfl (lx (ad d5 rfl rfl rfl rfl) (lx (ae bC rfl bx5 rfl) (lx (bA eN rfl Rg) (mi 0 (aa (aq ?_))))))))))
 refine ba (σ:=Nat×ay) (λ⟨k,gq⟩ f w=>b7 w0 gq w/\f 1=vp b3 0/\f 22=g_v/\f 23=vi (g.2.length:Int)/\f 24=vi ↑k/\Sl gq (is 0) w g_v g.2/\Bx gq (is 1) w b3 [vi g.1,g_v]/\(k:Int)<=((g.2.length:Int):Int)/\(∀e∈List.take k g.2,js g.1 e)) (λ⟨k,gq⟩=>Int.toNat (((g.2.length:Int):Int)-(k:Int))) (0,g4) ?_ ?_
 · exact⟨bH.cn ch2,rfl,rfl,rfl,rfl,Rg,bx5,by omega,by simp⟩
 clear Rg bx5 bH
 rintro⟨k,g9⟩ f7 w8 ⟨bH,zs1,zs22,zs23,zs24,Rg,bx5,hle_k,hinv4⟩ back4
 refine a8 (a7 rfl (lx (aX (m:=↑k) (n:=(g.2.length:Int)) zs24 zs23) (aa (a8 ?_))))
 by_cases p4:(k:Int)<(g.2.length:Int)
 ·
  refine ah rfl (dt p4) (ap (a8 (aq (a8 (a7 rfl (lx (ab (v:=g_v) (i:=↑k) eN rfl zs22 Rg zs24 (by omega) (by omega)) (lw (vg [vi ((gI g.2 ↑k).1),vi ((gI g.2 ↑k).2)]) (br (v:=g_v) (i:=↑k) cB rfl Rg (by omega) (by omega) rfl) (lo (bn g9 (is 2) (2,0) rfl cB ?_)))))))))
  intro g13 w10 b12 ch11 bx14
  replace bx14:Bx g13 (is 2) w10 b12 [vi 0,vi 0]:=bx14
  refine lo (aG (cs':=[vi ((gI g.2 ↑k).1),vi ((gI g.2 ↑k).2)]) cB rfl rfl bx14 rfl nq (AllOne.all (.cons rfl (.cons rfl .nil))) rfl ?_)
  intro w15 ch16 bx17
  clear bx14
  refine aa (a8 (a7 rfl (lx (aN (ds:=[vi ((gI g.2 ↑k).1),vi ((gI g.2 ↑k).2)]) cB rfl bx17 rfl rfl) (mi 0 (aa (aq (cQ (a8 ?_))))))))
  clear bx17
  refine a7 rfl (lx (aX (m:=0) (n:=2) rfl rfl) (aa (a8 (ah rfl rfl (ap (a8 (aq (a8 (a7 rfl (lw (vi ((gI g.2 ↑k).1)) (cL i4 ax rfl rfl (by decide) (by decide) rfl) (ai ((gI g.2 ↑k).1) ?_)))))))))))
  refine aa (a8 (a7 rfl (mi ((gI g.2 ↑k).1) (lx (aX (m:=(gI g.2 ↑k).1) (n:=0) rfl rfl) (mv (vb (decide (((gI g.2 ↑k).1)<0))) ?_)))))
  by_cases q34:((gI g.2 ↑k).1)<0
  ·
   refine ak (wn (dt q34)) (ak (wn (dt q34)) (ak (wn (dt q34)) (ak (wn (dt q34)) (lw (vb true) (aH rfl (dt q34) rfl) (aa (ah rfl rfl (a8 ?_)))))))
   clear bx5
   refine a7 rfl (ma (vb false) (aa (ar (vs:=[vb false]) Try.func54 (.tmp rfl .nil) ?_)))
   have e0:(false:Bool)=(bX g):=by
     exact(bE (λh=>by have h2:=h.2.2.2 _ (bh (xs:=g.2) (i:=↑k) (by omega) ‹_›);unfold js at h2;omega)).symm
   replace bH:=bH.cn ch11
   replace bH:=bH.ce ch16
   exact⟨rb e0,bH.below⟩
  refine lv (vi ((gI g.2 ↑k).1)) (wy (df q34)) (al rfl) (lv (vp b3 0) (wy (df q34)) (ad d5 rfl rfl zs1 rfl) ?_)
  replace bx5:=(bx5.cn ch11).ce ch16
  refine lv (vi g.1) (wy (df q34)) (ae ax rfl bx5 rfl) (lv (vb (decide (g.1<=((gI g.2 ↑k).1)))) (wy (df q34)) (d7 (m:=(gI g.2 ↑k).1) (n:=g.1) rfl rfl) (lw (vb (decide (g.1<=((gI g.2 ↑k).1)))) (aI rfl (df q34) rfl) (aa ?_)))
  by_cases p9:g.1<=((gI g.2 ↑k).1)
  ·
   refine ah rfl (dt p9) (a8 ?_)
   clear bx5
   refine a7 rfl (ma (vb false) (aa (ar (vs:=[vb false]) Try.func54 (.tmp rfl .nil) ?_)))
   have e0:(false:Bool)=(bX g):=by
     exact(bE (λh=>by have h2:=h.2.2.2 _ (bh (xs:=g.2) (i:=↑k) (by omega) ‹_›);unfold js at h2;omega)).symm
   replace bH:=bH.cn ch11
   replace bH:=bH.ce ch16
   exact⟨rb e0,bH.below⟩
  refine aj rfl (df p9) (ap (au (a7 rfl (lx (bg (m:=0) (n:=1) rfl rfl (by omega)) (mi 1 (aa (c5 (a8 (a7 rfl (lx (aX (m:=1) (n:=2) rfl rfl) ?_))))))))))
  refine aa (a8 (ah rfl rfl (ap (a8 (aq (a8 (a7 rfl (lw (vi ((gI g.2 ↑k).2)) (cL i4 ax rfl rfl (by decide) (by decide) rfl) (ai ((gI g.2 ↑k).2) (aa (a8 (a7 rfl (mi ((gI g.2 ↑k).2) ?_)))))))))))))
  refine lx (aX (m:=(gI g.2 ↑k).2) (n:=0) rfl rfl) (mv (vb (decide (((gI g.2 ↑k).2)<0))) ?_)
  by_cases q34_18:((gI g.2 ↑k).2)<0
  ·
   refine ak (wn (dt q34_18)) (ak (wn (dt q34_18)) (ak (wn (dt q34_18)) (ak (wn (dt q34_18)) (lw (vb true) (aH rfl (dt q34_18) rfl) (aa (ah rfl rfl (a8 ?_)))))))
   clear bx5
   refine a7 rfl (ma (vb false) (aa (ar (vs:=[vb false]) Try.func54 (.tmp rfl .nil) ?_)))
   have e0:(false:Bool)=(bX g):=by
     exact(bE (λh=>by have h2:=h.2.2.2 _ (bh (xs:=g.2) (i:=↑k) (by omega) ‹_›);unfold js at h2;omega)).symm
   replace bH:=bH.cn ch11
   replace bH:=bH.ce ch16
   exact⟨rb e0,bH.below⟩
  refine lv (vi ((gI g.2 ↑k).2)) (wy (df q34_18)) (al rfl) (lv (vp b3 0) (wy (df q34_18)) (ad d5 rfl rfl zs1 rfl) (lv (vi g.1) (wy (df q34_18)) (ae ax rfl bx5 rfl) (lv (vb (decide (g.1<=((gI g.2 ↑k).2)))) (wy (df q34_18)) (d7 (m:=(gI g.2 ↑k).2) (n:=g.1) rfl rfl) (lw (vb (decide (g.1<=((gI g.2 ↑k).2)))) (aI rfl (df q34_18) rfl) (aa ?_)))))
  by_cases p9_19:g.1<=((gI g.2 ↑k).2)
  ·
   refine ah rfl (dt p9_19) (a8 ?_)
   clear bx5
   refine a7 rfl (ma (vb false) (aa (ar (vs:=[vb false]) Try.func54 (.tmp rfl .nil) ?_)))
   have e0:(false:Bool)=(bX g):=by
     exact(bE (λh=>by have h2:=h.2.2.2 _ (bh (xs:=g.2) (i:=↑k) (by omega) ‹_›);unfold js at h2;omega)).symm
   replace bH:=bH.cn ch11
   replace bH:=bH.ce ch16
   exact⟨rb e0,bH.below⟩
  refine aj rfl (df p9_19) (ap (au (a7 rfl (lx (bg (m:=1) (n:=1) rfl rfl (by omega)) (mi 2 (aa (c5 (a8 (a7 rfl (lx (aX (m:=2) (n:=2) rfl rfl) ?_))))))))))
  refine aa (a8 (aj rfl rfl (aO rfl (au (a7 rfl (lx (bg (m:=↑k) (n:=1) zs24 rfl (by omega)) (mi ((k:Int)+1) (aa ?_))))))))
  replace bH:=bH.cn ch11
  refine back4 (k+1,g13) _ _ ⟨bH.ce ch16,zs1,zs22,zs23,rfl,(Rg.cn ch11).ce ch16,bx5,by omega,?_⟩ ?_
  · show∀e∈List.take (k+1) g.2,js g.1 e
    rw[cM ‹_›]
    intro e he
    rcases List.mem_append.1 he with h|h
    · exact hinv4 e h
    · obtain rfl:=List.mem_singleton.1 h
      refine⟨?_,?_⟩<;>omega
  · show Int.toNat (((g.2.length:Int):Int)-((k+1):Int))<Int.toNat (((g.2.length:Int):Int)-(k:Int))
    omega
 refine aj rfl (df p4) (aO rfl (a8 ?_))
 clear bx5
 refine a7 rfl (ma (vb true) (aa (ar (vs:=[vb true]) Try.func54 (.tmp rfl .nil) ?_)))
 have e0:(true:Bool)=(bX g):=by
   exact(ib ⟨by omega,by omega,by omega,by rw[List.take_of_length_le (by omega)] at hinv4;exact hinv4⟩).symm
 exact⟨rb e0,bH.below⟩
theorem ox(w0:World)(g:(Int)×(List Pt))(g_v:Value)(hg_v:Ro w0 g_v g.2):
    Calls Try.prog 29 #[vg [vi g.1,g_v]] w0 (λee w=>ee= .returned (vb (bX g))/\cr w0.heap.size w0 w):=by
 refine am Try.func29 rfl nq ?_
 have bH:=b7.start w0
 have Rg:=hg_v.sl
 refine a8 (a7 rfl (d8 rfl (cW c0 (is 1) (1,0) rfl rfl ?_)))
 intro g4 w1 b3 ch2 bx5
 replace bx5:Bx g4 (is 1) w1 b3 [vi g.1,g_v]:=bx5
 refine ma (vb false) (aa (a8 (a8 (a7 rfl (lx (ad d5 rfl rfl rfl rfl) (lx (ae ax rfl bx5 rfl) (lx (aX (m:=g.1) (n:=0) rfl rfl) (mv (vb (decide (g.1<0))) ?_))))))))
 by_cases q8:g.1<0
 ·
  refine ak (wn (dt q8)) (ak (wn (dt q8)) (ak (wn (dt q8)) (lw (vb true) (aH rfl (dt q8) rfl) (mv (vb true) (ak (wn rfl) (ak (wn rfl) (ak (wn rfl) (ak (wn rfl) (lw (vb true) (aH rfl rfl rfl) (aa (ah rfl rfl (a8 ?_))))))))))))
  clear bx5
  refine a7 rfl (ma (vb false) (aa (ar (vs:=[vb false]) Try.func29 (.tmp rfl .nil) ?_)))
  have e0:(false:Bool)=(bX g):=by
    exact(bE (λh=>by unfold aY at h;omega)).symm
  replace bH:=bH.cn ch2
  exact⟨rb e0,bH.below⟩
 refine lv (vp b3 0) (wy (df q8)) (ad d5 rfl rfl rfl rfl) (lv (vi g.1) (wy (df q8)) (ae ax rfl bx5 rfl) (lv (vb (decide (1024<g.1))) (wy (df q8)) (eS (m:=g.1) (n:=1024) rfl rfl) (lw (vb (decide (1024<g.1))) (aI rfl (df q8) rfl) (mv (vb (decide (1024<g.1))) ?_))))
 by_cases q13:1024<g.1
 ·
  refine ak (wn (dt q13)) (ak (wn (dt q13)) (ak (wn (dt q13)) (ak (wn (dt q13)) (lw (vb true) (aH rfl (dt q13) rfl) (aa (ah rfl rfl (a8 ?_)))))))
  clear bx5
  refine a7 rfl (ma (vb false) (aa (ar (vs:=[vb false]) Try.func29 (.tmp rfl .nil) ?_)))
  have e0:(false:Bool)=(bX g):=by
    exact(bE (λh=>by unfold aY at h;omega)).symm
  replace bH:=bH.cn ch2
  exact⟨rb e0,bH.below⟩
 refine lv (vp b3 1) (wy (df q13)) (ad d5 rfl rfl rfl rfl) (lv (g_v) (wy (df q13)) (ae bC rfl bx5 rfl) ?_)
 replace Rg:=Rg.cn ch2
 have len6:=(Rg).small
 refine lv (vi (g.2.length:Int)) (wy (df q13)) (bA eN rfl Rg) (lv (vb (decide (3072<(g.2.length:Int)))) (wy (df q13)) (eS (m:=(g.2.length:Int)) (n:=3072) rfl rfl) (lw (vb (decide (3072<(g.2.length:Int)))) (aI rfl (df q13) rfl) (aa ?_)))
 by_cases p1:3072<(g.2.length:Int)
 ·
  refine ah rfl (dt p1) (a8 ?_)
  clear bx5
  refine a7 rfl (ma (vb false) (aa (ar (vs:=[vb false]) Try.func29 (.tmp rfl .nil) ?_)))
  have e0:(false:Bool)=(bX g):=by
    exact(bE (λh=>by unfold aY at h;omega)).symm
  replace bH:=bH.cn ch2
  exact⟨rb e0,bH.below⟩
 refine aj rfl (df p1) (ap (a8 (a8 (a7 rfl (ai 0 (aa (aq ?_)))))))
 refine ba (σ:=Nat×ay) (λ⟨k,gq⟩ f w=>b7 w0 gq w/\f 1=vp b3 0/\f 3=vi ↑k/\Sl gq (is 0) w g_v g.2/\Bx gq (is 1) w b3 [vi g.1,g_v]/\(k:Int)<=((g.2.length:Int):Int)/\(∀e∈List.take k g.2,js g.1 e)) (λ⟨k,gq⟩=>Int.toNat (((g.2.length:Int):Int)-(k:Int))) (0,g4) ?_ ?_
 · exact⟨bH.cn ch2,rfl,rfl,Rg,bx5,by omega,by simp⟩
 clear Rg bx5 bH
 rintro⟨k,g9⟩ f7 w8 ⟨bH,zs1,zs3,Rg,bx5,hle_k,hinv4⟩ back4
 refine a8 (a8 (a7 rfl (mz zs3 (lx (ad d5 rfl rfl zs1 rfl) (lx (ae bC rfl bx5 rfl) (lx (bA eN rfl Rg) (lx (aX (m:=↑k) (n:=(g.2.length:Int)) rfl rfl) (aa ?_))))))))
 by_cases p4:(k:Int)<(g.2.length:Int)
 ·
  refine ah rfl (dt p4) (ap (a8 (aq (a8 (a7 rfl (ai 0 (aa (aq (cQ (a8 (a8 (a7 rfl ?_))))))))))))
  refine mi 0 (lx (aX (m:=0) (n:=2) rfl rfl) (aa (ah rfl rfl (ap (a8 (aq (a8 (cd g9 rfl lu (by kernel_rfl) ?_))))))))
  intro w11 ch10
  refine qx (λw' hw'=>ad d5 rfl rfl zs1 rfl) ?_
  replace bx5:=bx5.cn ch10
  refine qx (λw' hw'=>ae bC rfl (bx5.bel hw') rfl) (qz zs3 (qm (vi 0) ?_))
  replace Rg:=Rg.cn ch10
  refine qx (λw' hw'=>ab (v:=g_v) (i:=↑k) eN rfl rfl (Rg.bel hw') rfl (by omega) (by omega)) (qx (λw' hw'=>aS i4 rfl rfl rfl (by decide) (by decide) rfl) (qx (λw' hw'=>aW (v:=g_v) (i:=↑k) ax rfl (Rg.bel hw') (by omega) (by omega) (by decide) rfl) (qx (λw' hw'=>aX (m:=(gI g.2 ↑k).1) (n:=0) rfl rfl) (qm (vb (decide (((gI g.2 ↑k).1)<0))) ?_))))
  by_cases q38:((gI g.2 ↑k).1)<0
  ·
   refine aC (wn (dt q38)) (aC (wn (dt q38)) (aC (wn (dt q38)) (aC (wn (dt q38)) (aC (wn (dt q38)) (aC (wn (dt q38)) (aC (wn (dt q38)) (aC (wn (dt q38)) (aC (wn (dt q38)) (aC (wn (dt q38)) ?_)))))))))
   refine qv (vb true) (λw' hw'=>aH rfl (dt q38) rfl) (d4 ?_)
   intro w12 hc13
   replace hc13:=aA hc13 g9
   refine ah rfl rfl (a8 ?_)
   clear bx5
   refine a7 rfl (ma (vb false) (aa (ar (vs:=[vb false]) Try.func29 (.tmp rfl .nil) ?_)))
   have e0:(false:Bool)=(bX g):=by
     exact(bE (λh=>by have h2:=h.2.2.2 _ (bh (xs:=g.2) (i:=↑k) (by omega) ‹_›);unfold js at h2;omega)).symm
   replace bH:=bH.cn ch10
   replace bH:=bH.cn hc13
   exact⟨rb e0,bH.below⟩
  refine aB (v:=vp b3 1) (wy (df q38)) (λw' hw'=>ad d5 rfl rfl zs1 rfl) (aB (v:=g_v) (wy (df q38)) (λw' hw'=>ae bC rfl (bx5.bel hw') rfl) (aB (v:=vi ↑k) (wy (df q38)) (λw' hw'=>al zs3) (aB (v:=vi 0) (wy (df q38)) (λw' hw'=>al rfl) (aB (v:=Value.pointer (some (aL g_v 2 (Int.toNat ↑k)))) (wy (df q38)) (λw' hw'=>ab (α:=Pt) (xs:=g.2) (v:=g_v) (i:=↑k) eN rfl rfl (Rg.bel hw') rfl (by omega) (by omega)) ?_))))
  refine aB (v:=Value.pointer (some ⟨(aL g_v 2 (Int.toNat ↑k)).block,(aL g_v 2 (Int.toNat ↑k)).off+0,none⟩)) (wy (df q38)) (λw' hw'=>aS i4 rfl rfl rfl (by decide) (by decide) rfl) (aB (v:=vi ((gI g.2 ↑k).1)) (wy (df q38)) (λw' hw'=>aW (α:=Pt) (xs:=g.2) (v:=g_v) (i:=↑k) ax rfl (Rg.bel hw') (by omega) (by omega) (by decide) rfl) (aB (v:=vp b3 0) (wy (df q38)) (λw' hw'=>ad d5 rfl rfl zs1 rfl) (aB (v:=vi g.1) (wy (df q38)) (λw' hw'=>ae ax rfl (bx5.bel hw') rfl) ?_)))
  refine aB (v:=vb (decide (g.1<=((gI g.2 ↑k).1)))) (wy (df q38)) (λw' hw'=>d7 (m:=(gI g.2 ↑k).1) (n:=g.1) rfl rfl) (qv (vb (decide (g.1<=((gI g.2 ↑k).1)))) (λw' hw'=>aI rfl (df q38) rfl) (d4 ?_))
  intro w14 hc15
  replace hc15:=aA hc15 g9
  by_cases p9:g.1<=((gI g.2 ↑k).1)
  ·
   refine ah rfl (dt p9) (a8 ?_)
   clear bx5
   refine a7 rfl (ma (vb false) (aa (ar (vs:=[vb false]) Try.func29 (.tmp rfl .nil) ?_)))
   have e0:(false:Bool)=(bX g):=by
     exact(bE (λh=>by have h2:=h.2.2.2 _ (bh (xs:=g.2) (i:=↑k) (by omega) ‹_›);unfold js at h2;omega)).symm
   replace bH:=bH.cn ch10
   replace bH:=bH.cn hc15
   exact⟨rb e0,bH.below⟩
  refine aj rfl (df p9) (ap (au (a7 rfl (mi 0 (lx (bg (m:=0) (n:=1) rfl rfl (by omega)) (ai 1 (aa (c5 (a8 (a8 (a7 rfl ?_)))))))))))
  refine mi 1 (lx (aX (m:=1) (n:=2) rfl rfl) (aa (ah rfl rfl (ap (a8 (aq (a8 (cd g9 rfl lu (by kernel_rfl) ?_))))))))
  intro w17 ch16
  refine qx (λw' hw'=>ad d5 rfl rfl zs1 rfl) ?_
  replace bx5:=(bx5.cn hc15).cn ch16
  refine qx (λw' hw'=>ae bC rfl (bx5.bel hw') rfl) (qz zs3 (qm (vi 1) ?_))
  replace Rg:=(Rg.cn hc15).cn ch16
  refine qx (λw' hw'=>ab (v:=g_v) (i:=↑k) eN rfl rfl (Rg.bel hw') rfl (by omega) (by omega)) (qx (λw' hw'=>aS i4 rfl rfl rfl (by decide) (by decide) rfl) (qx (λw' hw'=>aW (v:=g_v) (i:=↑k) ax rfl (Rg.bel hw') (by omega) (by omega) (by decide) rfl) (qx (λw' hw'=>aX (m:=(gI g.2 ↑k).2) (n:=0) rfl rfl) (qm (vb (decide (((gI g.2 ↑k).2)<0))) ?_))))
  by_cases q38_18:((gI g.2 ↑k).2)<0
  ·
   refine aC (wn (dt q38_18)) (aC (wn (dt q38_18)) (aC (wn (dt q38_18)) (aC (wn (dt q38_18)) (aC (wn (dt q38_18)) (aC (wn (dt q38_18)) (aC (wn (dt q38_18)) (aC (wn (dt q38_18)) (aC (wn (dt q38_18)) (aC (wn (dt q38_18)) ?_)))))))))
   refine qv (vb true) (λw' hw'=>aH rfl (dt q38_18) rfl) (d4 ?_)
   intro w19 hc20
   replace hc20:=aA hc20 g9
   refine ah rfl rfl (a8 ?_)
   clear bx5
   refine a7 rfl (ma (vb false) (aa (ar (vs:=[vb false]) Try.func29 (.tmp rfl .nil) ?_)))
   have e0:(false:Bool)=(bX g):=by
     exact(bE (λh=>by have h2:=h.2.2.2 _ (bh (xs:=g.2) (i:=↑k) (by omega) ‹_›);unfold js at h2;omega)).symm
   have C21:=cg [] (ch10.n.seq (hc15.n.seq (ch16.n.seq hc20.n)))
   replace bH:=bH.ca C21
   exact⟨rb e0,bH.below⟩
  refine aB (v:=vp b3 1) (wy (df q38_18)) (λw' hw'=>ad d5 rfl rfl zs1 rfl) (aB (v:=g_v) (wy (df q38_18)) (λw' hw'=>ae bC rfl (bx5.bel hw') rfl) (aB (v:=vi ↑k) (wy (df q38_18)) (λw' hw'=>al zs3) (aB (v:=vi 1) (wy (df q38_18)) (λw' hw'=>al rfl) (aB (v:=Value.pointer (some (aL g_v 2 (Int.toNat ↑k)))) (wy (df q38_18)) (λw' hw'=>ab (α:=Pt) (xs:=g.2) (v:=g_v) (i:=↑k) eN rfl rfl (Rg.bel hw') rfl (by omega) (by omega)) ?_))))
  refine aB (v:=Value.pointer (some ⟨(aL g_v 2 (Int.toNat ↑k)).block,(aL g_v 2 (Int.toNat ↑k)).off+1,none⟩)) (wy (df q38_18)) (λw' hw'=>aS i4 rfl rfl rfl (by decide) (by decide) rfl) (aB (v:=vi ((gI g.2 ↑k).2)) (wy (df q38_18)) (λw' hw'=>aW (α:=Pt) (xs:=g.2) (v:=g_v) (i:=↑k) ax rfl (Rg.bel hw') (by omega) (by omega) (by decide) rfl) (aB (v:=vp b3 0) (wy (df q38_18)) (λw' hw'=>ad d5 rfl rfl zs1 rfl) (aB (v:=vi g.1) (wy (df q38_18)) (λw' hw'=>ae ax rfl (bx5.bel hw') rfl) ?_)))
  refine aB (v:=vb (decide (g.1<=((gI g.2 ↑k).2)))) (wy (df q38_18)) (λw' hw'=>d7 (m:=(gI g.2 ↑k).2) (n:=g.1) rfl rfl) (qv (vb (decide (g.1<=((gI g.2 ↑k).2)))) (λw' hw'=>aI rfl (df q38_18) rfl) (d4 ?_))
  intro w22 hc23
  replace hc23:=aA hc23 g9
  by_cases p9_24:g.1<=((gI g.2 ↑k).2)
  ·
   refine ah rfl (dt p9_24) (a8 ?_)
   clear bx5
   refine a7 rfl (ma (vb false) (aa (ar (vs:=[vb false]) Try.func29 (.tmp rfl .nil) ?_)))
   have e0:(false:Bool)=(bX g):=by
     exact(bE (λh=>by have h2:=h.2.2.2 _ (bh (xs:=g.2) (i:=↑k) (by omega) ‹_›);unfold js at h2;omega)).symm
   have C25:=cg [] (ch10.n.seq (hc15.n.seq (ch16.n.seq hc23.n)))
   replace bH:=bH.ca C25
   exact⟨rb e0,bH.below⟩
  refine aj rfl (df p9_24) (ap (au (a7 rfl (mi 1 (lx (bg (m:=1) (n:=1) rfl rfl (by omega)) (ai 2 (aa (c5 (a8 (a8 (a7 rfl ?_)))))))))))
  refine mi 2 (lx (aX (m:=2) (n:=2) rfl rfl) (aa (aj rfl rfl (aO rfl (au (a7 rfl (mz zs3 (lx (bg (m:=↑k) (n:=1) rfl rfl (by omega)) (ai ((k:Int)+1) ?_)))))))))
  refine aa ?_
  have C26:=cg [] (ch10.n.seq (hc15.n.seq (ch16.n.seq hc23.n)))
  refine back4 (k+1,g9) _ _ ⟨bH.ca C26,zs1,rfl,Rg.cn hc23,bx5.cn hc23,by omega,?_⟩ ?_
  · show∀e∈List.take (k+1) g.2,js g.1 e
    rw[cM ‹_›]
    intro e he
    rcases List.mem_append.1 he with h|h
    · exact hinv4 e h
    · obtain rfl:=List.mem_singleton.1 h
      refine⟨?_,?_⟩<;>omega
  · show Int.toNat (((g.2.length:Int):Int)-((k+1):Int))<Int.toNat (((g.2.length:Int):Int)-(k:Int))
    omega
 refine aj rfl (df p4) (aO rfl (a8 ?_))
 clear bx5
 refine a7 rfl (ma (vb true) (aa (ar (vs:=[vb true]) Try.func29 (.tmp rfl .nil) ?_)))
 have e0:(true:Bool)=(bX g):=by
   exact(ib ⟨by omega,by omega,by omega,by rw[List.take_of_length_le (by omega)] at hinv4;exact hinv4⟩).symm
 exact⟨rb e0,bH.below⟩
theorem me(w0:World)(g:(Int)×(List Pt))(g_v:Value)(hg_v:Ro w0 g_v g.2):
    Calls Try.prog 10 #[vg [vi g.1,g_v]] w0 (λee w=>ee= .returned (vb (decide (g.2.length<=300/\(g.1<=300\/¬aY g))))/\cr w0.heap.size w0 w):=by
 refine am Try.func10 rfl nq ?_
 have bH:=b7.start w0
 have Rg:=hg_v.sl
 refine a8 (a7 rfl (d8 rfl (cW c0 (is 1) (1,0) rfl rfl ?_)))
 intro g4 w1 b3 ch2 bx5
 replace bx5:Bx g4 (is 1) w1 b3 [vi g.1,g_v]:=bx5
 refine ma (vb false) (aa (a8 (a7 rfl (lx (ad d5 rfl rfl rfl rfl) (lx (ae bC rfl bx5 rfl) ?_)))))
 replace Rg:=Rg.cn ch2
 have len6:=(Rg).small
 refine lx (bA eN rfl Rg) (lx (ms (m:=(g.2.length:Int)) (n:=300) rfl rfl) (mv (vb (decide ((g.2.length:Int)<=300))) ?_))
 by_cases q7:(g.2.length:Int)<=300
 ·
  refine lv (vp b3 0) (wy (dt q7)) (ad d5 rfl rfl rfl rfl) (lv (vi g.1) (wy (dt q7)) (ae ax rfl bx5 rfl) (lv (vb (decide (g.1<=300))) (wy (dt q7)) (ms (m:=g.1) (n:=300) rfl rfl) (lv (vb (decide (g.1<=300))) (wy (dt q7)) (al rfl) ?_)))
  by_cases q11:g.1<=300
  ·
   refine ak (wn (dt q11)) (ak (wn (dt q11)) (ak (wn (dt q11)) (lv (vb true) (wy (dt q7)) (aH rfl (dt q11) rfl) (lw (vb true) (aH rfl (dt q7) rfl) (ma (vb true) (aa (ar (vs:=[vb true]) Try.func10 (.tmp rfl .nil) ?_)))))))
   have e0:(true:Bool)=(decide (g.2.length<=300/\(g.1<=300\/¬aY g))):=by
     (try simp only[bX] at*)
     by_cases h:aY g<;>simp_all<;>omega
   replace bH:=bH.cn ch2
   exact⟨rb e0,bH.below⟩
  refine lv (vg [vi g.1,g_v]) (wy (df q11)) (aN (ds:=[vi g.1,g_v]) bv rfl bx5 rfl rfl) (d8 (wy (df q11)) (bB (v:=vb (bX g)) (aE (vals:=[vg [vi g.1,g_v]]) Try.func29 qY qb rfl) (ox w1 g g_v (Rg).ro) ?_))
  intro w7 hb8
  replace hb8:=aA hb8 g4
  refine lv (vb (!(bX g))) (wy (df q11)) (e7 (b:=(bX g)) rfl) (lv (vb (!(bX g))) (wy (dt q7)) (aI rfl (df q11) rfl) (lw (vb (!(bX g))) (aH rfl (dt q7) rfl) (ma (vb (!(bX g))) (aa (ar (vs:=[vb (!(bX g))]) Try.func10 (.tmp rfl .nil) ?_)))))
  have e0:(!(bX g):Bool)=(decide (g.2.length<=300/\(g.1<=300\/¬aY g))):=by
    (try simp only[bX] at*)
    by_cases h:aY g<;>simp_all<;>omega
  replace bH:=bH.cn ch2
  replace bH:=bH.cn hb8
  exact⟨rb e0,bH.below⟩
 refine ak (wn (df q7)) (ak (wn (df q7)) (ak (wn (df q7)) (ak (wn (df q7)) (ak (cI rfl rfl rfl) (ak (cI rfl rfl rfl) (ak (cI rfl rfl rfl) (ak (wn (df q7)) (lw (vb false) (aI rfl (df q7) rfl) (ma (vb false) ?_)))))))))
 refine aa (ar (vs:=[vb false]) Try.func10 (.tmp rfl .nil) ?_)
 have e0:(false:Bool)=(decide (g.2.length<=300/\(g.1<=300\/¬aY g))):=by
   (try simp only[bX] at*)
   by_cases h:aY g<;>simp_all<;>omega
 replace bH:=bH.cn ch2
 exact⟨rb e0,bH.below⟩
end TL
