import Derived.Test.YtbpphaeianpdpaaPuTlP2
import Derived.Test.YtbpphaeianpdpaaProg
import Derived.Test.YtbpphaeianpdpaaPuTlAli
set_option linter.all false
set_option maxRecDepth 20000
namespace TL
open Go Go.Proofs
theorem kf:Try.prog.follows .mixedOrders=true:=by kernel_rfl
theorem av:Tp Try.prog 3 false 1 8 (.int .i64 0):=Tp.of (by kernel_rfl)
theorem bw:Tp Try.prog 22 false 1 24 (.slice none 0 0):=Tp.of (by kernel_rfl)
theorem bm:Tp Try.prog 24 true 2 32 (.agg #[.int .i64 0,.slice none 0 0]):=Tp.of (by kernel_rfl)
theorem cT:Tp Try.prog 61 true 2 16 (.agg #[.int .i64 0,.int .i64 0]):=Tp.of (by kernel_rfl)
theorem pw:Try.f29.body.isNone=false:=rfl
theorem qf:(Try.f29.name== "runtime.NumGoroutine")=false:=by decide+kernel
theorem mw(w0:World)(g:(Int)×(List Pt))(g_v:Value)(hg_v:Ro w0 g_v g.2):
    Calls Try.prog 54 #[vg [vi g.1,g_v]] w0 (λee w=>ee= .returned (vb (cl g))/\ch w0.heap.size w0 w):=by
 refine ap Try.func54 rfl nq ?_
 have bH:=aX.start w0
 have Rg:=hg_v.sl
 refine a7 (a6 rfl (dA rfl (cY c0 (is 1) (1,0) rfl rfl ?_)))
 intro g4 w1 b3 ch2 bx5
 replace bx5:Bx g4 (is 1) w1 b3 [vi g.1,g_v]:=bx5
 refine ma (vb false) (a8 (a7 (a7 (a6 rfl (lx (aj cS rfl rfl rfl rfl) (lx (ah av rfl bx5 rfl) (lx (b9 (m:=g.1) (n:=0) rfl rfl) (mv (vb (decide (g.1<0))) ?_))))))))
 by_cases q10:g.1<0
 ·
  refine ad (wn (dt q10)) (ad (wn (dt q10)) (ad (wn (dt q10)) (lw (vb true) (aA rfl (dt q10) rfl) (mv (vb true) (ad (wn rfl) (ad (wn rfl) (ad (wn rfl) (ad (wn rfl) (lw (vb true) (aA rfl rfl rfl) (a8 (ae rfl rfl (a7 ?_))))))))))))
  clear bx5
  refine a6 rfl (ma (vb false) (a8 (aq (vs:=[vb false]) Try.func54 (.tmp rfl .nil) ?_)))
  have e0:(false:Bool)=(cl g):=by
    exact(bs (λh=>by unfold aV at h;omega)).symm
  replace bH:=bH.cn ch2
  exact⟨rb e0,bH.below⟩
 refine lv (vp b3 0) (wy (df q10)) (aj cS rfl rfl rfl rfl) (lv (vi g.1) (wy (df q10)) (ah av rfl bx5 rfl) (lv (vb (decide (1024<g.1))) (wy (df q10)) (dH (m:=g.1) (n:=1024) rfl rfl) (lw (vb (decide (1024<g.1))) (aH rfl (df q10) rfl) (mv (vb (decide (1024<g.1))) ?_))))
 by_cases q15:1024<g.1
 ·
  refine ad (wn (dt q15)) (ad (wn (dt q15)) (ad (wn (dt q15)) (ad (wn (dt q15)) (lw (vb true) (aA rfl (dt q15) rfl) (a8 (ae rfl rfl (a7 ?_)))))))
  clear bx5
  refine a6 rfl (ma (vb false) (a8 (aq (vs:=[vb false]) Try.func54 (.tmp rfl .nil) ?_)))
  have e0:(false:Bool)=(cl g):=by
    exact(bs (λh=>by unfold aV at h;omega)).symm
  replace bH:=bH.cn ch2
  exact⟨rb e0,bH.below⟩
 refine lv (vp b3 1) (wy (df q15)) (aj cS rfl rfl rfl rfl) (lv (g_v) (wy (df q15)) (ah bw rfl bx5 rfl) ?_)
 replace Rg:=Rg.cn ch2
 have len6:=(Rg).small
 refine lv (vi (g.2.length:Int)) (wy (df q15)) (bl eZ rfl Rg) (lv (vb (decide (3072<(g.2.length:Int)))) (wy (df q15)) (dH (m:=(g.2.length:Int)) (n:=3072) rfl rfl) (lw (vb (decide (3072<(g.2.length:Int)))) (aH rfl (df q15) rfl) (a8 ?_)))
 by_cases p1:3072<(g.2.length:Int)
 ·
  refine ae rfl (dt p1) (a7 ?_)
  clear bx5
  refine a6 rfl (ma (vb false) (a8 (aq (vs:=[vb false]) Try.func54 (.tmp rfl .nil) ?_)))
  have e0:(false:Bool)=(cl g):=by
    exact(bs (λh=>by unfold aV at h;omega)).symm
  replace bH:=bH.cn ch2
  exact⟨rb e0,bH.below⟩
 refine af rfl (df p1) (al (a7 (a7 (a6 rfl (lx (aj cS rfl rfl rfl rfl) (lx (ah bw rfl bx5 rfl) (lx (bl eZ rfl Rg) (mi 0 (a8 (ao ?_))))))))))
 refine aR (σ:=Nat×aw) (λ⟨k,gq⟩ f w=>aX w0 gq w/\f 1=vp b3 0/\f 22=g_v/\f 23=vi (g.2.length:Int)/\f 24=vi ↑k/\Sl gq (is 0) w g_v g.2/\Bx gq (is 1) w b3 [vi g.1,g_v]/\(k:Int)<=((g.2.length:Int):Int)/\(∀e∈List.take k g.2,jp g.1 e)) (λ⟨k,gq⟩=>Int.toNat (((g.2.length:Int):Int)-(k:Int))) (0,g4) ?_ ?_
 · exact⟨bH.cn ch2,rfl,rfl,rfl,rfl,Rg,bx5,by omega,by simp⟩
 clear Rg bx5 bH
 rintro⟨k,g9⟩ f7 w8 ⟨bH,zs1,zs22,zs23,zs24,Rg,bx5,hle_k,hinv4⟩ back4
 refine a7 (a6 rfl (lx (b9 (m:=↑k) (n:=(g.2.length:Int)) zs24 zs23) (a8 (a7 ?_))))
 by_cases p4:(k:Int)<(g.2.length:Int)
 ·
  refine ae rfl (dt p4) (al (a7 (ao (a7 (a6 rfl (lx (aa (v:=g_v) (i:=↑k) eZ rfl zs22 Rg zs24 (by omega) (by omega)) (lw (vg [vi ((gI g.2 ↑k).1),vi ((gI g.2 ↑k).2)]) (bt (v:=g_v) (i:=↑k) cT rfl Rg (by omega) (by omega) rfl) (lo (bP g9 (is 2) (2,0) rfl cT ?_)))))))))
  intro g13 w10 b12 ch11 bx14
  replace bx14:Bx g13 (is 2) w10 b12 [vi 0,vi 0]:=bx14
  refine lo (aQ (cs':=[vi ((gI g.2 ↑k).1),vi ((gI g.2 ↑k).2)]) cT rfl rfl bx14 rfl nq (AllOne.all (.cons rfl (.cons rfl .nil))) rfl ?_)
  intro w15 ch16 bx17
  clear bx14
  refine a8 (a7 (a6 rfl (lx (aO (ds:=[vi ((gI g.2 ↑k).1),vi ((gI g.2 ↑k).2)]) cT rfl bx17 rfl rfl) (mi 0 (a8 (ao (d6 (a7 ?_))))))))
  clear bx17
  refine a6 rfl (lx (b9 (m:=0) (n:=2) rfl rfl) (a8 (a7 (ae rfl rfl (al (a7 (ao (a7 (a6 rfl (lw (vi ((gI g.2 ↑k).1)) (du ik av rfl rfl (by decide) (by decide) rfl) (ai ((gI g.2 ↑k).1) ?_)))))))))))
  refine a8 (a7 (a6 rfl (mi ((gI g.2 ↑k).1) (lx (b9 (m:=(gI g.2 ↑k).1) (n:=0) rfl rfl) (mv (vb (decide (((gI g.2 ↑k).1)<0))) ?_)))))
  by_cases q34:((gI g.2 ↑k).1)<0
  ·
   refine ad (wn (dt q34)) (ad (wn (dt q34)) (ad (wn (dt q34)) (ad (wn (dt q34)) (lw (vb true) (aA rfl (dt q34) rfl) (a8 (ae rfl rfl (a7 ?_)))))))
   clear bx5
   refine a6 rfl (ma (vb false) (a8 (aq (vs:=[vb false]) Try.func54 (.tmp rfl .nil) ?_)))
   have e0:(false:Bool)=(cl g):=by
     exact(bs (λh=>by have h2:=h.2.2.2 _ (aU (xs:=g.2) (i:=↑k) (by omega) ‹_›);unfold jp at h2;omega)).symm
   replace bH:=bH.cn ch11
   replace bH:=bH.ce ch16
   exact⟨rb e0,bH.below⟩
  refine lv (vi ((gI g.2 ↑k).1)) (wy (df q34)) (am rfl) (lv (vp b3 0) (wy (df q34)) (aj cS rfl rfl zs1 rfl) ?_)
  replace bx5:=(bx5.cn ch11).ce ch16
  refine lv (vi g.1) (wy (df q34)) (ah av rfl bx5 rfl) (lv (vb (decide (g.1<=((gI g.2 ↑k).1)))) (wy (df q34)) (da (m:=(gI g.2 ↑k).1) (n:=g.1) rfl rfl) (lw (vb (decide (g.1<=((gI g.2 ↑k).1)))) (aH rfl (df q34) rfl) (a8 ?_)))
  by_cases p9:g.1<=((gI g.2 ↑k).1)
  ·
   refine ae rfl (dt p9) (a7 ?_)
   clear bx5
   refine a6 rfl (ma (vb false) (a8 (aq (vs:=[vb false]) Try.func54 (.tmp rfl .nil) ?_)))
   have e0:(false:Bool)=(cl g):=by
     exact(bs (λh=>by have h2:=h.2.2.2 _ (aU (xs:=g.2) (i:=↑k) (by omega) ‹_›);unfold jp at h2;omega)).symm
   replace bH:=bH.cn ch11
   replace bH:=bH.ce ch16
   exact⟨rb e0,bH.below⟩
  refine af rfl (df p9) (al (ar (a6 rfl (lx (bg (m:=0) (n:=1) rfl rfl (by omega)) (mi 1 (a8 (cz (a7 (a6 rfl (lx (b9 (m:=1) (n:=2) rfl rfl) ?_))))))))))
  refine a8 (a7 (ae rfl rfl (al (a7 (ao (a7 (a6 rfl (lw (vi ((gI g.2 ↑k).2)) (du ik av rfl rfl (by decide) (by decide) rfl) (ai ((gI g.2 ↑k).2) (a8 (a7 (a6 rfl (mi ((gI g.2 ↑k).2) ?_)))))))))))))
  refine lx (b9 (m:=(gI g.2 ↑k).2) (n:=0) rfl rfl) (mv (vb (decide (((gI g.2 ↑k).2)<0))) ?_)
  by_cases q34_18:((gI g.2 ↑k).2)<0
  ·
   refine ad (wn (dt q34_18)) (ad (wn (dt q34_18)) (ad (wn (dt q34_18)) (ad (wn (dt q34_18)) (lw (vb true) (aA rfl (dt q34_18) rfl) (a8 (ae rfl rfl (a7 ?_)))))))
   clear bx5
   refine a6 rfl (ma (vb false) (a8 (aq (vs:=[vb false]) Try.func54 (.tmp rfl .nil) ?_)))
   have e0:(false:Bool)=(cl g):=by
     exact(bs (λh=>by have h2:=h.2.2.2 _ (aU (xs:=g.2) (i:=↑k) (by omega) ‹_›);unfold jp at h2;omega)).symm
   replace bH:=bH.cn ch11
   replace bH:=bH.ce ch16
   exact⟨rb e0,bH.below⟩
  refine lv (vi ((gI g.2 ↑k).2)) (wy (df q34_18)) (am rfl) (lv (vp b3 0) (wy (df q34_18)) (aj cS rfl rfl zs1 rfl) (lv (vi g.1) (wy (df q34_18)) (ah av rfl bx5 rfl) (lv (vb (decide (g.1<=((gI g.2 ↑k).2)))) (wy (df q34_18)) (da (m:=(gI g.2 ↑k).2) (n:=g.1) rfl rfl) (lw (vb (decide (g.1<=((gI g.2 ↑k).2)))) (aH rfl (df q34_18) rfl) (a8 ?_)))))
  by_cases p9_19:g.1<=((gI g.2 ↑k).2)
  ·
   refine ae rfl (dt p9_19) (a7 ?_)
   clear bx5
   refine a6 rfl (ma (vb false) (a8 (aq (vs:=[vb false]) Try.func54 (.tmp rfl .nil) ?_)))
   have e0:(false:Bool)=(cl g):=by
     exact(bs (λh=>by have h2:=h.2.2.2 _ (aU (xs:=g.2) (i:=↑k) (by omega) ‹_›);unfold jp at h2;omega)).symm
   replace bH:=bH.cn ch11
   replace bH:=bH.ce ch16
   exact⟨rb e0,bH.below⟩
  refine af rfl (df p9_19) (al (ar (a6 rfl (lx (bg (m:=1) (n:=1) rfl rfl (by omega)) (mi 2 (a8 (cz (a7 (a6 rfl (lx (b9 (m:=2) (n:=2) rfl rfl) ?_))))))))))
  refine a8 (a7 (af rfl rfl (aF rfl (ar (a6 rfl (lx (bg (m:=↑k) (n:=1) zs24 rfl (by omega)) (mi ((k:Int)+1) (a8 ?_))))))))
  replace bH:=bH.cn ch11
  refine back4 (k+1,g13) _ _ ⟨bH.ce ch16,zs1,zs22,zs23,rfl,(Rg.cn ch11).ce ch16,bx5,by omega,?_⟩ ?_
  · show∀e∈List.take (k+1) g.2,jp g.1 e
    rw[cF ‹_›]
    intro e he
    rcases List.mem_append.1 he with h|h
    · exact hinv4 e h
    · obtain rfl:=List.mem_singleton.1 h
      refine⟨?_,?_⟩<;>omega
  · show Int.toNat (((g.2.length:Int):Int)-((k+1):Int))<Int.toNat (((g.2.length:Int):Int)-(k:Int))
    omega
 refine af rfl (df p4) (aF rfl (a7 ?_))
 clear bx5
 refine a6 rfl (ma (vb true) (a8 (aq (vs:=[vb true]) Try.func54 (.tmp rfl .nil) ?_)))
 have e0:(true:Bool)=(cl g):=by
   exact(ig ⟨by omega,by omega,by omega,by rw[List.take_of_length_le (by omega)] at hinv4;exact hinv4⟩).symm
 exact⟨rb e0,bH.below⟩
theorem nR(w0:World)(g:(Int)×(List Pt))(g_v:Value)(hg_v:Ro w0 g_v g.2):
    Calls Try.prog 29 #[vg [vi g.1,g_v]] w0 (λee w=>ee= .returned (vb (cl g))/\ch w0.heap.size w0 w):=by
 refine ap Try.func29 rfl nq ?_
 have bH:=aX.start w0
 have Rg:=hg_v.sl
 refine a7 (a6 rfl (dA rfl (cY c0 (is 1) (1,0) rfl rfl ?_)))
 intro g4 w1 b3 ch2 bx5
 replace bx5:Bx g4 (is 1) w1 b3 [vi g.1,g_v]:=bx5
 refine ma (vb false) (a8 (a7 (a7 (a6 rfl (lx (aj cS rfl rfl rfl rfl) (lx (ah av rfl bx5 rfl) (lx (b9 (m:=g.1) (n:=0) rfl rfl) (mv (vb (decide (g.1<0))) ?_))))))))
 by_cases q8:g.1<0
 ·
  refine ad (wn (dt q8)) (ad (wn (dt q8)) (ad (wn (dt q8)) (lw (vb true) (aA rfl (dt q8) rfl) (mv (vb true) (ad (wn rfl) (ad (wn rfl) (ad (wn rfl) (ad (wn rfl) (lw (vb true) (aA rfl rfl rfl) (a8 (ae rfl rfl (a7 ?_))))))))))))
  clear bx5
  refine a6 rfl (ma (vb false) (a8 (aq (vs:=[vb false]) Try.func29 (.tmp rfl .nil) ?_)))
  have e0:(false:Bool)=(cl g):=by
    exact(bs (λh=>by unfold aV at h;omega)).symm
  replace bH:=bH.cn ch2
  exact⟨rb e0,bH.below⟩
 refine lv (vp b3 0) (wy (df q8)) (aj cS rfl rfl rfl rfl) (lv (vi g.1) (wy (df q8)) (ah av rfl bx5 rfl) (lv (vb (decide (1024<g.1))) (wy (df q8)) (dH (m:=g.1) (n:=1024) rfl rfl) (lw (vb (decide (1024<g.1))) (aH rfl (df q8) rfl) (mv (vb (decide (1024<g.1))) ?_))))
 by_cases q13:1024<g.1
 ·
  refine ad (wn (dt q13)) (ad (wn (dt q13)) (ad (wn (dt q13)) (ad (wn (dt q13)) (lw (vb true) (aA rfl (dt q13) rfl) (a8 (ae rfl rfl (a7 ?_)))))))
  clear bx5
  refine a6 rfl (ma (vb false) (a8 (aq (vs:=[vb false]) Try.func29 (.tmp rfl .nil) ?_)))
  have e0:(false:Bool)=(cl g):=by
    exact(bs (λh=>by unfold aV at h;omega)).symm
  replace bH:=bH.cn ch2
  exact⟨rb e0,bH.below⟩
 refine lv (vp b3 1) (wy (df q13)) (aj cS rfl rfl rfl rfl) (lv (g_v) (wy (df q13)) (ah bw rfl bx5 rfl) ?_)
 replace Rg:=Rg.cn ch2
 have len6:=(Rg).small
 refine lv (vi (g.2.length:Int)) (wy (df q13)) (bl eZ rfl Rg) (lv (vb (decide (3072<(g.2.length:Int)))) (wy (df q13)) (dH (m:=(g.2.length:Int)) (n:=3072) rfl rfl) (lw (vb (decide (3072<(g.2.length:Int)))) (aH rfl (df q13) rfl) (a8 ?_)))
 by_cases p1:3072<(g.2.length:Int)
 ·
  refine ae rfl (dt p1) (a7 ?_)
  clear bx5
  refine a6 rfl (ma (vb false) (a8 (aq (vs:=[vb false]) Try.func29 (.tmp rfl .nil) ?_)))
  have e0:(false:Bool)=(cl g):=by
    exact(bs (λh=>by unfold aV at h;omega)).symm
  replace bH:=bH.cn ch2
  exact⟨rb e0,bH.below⟩
 refine af rfl (df p1) (al (a7 (a7 (a6 rfl (ai 0 (a8 (ao ?_)))))))
 refine aR (σ:=Nat×aw) (λ⟨k,gq⟩ f w=>aX w0 gq w/\f 1=vp b3 0/\f 3=vi ↑k/\Sl gq (is 0) w g_v g.2/\Bx gq (is 1) w b3 [vi g.1,g_v]/\(k:Int)<=((g.2.length:Int):Int)/\(∀e∈List.take k g.2,jp g.1 e)) (λ⟨k,gq⟩=>Int.toNat (((g.2.length:Int):Int)-(k:Int))) (0,g4) ?_ ?_
 · exact⟨bH.cn ch2,rfl,rfl,Rg,bx5,by omega,by simp⟩
 clear Rg bx5 bH
 rintro⟨k,g9⟩ f7 w8 ⟨bH,zs1,zs3,Rg,bx5,hle_k,hinv4⟩ back4
 refine a7 (a7 (a6 rfl (mz zs3 (lx (aj cS rfl rfl zs1 rfl) (lx (ah bw rfl bx5 rfl) (lx (bl eZ rfl Rg) (lx (b9 (m:=↑k) (n:=(g.2.length:Int)) rfl rfl) (a8 ?_))))))))
 by_cases p4:(k:Int)<(g.2.length:Int)
 ·
  refine ae rfl (dt p4) (al (a7 (ao (a7 (a6 rfl (ai 0 (a8 (ao (d6 (a7 (a7 (a6 rfl ?_))))))))))))
  refine mi 0 (lx (b9 (m:=0) (n:=2) rfl rfl) (a8 (ae rfl rfl (al (a7 (ao (a7 (bS g9 rfl kf (by kernel_rfl) ?_))))))))
  intro w11 ch10
  refine qx (λw' hw'=>aj cS rfl rfl zs1 rfl) ?_
  replace bx5:=bx5.cn ch10
  refine qx (λw' hw'=>ah bw rfl (bx5.bel hw') rfl) (qz zs3 (qm (vi 0) ?_))
  replace Rg:=Rg.cn ch10
  refine qx (λw' hw'=>aa (v:=g_v) (i:=↑k) eZ rfl rfl (Rg.bel hw') rfl (by omega) (by omega)) (qx (λw' hw'=>aK ik rfl rfl rfl (by decide) (by decide) rfl) (qx (λw' hw'=>aP (v:=g_v) (i:=↑k) av rfl (Rg.bel hw') (by omega) (by omega) (by decide) rfl) (qx (λw' hw'=>b9 (m:=(gI g.2 ↑k).1) (n:=0) rfl rfl) (qm (vb (decide (((gI g.2 ↑k).1)<0))) ?_))))
  by_cases q38:((gI g.2 ↑k).1)<0
  ·
   refine aW (wn (dt q38)) (aW (wn (dt q38)) (aW (wn (dt q38)) (aW (wn (dt q38)) (aW (wn (dt q38)) (aW (wn (dt q38)) (aW (wn (dt q38)) (aW (wn (dt q38)) (aW (wn (dt q38)) (aW (wn (dt q38)) ?_)))))))))
   refine qv (vb true) (λw' hw'=>aA rfl (dt q38) rfl) (cX ?_)
   intro w12 hc13
   replace hc13:=ax hc13 g9
   refine ae rfl rfl (a7 ?_)
   clear bx5
   refine a6 rfl (ma (vb false) (a8 (aq (vs:=[vb false]) Try.func29 (.tmp rfl .nil) ?_)))
   have e0:(false:Bool)=(cl g):=by
     exact(bs (λh=>by have h2:=h.2.2.2 _ (aU (xs:=g.2) (i:=↑k) (by omega) ‹_›);unfold jp at h2;omega)).symm
   replace bH:=bH.cn ch10
   replace bH:=bH.cn hc13
   exact⟨rb e0,bH.below⟩
  refine bh (v:=vp b3 1) (wy (df q38)) (λw' hw'=>aj cS rfl rfl zs1 rfl) (bh (v:=g_v) (wy (df q38)) (λw' hw'=>ah bw rfl (bx5.bel hw') rfl) (bh (v:=vi ↑k) (wy (df q38)) (λw' hw'=>am zs3) (bh (v:=vi 0) (wy (df q38)) (λw' hw'=>am rfl) (bh (v:=Value.pointer (some (aC g_v 2 (Int.toNat ↑k)))) (wy (df q38)) (λw' hw'=>aa (α:=Pt) (xs:=g.2) (v:=g_v) (i:=↑k) eZ rfl rfl (Rg.bel hw') rfl (by omega) (by omega)) ?_))))
  refine bh (v:=Value.pointer (some ⟨(aC g_v 2 (Int.toNat ↑k)).block,(aC g_v 2 (Int.toNat ↑k)).off+0,none⟩)) (wy (df q38)) (λw' hw'=>aK ik rfl rfl rfl (by decide) (by decide) rfl) (bh (v:=vi ((gI g.2 ↑k).1)) (wy (df q38)) (λw' hw'=>aP (α:=Pt) (xs:=g.2) (v:=g_v) (i:=↑k) av rfl (Rg.bel hw') (by omega) (by omega) (by decide) rfl) (bh (v:=vp b3 0) (wy (df q38)) (λw' hw'=>aj cS rfl rfl zs1 rfl) (bh (v:=vi g.1) (wy (df q38)) (λw' hw'=>ah av rfl (bx5.bel hw') rfl) ?_)))
  refine bh (v:=vb (decide (g.1<=((gI g.2 ↑k).1)))) (wy (df q38)) (λw' hw'=>da (m:=(gI g.2 ↑k).1) (n:=g.1) rfl rfl) (qv (vb (decide (g.1<=((gI g.2 ↑k).1)))) (λw' hw'=>aH rfl (df q38) rfl) (cX ?_))
  intro w14 hc15
  replace hc15:=ax hc15 g9
  by_cases p9:g.1<=((gI g.2 ↑k).1)
  ·
   refine ae rfl (dt p9) (a7 ?_)
   clear bx5
   refine a6 rfl (ma (vb false) (a8 (aq (vs:=[vb false]) Try.func29 (.tmp rfl .nil) ?_)))
   have e0:(false:Bool)=(cl g):=by
     exact(bs (λh=>by have h2:=h.2.2.2 _ (aU (xs:=g.2) (i:=↑k) (by omega) ‹_›);unfold jp at h2;omega)).symm
   replace bH:=bH.cn ch10
   replace bH:=bH.cn hc15
   exact⟨rb e0,bH.below⟩
  refine af rfl (df p9) (al (ar (a6 rfl (mi 0 (lx (bg (m:=0) (n:=1) rfl rfl (by omega)) (ai 1 (a8 (cz (a7 (a7 (a6 rfl ?_)))))))))))
  refine mi 1 (lx (b9 (m:=1) (n:=2) rfl rfl) (a8 (ae rfl rfl (al (a7 (ao (a7 (bS g9 rfl kf (by kernel_rfl) ?_))))))))
  intro w17 ch16
  refine qx (λw' hw'=>aj cS rfl rfl zs1 rfl) ?_
  replace bx5:=(bx5.cn hc15).cn ch16
  refine qx (λw' hw'=>ah bw rfl (bx5.bel hw') rfl) (qz zs3 (qm (vi 1) ?_))
  replace Rg:=(Rg.cn hc15).cn ch16
  refine qx (λw' hw'=>aa (v:=g_v) (i:=↑k) eZ rfl rfl (Rg.bel hw') rfl (by omega) (by omega)) (qx (λw' hw'=>aK ik rfl rfl rfl (by decide) (by decide) rfl) (qx (λw' hw'=>aP (v:=g_v) (i:=↑k) av rfl (Rg.bel hw') (by omega) (by omega) (by decide) rfl) (qx (λw' hw'=>b9 (m:=(gI g.2 ↑k).2) (n:=0) rfl rfl) (qm (vb (decide (((gI g.2 ↑k).2)<0))) ?_))))
  by_cases q38_18:((gI g.2 ↑k).2)<0
  ·
   refine aW (wn (dt q38_18)) (aW (wn (dt q38_18)) (aW (wn (dt q38_18)) (aW (wn (dt q38_18)) (aW (wn (dt q38_18)) (aW (wn (dt q38_18)) (aW (wn (dt q38_18)) (aW (wn (dt q38_18)) (aW (wn (dt q38_18)) (aW (wn (dt q38_18)) ?_)))))))))
   refine qv (vb true) (λw' hw'=>aA rfl (dt q38_18) rfl) (cX ?_)
   intro w19 hc20
   replace hc20:=ax hc20 g9
   refine ae rfl rfl (a7 ?_)
   clear bx5
   refine a6 rfl (ma (vb false) (a8 (aq (vs:=[vb false]) Try.func29 (.tmp rfl .nil) ?_)))
   have e0:(false:Bool)=(cl g):=by
     exact(bs (λh=>by have h2:=h.2.2.2 _ (aU (xs:=g.2) (i:=↑k) (by omega) ‹_›);unfold jp at h2;omega)).symm
   have C21:=cg [] (ch10.n.seq (hc15.n.seq (ch16.n.seq hc20.n)))
   replace bH:=bH.ca C21
   exact⟨rb e0,bH.below⟩
  refine bh (v:=vp b3 1) (wy (df q38_18)) (λw' hw'=>aj cS rfl rfl zs1 rfl) (bh (v:=g_v) (wy (df q38_18)) (λw' hw'=>ah bw rfl (bx5.bel hw') rfl) (bh (v:=vi ↑k) (wy (df q38_18)) (λw' hw'=>am zs3) (bh (v:=vi 1) (wy (df q38_18)) (λw' hw'=>am rfl) (bh (v:=Value.pointer (some (aC g_v 2 (Int.toNat ↑k)))) (wy (df q38_18)) (λw' hw'=>aa (α:=Pt) (xs:=g.2) (v:=g_v) (i:=↑k) eZ rfl rfl (Rg.bel hw') rfl (by omega) (by omega)) ?_))))
  refine bh (v:=Value.pointer (some ⟨(aC g_v 2 (Int.toNat ↑k)).block,(aC g_v 2 (Int.toNat ↑k)).off+1,none⟩)) (wy (df q38_18)) (λw' hw'=>aK ik rfl rfl rfl (by decide) (by decide) rfl) (bh (v:=vi ((gI g.2 ↑k).2)) (wy (df q38_18)) (λw' hw'=>aP (α:=Pt) (xs:=g.2) (v:=g_v) (i:=↑k) av rfl (Rg.bel hw') (by omega) (by omega) (by decide) rfl) (bh (v:=vp b3 0) (wy (df q38_18)) (λw' hw'=>aj cS rfl rfl zs1 rfl) (bh (v:=vi g.1) (wy (df q38_18)) (λw' hw'=>ah av rfl (bx5.bel hw') rfl) ?_)))
  refine bh (v:=vb (decide (g.1<=((gI g.2 ↑k).2)))) (wy (df q38_18)) (λw' hw'=>da (m:=(gI g.2 ↑k).2) (n:=g.1) rfl rfl) (qv (vb (decide (g.1<=((gI g.2 ↑k).2)))) (λw' hw'=>aH rfl (df q38_18) rfl) (cX ?_))
  intro w22 hc23
  replace hc23:=ax hc23 g9
  by_cases p9_24:g.1<=((gI g.2 ↑k).2)
  ·
   refine ae rfl (dt p9_24) (a7 ?_)
   clear bx5
   refine a6 rfl (ma (vb false) (a8 (aq (vs:=[vb false]) Try.func29 (.tmp rfl .nil) ?_)))
   have e0:(false:Bool)=(cl g):=by
     exact(bs (λh=>by have h2:=h.2.2.2 _ (aU (xs:=g.2) (i:=↑k) (by omega) ‹_›);unfold jp at h2;omega)).symm
   have C25:=cg [] (ch10.n.seq (hc15.n.seq (ch16.n.seq hc23.n)))
   replace bH:=bH.ca C25
   exact⟨rb e0,bH.below⟩
  refine af rfl (df p9_24) (al (ar (a6 rfl (mi 1 (lx (bg (m:=1) (n:=1) rfl rfl (by omega)) (ai 2 (a8 (cz (a7 (a7 (a6 rfl ?_)))))))))))
  refine mi 2 (lx (b9 (m:=2) (n:=2) rfl rfl) (a8 (af rfl rfl (aF rfl (ar (a6 rfl (mz zs3 (lx (bg (m:=↑k) (n:=1) rfl rfl (by omega)) (ai ((k:Int)+1) ?_)))))))))
  refine a8 ?_
  have C26:=cg [] (ch10.n.seq (hc15.n.seq (ch16.n.seq hc23.n)))
  refine back4 (k+1,g9) _ _ ⟨bH.ca C26,zs1,rfl,Rg.cn hc23,bx5.cn hc23,by omega,?_⟩ ?_
  · show∀e∈List.take (k+1) g.2,jp g.1 e
    rw[cF ‹_›]
    intro e he
    rcases List.mem_append.1 he with h|h
    · exact hinv4 e h
    · obtain rfl:=List.mem_singleton.1 h
      refine⟨?_,?_⟩<;>omega
  · show Int.toNat (((g.2.length:Int):Int)-((k+1):Int))<Int.toNat (((g.2.length:Int):Int)-(k:Int))
    omega
 refine af rfl (df p4) (aF rfl (a7 ?_))
 clear bx5
 refine a6 rfl (ma (vb true) (a8 (aq (vs:=[vb true]) Try.func29 (.tmp rfl .nil) ?_)))
 have e0:(true:Bool)=(cl g):=by
   exact(ig ⟨by omega,by omega,by omega,by rw[List.take_of_length_le (by omega)] at hinv4;exact hinv4⟩).symm
 exact⟨rb e0,bH.below⟩
end TL
