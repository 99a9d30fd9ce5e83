import Derived.Test.YtkhfimgjcdeejaaTlP1
import Derived.Test.YtkhfimgjcdeejaaProg
import Derived.Test.YtkhfimgjcdeejaaTlAli
set_option linter.all false
set_option maxRecDepth 20000
namespace TL
open Go Go.Proofs
theorem go:Tp Try.prog 3 false 1 8 (.int .i64 0):=Tp.of (by kernel_rfl)
theorem cP:Tp Try.prog 27 false 1 24 (.slice none 0 0):=Tp.of (by kernel_rfl)
theorem cz:Tp Try.prog 41 true 2 16 (.agg #[.int .i64 0,.int .i64 0]):=Tp.of (by kernel_rfl)
theorem jP(w0:World)(g:(Int)×(List Pt))(g_v:Value)(hg_v:Ro w0 g_v g.2):
    Calls Try.prog 35 #[vg [vi g.1,g_v]] w0 (λee w=>ee= .returned (vb (eb g))/\cA w0.heap.size w0 w):=by
 refine aR Try.func35 rfl nq ?_
 have bH:=bu.start w0
 have Rg:=hg_v.sl
 refine a5 (a0 rfl (cq rfl (cD c0 (is 1) (1,0) rfl rfl ?_)))
 intro g4 w1 b3 ch2 bx5
 replace bx5:Bx g4 (is 1) w1 b3 [vi g.1,g_v]:=bx5
 refine ma (vb false) (aa (a5 (a5 (a0 rfl (lx (a6 gj rfl rfl rfl rfl) (lx (a7 go rfl bx5 rfl) (lx (bd (m:=g.1) (n:=0) rfl rfl) (mv (vb (decide (g.1<0))) ?_))))))))
 by_cases q10:g.1<0
 ·
  refine aS (wn (dt q10)) (aS (wn (dt q10)) (aS (wn (dt q10)) (lw (vb true) (aA rfl (dt q10) rfl) (mv (vb true) (aS (wn rfl) (aS (wn rfl) (aS (wn rfl) (aS (wn rfl) (lw (vb true) (aA rfl rfl rfl) (aa (aj rfl rfl (a5 ?_))))))))))))
  clear bx5
  refine a0 rfl (ma (vb false) (aa (aF (vs:=[vb false]) Try.func35 (.tmp rfl .nil) ?_)))
  have e0:(false:Bool)=(eb g):=by
    exact(cM (λh=>by unfold du at h;omega)).symm
  replace bH:=bH.cn ch2
  exact⟨rb e0,bH.below⟩
 refine lv (vp b3 0) (wy (df q10)) (a6 gj rfl rfl rfl rfl) (lv (vi g.1) (wy (df q10)) (a7 go rfl bx5 rfl) (lv (vb (decide (1024<g.1))) (wy (df q10)) (fI (m:=g.1) (n:=1024) rfl rfl) (lw (vb (decide (1024<g.1))) (b5 rfl (df q10) rfl) (mv (vb (decide (1024<g.1))) ?_))))
 by_cases q15:1024<g.1
 ·
  refine aS (wn (dt q15)) (aS (wn (dt q15)) (aS (wn (dt q15)) (aS (wn (dt q15)) (lw (vb true) (aA rfl (dt q15) rfl) (aa (aj rfl rfl (a5 ?_)))))))
  clear bx5
  refine a0 rfl (ma (vb false) (aa (aF (vs:=[vb false]) Try.func35 (.tmp rfl .nil) ?_)))
  have e0:(false:Bool)=(eb g):=by
    exact(cM (λh=>by unfold du at h;omega)).symm
  replace bH:=bH.cn ch2
  exact⟨rb e0,bH.below⟩
 refine lv (vp b3 1) (wy (df q15)) (a6 gj rfl rfl rfl rfl) (lv (g_v) (wy (df q15)) (a7 cP rfl bx5 rfl) ?_)
 replace Rg:=Rg.cn ch2
 have len6:=(Rg).small
 refine lv (vi (g.2.length:Int)) (wy (df q15)) (bM i5 rfl Rg) (lv (vb (decide (3072<(g.2.length:Int)))) (wy (df q15)) (fI (m:=(g.2.length:Int)) (n:=3072) rfl rfl) (lw (vb (decide (3072<(g.2.length:Int)))) (b5 rfl (df q15) rfl) (aa ?_)))
 by_cases p1:3072<(g.2.length:Int)
 ·
  refine aj rfl (dt p1) (a5 ?_)
  clear bx5
  refine a0 rfl (ma (vb false) (aa (aF (vs:=[vb false]) Try.func35 (.tmp rfl .nil) ?_)))
  have e0:(false:Bool)=(eb g):=by
    exact(cM (λh=>by unfold du at h;omega)).symm
  replace bH:=bH.cn ch2
  exact⟨rb e0,bH.below⟩
 refine al rfl (df p1) (az (a5 (a5 (a0 rfl (lx (a6 gj rfl rfl rfl rfl) (lx (a7 cP rfl bx5 rfl) (lx (bM i5 rfl Rg) (mi 0 (aa (aE ?_))))))))))
 refine bF (σ:=Nat×aT) (λ⟨k,gq⟩ f w=>bu w0 gq w/\f 1=vp b3 0/\f 22=g_v/\f 23=vi (g.2.length:Int)/\f 24=vi ↑k/\Sl gq (is 0) w g_v g.2/\Bx gq (is 1) w b3 [vi g.1,g_v]/\(k:Int)<=((g.2.length:Int):Int)/\(∀e∈List.take k g.2,kV g.1 e)) (λ⟨k,gq⟩=>Int.toNat (((g.2.length:Int):Int)-(k:Int))) (0,g4) ?_ ?_
 · exact⟨bH.cn ch2,rfl,rfl,rfl,rfl,Rg,bx5,by omega,by simp⟩
 clear Rg bx5 bH
 rintro⟨k,g9⟩ f7 w8 ⟨bH,zs1,zs22,zs23,zs24,Rg,bx5,hle_k,hinv4⟩ back4
 refine a5 (a0 rfl (lx (bd (m:=↑k) (n:=(g.2.length:Int)) zs24 zs23) (aa (a5 ?_))))
 by_cases p4:(k:Int)<(g.2.length:Int)
 ·
  refine aj rfl (dt p4) (az (a5 (aE (a5 (a0 rfl (lx (ab (v:=g_v) (i:=↑k) i5 rfl zs22 Rg zs24 (by omega) (by omega)) (lw (vg [vi ((gI g.2 ↑k).1),vi ((gI g.2 ↑k).2)]) (aK (v:=g_v) (i:=↑k) cz rfl Rg (by omega) (by omega) rfl) (lo (bc g9 (is 2) (2,0) rfl cz ?_)))))))))
  intro g13 w10 b12 ch11 bx14
  replace bx14:Bx g13 (is 2) w10 b12 [vi 0,vi 0]:=bx14
  refine lo (ae (cs':=[vi ((gI g.2 ↑k).1),vi ((gI g.2 ↑k).2)]) cz rfl rfl bx14 rfl nq (AllOne.all (.cons rfl (.cons rfl .nil))) rfl ?_)
  intro w15 ch16 bx17
  clear bx14
  refine aa (a5 (a0 rfl (lx (ah (ds:=[vi ((gI g.2 ↑k).1),vi ((gI g.2 ↑k).2)]) cz rfl bx17 rfl rfl) (mi 0 (aa (aE (ei (a5 ?_))))))))
  clear bx17
  refine a0 rfl (lx (bd (m:=0) (n:=2) rfl rfl) (aa (a5 (aj rfl rfl (az (a5 (aE (a5 (a0 rfl (lw (vi ((gI g.2 ↑k).1)) (d4 ni go rfl rfl (by decide) (by decide) rfl) (ai ((gI g.2 ↑k).1) ?_)))))))))))
  refine aa (a5 (a0 rfl (mi ((gI g.2 ↑k).1) (lx (bd (m:=(gI g.2 ↑k).1) (n:=0) rfl rfl) (mv (vb (decide (((gI g.2 ↑k).1)<0))) ?_)))))
  by_cases q34:((gI g.2 ↑k).1)<0
  ·
   refine aS (wn (dt q34)) (aS (wn (dt q34)) (aS (wn (dt q34)) (aS (wn (dt q34)) (lw (vb true) (aA rfl (dt q34) rfl) (aa (aj rfl rfl (a5 ?_)))))))
   clear bx5
   refine a0 rfl (ma (vb false) (aa (aF (vs:=[vb false]) Try.func35 (.tmp rfl .nil) ?_)))
   have e0:(false:Bool)=(eb g):=by
     exact(cM (λh=>by have h2:=h.2.2.2 _ (bp (xs:=g.2) (i:=↑k) (by omega) ‹_›);unfold kV at h2;omega)).symm
   replace bH:=bH.cn ch11
   replace bH:=bH.ce ch16
   exact⟨rb e0,bH.below⟩
  refine lv (vi ((gI g.2 ↑k).1)) (wy (df q34)) (aW rfl) (lv (vp b3 0) (wy (df q34)) (a6 gj rfl rfl zs1 rfl) ?_)
  replace bx5:=(bx5.cn ch11).ce ch16
  refine lv (vi g.1) (wy (df q34)) (a7 go rfl bx5 rfl) (lv (vb (decide (g.1<=((gI g.2 ↑k).1)))) (wy (df q34)) (fJ (m:=(gI g.2 ↑k).1) (n:=g.1) rfl rfl) (lw (vb (decide (g.1<=((gI g.2 ↑k).1)))) (b5 rfl (df q34) rfl) (aa ?_)))
  by_cases p9:g.1<=((gI g.2 ↑k).1)
  ·
   refine aj rfl (dt p9) (a5 ?_)
   clear bx5
   refine a0 rfl (ma (vb false) (aa (aF (vs:=[vb false]) Try.func35 (.tmp rfl .nil) ?_)))
   have e0:(false:Bool)=(eb g):=by
     exact(cM (λh=>by have h2:=h.2.2.2 _ (bp (xs:=g.2) (i:=↑k) (by omega) ‹_›);unfold kV at h2;omega)).symm
   replace bH:=bH.cn ch11
   replace bH:=bH.ce ch16
   exact⟨rb e0,bH.below⟩
  refine al rfl (df p9) (az (au (a0 rfl (lx (bb (m:=0) (n:=1) rfl rfl (by omega)) (mi 1 (aa (aM (a5 (a0 rfl (lx (bd (m:=1) (n:=2) rfl rfl) ?_))))))))))
  refine aa (a5 (aj rfl rfl (az (a5 (aE (a5 (a0 rfl (lw (vi ((gI g.2 ↑k).2)) (d4 ni go rfl rfl (by decide) (by decide) rfl) (ai ((gI g.2 ↑k).2) (aa (a5 (a0 rfl (mi ((gI g.2 ↑k).2) ?_)))))))))))))
  refine lx (bd (m:=(gI g.2 ↑k).2) (n:=0) rfl rfl) (mv (vb (decide (((gI g.2 ↑k).2)<0))) ?_)
  by_cases q34_18:((gI g.2 ↑k).2)<0
  ·
   refine aS (wn (dt q34_18)) (aS (wn (dt q34_18)) (aS (wn (dt q34_18)) (aS (wn (dt q34_18)) (lw (vb true) (aA rfl (dt q34_18) rfl) (aa (aj rfl rfl (a5 ?_)))))))
   clear bx5
   refine a0 rfl (ma (vb false) (aa (aF (vs:=[vb false]) Try.func35 (.tmp rfl .nil) ?_)))
   have e0:(false:Bool)=(eb g):=by
     exact(cM (λh=>by have h2:=h.2.2.2 _ (bp (xs:=g.2) (i:=↑k) (by omega) ‹_›);unfold kV at h2;omega)).symm
   replace bH:=bH.cn ch11
   replace bH:=bH.ce ch16
   exact⟨rb e0,bH.below⟩
  refine lv (vi ((gI g.2 ↑k).2)) (wy (df q34_18)) (aW rfl) (lv (vp b3 0) (wy (df q34_18)) (a6 gj rfl rfl zs1 rfl) (lv (vi g.1) (wy (df q34_18)) (a7 go rfl bx5 rfl) (lv (vb (decide (g.1<=((gI g.2 ↑k).2)))) (wy (df q34_18)) (fJ (m:=(gI g.2 ↑k).2) (n:=g.1) rfl rfl) (lw (vb (decide (g.1<=((gI g.2 ↑k).2)))) (b5 rfl (df q34_18) rfl) (aa ?_)))))
  by_cases p9_19:g.1<=((gI g.2 ↑k).2)
  ·
   refine aj rfl (dt p9_19) (a5 ?_)
   clear bx5
   refine a0 rfl (ma (vb false) (aa (aF (vs:=[vb false]) Try.func35 (.tmp rfl .nil) ?_)))
   have e0:(false:Bool)=(eb g):=by
     exact(cM (λh=>by have h2:=h.2.2.2 _ (bp (xs:=g.2) (i:=↑k) (by omega) ‹_›);unfold kV at h2;omega)).symm
   replace bH:=bH.cn ch11
   replace bH:=bH.ce ch16
   exact⟨rb e0,bH.below⟩
  refine al rfl (df p9_19) (az (au (a0 rfl (lx (bb (m:=1) (n:=1) rfl rfl (by omega)) (mi 2 (aa (aM (a5 (a0 rfl (lx (bd (m:=2) (n:=2) rfl rfl) ?_))))))))))
  refine aa (a5 (al rfl rfl (aZ rfl (au (a0 rfl (lx (bb (m:=↑k) (n:=1) zs24 rfl (by omega)) (mi ((k:Int)+1) (aa ?_))))))))
  replace bH:=bH.cn ch11
  refine back4 (k+1,g13) _ _ ⟨bH.ce ch16,zs1,zs22,zs23,rfl,(Rg.cn ch11).ce ch16,bx5,by omega,?_⟩ ?_
  · show∀e∈List.take (k+1) g.2,kV g.1 e
    rw[eR ‹_›]
    intro e he
    rcases List.mem_append.1 he with h|h
    · exact hinv4 e h
    · obtain rfl:=List.mem_singleton.1 h
      refine⟨?_,?_⟩<;>omega
  · show Int.toNat (((g.2.length:Int):Int)-((k+1):Int))<Int.toNat (((g.2.length:Int):Int)-(k:Int))
    omega
 refine al rfl (df p4) (aZ rfl (a5 ?_))
 clear bx5
 refine a0 rfl (ma (vb true) (aa (aF (vs:=[vb true]) Try.func35 (.tmp rfl .nil) ?_)))
 have e0:(true:Bool)=(eb g):=by
   exact(jI ⟨by omega,by omega,by omega,by rw[List.take_of_length_le (by omega)] at hinv4;exact hinv4⟩).symm
 exact⟨rb e0,bH.below⟩
end TL
