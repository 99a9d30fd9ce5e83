import Derived.Test.YtgneelmmomohdaaSqTlP4
import Derived.Test.YtgneelmmomohdaaProg
import Derived.Test.YtgneelmmomohdaaSqTlAli
set_option linter.all false
set_option maxRecDepth 20000
namespace TL
open Go Go.Proofs
theorem nM:Try.prog.follows .mixedOrders=true:=by kernel_rfl
theorem ak:Tp Try.prog 3 false 1 8 (.int .i64 0):=Tp.of (by kernel_rfl)
theorem cE:Tp Try.prog 4 false 1 1 (.bool false):=Tp.of (by kernel_rfl)
theorem bu:Tp Try.prog 22 false 1 24 (.slice none 0 0):=Tp.of (by kernel_rfl)
theorem aK:Tp Try.prog 24 true 2 32 (.agg #[.int .i64 0,.slice none 0 0]):=Tp.of (by kernel_rfl)
theorem aW:Tp Try.prog 52 true 2 16 (.agg #[.int .i64 0,.int .i64 0]):=Tp.of (by kernel_rfl)
theorem ir:Try.f28.body.isNone=false:=rfl
theorem ig:(Try.f28.name== "runtime.NumGoroutine")=false:=by decide+kernel
theorem y6:Try.f91.body.isNone=false:=rfl
theorem ye:(Try.f91.name== "runtime.NumGoroutine")=false:=by decide+kernel
theorem iv(w0:World)(g:(Int)×(List Pt))(g_v:Value)(hg_v:Ro w0 g_v g.2):
    Calls Try.prog 28 #[vg [vi g.1,g_v]] w0 (λee w=>ee= .returned (vb (cS g))/\e8 w0.heap.size w0 w):=by
 refine ar Try.func28 rfl nq ?_
 have bH:=bq.start w0
 have Rg:=hg_v.sl
 refine aa (a8 rfl (cF rfl (cA c0 (is 1) (1,0) rfl rfl ?_)))
 intro g4 w1 b3 ch2 bx5
 replace bx5:Bx g4 (is 1) w1 b3 [vi g.1,g_v]:=bx5
 refine ma (vb false) (ad (aa (aa (a8 rfl (lx (af d4 rfl rfl rfl rfl) (lx (ae ak rfl bx5 rfl) (lx (bg (m:=g.1) (n:=0) rfl rfl) (mv (vb (decide (g.1<0))) ?_))))))))
 by_cases q10:g.1<0
 ·
  refine az (wn (dt q10)) (az (wn (dt q10)) (az (wn (dt q10)) (lw (vb true) (aV rfl (dt q10) rfl) (mv (vb true) (az (wn rfl) (az (wn rfl) (az (wn rfl) (az (wn rfl) (lw (vb true) (aV rfl rfl rfl) (ad (aj rfl rfl (aa ?_))))))))))))
  clear bx5
  refine a8 rfl (ma (vb false) (ad (aD (vs:=[vb false]) Try.func28 (.tmp rfl .nil) ?_)))
  have e0:(false:Bool)=(cS g):=by
    exact(cL (λh=>by unfold b7 at h;omega)).symm
  replace bH:=bH.cn ch2
  exact⟨rb e0,bH.below⟩
 refine lv (vp b3 0) (wy (df q10)) (af d4 rfl rfl rfl rfl) (lv (vi g.1) (wy (df q10)) (ae ak rfl bx5 rfl) (lv (vb (decide (1024<g.1))) (wy (df q10)) (eo (m:=g.1) (n:=1024) rfl rfl) (lw (vb (decide (1024<g.1))) (aS rfl (df q10) rfl) (mv (vb (decide (1024<g.1))) ?_))))
 by_cases q15:1024<g.1
 ·
  refine az (wn (dt q15)) (az (wn (dt q15)) (az (wn (dt q15)) (az (wn (dt q15)) (lw (vb true) (aV rfl (dt q15) rfl) (ad (aj rfl rfl (aa ?_)))))))
  clear bx5
  refine a8 rfl (ma (vb false) (ad (aD (vs:=[vb false]) Try.func28 (.tmp rfl .nil) ?_)))
  have e0:(false:Bool)=(cS g):=by
    exact(cL (λh=>by unfold b7 at h;omega)).symm
  replace bH:=bH.cn ch2
  exact⟨rb e0,bH.below⟩
 refine lv (vp b3 1) (wy (df q15)) (af d4 rfl rfl rfl rfl) (lv (g_v) (wy (df q15)) (ae bu rfl bx5 rfl) ?_)
 replace Rg:=Rg.cn ch2
 have len6:=(Rg).small
 refine lv (vi (g.2.length:Int)) (wy (df q15)) (bJ dg rfl Rg) (lv (vb (decide (3072<(g.2.length:Int)))) (wy (df q15)) (eo (m:=(g.2.length:Int)) (n:=3072) rfl rfl) (lw (vb (decide (3072<(g.2.length:Int)))) (aS rfl (df q15) rfl) (ad ?_)))
 by_cases p1:3072<(g.2.length:Int)
 ·
  refine aj rfl (dt p1) (aa ?_)
  clear bx5
  refine a8 rfl (ma (vb false) (ad (aD (vs:=[vb false]) Try.func28 (.tmp rfl .nil) ?_)))
  have e0:(false:Bool)=(cS g):=by
    exact(cL (λh=>by unfold b7 at h;omega)).symm
  replace bH:=bH.cn ch2
  exact⟨rb e0,bH.below⟩
 refine ah rfl (df p1) (ap (aa (aa (a8 rfl (lx (af d4 rfl rfl rfl rfl) (lx (ae bu rfl bx5 rfl) (lx (bJ dg rfl Rg) (mi 0 (ad (ao ?_))))))))))
 refine b9 (σ:=Nat×aL) (λ⟨k,gq⟩ f w=>bq w0 gq w/\f 1=vp b3 0/\f 22=g_v/\f 23=vi (g.2.length:Int)/\f 24=vi ↑k/\Sl gq (is 0) w g_v g.2/\Bx gq (is 1) w b3 [vi g.1,g_v]/\(k:Int)<=((g.2.length:Int):Int)/\(∀e∈List.take k g.2,nP g.1 e)) (λ⟨k,gq⟩=>Int.toNat (((g.2.length:Int):Int)-(k:Int))) (0,g4) ?_ ?_
 · exact⟨bH.cn ch2,rfl,rfl,rfl,rfl,Rg,bx5,by omega,by simp⟩
 clear Rg bx5 bH
 rintro⟨k,g9⟩ f7 w8 ⟨bH,zs1,zs22,zs23,zs24,Rg,bx5,hle_k,hinv4⟩ back4
 refine aa (a8 rfl (lx (bg (m:=↑k) (n:=(g.2.length:Int)) zs24 zs23) (ad (aa ?_))))
 by_cases p4:(k:Int)<(g.2.length:Int)
 ·
  refine aj rfl (dt p4) (ap (aa (ao (aa (a8 rfl (lx (ag (v:=g_v) (i:=↑k) dg rfl zs22 Rg zs24 (by omega) (by omega)) (lw (vg [vi ((gI g.2 ↑k).1),vi ((gI g.2 ↑k).2)]) (cv (v:=g_v) (i:=↑k) aW rfl Rg (by omega) (by omega) rfl) (lo (bz g9 (is 2) (2,0) rfl aW ?_)))))))))
  intro g13 w10 b12 ch11 bx14
  replace bx14:Bx g13 (is 2) w10 b12 [vi 0,vi 0]:=bx14
  refine lo (aF (cs':=[vi ((gI g.2 ↑k).1),vi ((gI g.2 ↑k).2)]) aW rfl rfl bx14 rfl nq (AllOne.all (.cons rfl (.cons rfl .nil))) rfl ?_)
  intro w15 ch16 bx17
  clear bx14
  refine ad (aa (a8 rfl (lx (aB (ds:=[vi ((gI g.2 ↑k).1),vi ((gI g.2 ↑k).2)]) aW rfl bx17 rfl rfl) (mi 0 (ad (ao (fX (aa ?_))))))))
  clear bx17
  refine a8 rfl (lx (bg (m:=0) (n:=2) rfl rfl) (ad (aa (aj rfl rfl (ap (aa (ao (aa (a8 rfl (lw (vi ((gI g.2 ↑k).1)) (di da ak rfl rfl (by decide) (by decide) rfl) (ai ((gI g.2 ↑k).1) ?_)))))))))))
  refine ad (aa (a8 rfl (mi ((gI g.2 ↑k).1) (lx (bg (m:=(gI g.2 ↑k).1) (n:=0) rfl rfl) (mv (vb (decide (((gI g.2 ↑k).1)<0))) ?_)))))
  by_cases q34:((gI g.2 ↑k).1)<0
  ·
   refine az (wn (dt q34)) (az (wn (dt q34)) (az (wn (dt q34)) (az (wn (dt q34)) (lw (vb true) (aV rfl (dt q34) rfl) (ad (aj rfl rfl (aa ?_)))))))
   clear bx5
   refine a8 rfl (ma (vb false) (ad (aD (vs:=[vb false]) Try.func28 (.tmp rfl .nil) ?_)))
   have e0:(false:Bool)=(cS g):=by
     exact(cL (λh=>by have h2:=h.2.2.2 _ (bv (xs:=g.2) (i:=↑k) (by omega) ‹_›);unfold nP at h2;omega)).symm
   replace bH:=bH.cn ch11
   replace bH:=bH.ce ch16
   exact⟨rb e0,bH.below⟩
  refine lv (vi ((gI g.2 ↑k).1)) (wy (df q34)) (av rfl) (lv (vp b3 0) (wy (df q34)) (af d4 rfl rfl zs1 rfl) ?_)
  replace bx5:=(bx5.cn ch11).ce ch16
  refine lv (vi g.1) (wy (df q34)) (ae ak rfl bx5 rfl) (lv (vb (decide (g.1<=((gI g.2 ↑k).1)))) (wy (df q34)) (fP (m:=(gI g.2 ↑k).1) (n:=g.1) rfl rfl) (lw (vb (decide (g.1<=((gI g.2 ↑k).1)))) (aS rfl (df q34) rfl) (ad ?_)))
  by_cases p9:g.1<=((gI g.2 ↑k).1)
  ·
   refine aj rfl (dt p9) (aa ?_)
   clear bx5
   refine a8 rfl (ma (vb false) (ad (aD (vs:=[vb false]) Try.func28 (.tmp rfl .nil) ?_)))
   have e0:(false:Bool)=(cS g):=by
     exact(cL (λh=>by have h2:=h.2.2.2 _ (bv (xs:=g.2) (i:=↑k) (by omega) ‹_›);unfold nP at h2;omega)).symm
   replace bH:=bH.cn ch11
   replace bH:=bH.ce ch16
   exact⟨rb e0,bH.below⟩
  refine ah rfl (df p9) (ap (am (a8 rfl (lx (aJ (m:=0) (n:=1) rfl rfl (by omega)) (mi 1 (ad (bV (aa (a8 rfl (lx (bg (m:=1) (n:=2) rfl rfl) ?_))))))))))
  refine ad (aa (aj rfl rfl (ap (aa (ao (aa (a8 rfl (lw (vi ((gI g.2 ↑k).2)) (di da ak rfl rfl (by decide) (by decide) rfl) (ai ((gI g.2 ↑k).2) (ad (aa (a8 rfl (mi ((gI g.2 ↑k).2) ?_)))))))))))))
  refine lx (bg (m:=(gI g.2 ↑k).2) (n:=0) rfl rfl) (mv (vb (decide (((gI g.2 ↑k).2)<0))) ?_)
  by_cases q34_18:((gI g.2 ↑k).2)<0
  ·
   refine az (wn (dt q34_18)) (az (wn (dt q34_18)) (az (wn (dt q34_18)) (az (wn (dt q34_18)) (lw (vb true) (aV rfl (dt q34_18) rfl) (ad (aj rfl rfl (aa ?_)))))))
   clear bx5
   refine a8 rfl (ma (vb false) (ad (aD (vs:=[vb false]) Try.func28 (.tmp rfl .nil) ?_)))
   have e0:(false:Bool)=(cS g):=by
     exact(cL (λh=>by have h2:=h.2.2.2 _ (bv (xs:=g.2) (i:=↑k) (by omega) ‹_›);unfold nP at h2;omega)).symm
   replace bH:=bH.cn ch11
   replace bH:=bH.ce ch16
   exact⟨rb e0,bH.below⟩
  refine lv (vi ((gI g.2 ↑k).2)) (wy (df q34_18)) (av rfl) (lv (vp b3 0) (wy (df q34_18)) (af d4 rfl rfl zs1 rfl) (lv (vi g.1) (wy (df q34_18)) (ae ak rfl bx5 rfl) (lv (vb (decide (g.1<=((gI g.2 ↑k).2)))) (wy (df q34_18)) (fP (m:=(gI g.2 ↑k).2) (n:=g.1) rfl rfl) (lw (vb (decide (g.1<=((gI g.2 ↑k).2)))) (aS rfl (df q34_18) rfl) (ad ?_)))))
  by_cases p9_19:g.1<=((gI g.2 ↑k).2)
  ·
   refine aj rfl (dt p9_19) (aa ?_)
   clear bx5
   refine a8 rfl (ma (vb false) (ad (aD (vs:=[vb false]) Try.func28 (.tmp rfl .nil) ?_)))
   have e0:(false:Bool)=(cS g):=by
     exact(cL (λh=>by have h2:=h.2.2.2 _ (bv (xs:=g.2) (i:=↑k) (by omega) ‹_›);unfold nP at h2;omega)).symm
   replace bH:=bH.cn ch11
   replace bH:=bH.ce ch16
   exact⟨rb e0,bH.below⟩
  refine ah rfl (df p9_19) (ap (am (a8 rfl (lx (aJ (m:=1) (n:=1) rfl rfl (by omega)) (mi 2 (ad (bV (aa (a8 rfl (lx (bg (m:=2) (n:=2) rfl rfl) ?_))))))))))
  refine ad (aa (ah rfl rfl (aM rfl (am (a8 rfl (lx (aJ (m:=↑k) (n:=1) zs24 rfl (by omega)) (mi ((k:Int)+1) (ad ?_))))))))
  replace bH:=bH.cn ch11
  refine back4 (k+1,g13) _ _ ⟨bH.ce ch16,zs1,zs22,zs23,rfl,(Rg.cn ch11).ce ch16,bx5,by omega,?_⟩ ?_
  · show∀e∈List.take (k+1) g.2,nP g.1 e
    rw[bO ‹_›]
    intro e he
    rcases List.mem_append.1 he with h|h
    · exact hinv4 e h
    · obtain rfl:=List.mem_singleton.1 h
      refine⟨?_,?_⟩<;>omega
  · show Int.toNat (((g.2.length:Int):Int)-((k+1):Int))<Int.toNat (((g.2.length:Int):Int)-(k:Int))
    omega
 refine ah rfl (df p4) (aM rfl (aa ?_))
 clear bx5
 refine a8 rfl (ma (vb true) (ad (aD (vs:=[vb true]) Try.func28 (.tmp rfl .nil) ?_)))
 have e0:(true:Bool)=(cS g):=by
   exact(n8 ⟨by omega,by omega,by omega,by rw[List.take_of_length_le (by omega)] at hinv4;exact hinv4⟩).symm
 exact⟨rb e0,bH.below⟩
theorem rc(w0:World)(g:(Int)×(List Pt))(g_v:Value)(hg_v:Ro w0 g_v g.2):
    Calls Try.prog 14 #[vg [vi g.1,g_v]] w0 (λee w=>ee= .returned (vb (cS g))/\e8 w0.heap.size w0 w):=by
 refine ar Try.func14 rfl nq ?_
 have bH:=bq.start w0
 have Rg:=hg_v.sl
 refine aa (a8 rfl (cF rfl (cA c0 (is 1) (1,0) rfl rfl ?_)))
 intro g4 w1 b3 ch2 bx5
 replace bx5:Bx g4 (is 1) w1 b3 [vi g.1,g_v]:=bx5
 refine ma (vb false) (ad (aa (aa (a8 rfl (lx (af d4 rfl rfl rfl rfl) (lx (ae ak rfl bx5 rfl) (lx (bg (m:=g.1) (n:=0) rfl rfl) (mv (vb (decide (g.1<0))) ?_))))))))
 by_cases q8:g.1<0
 ·
  refine az (wn (dt q8)) (az (wn (dt q8)) (az (wn (dt q8)) (lw (vb true) (aV rfl (dt q8) rfl) (mv (vb true) (az (wn rfl) (az (wn rfl) (az (wn rfl) (az (wn rfl) (lw (vb true) (aV rfl rfl rfl) (ad (aj rfl rfl (aa ?_))))))))))))
  clear bx5
  refine a8 rfl (ma (vb false) (ad (aD (vs:=[vb false]) Try.func14 (.tmp rfl .nil) ?_)))
  have e0:(false:Bool)=(cS g):=by
    exact(cL (λh=>by unfold b7 at h;omega)).symm
  replace bH:=bH.cn ch2
  exact⟨rb e0,bH.below⟩
 refine lv (vp b3 0) (wy (df q8)) (af d4 rfl rfl rfl rfl) (lv (vi g.1) (wy (df q8)) (ae ak rfl bx5 rfl) (lv (vb (decide (1024<g.1))) (wy (df q8)) (eo (m:=g.1) (n:=1024) rfl rfl) (lw (vb (decide (1024<g.1))) (aS rfl (df q8) rfl) (mv (vb (decide (1024<g.1))) ?_))))
 by_cases q13:1024<g.1
 ·
  refine az (wn (dt q13)) (az (wn (dt q13)) (az (wn (dt q13)) (az (wn (dt q13)) (lw (vb true) (aV rfl (dt q13) rfl) (ad (aj rfl rfl (aa ?_)))))))
  clear bx5
  refine a8 rfl (ma (vb false) (ad (aD (vs:=[vb false]) Try.func14 (.tmp rfl .nil) ?_)))
  have e0:(false:Bool)=(cS g):=by
    exact(cL (λh=>by unfold b7 at h;omega)).symm
  replace bH:=bH.cn ch2
  exact⟨rb e0,bH.below⟩
 refine lv (vp b3 1) (wy (df q13)) (af d4 rfl rfl rfl rfl) (lv (g_v) (wy (df q13)) (ae bu rfl bx5 rfl) ?_)
 replace Rg:=Rg.cn ch2
 have len6:=(Rg).small
 refine lv (vi (g.2.length:Int)) (wy (df q13)) (bJ dg rfl Rg) (lv (vb (decide (3072<(g.2.length:Int)))) (wy (df q13)) (eo (m:=(g.2.length:Int)) (n:=3072) rfl rfl) (lw (vb (decide (3072<(g.2.length:Int)))) (aS rfl (df q13) rfl) (ad ?_)))
 by_cases p1:3072<(g.2.length:Int)
 ·
  refine aj rfl (dt p1) (aa ?_)
  clear bx5
  refine a8 rfl (ma (vb false) (ad (aD (vs:=[vb false]) Try.func14 (.tmp rfl .nil) ?_)))
  have e0:(false:Bool)=(cS g):=by
    exact(cL (λh=>by unfold b7 at h;omega)).symm
  replace bH:=bH.cn ch2
  exact⟨rb e0,bH.below⟩
 refine ah rfl (df p1) (ap (aa (aa (a8 rfl (ai 0 (ad (ao ?_)))))))
 refine b9 (σ:=Nat×aL) (λ⟨k,gq⟩ f w=>bq w0 gq w/\f 1=vp b3 0/\f 3=vi ↑k/\Sl gq (is 0) w g_v g.2/\Bx gq (is 1) w b3 [vi g.1,g_v]/\(k:Int)<=((g.2.length:Int):Int)/\(∀e∈List.take k g.2,nP g.1 e)) (λ⟨k,gq⟩=>Int.toNat (((g.2.length:Int):Int)-(k:Int))) (0,g4) ?_ ?_
 · exact⟨bH.cn ch2,rfl,rfl,Rg,bx5,by omega,by simp⟩
 clear Rg bx5 bH
 rintro⟨k,g9⟩ f7 w8 ⟨bH,zs1,zs3,Rg,bx5,hle_k,hinv4⟩ back4
 refine aa (aa (a8 rfl (mz zs3 (lx (af d4 rfl rfl zs1 rfl) (lx (ae bu rfl bx5 rfl) (lx (bJ dg rfl Rg) (lx (bg (m:=↑k) (n:=(g.2.length:Int)) rfl rfl) (ad ?_))))))))
 by_cases p4:(k:Int)<(g.2.length:Int)
 ·
  refine aj rfl (dt p4) (ap (aa (ao (aa (a8 rfl (ai 0 (ad (ao (fX (aa (aa (a8 rfl ?_))))))))))))
  refine mi 0 (lx (bg (m:=0) (n:=2) rfl rfl) (ad (aj rfl rfl (ap (aa (ao (aa (eH g9 rfl nM (by kernel_rfl) ?_))))))))
  intro w11 ch10
  refine qx (λw' hw'=>af d4 rfl rfl zs1 rfl) ?_
  replace bx5:=bx5.cn ch10
  refine qx (λw' hw'=>ae bu rfl (bx5.bel hw') rfl) (qz zs3 (qm (vi 0) ?_))
  replace Rg:=Rg.cn ch10
  refine qx (λw' hw'=>ag (v:=g_v) (i:=↑k) dg rfl rfl (Rg.bel hw') rfl (by omega) (by omega)) (qx (λw' hw'=>cj da rfl rfl rfl (by decide) (by decide) rfl) (qx (λw' hw'=>d6 (v:=g_v) (i:=↑k) ak rfl (Rg.bel hw') (by omega) (by omega) (by decide) rfl) (qx (λw' hw'=>bg (m:=(gI g.2 ↑k).1) (n:=0) rfl rfl) (qm (vb (decide (((gI g.2 ↑k).1)<0))) ?_))))
  by_cases q38:((gI g.2 ↑k).1)<0
  ·
   refine b5 (wn (dt q38)) (b5 (wn (dt q38)) (b5 (wn (dt q38)) (b5 (wn (dt q38)) (b5 (wn (dt q38)) (b5 (wn (dt q38)) (b5 (wn (dt q38)) (b5 (wn (dt q38)) (b5 (wn (dt q38)) (b5 (wn (dt q38)) ?_)))))))))
   refine qv (vb true) (λw' hw'=>aV rfl (dt q38) rfl) (fl ?_)
   intro w12 hc13
   replace hc13:=aT hc13 g9
   refine aj rfl rfl (aa ?_)
   clear bx5
   refine a8 rfl (ma (vb false) (ad (aD (vs:=[vb false]) Try.func14 (.tmp rfl .nil) ?_)))
   have e0:(false:Bool)=(cS g):=by
     exact(cL (λh=>by have h2:=h.2.2.2 _ (bv (xs:=g.2) (i:=↑k) (by omega) ‹_›);unfold nP at h2;omega)).symm
   replace bH:=bH.cn ch10
   replace bH:=bH.cn hc13
   exact⟨rb e0,bH.below⟩
  refine ba (v:=vp b3 1) (wy (df q38)) (λw' hw'=>af d4 rfl rfl zs1 rfl) (ba (v:=g_v) (wy (df q38)) (λw' hw'=>ae bu rfl (bx5.bel hw') rfl) (ba (v:=vi ↑k) (wy (df q38)) (λw' hw'=>av zs3) (ba (v:=vi 0) (wy (df q38)) (λw' hw'=>av rfl) (ba (v:=Value.pointer (some (bA g_v 2 (Int.toNat ↑k)))) (wy (df q38)) (λw' hw'=>ag (α:=Pt) (xs:=g.2) (v:=g_v) (i:=↑k) dg rfl rfl (Rg.bel hw') rfl (by omega) (by omega)) ?_))))
  refine ba (v:=Value.pointer (some ⟨(bA g_v 2 (Int.toNat ↑k)).block,(bA g_v 2 (Int.toNat ↑k)).off+0,none⟩)) (wy (df q38)) (λw' hw'=>cj da rfl rfl rfl (by decide) (by decide) rfl) (ba (v:=vi ((gI g.2 ↑k).1)) (wy (df q38)) (λw' hw'=>d6 (α:=Pt) (xs:=g.2) (v:=g_v) (i:=↑k) ak rfl (Rg.bel hw') (by omega) (by omega) (by decide) rfl) (ba (v:=vp b3 0) (wy (df q38)) (λw' hw'=>af d4 rfl rfl zs1 rfl) (ba (v:=vi g.1) (wy (df q38)) (λw' hw'=>ae ak rfl (bx5.bel hw') rfl) ?_)))
  refine ba (v:=vb (decide (g.1<=((gI g.2 ↑k).1)))) (wy (df q38)) (λw' hw'=>fP (m:=(gI g.2 ↑k).1) (n:=g.1) rfl rfl) (qv (vb (decide (g.1<=((gI g.2 ↑k).1)))) (λw' hw'=>aS rfl (df q38) rfl) (fl ?_))
  intro w14 hc15
  replace hc15:=aT hc15 g9
  by_cases p9:g.1<=((gI g.2 ↑k).1)
  ·
   refine aj rfl (dt p9) (aa ?_)
   clear bx5
   refine a8 rfl (ma (vb false) (ad (aD (vs:=[vb false]) Try.func14 (.tmp rfl .nil) ?_)))
   have e0:(false:Bool)=(cS g):=by
     exact(cL (λh=>by have h2:=h.2.2.2 _ (bv (xs:=g.2) (i:=↑k) (by omega) ‹_›);unfold nP at h2;omega)).symm
   replace bH:=bH.cn ch10
   replace bH:=bH.cn hc15
   exact⟨rb e0,bH.below⟩
  refine ah rfl (df p9) (ap (am (a8 rfl (mi 0 (lx (aJ (m:=0) (n:=1) rfl rfl (by omega)) (ai 1 (ad (bV (aa (aa (a8 rfl ?_)))))))))))
  refine mi 1 (lx (bg (m:=1) (n:=2) rfl rfl) (ad (aj rfl rfl (ap (aa (ao (aa (eH g9 rfl nM (by kernel_rfl) ?_))))))))
  intro w17 ch16
  refine qx (λw' hw'=>af d4 rfl rfl zs1 rfl) ?_
  replace bx5:=(bx5.cn hc15).cn ch16
  refine qx (λw' hw'=>ae bu rfl (bx5.bel hw') rfl) (qz zs3 (qm (vi 1) ?_))
  replace Rg:=(Rg.cn hc15).cn ch16
  refine qx (λw' hw'=>ag (v:=g_v) (i:=↑k) dg rfl rfl (Rg.bel hw') rfl (by omega) (by omega)) (qx (λw' hw'=>cj da rfl rfl rfl (by decide) (by decide) rfl) (qx (λw' hw'=>d6 (v:=g_v) (i:=↑k) ak rfl (Rg.bel hw') (by omega) (by omega) (by decide) rfl) (qx (λw' hw'=>bg (m:=(gI g.2 ↑k).2) (n:=0) rfl rfl) (qm (vb (decide (((gI g.2 ↑k).2)<0))) ?_))))
  by_cases q38_18:((gI g.2 ↑k).2)<0
  ·
   refine b5 (wn (dt q38_18)) (b5 (wn (dt q38_18)) (b5 (wn (dt q38_18)) (b5 (wn (dt q38_18)) (b5 (wn (dt q38_18)) (b5 (wn (dt q38_18)) (b5 (wn (dt q38_18)) (b5 (wn (dt q38_18)) (b5 (wn (dt q38_18)) (b5 (wn (dt q38_18)) ?_)))))))))
   refine qv (vb true) (λw' hw'=>aV rfl (dt q38_18) rfl) (fl ?_)
   intro w19 hc20
   replace hc20:=aT hc20 g9
   refine aj rfl rfl (aa ?_)
   clear bx5
   refine a8 rfl (ma (vb false) (ad (aD (vs:=[vb false]) Try.func14 (.tmp rfl .nil) ?_)))
   have e0:(false:Bool)=(cS g):=by
     exact(cL (λh=>by have h2:=h.2.2.2 _ (bv (xs:=g.2) (i:=↑k) (by omega) ‹_›);unfold nP at h2;omega)).symm
   have C21:=cg [] (ch10.n.seq (hc15.n.seq (ch16.n.seq hc20.n)))
   replace bH:=bH.ca C21
   exact⟨rb e0,bH.below⟩
  refine ba (v:=vp b3 1) (wy (df q38_18)) (λw' hw'=>af d4 rfl rfl zs1 rfl) (ba (v:=g_v) (wy (df q38_18)) (λw' hw'=>ae bu rfl (bx5.bel hw') rfl) (ba (v:=vi ↑k) (wy (df q38_18)) (λw' hw'=>av zs3) (ba (v:=vi 1) (wy (df q38_18)) (λw' hw'=>av rfl) (ba (v:=Value.pointer (some (bA g_v 2 (Int.toNat ↑k)))) (wy (df q38_18)) (λw' hw'=>ag (α:=Pt) (xs:=g.2) (v:=g_v) (i:=↑k) dg rfl rfl (Rg.bel hw') rfl (by omega) (by omega)) ?_))))
  refine ba (v:=Value.pointer (some ⟨(bA g_v 2 (Int.toNat ↑k)).block,(bA g_v 2 (Int.toNat ↑k)).off+1,none⟩)) (wy (df q38_18)) (λw' hw'=>cj da rfl rfl rfl (by decide) (by decide) rfl) (ba (v:=vi ((gI g.2 ↑k).2)) (wy (df q38_18)) (λw' hw'=>d6 (α:=Pt) (xs:=g.2) (v:=g_v) (i:=↑k) ak rfl (Rg.bel hw') (by omega) (by omega) (by decide) rfl) (ba (v:=vp b3 0) (wy (df q38_18)) (λw' hw'=>af d4 rfl rfl zs1 rfl) (ba (v:=vi g.1) (wy (df q38_18)) (λw' hw'=>ae ak rfl (bx5.bel hw') rfl) ?_)))
  refine ba (v:=vb (decide (g.1<=((gI g.2 ↑k).2)))) (wy (df q38_18)) (λw' hw'=>fP (m:=(gI g.2 ↑k).2) (n:=g.1) rfl rfl) (qv (vb (decide (g.1<=((gI g.2 ↑k).2)))) (λw' hw'=>aS rfl (df q38_18) rfl) (fl ?_))
  intro w22 hc23
  replace hc23:=aT hc23 g9
  by_cases p9_24:g.1<=((gI g.2 ↑k).2)
  ·
   refine aj rfl (dt p9_24) (aa ?_)
   clear bx5
   refine a8 rfl (ma (vb false) (ad (aD (vs:=[vb false]) Try.func14 (.tmp rfl .nil) ?_)))
   have e0:(false:Bool)=(cS g):=by
     exact(cL (λh=>by have h2:=h.2.2.2 _ (bv (xs:=g.2) (i:=↑k) (by omega) ‹_›);unfold nP at h2;omega)).symm
   have C25:=cg [] (ch10.n.seq (hc15.n.seq (ch16.n.seq hc23.n)))
   replace bH:=bH.ca C25
   exact⟨rb e0,bH.below⟩
  refine ah rfl (df p9_24) (ap (am (a8 rfl (mi 1 (lx (aJ (m:=1) (n:=1) rfl rfl (by omega)) (ai 2 (ad (bV (aa (aa (a8 rfl ?_)))))))))))
  refine mi 2 (lx (bg (m:=2) (n:=2) rfl rfl) (ad (ah rfl rfl (aM rfl (am (a8 rfl (mz zs3 (lx (aJ (m:=↑k) (n:=1) rfl rfl (by omega)) (ai ((k:Int)+1) ?_)))))))))
  refine ad ?_
  have C26:=cg [] (ch10.n.seq (hc15.n.seq (ch16.n.seq hc23.n)))
  refine back4 (k+1,g9) _ _ ⟨bH.ca C26,zs1,rfl,Rg.cn hc23,bx5.cn hc23,by omega,?_⟩ ?_
  · show∀e∈List.take (k+1) g.2,nP g.1 e
    rw[bO ‹_›]
    intro e he
    rcases List.mem_append.1 he with h|h
    · exact hinv4 e h
    · obtain rfl:=List.mem_singleton.1 h
      refine⟨?_,?_⟩<;>omega
  · show Int.toNat (((g.2.length:Int):Int)-((k+1):Int))<Int.toNat (((g.2.length:Int):Int)-(k:Int))
    omega
 refine ah rfl (df p4) (aM rfl (aa ?_))
 clear bx5
 refine a8 rfl (ma (vb true) (ad (aD (vs:=[vb true]) Try.func14 (.tmp rfl .nil) ?_)))
 have e0:(true:Bool)=(cS g):=by
   exact(n8 ⟨by omega,by omega,by omega,by rw[List.take_of_length_le (by omega)] at hinv4;exact hinv4⟩).symm
 exact⟨rb e0,bH.below⟩
theorem uW(w0:World)(e:Pt):
    Calls Try.prog 90 #[vg [vi e.1,vi e.2]] w0 (λee w=>ee= .returned (vg [vi (min e.1 e.2),vi (max e.1 e.2)])/\e8 w0.heap.size w0 w):=by
 refine ar Try.func90 rfl nq ?_
 have bH:=bq.start w0
 refine aa (a8 rfl (cF rfl (cA c0 (is 1) (1,0) rfl rfl ?_)))
 intro g4 w1 b3 ch2 bx5
 replace bx5:Bx g4 (is 1) w1 b3 [vi e.1,vi e.2]:=bx5
 refine lo (bz g4 (is 2) (2,0) rfl aW ?_)
 intro g9 w6 b8 ch7 bx10
 replace bx10:Bx g9 (is 2) w6 b8 [vi 0,vi 0]:=bx10
 refine ad (aa (a8 rfl (lx (aA da rfl rfl rfl (by decide) (by decide) rfl) ?_)))
 replace bx5:=bx5.cn ch7
 refine lx (ae ak rfl bx5 rfl) (lx (aA da rfl rfl rfl (by decide) (by decide) rfl) (lx (ae ak rfl bx5 rfl) (lw (vi (min e.1 e.2)) (oB rfl rfl) (lx (aA da rfl rfl rfl (by decide) (by decide) rfl) (lx (ae ak rfl bx5 rfl) (lx (aA da rfl rfl rfl (by decide) (by decide) rfl) (lx (ae ak rfl bx5 rfl) (lw (vi (max e.1 e.2)) (lY rfl rfl) (lw (vg [vi (min e.1 e.2),vi (max e.1 e.2)]) (bC (vs:=[(0,vi (min e.1 e.2)),(1,vi (max e.1 e.2))]) rfl (by kernel_rfl)) ?_)))))))))
 refine lo (aF (cs':=[vi (min e.1 e.2),vi (max e.1 e.2)]) aW rfl rfl bx10 rfl nq (AllOne.all (.cons rfl (.cons rfl .nil))) rfl ?_)
 intro w11 ch12 bx13
 clear bx10
 refine ad (aD (vs:=[vg [vi (min e.1 e.2),vi (max e.1 e.2)]]) Try.func90 (.cell rfl (bK (ds:=[vi (min e.1 e.2),vi (max e.1 e.2)]) aW bx13 rfl rfl) .nil) ?_)
 have e0:((min e.1 e.2,max e.1 e.2):Pt)=((min e.1 e.2,max e.1 e.2)):=by
   rfl
 have C14:=cg [2] (ch2.n.seq (ch7.n.seq (ch12.l rfl)))
 replace bH:=bH.ca C14
 exact⟨(congrArg (a₁:=(min e.1 e.2,max e.1 e.2)) (λ(z0:Pt)=>Ending.returned (vg [vi z0.1,vi z0.2])) e0),bH.below⟩
theorem sb(w0:World)(l:List Int)(l_v:Value)(hl_v:Ro w0 l_v l)(n:Int)(hn:0<=n/\n<=1000000):
    Calls Try.prog 91 #[l_v,vi n] w0 (λee w=>ee= .returned (vi (cG l n))/\e8 w0.heap.size w0 w):=by
 refine ar Try.func91 rfl nq ?_
 have bH:=bq.start w0
 have Rl:=hl_v.sl
 have hn1:=hn.1
 have hn2:=hn.2
 refine aa (a8 rfl (ai 0 (ad (aa (a8 rfl (mi n (lo (eD (α:=Bool) (l:=n) (cp:=n) c0 (is 1) (is 1) (1,0) rfl false gA cE rfl rfl rfl (by omega) (by omega) (by omega) (by omega) ?_))))))))
 intro g1 w2 v3 ch4 o5 _
 refine ma v3 (ad (aa (aa (a8 rfl (mv l_v ?_)))))
 replace Rl:=Rl.cn ch4
 have len6:=(Rl).small
 refine lx (bJ bD rfl Rl) (mi 0 (ad (ao ?_)))
 refine b9 (σ:=Nat×(List Bool)×aL) (λ⟨k,seen,gq⟩ f w=>bq w0 gq w/\f 1=vi n/\f 5=v3/\f 10=l_v/\f 11=vi (l.length:Int)/\f 12=vi ↑k/\Sl gq (is 0) w l_v l/\Ow gq (is 1) (is 1) w v3 seen/\(k:Int)<=((l.length:Int):Int)/\(e7 seen l n k)) (λ⟨k,seen,gq⟩=>Int.toNat (((l.length:Int):Int)-(k:Int))) (0,(List.replicate (Int.toNat n) false),g1) ?_ ?_
 · exact⟨bH.cn ch4,rfl,rfl,rfl,rfl,rfl,Rl,o5,by omega,by exact e7.start l n hn1⟩
 clear Rl o5 bH
 rintro⟨k,seen,g9⟩ f7 w8 ⟨bH,zs1,zs5,zs10,zs11,zs12,Rl,o5,hle_k,hsI⟩ back3
 have hsl:=hsI.len
 refine aa (a8 rfl (lx (bg (m:=↑k) (n:=(l.length:Int)) zs12 zs11) (ad (aa ?_))))
 by_cases p3:(k:Int)<(l.length:Int)
 ·
  refine aj rfl (dt p3) (ap (aa (ao (aa (a8 rfl (lx (ag (v:=l_v) (i:=↑k) bD rfl zs10 Rl zs12 (by omega) (by omega)) (lx (aw (v:=l_v) (i:=↑k) ak rfl Rl (by omega) (by omega) (by decide) rfl) (ai (gI l ↑k) (ad (aa (aa (a8 rfl (mi (gI l ↑k) ?_)))))))))))))
  refine lx (bg (m:=(gI l ↑k)) (n:=0) rfl rfl) (mv (vb (decide ((gI l ↑k)<0))) ?_)
  by_cases q18:(gI l ↑k)<0
  ·
   refine az (wn (dt q18)) (az (wn (dt q18)) (az (wn (dt q18)) (lw (vb true) (aV rfl (dt q18) rfl) (ad (aj rfl rfl (aa ?_))))))
   clear o5
   refine a8 rfl (ai 2 (ad (aD (vs:=[vi 2]) Try.func91 (.tmp rfl .nil) ?_)))
   have e0:(2:Int)=(cG l n):=by
     exact hsI.bad ‹_› (by omega)
   exact⟨ri e0,bH.below⟩
  refine lv (vi (gI l ↑k)) (wy (df q18)) (av rfl) (lv (vi n) (wy (df q18)) (av zs1) (lv (vb (decide (n<=(gI l ↑k)))) (wy (df q18)) (fP (m:=(gI l ↑k)) (n:=n) rfl rfl) (lw (vb (decide (n<=(gI l ↑k)))) (aS rfl (df q18) rfl) (ad ?_))))
  by_cases p5:n<=(gI l ↑k)
  ·
   refine aj rfl (dt p5) (aa ?_)
   clear o5
   refine a8 rfl (ai 2 (ad (aD (vs:=[vi 2]) Try.func91 (.tmp rfl .nil) ?_)))
   have e0:(2:Int)=(cG l n):=by
     exact hsI.bad ‹_› (by omega)
   exact⟨ri e0,bH.below⟩
  refine ah rfl (df p5) (ap (aa (aa (a8 rfl (mz zs5 (mi (gI l ↑k) (lx (ag (v:=v3) (i:=(gI l ↑k)) gA rfl rfl o5.flat rfl (by omega) (by omega)) (lx (aw (v:=v3) (i:=(gI l ↑k)) cE rfl o5.flat (by omega) (by omega) (by decide) rfl) (ad ?_)))))))))
  by_cases p7:(gI seen (gI l ↑k))=true
  ·
   refine aj rfl p7 (aa ?_)
   clear o5
   refine a8 rfl (ai 18 (ad (aD (vs:=[vi 18]) Try.func91 (.tmp rfl .nil) ?_)))
   have e0:(18:Int)=(cG l n):=by
     exact hsI.twice ‹_› (by omega) (by omega) ‹_›
   exact⟨ri e0,bH.below⟩
  refine ah rfl (Bool.eq_false_iff.2 p7) (ap (a8 rfl (mz zs5 (mi (gI l ↑k) (lx (ag (v:=v3) (i:=(gI l ↑k)) gA rfl rfl o5.flat rfl (by omega) (by omega)) (lo (aP (i:=(gI l ↑k)) true cE rfl rfl o5 (by omega) (by omega) rfl ?_)))))))
  intro w10 ch11 bx12
  clear o5
  refine ad (am (a8 rfl (lx (aJ (m:=↑k) (n:=1) zs12 rfl (by omega)) (mi ((k:Int)+1) (ad ?_)))))
  refine back3 (k+1,(List.set seen (Int.toNat (gI l ↑k)) true),g9) _ _ ⟨bH.ce ch11,zs1,zs5,zs10,zs11,rfl,Rl.ce ch11,bx12,by omega,?_⟩ ?_
  · show e7 (List.set seen (Int.toNat (gI l ↑k)) true) l n (k+1)
    exact hsI.next ‹_› (by omega) (by omega) (Bool.eq_false_iff.2 ‹_›)
  · show Int.toNat (((l.length:Int):Int)-((k+1):Int))<Int.toNat (((l.length:Int):Int)-(k:Int))
    omega
 refine ah rfl (df p3) (aM rfl (aa ?_))
 clear o5
 refine a8 rfl (ai 0 (ad (aD (vs:=[vi 0]) Try.func91 (.tmp rfl .nil) ?_)))
 have e0:(0:Int)=(cG l n):=by
   exact hsI.done ‹_›
 exact⟨ri e0,bH.below⟩
theorem wo(w0:World)(g:(Int)×(List Pt))(g_v:Value)(hg_v:Ro w0 g_v g.2)(nodes:List Int)(nodes_v:Value)(hnodes_v:Ro w0 nodes_v nodes):
    Calls Try.prog 74 #[vg [vi g.1,g_v],nodes_v] w0 (λee w=>∃xx:aL×Value×Value,ee= .returned ((λ⟨δ,rv0,rv1⟩=>vt [vg [vi (((cZ g nodes).1).1),rv0],rv1,vi ((cZ g nodes).2.2)]) xx)/\(λ(⟨δ,rv0,rv1⟩:aL×Value×Value) (w:World)=>eX w0 δ w/\Ow δ (is 1) (is 1) w rv0 (((cZ g nodes).1).2)/\Ow δ (is 2) (is 2) w rv1 ((cZ g nodes).2.1)) xx w):=by
 refine ar Try.func74 rfl nq ?_
 have bH:=bq.start w0
 have Rg:=hg_v.sl
 have Rnodes:=hnodes_v.sl
 refine aa (a8 rfl (cF rfl (cA c0 (is 1) (1,0) rfl rfl ?_)))
 intro g4 w1 b3 ch2 bx5
 replace bx5:Bx g4 (is 1) w1 b3 [vi g.1,g_v]:=bx5
 refine lo (bz g4 (is 2) (2,0) rfl aK ?_)
 intro g9 w6 b8 ch7 bx10
 replace bx10:Bx g9 (is 2) w6 b8 [vi 0,vn]:=bx10
 refine ma vn (ai 0 (ad (aa (aa (a8 rfl ?_)))))
 replace bx5:=bx5.cn ch7
 refine lx (aB (ds:=[vi g.1,g_v]) aK rfl bx5 rfl rfl) ?_
 replace Rg:=(Rg.cn ch2).cn ch7
 refine lo (bT (v:=vb (cS g)) (aQ (vals:=[vg [vi g.1,g_v]]) Try.func28 ir ig rfl) (iv w6 g g_v (Rg).ro) ?_)
 intro w11 hb12
 replace hb12:=aT hb12 g9
 refine lx (eF (b:=(cS g)) rfl) (ad ?_)
 by_cases p1:(cS g)=true
 ·
  refine ah rfl (congrArg Bool.not p1) (ap (aa (aa ?_)))
  obtain⟨hm1,hm2,hm3,hm4⟩:=of_decide_eq_true p1
  refine a8 rfl (mv nodes_v (lx (af d4 rfl rfl rfl rfl) ?_))
  replace bx5:=bx5.cn hb12
  refine lx (ae ak rfl bx5 rfl) ?_
  have C13:=cg [] (ch2.n.seq (ch7.n.seq hb12.n))
  replace Rnodes:=Rnodes.ca C13
  refine lo (bT (v:=vi (cG nodes g.1)) (aQ (vals:=[nodes_v,vi g.1]) Try.func91 y6 ye rfl) (sb w11 nodes nodes_v (Rnodes).ro g.1 (by omega)) ?_)
  intro w14 hb15
  replace hb15:=aT hb15 g9
  refine ai (cG nodes g.1) (ad (aa (a8 rfl (mi (cG nodes g.1) (lx (dv (m:=cG nodes g.1) (n:=0) rfl rfl) (ad ?_))))))
  by_cases p4:(cG nodes g.1)=0
  ·
   refine ah rfl (congrArg Bool.not (dt p4)) (ap (aa ?_))
   have hch:=qQ p4
   refine a8 rfl (lx (af d4 rfl rfl rfl rfl) ?_)
   replace bx5:=bx5.cn hb15
   refine lx (ae ak rfl bx5 rfl) (lo (eD (α:=Int) (l:=g.1) (cp:=g.1) g9 (is 3) (is 3) (3,0) rfl (0:Int) bD ak rfl rfl rfl (by omega) (by omega) (by omega) (by omega) ?_))
   intro g16 w17 v18 ch19 o20 _
   refine ma v18 (ad (aa (aa (a8 rfl (mv nodes_v ?_)))))
   replace Rnodes:=(Rnodes.cn hb15).cn ch19
   have len21:=(Rnodes).small
   refine lx (bJ bD rfl Rnodes) (mi 0 (ad (ao ?_)))
   refine b9 (σ:=Nat×(List Int)×aL) (λ⟨k,to_,gq⟩ f w=>bq w0 gq w/\f 1=nodes_v/\f 2=vp b3 0/\f 4=vp b8 0/\f 8=v18/\f 30=nodes_v/\f 31=vi (nodes.length:Int)/\f 32=vi ↑k/\Sl gq (is 0) w g_v g.2/\Sl gq (is 0) w nodes_v nodes/\Bx gq (is 1) w b3 [vi g.1,g_v]/\Bx gq (is 2) w b8 [vi 0,vn]/\Ow gq (is 3) (is 3) w v18 to_/\(k:Int)<=((nodes.length:Int):Int)/\(iu to_ nodes g.1 k)) (λ⟨k,to_,gq⟩=>Int.toNat (((nodes.length:Int):Int)-(k:Int))) (0,(List.replicate (Int.toNat g.1) (0:Int)),g16) ?_ ?_
   have C23:=cg [] (hb12.n.seq (hb15.n.seq ch19.n))
   have C22:=ch2.n.seq (ch7.n.seq C23)
   · exact⟨bH.ca C22,rfl,rfl,rfl,rfl,rfl,rfl,rfl,Rg.ca C23,Rnodes,bx5.cn ch19,bx10.ca C23,o20,by omega,by exact iu.start nodes g.1 hm1⟩
   clear Rg Rnodes bx5 bx10 o20 bH
   rintro⟨k,to_,g26⟩ f24 w25 ⟨bH,zs1,zs2,zs4,zs8,zs30,zs31,zs32,Rg,Rnodes,bx5,bx10,o20,hle_k,hpi⟩ back8
   have htl:=hpi.len
   refine aa (a8 rfl (lx (bg (m:=↑k) (n:=(nodes.length:Int)) zs32 zs31) (ad (aa ?_))))
   by_cases p8:(k:Int)<(nodes.length:Int)
   ·
    refine aj rfl (dt p8) (ap (aa (ao (aa ?_))))
    obtain⟨hk1,hk2⟩:=hch.1 _ (bv (xs:=nodes) (i:=↑k) (by omega) p8)
    refine a8 rfl (mz zs32 (lx (ag (v:=nodes_v) (i:=↑k) bD rfl zs30 Rnodes zs32 (by omega) (by omega)) (lx (aw (v:=nodes_v) (i:=↑k) ak rfl Rnodes (by omega) (by omega) (by decide) rfl) (ai (k:Int) (ai (gI nodes ↑k) (ad (a8 rfl (mz zs8 (mi (gI nodes ↑k) (mi ↑k ?_))))))))))
    refine lx (aJ (m:=↑k) (n:=1) rfl rfl (by omega)) (lx (ag (v:=v18) (i:=(gI nodes ↑k)) bD rfl rfl o20.flat rfl (by omega) (by omega)) (lo (aP (i:=(gI nodes ↑k)) ((k:Int)+1) ak rfl rfl o20 (by omega) (by omega) rfl ?_)))
    intro w27 ch28 bx29
    clear o20
    refine ad (am (a8 rfl (lx (aJ (m:=↑k) (n:=1) zs32 rfl (by omega)) (mi ((k:Int)+1) (ad ?_)))))
    refine back8 (k+1,(List.set to_ (Int.toNat (gI nodes ↑k)) ((k:Int)+1)),g26) _ _ ⟨bH.ce ch28,zs1,zs2,zs4,zs8,zs30,zs31,rfl,Rg.ce ch28,Rnodes.ce ch28,bx5.ce ch28,bx10.ce ch28,bx29,by omega,?_⟩ ?_
    · show iu (List.set to_ (Int.toNat (gI nodes ↑k)) ((k:Int)+1)) nodes g.1 (k+1)
      exact hpi.next ‹_› hk1 hk2 hch.2
    · show Int.toNat (((nodes.length:Int):Int)-((k+1):Int))<Int.toNat (((nodes.length:Int):Int)-(k:Int))
      omega
   refine ah rfl (df p8) (aM rfl (aa ?_))
   have hto:∀v,0<=v->v<g.1->gI to_ v=dq nodes v:=by have:=hpi.pos;rwa[List.take_of_length_le (by omega)] at this
   clear hpi
   refine a8 rfl (mz zs1 (lx (bJ bD rfl Rnodes) (lw (vg [vi (nodes.length:Int),vn]) (bC (vs:=[(0,vi (nodes.length:Int))]) rfl (by kernel_rfl)) (lo (bz g26 (is 4) (4,0) rfl aK ?_)))))
   intro g33 w30 b32 ch31 bx34
   replace bx34:Bx g33 (is 4) w30 b32 [vi 0,vn]:=bx34
   refine lo (aF (cs':=[vi (nodes.length:Int),vn]) aK rfl rfl bx34 rfl nq (AllOne.all (.cons rfl (.cons rfl .nil))) rfl ?_)
   intro w35 ch36 bx37
   clear bx34
   refine ad (aa (a8 rfl (ma vn (ad (aa (aa (a8 rfl (lx (af d4 rfl rfl zs2 rfl) ?_))))))))
   replace bx5:=(bx5.cn ch31).ce ch36
   refine lx (ae bu rfl bx5 rfl) ?_
   replace Rg:=(Rg.cn ch31).ce ch36
   have len38:=(Rg).small
   refine lx (bJ dg rfl Rg) (mi 0 (ad (ao ?_)))
   clear bx5
   refine b9 (σ:=Value×(List Pt)×Value×(List Int)×Nat×aL) (λ⟨out_1_v,out_1,which_v,which,k,gq⟩ f w=>bq w0 gq w/\f 4=vp b8 0/\f 8=v18/\f 11=vp b32 0/\f 12=which_v/\f 47=g_v/\f 48=vi (g.2.length:Int)/\f 49=vi ↑k/\Sl gq (is 0) w g_v g.2/\Sl gq (is 0) w nodes_v nodes/\Bx gq (is 2) w b8 [vi 0,vn]/\Ow gq (is 3) (is 3) w v18 to_/\Bx gq (is 4) w b32 [vi (nodes.length:Int),out_1_v]/\Ow gq (is 7) (is 7) w out_1_v out_1/\Ow gq (is 9) (is 9) w which_v which/\(k:Int)<=((g.2.length:Int):Int)/\(which=dm g nodes k/\out_1=(dm g nodes k).map (λi=>(dq nodes (gI g.2 i).1-1,dq nodes (gI g.2 i).2-1)))) (λ⟨out_1_v,out_1,which_v,which,k,gq⟩=>Int.toNat (((g.2.length:Int):Int)-(k:Int))) (vn,[],vn,[],0,g33) ?_ ?_
   replace bH:=bH.cn ch31
   · exact⟨bH.ce ch36,zs4,zs8,rfl,rfl,rfl,rfl,rfl,Rg,(Rnodes.cn ch31).ce ch36,(bx10.cn ch31).ce ch36,(o20.cn ch31).ce ch36,bx37,Ow.nil,Ow.nil,by omega,by exact⟨rfl,rfl⟩⟩
   clear Rg Rnodes bx10 o20 bx37 bH
   rintro⟨out_1_v,out_1,which_v,which,k,g41⟩ f39 w40 ⟨bH,zs4,zs8,zs11,zs12,zs47,zs48,zs49,Rg,Rnodes,bx10,o20,bx37,o_out_1,o_which,hle_k,hinv15⟩ back15
   refine aa (a8 rfl (lx (bg (m:=↑k) (n:=(g.2.length:Int)) zs49 zs48) (ad (aa ?_))))
   by_cases p15:(k:Int)<(g.2.length:Int)
   ·
    refine aj rfl (dt p15) (ap (aa (ao (aa ?_))))
    obtain⟨⟨he1,he2⟩,he3,he4⟩:=hm4 _ (bv (xs:=g.2) (i:=↑k) (by omega) p15)
    have hg1:=hto _ he1 he2
    have hg2:=hto _ he3 he4
    refine a8 rfl (mz zs49 (lx (ag (v:=g_v) (i:=↑k) dg rfl zs47 Rg zs49 (by omega) (by omega)) (lw (vg [vi ((gI g.2 ↑k).1),vi ((gI g.2 ↑k).2)]) (cv (v:=g_v) (i:=↑k) aW rfl Rg (by omega) (by omega) rfl) (lo (bz g41 (is 5) (5,0) rfl aW ?_)))))
    intro g45 w42 b44 ch43 bx46
    replace bx46:Bx g45 (is 5) w42 b44 [vi 0,vi 0]:=bx46
    refine ai (k:Int) (lo (aF (cs':=[vi ((gI g.2 ↑k).1),vi ((gI g.2 ↑k).2)]) aW rfl rfl bx46 rfl nq (AllOne.all (.cons rfl (.cons rfl .nil))) rfl ?_))
    intro w47 ch48 bx49
    clear bx46
    refine ad (aa (a8 rfl (mz zs8 (lx (aA da rfl rfl rfl (by decide) (by decide) rfl) (lx (ae ak rfl bx49 rfl) ?_)))))
    replace o20:=(o20.cn ch43).ce ch48
    refine lx (ag (v:=v18) (i:=(gI g.2 ↑k).1) bD rfl rfl o20.flat rfl (by omega) (by omega)) (lx (aw (v:=v18) (i:=(gI g.2 ↑k).1) ak rfl o20.flat (by omega) (by omega) (by decide) rfl) (lx (eo (m:=(gI to_ ((gI g.2 ↑k).1))) (n:=0) rfl rfl) (mv (vb (decide (0<(gI to_ ((gI g.2 ↑k).1))))) ?_)))
    by_cases q60:0<(gI to_ ((gI g.2 ↑k).1))
    ·
     refine lv (v18) (wy (dt q60)) (av zs8) (lv (vp b44 1) (wy (dt q60)) (aA da rfl rfl rfl (by decide) (by decide) rfl) (lv (vi ((gI g.2 ↑k).2)) (wy (dt q60)) (ae ak rfl bx49 rfl) (lv (Value.pointer (some (bA v18 1 (Int.toNat ((gI g.2 ↑k).2))))) (wy (dt q60)) (ag (α:=Int) (xs:=to_) (v:=v18) (i:=(gI g.2 ↑k).2) bD rfl rfl o20.flat rfl (by omega) (by omega)) (lv (vi (gI to_ ((gI g.2 ↑k).2))) (wy (dt q60)) (aw (α:=Int) (xs:=to_) (v:=v18) (i:=(gI g.2 ↑k).2) ak rfl o20.flat (by omega) (by omega) (by decide) rfl) ?_))))
     refine lv (vb (decide (0<(gI to_ ((gI g.2 ↑k).2))))) (wy (dt q60)) (eo (m:=(gI to_ ((gI g.2 ↑k).2))) (n:=0) rfl rfl) (lw (vb (decide (0<(gI to_ ((gI g.2 ↑k).2))))) (aV rfl (dt q60) rfl) (ad ?_))
     by_cases p17:0<(gI to_ ((gI g.2 ↑k).2))
     ·
      refine aj rfl (dt p17) (aa ?_)
      have hn1:=jG nodes (gI g.2 ↑k).1
      have hn2:=jG nodes (gI g.2 ↑k).2
      have hw2:=qK g nodes k
      rw[<-hinv15.1] at hw2
      have hw3:out_1.length<=k:=by rw[hinv15.2,List.length_map,<-hinv15.1];exact hw2
      refine bB g45 [0,1,2,3,4,5,6,7,8,9,10,11,12,13,14,17] nM ?_
      intro w51 ch50
      refine xp 0 rfl (λw=>af d4 rfl rfl zs11 rfl) ?_
      have C52:=cg [5] (ch43.n.seq ((ch48.l rfl).seq ch50.n))
      replace bx37:=bx37.ca C52
      refine xh 1 [0,2,3,8,9,4,10,5,11,6,12,7,13,14,15] rfl (λw' hw'=>ae bu rfl (bx37.bel hw') rfl) (xp (v:=v18) 2 rfl (λw=>av zs8) (xv 3 [2,1,0,8,9,10,11,12,13] rfl (aA da rfl rfl rfl (by decide) (by decide) rfl) ?_))
      replace bx49:=bx49.cn ch50
      refine xv 4 [3,2,1,0,8,9,10,11,12,13] rfl (ae ak rfl bx49 rfl) ?_
      replace o20:=o20.cn ch50
      refine xv 5 [4,3,2,1,0,8,9,10,11,12,13] rfl (ag (v:=v18) (i:=(gI g.2 ↑k).1) bD rfl rfl o20.flat rfl (by omega) (by omega)) (xv 6 [5,4,3,2,1,0,8,9,10,11,12,13] rfl (aw (v:=v18) (i:=(gI g.2 ↑k).1) ak rfl o20.flat (by omega) (by omega) (by decide) rfl) (xp 7 rfl (λw=>dF (m:=(gI to_ ((gI g.2 ↑k).1))) (n:=1) rfl rfl (by omega)) (xp (v:=v18) 8 rfl (λw=>av zs8) (xv 9 [8,7,6,5,4,3,2,1,0] rfl (aA da rfl rfl rfl (by decide) (by decide) rfl) (xv 10 [9,8,7,6,5,4,3,2,1,0] rfl (ae ak rfl bx49 rfl) (xv 11 [10,9,8,7,6,5,4,3,2,1,0] rfl (ag (v:=v18) (i:=(gI g.2 ↑k).2) bD rfl rfl o20.flat rfl (by omega) (by omega)) ?_))))))
      refine xv 12 [11,10,9,8,7,6,5,4,3,2,1,0] rfl (aw (v:=v18) (i:=(gI g.2 ↑k).2) ak rfl o20.flat (by omega) (by omega) (by decide) rfl) (xp 13 rfl (λw=>dF (m:=(gI to_ ((gI g.2 ↑k).2))) (n:=1) rfl rfl (by omega)) (xp (v:=vg [vi ((gI to_ ((gI g.2 ↑k).1))-1),vi ((gI to_ ((gI g.2 ↑k).2))-1)]) 14 rfl (λw=>bC (vs:=[(0,vi ((gI to_ ((gI g.2 ↑k).1))-1)),(1,vi ((gI to_ ((gI g.2 ↑k).2))-1))]) rfl (by kernel_rfl)) (bc 15 rfl (by kernel_rfl) rfl ?_)))
      refine aC (α:=Pt) g45 (is 6) (is 6) (6,0) rfl [((gI to_ ((gI g.2 ↑k).1))-1,(gI to_ ((gI g.2 ↑k).2))-1)] dg aW (by decide) (by decide) (vs:=[(0,vg [vi ((gI to_ ((gI g.2 ↑k).1))-1),vi ((gI to_ ((gI g.2 ↑k).2))-1)])]) rfl rfl (.cons rfl .nil) ?_
      intro g53 w54 v55 ch56 o57
      refine bc 16 rfl (by kernel_rfl) rfl ?_
      have C58:=cg [5] (ch43.n.seq ((ch48.l rfl).seq (ch50.n.seq ch56.n)))
      replace o_out_1:=o_out_1.ca C58
      refine br (α:=Pt) (xs:=out_1) (ys:=([((gI to_ ((gI g.2 ↑k).1))-1,(gI to_ ((gI g.2 ↑k).2))-1)])) g53 (J:=is 7) (S:=is 7) (7,0) rfl dg aW (by decide) rfl rfl rfl o_out_1 o57.flat (by decide) (by(simp;omega)) ?_
      intro g59 w60 v61 ch62 o63
      clear o_out_1
      refine xp 17 rfl (λw=>af d4 rfl rfl zs11 rfl) (bc 18 rfl (by kernel_rfl) rfl ?_)
      replace bx37:=(bx37.cn ch56).ce ch62
      refine bQ (cs':=[vi (nodes.length:Int),v61]) bu rfl rfl bx37 (bN o63.flat) nq (bm o63.flat) rfl ?_
      intro w64 ch65 bx66
      clear bx37
      refine bY (by kernel_rfl) ?_
      clear bx49 o57
      refine a8 rfl (mz zs12 (mi ↑k (lo (aC (α:=Int) g59 (is 8) (is 8) (8,0) rfl [(k:Int)] bD ak (by decide) (by decide) (vs:=[(0,vi ↑k)]) rfl rfl (.cons rfl .nil) ?_))))
      intro g67 w68 v69 ch70 o71
      refine lo ?_
      have C72:=cg [4,5,7] (ch43.n.seq ((ch48.l rfl).seq (ch50.n.seq (ch56.n.seq ((ch62.l rfl).seq ((ch65.l rfl).seq ch70.n))))))
      replace o_which:=o_which.ca C72
      refine br (α:=Int) (xs:=which) (ys:=([(k:Int)])) g67 (J:=is 9) (S:=is 9) (9,0) rfl bD ak (by decide) rfl rfl rfl o_which o71.flat (by decide) (by(simp;omega)) ?_
      intro g73 w74 v75 ch76 o77
      clear o_which
      refine ma v75 (ad (am ?_))
      clear o71
      refine a8 rfl (lx (aJ (m:=↑k) (n:=1) zs49 rfl (by omega)) (mi ((k:Int)+1) (ad ?_)))
      have C78:=cg [4,5,7,9] (ch43.n.seq ((ch48.l rfl).seq (ch50.n.seq (ch56.n.seq ((ch62.l rfl).seq ((ch65.l rfl).seq (ch70.n.seq (ch76.l rfl))))))))
      have C79:=cg [4,7,9] (ch56.n.seq ((ch62.l rfl).seq ((ch65.l rfl).seq (ch70.n.seq (ch76.l rfl)))))
      have C80:=cg [4,9] ((ch65.l rfl).seq (ch70.n.seq (ch76.l rfl)))
      refine back15 (v61,(out_1++[((gI to_ ((gI g.2 ↑k).1))-1,(gI to_ ((gI g.2 ↑k).2))-1)]),v75,(which++[(k:Int)]),k+1,g73) _ _ ⟨bH.ca C78,zs4,zs8,zs11,rfl,zs47,zs48,rfl,Rg.ca C78,Rnodes.ca C78,bx10.ca C78,o20.ca C79,(bx66.cn ch70).ce ch76,o63.ca C80,o77,by omega,?_⟩ ?_
      · show(which++[(k:Int)])=dm g nodes (k+1)/\(out_1++[((gI to_ ((gI g.2 ↑k).1))-1,(gI to_ ((gI g.2 ↑k).2))-1)])=(dm g nodes (k+1)).map (λi=>(dq nodes (gI g.2 i).1-1,dq nodes (gI g.2 i).2-1))
        rw[qL (by omega) (by omega),hinv15.1,hinv15.2,hg1,hg2];simp
      · show Int.toNat (((g.2.length:Int):Int)-((k+1):Int))<Int.toNat (((g.2.length:Int):Int)-(k:Int))
        omega
     refine ah rfl (df p17) (ap (am ?_))
     clear bx49
     refine a8 rfl (lx (aJ (m:=↑k) (n:=1) zs49 rfl (by omega)) (mi ((k:Int)+1) (ad ?_)))
     replace bH:=bH.cn ch43
     refine back15 (out_1_v,out_1,which_v,which,k+1,g45) _ _ ⟨bH.ce ch48,zs4,zs8,zs11,zs12,zs47,zs48,rfl,(Rg.cn ch43).ce ch48,(Rnodes.cn ch43).ce ch48,(bx10.cn ch43).ce ch48,o20,(bx37.cn ch43).ce ch48,(o_out_1.cn ch43).ce ch48,(o_which.cn ch43).ce ch48,by omega,?_⟩ ?_
     · show which=dm g nodes (k+1)/\out_1=(dm g nodes (k+1)).map (λi=>(dq nodes (gI g.2 i).1-1,dq nodes (gI g.2 i).2-1))
       rw[qC (by omega)];exact hinv15
     · show Int.toNat (((g.2.length:Int):Int)-((k+1):Int))<Int.toNat (((g.2.length:Int):Int)-(k:Int))
       omega
    refine az (wn (df q60)) (az (wn (df q60)) (az (wn (df q60)) (az (wn (df q60)) (az (wn (df q60)) (az (wn (df q60)) (lw (vb false) (aS rfl (df q60) rfl) (ad (ah rfl rfl (ap ?_)))))))))
    refine am ?_
    clear bx49
    refine a8 rfl (lx (aJ (m:=↑k) (n:=1) zs49 rfl (by omega)) (mi ((k:Int)+1) (ad ?_)))
    replace bH:=bH.cn ch43
    refine back15 (out_1_v,out_1,which_v,which,k+1,g45) _ _ ⟨bH.ce ch48,zs4,zs8,zs11,zs12,zs47,zs48,rfl,(Rg.cn ch43).ce ch48,(Rnodes.cn ch43).ce ch48,(bx10.cn ch43).ce ch48,o20,(bx37.cn ch43).ce ch48,(o_out_1.cn ch43).ce ch48,(o_which.cn ch43).ce ch48,by omega,?_⟩ ?_
    · show which=dm g nodes (k+1)/\out_1=(dm g nodes (k+1)).map (λi=>(dq nodes (gI g.2 i).1-1,dq nodes (gI g.2 i).2-1))
      rw[qS (by omega)];exact hinv15
    · show Int.toNat (((g.2.length:Int):Int)-((k+1):Int))<Int.toNat (((g.2.length:Int):Int)-(k:Int))
      omega
   refine ah rfl (df p15) (aM rfl (aa ?_))
   clear o20
   refine a8 rfl (lx (aB (ds:=[vi (nodes.length:Int),out_1_v]) aK zs11 bx37 rfl rfl) (mz zs12 (lo (aF (cs':=[vi (nodes.length:Int),out_1_v]) aK zs4 rfl bx10 rfl nq (AllOne.all (.cons rfl (.cons (bm o_out_1.flat) .nil))) rfl ?_))))
   intro w81 ch82 bx83
   clear bx10
   refine ma which_v (ai 0 (ad (aD (vs:=[vg [vi (nodes.length:Int),out_1_v],which_v,vi 0]) Try.func74 (.cell zs4 (bK (ds:=[vi (nodes.length:Int),out_1_v]) aK bx83 rfl rfl) (.tmp rfl (.tmp rfl .nil))) ?_)))
   replace bH:=bH.ce ch82
   replace o_out_1:=o_out_1.ce ch82
   replace o_which:=o_which.ce ch82
   have e0:(((nodes.length:Int),out_1):(Int)×(List Pt))=((cZ g nodes).1):=by
     have hm:=of_decide_eq_true p1
     have hk:k=g.2.length:=by omega
     subst hk
     obtain⟨e1,e2⟩:=hinv15
     simp[cZ,hm,p4,e1,e2,dm,lH]
   have e1:(which:List Int)=((cZ g nodes).2.1):=by
     have hm:=of_decide_eq_true p1
     have hk:k=g.2.length:=by omega
     subst hk
     obtain⟨e1,e2⟩:=hinv15
     simp[cZ,hm,p4,e1,e2,dm,lH]
   have e2:(0:Int)=((cZ g nodes).2.2):=by
     have hm:=of_decide_eq_true p1
     have hk:k=g.2.length:=by omega
     subst hk
     obtain⟨e1,e2⟩:=hinv15
     simp[cZ,hm,p4,e1,e2,dm,lH]
   exact⟨(fin w0 g41 (λn=>if n=7 then 1 else if n=9 then 2 else 0),out_1_v,which_v),(jh (a:=((nodes.length:Int),out_1)) (b:=which) (c:=0) (λ(z0:(Int)×(List Pt)) (z1:List Int) (z2:Int)=>Ending.returned (vt [vg [vi z0.1,out_1_v],which_v,vi z2])) e0 e1 e2),bH.fresh _,((congrArg (λ(z:(Int)×(List Pt))=>z.2) e0)▸(o_out_1.glue (γ:=c0) (ren:=(λn=>if n=7 then 1 else if n=9 then 2 else 0)) (k:=1) bH.col rfl rfl)),(e1▸(o_which.glue (γ:=c0) (ren:=(λn=>if n=7 then 1 else if n=9 then 2 else 0)) (k:=2) bH.col rfl rfl))⟩
  refine aj rfl (congrArg Bool.not (df p4)) (aa ?_)
  clear bx5
  refine a8 rfl (lw (vg [vi 0,vn]) (bC (vs:=[]) rfl (by kernel_rfl)) (mi (cG nodes g.1) (lo ?_)))
  replace bx10:=(bx10.cn hb12).cn hb15
  refine aF (cs':=[vi 0,vn]) aK rfl rfl bx10 rfl nq (AllOne.all (.cons rfl (.cons rfl .nil))) rfl ?_
  intro w84 ch85 bx86
  clear bx10
  refine ma vn (ai (cG nodes g.1) (ad (aD (vs:=[vg [vi 0,vn],vn,vi (cG nodes g.1)]) Try.func74 (.cell rfl (bK (ds:=[vi 0,vn]) aK bx86 rfl rfl) (.tmp rfl (.tmp rfl .nil))) ?_)))
  have C87:=cg [2] (ch2.n.seq (ch7.n.seq (hb12.n.seq (hb15.n.seq (ch85.l rfl)))))
  replace bH:=bH.ca C87
  have e0:((0,[]):(Int)×(List Pt))=((cZ g nodes).1):=by
    have hm:=of_decide_eq_true p1
    simp[cZ,hm,p4]
  have e1:([]:List Int)=((cZ g nodes).2.1):=by
    have hm:=of_decide_eq_true p1
    simp[cZ,hm,p4]
  have e2:(cG nodes g.1:Int)=((cZ g nodes).2.2):=by
    have hm:=of_decide_eq_true p1
    simp[cZ,hm,p4]
  exact⟨(fin w0 g9 (λn=>0),vn,vn),(jh (a:=(0,[])) (b:=[]) (c:=cG nodes g.1) (λ(z0:(Int)×(List Pt)) (z1:List Int) (z2:Int)=>Ending.returned (vt [vg [vi z0.1,vn],vn,vi z2])) e0 e1 e2),bH.fresh _,((congrArg (λ(z:(Int)×(List Pt))=>z.2) e0)▸Ow.nil),(e1▸Ow.nil)⟩
 refine aj rfl (congrArg Bool.not (Bool.eq_false_iff.2 p1)) (aa ?_)
 clear bx5
 refine a8 rfl (lw (vg [vi 0,vn]) (bC (vs:=[]) rfl (by kernel_rfl)) (lo ?_))
 replace bx10:=bx10.cn hb12
 refine aF (cs':=[vi 0,vn]) aK rfl rfl bx10 rfl nq (AllOne.all (.cons rfl (.cons rfl .nil))) rfl ?_
 intro w88 ch89 bx90
 clear bx10
 refine ma vn (ai 1 (ad (aD (vs:=[vg [vi 0,vn],vn,vi 1]) Try.func74 (.cell rfl (bK (ds:=[vi 0,vn]) aK bx90 rfl rfl) (.tmp rfl (.tmp rfl .nil))) ?_)))
 have C91:=cg [2] (ch2.n.seq (ch7.n.seq (hb12.n.seq (ch89.l rfl))))
 replace bH:=bH.ca C91
 have e0:((0,[]):(Int)×(List Pt))=((cZ g nodes).1):=by
   have hn:¬b7 g:=λh=>p1 (dt h)
   simp[cZ,hn]
 have e1:([]:List Int)=((cZ g nodes).2.1):=by
   have hn:¬b7 g:=λh=>p1 (dt h)
   simp[cZ,hn]
 have e2:(1:Int)=((cZ g nodes).2.2):=by
   have hn:¬b7 g:=λh=>p1 (dt h)
   simp[cZ,hn]
 exact⟨(fin w0 g9 (λn=>0),vn,vn),(jh (a:=(0,[])) (b:=[]) (c:=1) (λ(z0:(Int)×(List Pt)) (z1:List Int) (z2:Int)=>Ending.returned (vt [vg [vi z0.1,vn],vn,vi z2])) e0 e1 e2),bH.fresh _,((congrArg (λ(z:(Int)×(List Pt))=>z.2) e0)▸Ow.nil),(e1▸Ow.nil)⟩
end TL
