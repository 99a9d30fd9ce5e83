import Derived.Test.YtfpckpgnnplhnaaGreatSwTlAli
set_option linter.all false
set_option maxRecDepth 20000
namespace TL
open Go Go.Proofs
theorem CH:Tryz.prog.follows .mixedOrders=true:=by kernel_rfl
theorem aD:Tp Tryz.prog 3 false 1 8 (.int .i64 0):=Tp.of (by kernel_rfl)
theorem dA:Tp Tryz.prog 4 false 1 1 (.bool false):=Tp.of (by kernel_rfl)
theorem bM:Tp Tryz.prog 23 false 1 24 (.slice none 0 0):=Tp.of (by kernel_rfl)
theorem aK:Tp Tryz.prog 25 true 2 32 (.agg #[.int .i64 0,.slice none 0 0]):=Tp.of (by kernel_rfl)
theorem bm:Tp Tryz.prog 59 true 2 16 (.agg #[.int .i64 0,.int .i64 0]):=Tp.of (by kernel_rfl)
theorem jc:Tryz.f32.body.isNone=false:=rfl
theorem jp:(Tryz.f32.name== "runtime.NumGoroutine")=false:=by decide+kernel
theorem BQ:Tryz.f152.body.isNone=false:=rfl
theorem BW:(Tryz.f152.name== "runtime.NumGoroutine")=false:=by decide+kernel
theorem jA(w0:World)(g:(Int)×(List Pt))(g_v:Value)(hg_v:Ro w0 g_v g.2):
    Calls Tryz.prog 32 #[vg [vi g.1,g_v]] w0 (λee w=>ee= .returned (vb (eI g))/\eK w0.heap.size w0 w):=by
 refine ah Tryz.func32 rfl nq ?_
 have bH:=aW.start w0
 have Rg:=hg_v.sl
 refine a7 (a6 rfl (cy rfl (bU c0 (is 1) (1,0) rfl rfl ?_)))
 intro g4 w1 b3 ch2 bx5
 refine ma (vb false) (ab (a7 (a7 (a6 rfl (lx (aa dK rfl rfl rfl rfl) (lx (a8 aD rfl bx5 rfl) (lx (br (m:=g.1) (n:=0) rfl rfl) (mv (vb (decide (g.1<0))) ?_))))))))
 by_cases q10:g.1<0
 ·
  refine au (wn (dt q10)) (au (wn (dt q10)) (au (wn (dt q10)) (lw (vb true) (bh rfl (dt q10) rfl) (mv (vb true) (au (wn rfl) (au (wn rfl) (au (wn rfl) (au (wn rfl) (lw (vb true) (bh rfl rfl rfl) (ab (ag rfl rfl (a7 ?_))))))))))))
  refine a6 rfl (ma (vb false) (ab (az (vs:=[vb false]) Tryz.func32 (.tmp rfl .nil) ?_)))
  have e0:(false:Bool)=(eI g):=by
    exact(fc (λh=>by unfold bO at h;omega)).symm
  exact⟨rb e0,bH.t.below⟩
 refine lv (vp b3 0) (wy (df q10)) (aa dK rfl rfl rfl rfl) (lv (vi g.1) (wy (df q10)) (a8 aD rfl bx5 rfl) (lv (vb (decide (1024<g.1))) (wy (df q10)) (eX (m:=g.1) (n:=1024) rfl rfl) (lw (vb (decide (1024<g.1))) (bo rfl (df q10) rfl) (mv (vb (decide (1024<g.1))) ?_))))
 by_cases q15:1024<g.1
 ·
  refine au (wn (dt q15)) (au (wn (dt q15)) (au (wn (dt q15)) (au (wn (dt q15)) (lw (vb true) (bh rfl (dt q15) rfl) (ab (ag rfl rfl (a7 ?_)))))))
  refine a6 rfl (ma (vb false) (ab (az (vs:=[vb false]) Tryz.func32 (.tmp rfl .nil) ?_)))
  have e0:(false:Bool)=(eI g):=by
    exact(fc (λh=>by unfold bO at h;omega)).symm
  exact⟨rb e0,bH.t.below⟩
 refine lv (vp b3 1) (wy (df q15)) (aa dK rfl rfl rfl rfl) (lv (g_v) (wy (df q15)) (a8 bM rfl bx5 rfl) ?_)
 have len6:=(Rg).small
 refine lv (vi (g.2.length:Int)) (wy (df q15)) (bG eG rfl Rg.t) (lv (vb (decide (3072<(g.2.length:Int)))) (wy (df q15)) (eX (m:=(g.2.length:Int)) (n:=3072) rfl rfl) (lw (vb (decide (3072<(g.2.length:Int)))) (bo rfl (df q15) rfl) (ab ?_)))
 by_cases p1:3072<(g.2.length:Int)
 ·
  refine ag rfl (dt p1) (a7 ?_)
  refine a6 rfl (ma (vb false) (ab (az (vs:=[vb false]) Tryz.func32 (.tmp rfl .nil) ?_)))
  have e0:(false:Bool)=(eI g):=by
    exact(fc (λh=>by unfold bO at h;omega)).symm
  exact⟨rb e0,bH.t.below⟩
 refine af rfl (df p1) (am (a7 (a7 (a6 rfl (lx (aa dK rfl rfl rfl rfl) (lx (a8 bM rfl bx5 rfl) (lx (bG eG rfl Rg.t) (mi 0 (ab (aj ?_))))))))))
 refine aR (σ:=Nat×ax) (λ⟨k,gq⟩ f w=>aW w0 gq w/\f 1=vp b3 0/\f 22=g_v/\f 23=vi (g.2.length:Int)/\f 24=vi ↑k/\Sl gq (is 0) w g_v g.2/\Bx gq (is 1) w b3 [vi g.1,g_v]/\(k:Int)<=((g.2.length:Int):Int)/\(∀e∈List.take k g.2,AL g.1 e)) (λ⟨k,gq⟩=>Int.toNat (((g.2.length:Int):Int)-(k:Int))) (0,g4) ?_ ?_
 · exact⟨bH.t,rfl,rfl,rfl,rfl,Rg.t,bx5,by omega,by simp⟩
 rintro⟨k,g9⟩ f7 w8 ⟨bH,zs1,zs22,zs23,zs24,Rg,bx5,hle_k,hinv4⟩ back4
 refine a7 (a6 rfl (lx (br (m:=↑k) (n:=(g.2.length:Int)) zs24 zs23) (ab (a7 ?_))))
 by_cases p4:(k:Int)<(g.2.length:Int)
 ·
  refine ag rfl (dt p4) (am (a7 (aj (a7 (a6 rfl (lx (ad (v:=g_v) (i:=↑k) eG rfl zs22 Rg zs24 (by omega) (by omega)) (lw (vg [vi ((gI g.2 ↑k).1),vi ((gI g.2 ↑k).2)]) (bW (v:=g_v) (i:=↑k) bm rfl Rg (by omega) (by omega) rfl) (lo (aZ g9 (is 2) (2,0) rfl bm ?_)))))))))
  intro g13 w10 b12 ch11 bx14
  refine lo (aA (cs':=[vi ((gI g.2 ↑k).1),vi ((gI g.2 ↑k).2)]) bm rfl rfl bx14 rfl nq (AllOne.all (.cons rfl (.cons rfl .nil))) rfl ?_)
  intro w15 ch16 bx17
  refine ab (a7 (a6 rfl (lx (av (ds:=[vi ((gI g.2 ↑k).1),vi ((gI g.2 ↑k).2)]) bm rfl bx17 rfl rfl) (mi 0 (ab (aj (gQ (a7 ?_))))))))
  refine a6 rfl (lx (br (m:=0) (n:=2) rfl rfl) (ab (a7 (ag rfl rfl (am (a7 (aj (a7 (a6 rfl (lw (vi ((gI g.2 ↑k).1)) (eo eS aD rfl rfl (by decide) (by decide) rfl) (ai ((gI g.2 ↑k).1) ?_)))))))))))
  refine ab (a7 (a6 rfl (mi ((gI g.2 ↑k).1) (lx (br (m:=(gI g.2 ↑k).1) (n:=0) rfl rfl) (mv (vb (decide (((gI g.2 ↑k).1)<0))) ?_)))))
  by_cases q34:((gI g.2 ↑k).1)<0
  ·
   refine au (wn (dt q34)) (au (wn (dt q34)) (au (wn (dt q34)) (au (wn (dt q34)) (lw (vb true) (bh rfl (dt q34) rfl) (ab (ag rfl rfl (a7 ?_)))))))
   refine a6 rfl (ma (vb false) (ab (az (vs:=[vb false]) Tryz.func32 (.tmp rfl .nil) ?_)))
   have e0:(false:Bool)=(eI g):=by
     exact(fc (λh=>by have h2:=h.2.2.2 _ (bz (xs:=g.2) (i:=↑k) (by omega) ‹_›);unfold AL at h2;omega)).symm
   exact⟨rb e0,bH.t.below⟩
  refine lv (vi ((gI g.2 ↑k).1)) (wy (df q34)) (ar rfl) (lv (vp b3 0) (wy (df q34)) (aa dK rfl rfl zs1 rfl) ?_)
  refine lv (vi g.1) (wy (df q34)) (a8 aD rfl bx5.t rfl) (lv (vb (decide (g.1<=((gI g.2 ↑k).1)))) (wy (df q34)) (eL (m:=(gI g.2 ↑k).1) (n:=g.1) rfl rfl) (lw (vb (decide (g.1<=((gI g.2 ↑k).1)))) (bo rfl (df q34) rfl) (ab ?_)))
  by_cases p9:g.1<=((gI g.2 ↑k).1)
  ·
   refine ag rfl (dt p9) (a7 ?_)
   refine a6 rfl (ma (vb false) (ab (az (vs:=[vb false]) Tryz.func32 (.tmp rfl .nil) ?_)))
   have e0:(false:Bool)=(eI g):=by
     exact(fc (λh=>by have h2:=h.2.2.2 _ (bz (xs:=g.2) (i:=↑k) (by omega) ‹_›);unfold AL at h2;omega)).symm
   exact⟨rb e0,bH.t.below⟩
  refine af rfl (df p9) (am (ak (a6 rfl (lx (aJ (m:=0) (n:=1) rfl rfl (by omega)) (mi 1 (ab (eu (a7 (a6 rfl (lx (br (m:=1) (n:=2) rfl rfl) ?_))))))))))
  refine ab (a7 (ag rfl rfl (am (a7 (aj (a7 (a6 rfl (lw (vi ((gI g.2 ↑k).2)) (eo eS aD rfl rfl (by decide) (by decide) rfl) (ai ((gI g.2 ↑k).2) (ab (a7 (a6 rfl (mi ((gI g.2 ↑k).2) ?_)))))))))))))
  refine lx (br (m:=(gI g.2 ↑k).2) (n:=0) rfl rfl) (mv (vb (decide (((gI g.2 ↑k).2)<0))) ?_)
  by_cases q34_18:((gI g.2 ↑k).2)<0
  ·
   refine au (wn (dt q34_18)) (au (wn (dt q34_18)) (au (wn (dt q34_18)) (au (wn (dt q34_18)) (lw (vb true) (bh rfl (dt q34_18) rfl) (ab (ag rfl rfl (a7 ?_)))))))
   refine a6 rfl (ma (vb false) (ab (az (vs:=[vb false]) Tryz.func32 (.tmp rfl .nil) ?_)))
   have e0:(false:Bool)=(eI g):=by
     exact(fc (λh=>by have h2:=h.2.2.2 _ (bz (xs:=g.2) (i:=↑k) (by omega) ‹_›);unfold AL at h2;omega)).symm
   exact⟨rb e0,bH.t.below⟩
  refine lv (vi ((gI g.2 ↑k).2)) (wy (df q34_18)) (ar rfl) (lv (vp b3 0) (wy (df q34_18)) (aa dK rfl rfl zs1 rfl) (lv (vi g.1) (wy (df q34_18)) (a8 aD rfl bx5.t rfl) (lv (vb (decide (g.1<=((gI g.2 ↑k).2)))) (wy (df q34_18)) (eL (m:=(gI g.2 ↑k).2) (n:=g.1) rfl rfl) (lw (vb (decide (g.1<=((gI g.2 ↑k).2)))) (bo rfl (df q34_18) rfl) (ab ?_)))))
  by_cases p9_19:g.1<=((gI g.2 ↑k).2)
  ·
   refine ag rfl (dt p9_19) (a7 ?_)
   refine a6 rfl (ma (vb false) (ab (az (vs:=[vb false]) Tryz.func32 (.tmp rfl .nil) ?_)))
   have e0:(false:Bool)=(eI g):=by
     exact(fc (λh=>by have h2:=h.2.2.2 _ (bz (xs:=g.2) (i:=↑k) (by omega) ‹_›);unfold AL at h2;omega)).symm
   exact⟨rb e0,bH.t.below⟩
  refine af rfl (df p9_19) (am (ak (a6 rfl (lx (aJ (m:=1) (n:=1) rfl rfl (by omega)) (mi 2 (ab (eu (a7 (a6 rfl (lx (br (m:=2) (n:=2) rfl rfl) ?_))))))))))
  refine ab (a7 (af rfl rfl (aF rfl (ak (a6 rfl (lx (aJ (m:=↑k) (n:=1) zs24 rfl (by omega)) (mi ((k:Int)+1) (ab ?_))))))))
  refine back4 (k+1,g13) _ _ ⟨bH.t,zs1,zs22,zs23,rfl,Rg.t,bx5.t,by omega,?_⟩ ?_
  · show∀e∈List.take (k+1) g.2,AL g.1 e
    rw[bc ‹_›]
    intro e he
    rcases List.mem_append.1 he with h|h
    · exact hinv4 e h
    · obtain rfl:=List.mem_singleton.1 h
      refine⟨?_,?_⟩<;>omega
  · show Int.toNat (_-_)<Int.toNat (_-_)
    omega
 refine af rfl (df p4) (aF rfl (a7 ?_))
 refine a6 rfl (ma (vb true) (ab (az (vs:=[vb true]) Tryz.func32 (.tmp rfl .nil) ?_)))
 have e0:(true:Bool)=(eI g):=by
   exact(vI ⟨by omega,by omega,by omega,by rw[List.take_of_length_le (by omega)] at hinv4;exact hinv4⟩).symm
 exact⟨rb e0,bH.t.below⟩
theorem Ai(w0:World)(e:Pt):
    Calls Tryz.prog 151 #[vg [vi e.1,vi e.2]] w0 (λee w=>ee= .returned (vg [vi (min e.1 e.2),vi (max e.1 e.2)])/\eK w0.heap.size w0 w):=by
 refine ah Tryz.func151 rfl nq ?_
 have bH:=aW.start w0
 refine a7 (a6 rfl (cy rfl (bU c0 (is 1) (1,0) rfl rfl ?_)))
 intro g4 w1 b3 ch2 bx5
 refine lo (aZ g4 (is 2) (2,0) rfl bm ?_)
 intro g9 w6 b8 ch7 bx10
 refine ab (a7 (a6 rfl (lx (aP eS rfl rfl rfl (by decide) (by decide) rfl) ?_)))
 refine lx (a8 aD rfl bx5.t rfl) (lx (aP eS rfl rfl rfl (by decide) (by decide) rfl) (lx (a8 aD rfl bx5.t rfl) (lw (vi (min e.1 e.2)) (io rfl rfl) (lx (aP eS rfl rfl rfl (by decide) (by decide) rfl) (lx (a8 aD rfl bx5.t rfl) (lx (aP eS rfl rfl rfl (by decide) (by decide) rfl) (lx (a8 aD rfl bx5.t rfl) (lw (vi (max e.1 e.2)) (tU rfl rfl) (lw (vg [vi (min e.1 e.2),vi (max e.1 e.2)]) (bn (vs:=[(0,vi (min e.1 e.2)),(1,vi (max e.1 e.2))]) rfl (by kernel_rfl)) ?_)))))))))
 refine lo (aA (cs':=[vi (min e.1 e.2),vi (max e.1 e.2)]) bm rfl rfl bx10 rfl nq (AllOne.all (.cons rfl (.cons rfl .nil))) rfl ?_)
 intro w11 ch12 bx13
 refine ab (az (vs:=[vg [vi (min e.1 e.2),vi (max e.1 e.2)]]) Tryz.func151 (.cell rfl (cd (ds:=[vi (min e.1 e.2),vi (max e.1 e.2)]) bm bx13 rfl rfl) .nil) ?_)
 have e0:((min e.1 e.2,max e.1 e.2):Pt)=((min e.1 e.2,max e.1 e.2)):=by
   rfl
 exact⟨(congrArg (a₁:=(min e.1 e.2,max e.1 e.2)) (λ(z0:Pt)=>Ending.returned (vg [vi z0.1,vi z0.2])) e0),bH.t.below⟩
theorem vS(w0:World)(l:List Int)(l_v:Value)(hl_v:Ro w0 l_v l)(n:Int)(hn:0<=n/\n<=1000000):
    Calls Tryz.prog 152 #[l_v,vi n] w0 (λee w=>ee= .returned (vi (cK l n))/\eK w0.heap.size w0 w):=by
 refine ah Tryz.func152 rfl nq ?_
 have bH:=aW.start w0
 have Rl:=hl_v.sl
 have hn1:=hn.1
 have hn2:=hn.2
 refine a7 (a6 rfl (ai 0 (ab (a7 (a6 rfl (mi n (lo (dF (α:=Bool) (l:=n) (cp:=n) c0 (is 1) (is 1) (1,0) rfl false j6 dA rfl rfl rfl (by omega) (by omega) (by omega) (by omega) ?_))))))))
 intro g1 w2 v3 ch4 o5 _
 refine ma v3 (ab (a7 (a7 (a6 rfl (mv l_v ?_)))))
 have len6:=(Rl).small
 refine lx (bG bF rfl Rl.t) (mi 0 (ab (aj ?_)))
 refine aR (σ:=Nat×(List Bool)×ax) (λ⟨k,seen,gq⟩ f w=>aW w0 gq w/\f 1=vi n/\f 5=v3/\f 10=l_v/\f 11=vi (l.length:Int)/\f 12=vi ↑k/\Sl gq (is 0) w l_v l/\Ow gq (is 1) (is 1) w v3 seen/\(k:Int)<=((l.length:Int):Int)/\(eM seen l n k)) (λ⟨k,seen,gq⟩=>Int.toNat (((l.length:Int):Int)-(k:Int))) (0,(List.replicate (Int.toNat n) false),g1) ?_ ?_
 · exact⟨bH.t,rfl,rfl,rfl,rfl,rfl,Rl.t,o5,by omega,by exact eM.start l n hn1⟩
 rintro⟨k,seen,g9⟩ f7 w8 ⟨bH,zs1,zs5,zs10,zs11,zs12,Rl,o5,hle_k,hsI⟩ back3
 have hsl:=hsI.len
 refine a7 (a6 rfl (lx (br (m:=↑k) (n:=(l.length:Int)) zs12 zs11) (ab (a7 ?_))))
 by_cases p3:(k:Int)<(l.length:Int)
 ·
  refine ag rfl (dt p3) (am (a7 (aj (a7 (a6 rfl (lx (ad (v:=l_v) (i:=↑k) bF rfl zs10 Rl zs12 (by omega) (by omega)) (lx (aw (v:=l_v) (i:=↑k) aD rfl Rl (by omega) (by omega) (by decide) rfl) (ai (gI l ↑k) (ab (a7 (a7 (a6 rfl (mi (gI l ↑k) ?_)))))))))))))
  refine lx (br (m:=(gI l ↑k)) (n:=0) rfl rfl) (mv (vb (decide ((gI l ↑k)<0))) ?_)
  by_cases q18:(gI l ↑k)<0
  ·
   refine au (wn (dt q18)) (au (wn (dt q18)) (au (wn (dt q18)) (lw (vb true) (bh rfl (dt q18) rfl) (ab (ag rfl rfl (a7 ?_))))))
   refine a6 rfl (ai 2 (ab (az (vs:=[vi 2]) Tryz.func152 (.tmp rfl .nil) ?_)))
   have e0:(2:Int)=(cK l n):=by
     exact hsI.bad ‹_› (by omega)
   exact⟨ri e0,bH.below⟩
  refine lv (vi (gI l ↑k)) (wy (df q18)) (ar rfl) (lv (vi n) (wy (df q18)) (ar zs1) (lv (vb (decide (n<=(gI l ↑k)))) (wy (df q18)) (eL (m:=(gI l ↑k)) (n:=n) rfl rfl) (lw (vb (decide (n<=(gI l ↑k)))) (bo rfl (df q18) rfl) (ab ?_))))
  by_cases p5:n<=(gI l ↑k)
  ·
   refine ag rfl (dt p5) (a7 ?_)
   refine a6 rfl (ai 2 (ab (az (vs:=[vi 2]) Tryz.func152 (.tmp rfl .nil) ?_)))
   have e0:(2:Int)=(cK l n):=by
     exact hsI.bad ‹_› (by omega)
   exact⟨ri e0,bH.below⟩
  refine af rfl (df p5) (am (a7 (a7 (a6 rfl (mz zs5 (mi (gI l ↑k) (lx (ad (v:=v3) (i:=(gI l ↑k)) j6 rfl rfl o5.flat rfl (by omega) (by omega)) (lx (aw (v:=v3) (i:=(gI l ↑k)) dA rfl o5.flat (by omega) (by omega) (by decide) rfl) (ab ?_)))))))))
  by_cases p7:(gI seen (gI l ↑k))=true
  ·
   refine ag rfl p7 (a7 ?_)
   refine a6 rfl (ai 18 (ab (az (vs:=[vi 18]) Tryz.func152 (.tmp rfl .nil) ?_)))
   have e0:(18:Int)=(cK l n):=by
     exact hsI.twice ‹_› (by omega) (by omega) ‹_›
   exact⟨ri e0,bH.below⟩
  refine af rfl (Bool.eq_false_iff.2 p7) (am (a6 rfl (mz zs5 (mi (gI l ↑k) (lx (ad (v:=v3) (i:=(gI l ↑k)) j6 rfl rfl o5.flat rfl (by omega) (by omega)) (lo (aU (i:=(gI l ↑k)) true dA rfl rfl o5 (by omega) (by omega) rfl ?_)))))))
  intro w10 ch11 bx12
  refine ab (ak (a6 rfl (lx (aJ (m:=↑k) (n:=1) zs12 rfl (by omega)) (mi ((k:Int)+1) (ab ?_)))))
  refine back3 (k+1,(List.set seen (Int.toNat (gI l ↑k)) true),g9) _ _ ⟨bH.t,zs1,zs5,zs10,zs11,rfl,Rl.t,bx12,by omega,?_⟩ ?_
  · show eM (List.set seen (Int.toNat (gI l ↑k)) true) l n (k+1)
    exact hsI.next ‹_› (by omega) (by omega) (Bool.eq_false_iff.2 ‹_›)
  · show Int.toNat (_-_)<Int.toNat (_-_)
    omega
 refine af rfl (df p3) (aF rfl (a7 ?_))
 refine a6 rfl (ai 0 (ab (az (vs:=[vi 0]) Tryz.func152 (.tmp rfl .nil) ?_)))
 have e0:(0:Int)=(cK l n):=by
   exact hsI.done ‹_›
 exact⟨ri e0,bH.below⟩
theorem C8(w0:World)(g:(Int)×(List Pt))(g_v:Value)(hg_v:Ro w0 g_v g.2)(nodes:List Int)(nodes_v:Value)(hnodes_v:Ro w0 nodes_v nodes):
    Calls Tryz.prog 135 #[vg [vi g.1,g_v],nodes_v] w0 (λee w=>∃xx:ax×Value×Value,ee= .returned ((λ⟨δ,rv0,rv1⟩=>vt [vg [vi (((dp g nodes).1).1),rv0],rv1,vi ((dp g nodes).2.2)]) xx)/\(λ(⟨δ,rv0,rv1⟩:ax×Value×Value) (w:World)=>dz w0 δ w/\Ow δ (is 1) (is 1) w rv0 (((dp g nodes).1).2)/\Ow δ (is 2) (is 2) w rv1 ((dp g nodes).2.1)) xx w):=by
 refine ah Tryz.func135 rfl nq ?_
 have bH:=aW.start w0
 have Rg:=hg_v.sl
 have Rnodes:=hnodes_v.sl
 refine a7 (a6 rfl (cy rfl (bU c0 (is 1) (1,0) rfl rfl ?_)))
 intro g4 w1 b3 ch2 bx5
 refine lo (aZ g4 (is 2) (2,0) rfl aK ?_)
 intro g9 w6 b8 ch7 bx10
 refine ma vn (ai 0 (ab (a7 (a7 (a6 rfl ?_)))))
 refine lx (av (ds:=[vi g.1,g_v]) aK rfl bx5.t rfl rfl) ?_
 refine lo (bI (v:=vb (eI g)) (aB (vals:=[vg [vi g.1,g_v]]) Tryz.func32 jc jp rfl) (jA w6 g g_v Rg.t.ro) ?_)
 intro w11 hb12
 replace hb12:=aG hb12 g9
 refine lx (fM (b:=(eI g)) rfl) (ab ?_)
 by_cases p1:(eI g)=true
 ·
  refine af rfl (congrArg Bool.not p1) (am (a7 (a7 ?_)))
  obtain⟨hm1,hm2,hm3,hm4⟩:=of_decide_eq_true p1
  refine a6 rfl (mv nodes_v (lx (aa dK rfl rfl rfl rfl) ?_))
  refine lx (a8 aD rfl bx5.t rfl) ?_
  refine lo (bI (v:=vi (cK nodes g.1)) (aB (vals:=[nodes_v,vi g.1]) Tryz.func152 BQ BW rfl) (vS w11 nodes nodes_v Rnodes.t.ro g.1 (by omega)) ?_)
  intro w14 hb15
  replace hb15:=aG hb15 g9
  refine ai (cK nodes g.1) (ab (a7 (a6 rfl (mi (cK nodes g.1) (lx (du (m:=cK nodes g.1) (n:=0) rfl rfl) (ab ?_))))))
  by_cases p4:(cK nodes g.1)=0
  ·
   refine af rfl (congrArg Bool.not (dt p4)) (am (a7 ?_))
   have hch:=sk p4
   refine a6 rfl (lx (aa dK rfl rfl rfl rfl) ?_)
   refine lx (a8 aD rfl bx5.t rfl) (lo (dF (α:=Int) (l:=g.1) (cp:=g.1) g9 (is 3) (is 3) (3,0) rfl (0:Int) bF aD rfl rfl rfl (by omega) (by omega) (by omega) (by omega) ?_))
   intro g16 w17 v18 ch19 o20 _
   refine ma v18 (ab (a7 (a7 (a6 rfl (mv nodes_v ?_)))))
   have len21:=(Rnodes).small
   refine lx (bG bF rfl Rnodes.t) (mi 0 (ab (aj ?_)))
   refine aR (σ:=Nat×(List Int)×ax) (λ⟨k,to_,gq⟩ f w=>aW w0 gq w/\f 1=nodes_v/\f 2=vp b3 0/\f 4=vp b8 0/\f 8=v18/\f 30=nodes_v/\f 31=vi (nodes.length:Int)/\f 32=vi ↑k/\Sl gq (is 0) w g_v g.2/\Sl gq (is 0) w nodes_v nodes/\Bx gq (is 1) w b3 [vi g.1,g_v]/\Bx gq (is 2) w b8 [vi 0,vn]/\Ow gq (is 3) (is 3) w v18 to_/\(k:Int)<=((nodes.length:Int):Int)/\(jw to_ nodes g.1 k)) (λ⟨k,to_,gq⟩=>Int.toNat (((nodes.length:Int):Int)-(k:Int))) (0,(List.replicate (Int.toNat g.1) (0:Int)),g16) ?_ ?_
   have C23:=cg [] (hb12.o (hb15.o ch19.n))
   have C22:=ch2.n.seq (ch7.n.seq C23)
   · exact⟨bH.t,rfl,rfl,rfl,rfl,rfl,rfl,rfl,Rg.t,Rnodes.t,bx5.t,bx10.t,o20,by omega,by exact jw.start nodes g.1 hm1⟩
   rintro⟨k,to_,g26⟩ f24 w25 ⟨bH,zs1,zs2,zs4,zs8,zs30,zs31,zs32,Rg,Rnodes,bx5,bx10,o20,hle_k,hpi⟩ back8
   have htl:=hpi.len
   refine a7 (a6 rfl (lx (br (m:=↑k) (n:=(nodes.length:Int)) zs32 zs31) (ab (a7 ?_))))
   by_cases p8:(k:Int)<(nodes.length:Int)
   ·
    refine ag rfl (dt p8) (am (a7 (aj (a7 ?_))))
    obtain⟨hk1,hk2⟩:=hch.1 _ (bz (xs:=nodes) (i:=↑k) (by omega) p8)
    refine a6 rfl (mz zs32 (lx (ad (v:=nodes_v) (i:=↑k) bF rfl zs30 Rnodes zs32 (by omega) (by omega)) (lx (aw (v:=nodes_v) (i:=↑k) aD rfl Rnodes (by omega) (by omega) (by decide) rfl) (ai (k:Int) (ai (gI nodes ↑k) (ab (a6 rfl (mz zs8 (mi (gI nodes ↑k) (mi ↑k ?_))))))))))
    refine lx (aJ (m:=↑k) (n:=1) rfl rfl (by omega)) (lx (ad (v:=v18) (i:=(gI nodes ↑k)) bF rfl rfl o20.flat rfl (by omega) (by omega)) (lo (aU (i:=(gI nodes ↑k)) ((k:Int)+1) aD rfl rfl o20 (by omega) (by omega) rfl ?_)))
    intro w27 ch28 bx29
    refine ab (ak (a6 rfl (lx (aJ (m:=↑k) (n:=1) zs32 rfl (by omega)) (mi ((k:Int)+1) (ab ?_)))))
    refine back8 (k+1,(List.set to_ (Int.toNat (gI nodes ↑k)) ((k:Int)+1)),g26) _ _ ⟨bH.t,zs1,zs2,zs4,zs8,zs30,zs31,rfl,Rg.t,Rnodes.t,bx5.t,bx10.t,bx29,by omega,?_⟩ ?_
    · show jw (List.set to_ (Int.toNat (gI nodes ↑k)) ((k:Int)+1)) nodes g.1 (k+1)
      exact hpi.next ‹_› hk1 hk2 hch.2
    · show Int.toNat (_-_)<Int.toNat (_-_)
      omega
   refine af rfl (df p8) (aF rfl (a7 ?_))
   have hto:∀v,0<=v->v<g.1->gI to_ v=gK nodes v:=by have:=hpi.pos;rwa[List.take_of_length_le (by omega)] at this
   refine a6 rfl (mz zs1 (lx (bG bF rfl Rnodes) (lw (vg [vi (nodes.length:Int),vn]) (bn (vs:=[(0,vi (nodes.length:Int))]) rfl (by kernel_rfl)) (lo (aZ g26 (is 4) (4,0) rfl aK ?_)))))
   intro g33 w30 b32 ch31 bx34
   refine lo (aA (cs':=[vi (nodes.length:Int),vn]) aK rfl rfl bx34 rfl nq (AllOne.all (.cons rfl (.cons rfl .nil))) rfl ?_)
   intro w35 ch36 bx37
   refine ab (a7 (a6 rfl (ma vn (ab (a7 (a7 (a6 rfl (lx (aa dK rfl rfl zs2 rfl) ?_))))))))
   refine lx (a8 bM rfl bx5.t rfl) ?_
   have len38:=(Rg).small
   refine lx (bG eG rfl Rg.t) (mi 0 (ab (aj ?_)))
   refine aR (σ:=Value×(List Pt)×Value×(List Int)×Nat×ax) (λ⟨out_1_v,out_1,which_v,which,k,gq⟩ f w=>aW w0 gq w/\f 4=vp b8 0/\f 8=v18/\f 11=vp b32 0/\f 12=which_v/\f 47=g_v/\f 48=vi (g.2.length:Int)/\f 49=vi ↑k/\Sl gq (is 0) w g_v g.2/\Sl gq (is 0) w nodes_v nodes/\Bx gq (is 2) w b8 [vi 0,vn]/\Ow gq (is 3) (is 3) w v18 to_/\Bx gq (is 4) w b32 [vi (nodes.length:Int),out_1_v]/\Ow gq (is 7) (is 7) w out_1_v out_1/\Ow gq (is 9) (is 9) w which_v which/\(k:Int)<=((g.2.length:Int):Int)/\(which=dL g nodes k/\out_1=(dL g nodes k).map (λi=>(gK nodes (gI g.2 i).1-1,gK nodes (gI g.2 i).2-1)))) (λ⟨out_1_v,out_1,which_v,which,k,gq⟩=>Int.toNat (((g.2.length:Int):Int)-(k:Int))) (vn,[],vn,[],0,g33) ?_ ?_
   · exact⟨bH.t,zs4,zs8,rfl,rfl,rfl,rfl,rfl,Rg.t,Rnodes.t,bx10.t,o20.t,bx37,Ow.nil,Ow.nil,by omega,by exact⟨rfl,rfl⟩⟩
   rintro⟨out_1_v,out_1,which_v,which,k,g41⟩ f39 w40 ⟨bH,zs4,zs8,zs11,zs12,zs47,zs48,zs49,Rg,Rnodes,bx10,o20,bx37,o_out_1,o_which,hle_k,hinv15⟩ back15
   refine a7 (a6 rfl (lx (br (m:=↑k) (n:=(g.2.length:Int)) zs49 zs48) (ab (a7 ?_))))
   by_cases p15:(k:Int)<(g.2.length:Int)
   ·
    refine ag rfl (dt p15) (am (a7 (aj (a7 ?_))))
    obtain⟨⟨he1,he2⟩,he3,he4⟩:=hm4 _ (bz (xs:=g.2) (i:=↑k) (by omega) p15)
    have hg1:=hto _ he1 he2
    have hg2:=hto _ he3 he4
    refine a6 rfl (mz zs49 (lx (ad (v:=g_v) (i:=↑k) eG rfl zs47 Rg zs49 (by omega) (by omega)) (lw (vg [vi ((gI g.2 ↑k).1),vi ((gI g.2 ↑k).2)]) (bW (v:=g_v) (i:=↑k) bm rfl Rg (by omega) (by omega) rfl) (lo (aZ g41 (is 5) (5,0) rfl bm ?_)))))
    intro g45 w42 b44 ch43 bx46
    refine ai (k:Int) (lo (aA (cs':=[vi ((gI g.2 ↑k).1),vi ((gI g.2 ↑k).2)]) bm rfl rfl bx46 rfl nq (AllOne.all (.cons rfl (.cons rfl .nil))) rfl ?_))
    intro w47 ch48 bx49
    refine ab (a7 (a6 rfl (mz zs8 (lx (aP eS rfl rfl rfl (by decide) (by decide) rfl) (lx (a8 aD rfl bx49 rfl) ?_)))))
    refine lx (ad (v:=v18) (i:=(gI g.2 ↑k).1) bF rfl rfl o20.t.flat rfl (by omega) (by omega)) (lx (aw (v:=v18) (i:=(gI g.2 ↑k).1) aD rfl o20.t.flat (by omega) (by omega) (by decide) rfl) (lx (eX (m:=(gI to_ ((gI g.2 ↑k).1))) (n:=0) rfl rfl) (mv (vb (decide (0<(gI to_ ((gI g.2 ↑k).1))))) ?_)))
    by_cases q60:0<(gI to_ ((gI g.2 ↑k).1))
    ·
     refine lv (v18) (wy (dt q60)) (ar zs8) (lv (vp b44 1) (wy (dt q60)) (aP eS rfl rfl rfl (by decide) (by decide) rfl) (lv (vi ((gI g.2 ↑k).2)) (wy (dt q60)) (a8 aD rfl bx49 rfl) (lv (Value.pointer (some (bu v18 1 (Int.toNat ((gI g.2 ↑k).2))))) (wy (dt q60)) (ad (α:=Int) (xs:=to_) (v:=v18) (i:=(gI g.2 ↑k).2) bF rfl rfl o20.t.flat rfl (by omega) (by omega)) (lv (vi (gI to_ ((gI g.2 ↑k).2))) (wy (dt q60)) (aw (α:=Int) (xs:=to_) (v:=v18) (i:=(gI g.2 ↑k).2) aD rfl o20.t.flat (by omega) (by omega) (by decide) rfl) ?_))))
     refine lv (vb (decide (0<(gI to_ ((gI g.2 ↑k).2))))) (wy (dt q60)) (eX (m:=(gI to_ ((gI g.2 ↑k).2))) (n:=0) rfl rfl) (lw (vb (decide (0<(gI to_ ((gI g.2 ↑k).2))))) (bh rfl (dt q60) rfl) (ab ?_))
     by_cases p17:0<(gI to_ ((gI g.2 ↑k).2))
     ·
      refine ag rfl (dt p17) (a7 ?_)
      have hn1:=mJ nodes (gI g.2 ↑k).1
      have hn2:=mJ nodes (gI g.2 ↑k).2
      have hw2:=te g nodes k
      rw[<-hinv15.1] at hw2
      have hw3:out_1.length<=k:=by rw[hinv15.2,List.length_map,<-hinv15.1];exact hw2
      refine bp g45 [0,1,2,3,4,5,6,7,8,9,10,11,12,13,14,17] CH ?_
      intro w51 ch50
      refine xp 0 rfl (λw=>aa dK rfl rfl zs11 rfl) ?_
      refine xh 1 [0,2,3,8,9,4,10,5,11,6,12,7,13,14,15] rfl (λw' hw'=>a8 bM rfl (bx37.t.bel hw') rfl) (xp (v:=v18) 2 rfl (λw=>ar zs8) (xv 3 [2,1,0,8,9,10,11,12,13] rfl (aP eS rfl rfl rfl (by decide) (by decide) rfl) ?_))
      refine xv 4 [3,2,1,0,8,9,10,11,12,13] rfl (a8 aD rfl bx49.t rfl) ?_
      refine xv 5 [4,3,2,1,0,8,9,10,11,12,13] rfl (ad (v:=v18) (i:=(gI g.2 ↑k).1) bF rfl rfl o20.t.flat rfl (by omega) (by omega)) (xv 6 [5,4,3,2,1,0,8,9,10,11,12,13] rfl (aw (v:=v18) (i:=(gI g.2 ↑k).1) aD rfl o20.t.flat (by omega) (by omega) (by decide) rfl) (xp 7 rfl (λw=>da (m:=(gI to_ ((gI g.2 ↑k).1))) (n:=1) rfl rfl (by omega)) (xp (v:=v18) 8 rfl (λw=>ar zs8) (xv 9 [8,7,6,5,4,3,2,1,0] rfl (aP eS rfl rfl rfl (by decide) (by decide) rfl) (xv 10 [9,8,7,6,5,4,3,2,1,0] rfl (a8 aD rfl bx49.t rfl) (xv 11 [10,9,8,7,6,5,4,3,2,1,0] rfl (ad (v:=v18) (i:=(gI g.2 ↑k).2) bF rfl rfl o20.t.flat rfl (by omega) (by omega)) ?_))))))
      refine xv 12 [11,10,9,8,7,6,5,4,3,2,1,0] rfl (aw (v:=v18) (i:=(gI g.2 ↑k).2) aD rfl o20.t.flat (by omega) (by omega) (by decide) rfl) (xp 13 rfl (λw=>da (m:=(gI to_ ((gI g.2 ↑k).2))) (n:=1) rfl rfl (by omega)) (xp (v:=vg [vi ((gI to_ ((gI g.2 ↑k).1))-1),vi ((gI to_ ((gI g.2 ↑k).2))-1)]) 14 rfl (λw=>bn (vs:=[(0,vi ((gI to_ ((gI g.2 ↑k).1))-1)),(1,vi ((gI to_ ((gI g.2 ↑k).2))-1))]) rfl (by kernel_rfl)) (cE 15 rfl ?_)))
      refine aq (α:=Pt) g45 (is 6) (is 6) (6,0) rfl [((gI to_ ((gI g.2 ↑k).1))-1,(gI to_ ((gI g.2 ↑k).2))-1)] eG bm (by decide) (by decide) (vs:=[(0,vg [vi ((gI to_ ((gI g.2 ↑k).1))-1),vi ((gI to_ ((gI g.2 ↑k).2))-1)])]) rfl rfl (.cons rfl .nil) ?_
      intro g53 w54 v55 ch56 o57
      refine cE 16 rfl ?_
      refine aS (α:=Pt) (xs:=out_1) (ys:=([((gI to_ ((gI g.2 ↑k).1))-1,(gI to_ ((gI g.2 ↑k).2))-1)])) g53 (J:=is 7) (S:=is 7) (7,0) rfl eG bm (by decide) rfl rfl rfl o_out_1.t o57.flat (by decide) (by(simp;omega)) ?_
      intro g59 w60 v61 ch62 o63
      refine xp 17 rfl (λw=>aa dK rfl rfl zs11 rfl) (cE 18 rfl ?_)
      refine aC (cs':=[vi (nodes.length:Int),v61]) bM rfl rfl bx37.t (aL o63.flat) nq (aM o63.flat) rfl ?_
      intro w64 ch65 bx66
      refine bV (by kernel_rfl) ?_
      refine a6 rfl (mz zs12 (mi ↑k (lo (aq (α:=Int) g59 (is 8) (is 8) (8,0) rfl [(k:Int)] bF aD (by decide) (by decide) (vs:=[(0,vi ↑k)]) rfl rfl (.cons rfl .nil) ?_))))
      intro g67 w68 v69 ch70 o71
      refine lo ?_
      refine aS (α:=Int) (xs:=which) (ys:=([(k:Int)])) g67 (J:=is 9) (S:=is 9) (9,0) rfl bF aD (by decide) rfl rfl rfl o_which.t o71.flat (by decide) (by(simp;omega)) ?_
      intro g73 w74 v75 ch76 o77
      refine ma v75 (ab (ak ?_))
      refine a6 rfl (lx (aJ (m:=↑k) (n:=1) zs49 rfl (by omega)) (mi ((k:Int)+1) (ab ?_)))
      refine back15 (v61,(out_1++[((gI to_ ((gI g.2 ↑k).1))-1,(gI to_ ((gI g.2 ↑k).2))-1)]),v75,(which++[(k:Int)]),k+1,g73) _ _ ⟨bH.t,zs4,zs8,zs11,rfl,zs47,zs48,rfl,Rg.t,Rnodes.t,bx10.t,o20.t,bx66.t,o63.t,o77,by omega,?_⟩ ?_
      · show(which++[(k:Int)])=dL g nodes (k+1)/\(out_1++[((gI to_ ((gI g.2 ↑k).1))-1,(gI to_ ((gI g.2 ↑k).2))-1)])=(dL g nodes (k+1)).map (λi=>(gK nodes (gI g.2 i).1-1,gK nodes (gI g.2 i).2-1))
        rw[sN (by omega) (by omega),hinv15.1,hinv15.2,hg1,hg2];simp
      · show Int.toNat (_-_)<Int.toNat (_-_)
        omega
     refine af rfl (df p17) (am (ak ?_))
     refine a6 rfl (lx (aJ (m:=↑k) (n:=1) zs49 rfl (by omega)) (mi ((k:Int)+1) (ab ?_)))
     refine back15 (out_1_v,out_1,which_v,which,k+1,g45) _ _ ⟨bH.t,zs4,zs8,zs11,zs12,zs47,zs48,rfl,Rg.t,Rnodes.t,bx10.t,o20.t,bx37.t,o_out_1.t,o_which.t,by omega,?_⟩ ?_
     · show which=dL g nodes (k+1)/\out_1=(dL g nodes (k+1)).map (λi=>(gK nodes (gI g.2 i).1-1,gK nodes (gI g.2 i).2-1))
       rw[sJ (by omega)];exact hinv15
     · show Int.toNat (_-_)<Int.toNat (_-_)
       omega
    refine au (wn (df q60)) (au (wn (df q60)) (au (wn (df q60)) (au (wn (df q60)) (au (wn (df q60)) (au (wn (df q60)) (lw (vb false) (bo rfl (df q60) rfl) (ab (af rfl rfl (am ?_)))))))))
    refine ak ?_
    refine a6 rfl (lx (aJ (m:=↑k) (n:=1) zs49 rfl (by omega)) (mi ((k:Int)+1) (ab ?_)))
    refine back15 (out_1_v,out_1,which_v,which,k+1,g45) _ _ ⟨bH.t,zs4,zs8,zs11,zs12,zs47,zs48,rfl,Rg.t,Rnodes.t,bx10.t,o20.t,bx37.t,o_out_1.t,o_which.t,by omega,?_⟩ ?_
    · show which=dL g nodes (k+1)/\out_1=(dL g nodes (k+1)).map (λi=>(gK nodes (gI g.2 i).1-1,gK nodes (gI g.2 i).2-1))
      rw[sC (by omega)];exact hinv15
    · show Int.toNat (_-_)<Int.toNat (_-_)
      omega
   refine af rfl (df p15) (aF rfl (a7 ?_))
   refine a6 rfl (lx (av (ds:=[vi (nodes.length:Int),out_1_v]) aK zs11 bx37.t rfl rfl) (mz zs12 (lo (aA (cs':=[vi (nodes.length:Int),out_1_v]) aK zs4 rfl bx10 rfl nq (AllOne.all (.cons rfl (.cons (aM o_out_1.t.flat) .nil))) rfl ?_))))
   intro w81 ch82 bx83
   refine ma which_v (ai 0 (ab (az (vs:=[vg [vi (nodes.length:Int),out_1_v],which_v,vi 0]) Tryz.func135 (.cell zs4 (cd (ds:=[vi (nodes.length:Int),out_1_v]) aK bx83 rfl rfl) (.tmp rfl (.tmp rfl .nil))) ?_)))
   have e0:(((nodes.length:Int),out_1):(Int)×(List Pt))=((dp g nodes).1):=by
     have hm:=of_decide_eq_true p1
     have hk:k=g.2.length:=by omega
     subst hk
     obtain⟨e1,e2⟩:=hinv15
     simp[dp,hm,p4,e1,e2,dL,nM]
   have e1:(which:List Int)=((dp g nodes).2.1):=by
     have hm:=of_decide_eq_true p1
     have hk:k=g.2.length:=by omega
     subst hk
     obtain⟨e1,e2⟩:=hinv15
     simp[dp,hm,p4,e1,e2,dL,nM]
   have e2:(0:Int)=((dp g nodes).2.2):=by
     have hm:=of_decide_eq_true p1
     have hk:k=g.2.length:=by omega
     subst hk
     obtain⟨e1,e2⟩:=hinv15
     simp[dp,hm,p4,e1,e2,dL,nM]
   exact⟨(fin w0 g41 (λn=>if n=7 then 1 else if n=9 then 2 else 0),out_1_v,which_v),(iZ (a:=((nodes.length:Int),out_1)) (b:=which) (c:=0) (λ(z0:(Int)×(List Pt)) (z1:List Int) (z2:Int)=>Ending.returned (vt [vg [vi z0.1,out_1_v],which_v,vi z2])) e0 e1 e2),bH.t.fresh _,((congrArg (λ(z:(Int)×(List Pt))=>z.2) e0)▸(o_out_1.t.glue (γ:=c0) (ren:=(λn=>if n=7 then 1 else if n=9 then 2 else 0)) (k:=1) bH.t.col rfl rfl)),(e1▸(o_which.t.glue (γ:=c0) (ren:=(λn=>if n=7 then 1 else if n=9 then 2 else 0)) (k:=2) bH.t.col rfl rfl))⟩
  refine ag rfl (congrArg Bool.not (df p4)) (a7 ?_)
  refine a6 rfl (lw (vg [vi 0,vn]) (bn (vs:=[]) rfl (by kernel_rfl)) (mi (cK nodes g.1) (lo ?_)))
  refine aA (cs':=[vi 0,vn]) aK rfl rfl bx10.t rfl nq (AllOne.all (.cons rfl (.cons rfl .nil))) rfl ?_
  intro w84 ch85 bx86
  refine ma vn (ai (cK nodes g.1) (ab (az (vs:=[vg [vi 0,vn],vn,vi (cK nodes g.1)]) Tryz.func135 (.cell rfl (cd (ds:=[vi 0,vn]) aK bx86 rfl rfl) (.tmp rfl (.tmp rfl .nil))) ?_)))
  have e0:((0,[]):(Int)×(List Pt))=((dp g nodes).1):=by
    have hm:=of_decide_eq_true p1
    simp[dp,hm,p4]
  have e1:([]:List Int)=((dp g nodes).2.1):=by
    have hm:=of_decide_eq_true p1
    simp[dp,hm,p4]
  have e2:(cK nodes g.1:Int)=((dp g nodes).2.2):=by
    have hm:=of_decide_eq_true p1
    simp[dp,hm,p4]
  exact⟨(fin w0 g9 (λn=>0),vn,vn),(iZ (a:=(0,[])) (b:=[]) (c:=cK nodes g.1) (λ(z0:(Int)×(List Pt)) (z1:List Int) (z2:Int)=>Ending.returned (vt [vg [vi z0.1,vn],vn,vi z2])) e0 e1 e2),bH.t.fresh _,((congrArg (λ(z:(Int)×(List Pt))=>z.2) e0)▸Ow.nil),(e1▸Ow.nil)⟩
 refine ag rfl (congrArg Bool.not (Bool.eq_false_iff.2 p1)) (a7 ?_)
 refine a6 rfl (lw (vg [vi 0,vn]) (bn (vs:=[]) rfl (by kernel_rfl)) (lo ?_))
 refine aA (cs':=[vi 0,vn]) aK rfl rfl bx10.t rfl nq (AllOne.all (.cons rfl (.cons rfl .nil))) rfl ?_
 intro w88 ch89 bx90
 refine ma vn (ai 1 (ab (az (vs:=[vg [vi 0,vn],vn,vi 1]) Tryz.func135 (.cell rfl (cd (ds:=[vi 0,vn]) aK bx90 rfl rfl) (.tmp rfl (.tmp rfl .nil))) ?_)))
 have e0:((0,[]):(Int)×(List Pt))=((dp g nodes).1):=by
   have hn:¬bO g:=λh=>p1 (dt h)
   simp[dp,hn]
 have e1:([]:List Int)=((dp g nodes).2.1):=by
   have hn:¬bO g:=λh=>p1 (dt h)
   simp[dp,hn]
 have e2:(1:Int)=((dp g nodes).2.2):=by
   have hn:¬bO g:=λh=>p1 (dt h)
   simp[dp,hn]
 exact⟨(fin w0 g9 (λn=>0),vn,vn),(iZ (a:=(0,[])) (b:=[]) (c:=1) (λ(z0:(Int)×(List Pt)) (z1:List Int) (z2:Int)=>Ending.returned (vt [vg [vi z0.1,vn],vn,vi z2])) e0 e1 e2),bH.t.fresh _,((congrArg (λ(z:(Int)×(List Pt))=>z.2) e0)▸Ow.nil),(e1▸Ow.nil)⟩
end TL
