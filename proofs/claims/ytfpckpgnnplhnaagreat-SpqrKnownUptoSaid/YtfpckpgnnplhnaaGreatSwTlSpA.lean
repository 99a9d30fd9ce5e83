import Derived.Test.YtfpckpgnnplhnaaGreatSwTlGenA
import Derived.Test.YtfpckpgnnplhnaaGreatSwTlAli
set_option linter.all false
set_option maxRecDepth 20000
namespace TL
open Go Go.Proofs
theorem fe:Tryz.prog.follows .mixedOrders=true:=by kernel_rfl
theorem bS:Tp Tryz.prog 38 false 1 24 (.slice none 0 0):=Tp.of (by kernel_rfl)
theorem e9:Tp Tryz.prog 85 false 1 24 (.slice none 0 0):=Tp.of (by kernel_rfl)
theorem dN:Tp Tryz.prog 177 true 4 96 (.agg #[.slice none 0 0,.slice none 0 0,.slice none 0 0,.slice none 0 0]):=Tp.of (by kernel_rfl)
theorem vk:Tryz.f136.body.isNone=false:=rfl
theorem uh:(Tryz.f136.name== "runtime.NumGoroutine")=false:=by decide+kernel
theorem m7:Tryz.f137.body.isNone=false:=rfl
theorem m9:(Tryz.f137.name== "runtime.NumGoroutine")=false:=by decide+kernel
theorem vD:Tryz.f138.body.isNone=false:=rfl
theorem uX:(Tryz.f138.name== "runtime.NumGoroutine")=false:=by decide+kernel
theorem ui:Tryz.f151.body.isNone=false:=rfl
theorem uV:(Tryz.f151.name== "runtime.NumGoroutine")=false:=by decide+kernel
theorem um:Tryz.f153.body.isNone=false:=rfl
theorem uJ:(Tryz.f153.name== "runtime.NumGoroutine")=false:=by decide+kernel
theorem lG:Tryz.f154.body.isNone=false:=rfl
theorem m8:(Tryz.f154.name== "runtime.NumGoroutine")=false:=by decide+kernel
theorem vm:Tryz.f155.body.isNone=false:=rfl
theorem vj:(Tryz.f155.name== "runtime.NumGoroutine")=false:=by decide+kernel
theorem Cr(w0:World)(g:(Int)×(List Pt))(g_v:Value)(hg_v:Ro w0 g_v g.2):
    Calls Tryz.prog 133 #[vg [vi g.1,g_v]] w0 (λee w=>∃xx:ax×Value×Value,ee= .returned ((λ⟨δ,rv0,rv1⟩=>vt [vg [vi (((cV g).1).1),rv0],rv1,vi ((cV g).2.2)]) xx)/\(λ(⟨δ,rv0,rv1⟩:ax×Value×Value) (w:World)=>dz w0 δ w/\Ow δ (is 1) (is 1) w rv0 (((cV g).1).2)/\Ow δ (is 2) (is 2) w rv1 ((cV g).2.1)) xx w):=by
 refine ah Tryz.func133 rfl nq ?_
 have bH:=aW.start w0
 have Rg:=hg_v.sl
 refine a7 (a6 rfl (cy rfl (bU c0 (is 1) (1,0) rfl rfl ?_)))
 intro g4 w1 b3 ch2 bx5
 refine lo (aZ g4 (is 2) (2,0) rfl aK ?_)
 intro g9 w6 b8 ch7 bx10
 refine ma vn (ai 0 (ab (a7 (a7 (a6 rfl ?_)))))
 refine lx (av (ds:=[vi g.1,g_v]) aK rfl bx5.t rfl rfl) ?_
 refine lo (bI (v:=vb (eI g)) (aB (vals:=[vg [vi g.1,g_v]]) Tryz.func32 jc jp rfl) (jA w6 g g_v Rg.t.ro) ?_)
 intro w11 hb12
 replace hb12:=aG hb12 g9
 refine lx (fM (b:=(eI g)) rfl) (ab ?_)
 by_cases p1:(eI g)=true
 ·
  have hm:=of_decide_eq_true p1
  have hm0:=hm
  obtain⟨hm1,hm2,hm3,hm4⟩:=hm0
  refine af rfl (congrArg Bool.not p1) (am (a7 (a6 rfl (lx (aa dK rfl rfl rfl rfl) ?_))))
  refine lx (a8 aD rfl bx5.t rfl) (lw (vg [vi g.1,vn]) (bn (vs:=[(0,vi g.1)]) rfl (by kernel_rfl)) (lo (aZ g9 (is 3) (3,0) rfl aK ?_)))
  intro g16 w13 b15 ch14 bx17
  refine lo (aA (cs':=[vi g.1,vn]) aK rfl rfl bx17 rfl nq (AllOne.all (.cons rfl (.cons rfl .nil))) rfl ?_)
  intro w18 ch19 bx20
  refine ab (a7 (a6 rfl (ma vn (ab (a7 (a6 rfl (cy rfl (pf (K:=Pt) g16 (is 4) (4,0) rfl ?_))))))))
  intro g21 w22 v23 ch24 m25
  refine ma v23 (ab (a7 (a7 (a6 rfl (lx (aa dK rfl rfl rfl rfl) ?_)))))
  refine lx (a8 bM rfl bx5.t rfl) ?_
  have len28:=(Rg).small
  refine lx (bG eG rfl Rg.t) (mi 0 (ab (aj ?_)))
  refine aR (σ:=Nat×Value×(List Pt)×Value×(List Int)×(Pt->Int)×ax) (λ⟨k,out_1_v,out_1,left_v,left,seen,gq⟩ f w=>aW w0 gq w/\f 2=vp b8 0/\f 5=vp b15 0/\f 6=left_v/\f 7=v23/\f 20=g_v/\f 21=vi (g.2.length:Int)/\f 22=vi ↑k/\Sl gq (is 0) w g_v g.2/\Bx gq (is 2) w b8 [vi 0,vn]/\Bx gq (is 3) w b15 [vi g.1,out_1_v]/\Mp gq (is 4) w v23 seen/\Ow gq (is 8) (is 8) w out_1_v out_1/\Ow gq (is 10) (is 10) w left_v left/\(k:Int)<=((g.2.length:Int):Int)/\(dC left out_1 seen g k)) (λ⟨k,out_1_v,out_1,left_v,left,seen,gq⟩=>Int.toNat (((g.2.length:Int):Int)-(k:Int))) (0,vn,[],vn,[],(λ_=>0),g21) ?_ ?_
  · exact⟨bH.t,rfl,rfl,rfl,rfl,rfl,rfl,rfl,Rg.t,bx10.t,bx20.t,m25,Ow.nil,Ow.nil,by omega,by exact dC.start g⟩
  rintro⟨k,out_1_v,out_1,left_v,left,seen,g32⟩ f30 w31 ⟨bH,zs2,zs5,zs6,zs7,zs20,zs21,zs22,Rg,bx10,bx20,m25,o_out_1,o_left,hle_k,hinv⟩ back7
  obtain⟨hbl,hbo,hse⟩:=hinv.bd
  refine a7 (a6 rfl (lx (br (m:=↑k) (n:=(g.2.length:Int)) zs22 zs21) (ab (a7 ?_))))
  by_cases p7:(k:Int)<(g.2.length:Int)
  ·
   refine ag rfl (dt p7) ?_
   have hse1:=hse (min (gI g.2 ↑k).1 (gI g.2 ↑k).2,max (gI g.2 ↑k).1 (gI g.2 ↑k).2)
   refine am (a7 (aj (a7 (a6 rfl (mz zs22 (lx (ad (v:=g_v) (i:=↑k) eG rfl zs20 Rg zs22 (by omega) (by omega)) (lw (vg [vi ((gI g.2 ↑k).1),vi ((gI g.2 ↑k).2)]) (bW (v:=g_v) (i:=↑k) bm rfl Rg (by omega) (by omega) rfl) (lo (aZ g32 (is 5) (5,0) rfl bm ?_)))))))))
   intro g36 w33 b35 ch34 bx37
   refine ai (k:Int) (lo (aA (cs':=[vi ((gI g.2 ↑k).1),vi ((gI g.2 ↑k).2)]) bm rfl rfl bx37 rfl nq (AllOne.all (.cons rfl (.cons rfl .nil))) rfl ?_))
   intro w38 ch39 bx40
   refine ab (a7 (a6 rfl (lx (av (ds:=[vi ((gI g.2 ↑k).1),vi ((gI g.2 ↑k).2)]) bm rfl bx40 rfl rfl) (lo (bI (v:=vg [vi (min (gI g.2 ↑k).1 (gI g.2 ↑k).2),vi (max (gI g.2 ↑k).1 (gI g.2 ↑k).2)]) (aB (vals:=[vg [vi ((gI g.2 ↑k).1),vi ((gI g.2 ↑k).2)]]) Tryz.func151 ui uV rfl) (Ai w38 (gI g.2 ↑k)) ?_)))))
   intro w41 hb42
   replace hb42:=aG hb42 g36
   refine lo (aZ g36 (is 6) (6,0) rfl bm ?_)
   intro g46 w43 b45 ch44 bx47
   refine lo (aA (cs':=[vi (min (gI g.2 ↑k).1 (gI g.2 ↑k).2),vi (max (gI g.2 ↑k).1 (gI g.2 ↑k).2)]) bm rfl rfl bx47 rfl nq (AllOne.all (.cons rfl (.cons rfl .nil))) rfl ?_)
   intro w48 ch49 bx50
   refine ab (a7 (a7 (a6 rfl (lx (aP eS rfl rfl rfl (by decide) (by decide) rfl) ?_))))
   refine lx (a8 aD rfl bx40.t rfl) (lx (aP eS rfl rfl rfl (by decide) (by decide) rfl) (lx (a8 aD rfl bx40.t rfl) (lx (du (m:=(gI g.2 ↑k).1) (n:=(gI g.2 ↑k).2) rfl rfl) (mv (vb (!(decide (((gI g.2 ↑k).1)=((gI g.2 ↑k).2))))) ?_))))
   by_cases q34:((gI g.2 ↑k).1)=((gI g.2 ↑k).2)
   ·
    refine au (wn (congrArg Bool.not (dt q34))) (au (wn (congrArg Bool.not (dt q34))) (au (wn (congrArg Bool.not (dt q34))) (au (wn (congrArg Bool.not (dt q34))) (lw (vb false) (bo rfl (congrArg Bool.not (dt q34)) rfl) (ab (af rfl rfl (am ?_)))))))
    refine dw (σ:=ax) (λgq f w=>aW w0 gq w/\f 2=vp b8 0/\f 5=vp b15 0/\f 6=left_v/\f 7=v23/\f 20=g_v/\f 21=vi (g.2.length:Int)/\f 22=vi ↑k/\Sl gq (is 0) w g_v g.2/\Bx gq (is 2) w b8 [vi 0,vn]/\Bx gq (is 3) w b15 [vi g.1,out_1_v]/\Ow gq (is 8) (is 8) w out_1_v out_1/\Ow gq (is 10) (is 10) w left_v left/\Mp gq (is 4) w v23 (λq=>if q=(min (gI g.2 ↑k).1 (gI g.2 ↑k).2,max (gI g.2 ↑k).1 (gI g.2 ↑k).2) then((seen (min (gI g.2 ↑k).1 (gI g.2 ↑k).2,max (gI g.2 ↑k).1 (gI g.2 ↑k).2))+1) else seen q)) g46 [0,1,3,5] fe ?_ ?_
    ·
     intro mid
     intro w53 ch52
     refine xp (v:=v23) 0 rfl (λw=>ar zs7) ?_
     refine xv 1 [0] rfl (av (ds:=[vi (min (gI g.2 ↑k).1 (gI g.2 ↑k).2),vi (max (gI g.2 ↑k).1 (gI g.2 ↑k).2)]) bm rfl bx50.t rfl rfl) ?_
     refine de 2 4 rfl rfl (by kernel_rfl) rfl rfl ?_ ?_
     ·
      refine ao (v:=vi (seen (min (gI g.2 ↑k).1 (gI g.2 ↑k).2,max (gI g.2 ↑k).1 (gI g.2 ↑k).2))) (dx (min (gI g.2 ↑k).1 (gI g.2 ↑k).2,max (gI g.2 ↑k).1 (gI g.2 ↑k).2) oR (cq eS U3 aD) aD rfl m25.t rfl rfl) (xp 3 rfl (λw=>aJ (m:=seen (min (gI g.2 ↑k).1 (gI g.2 ↑k).2,max (gI g.2 ↑k).1 (gI g.2 ↑k).2)) (n:=1) rfl rfl (by omega)) (cE 4 rfl (eO (min (gI g.2 ↑k).1 (gI g.2 ↑k).2,max (gI g.2 ↑k).1 (gI g.2 ↑k).2) oR (cq eS U3 aD) aD rfl m25.t rfl rfl ?_)))
      intro w55 s58 ch56 m57
      refine xp 5 rfl (λw=>ay rfl rfl) (cE 6 rfl (dR rfl m57 rfl rfl ?_))
      intro w59 ch60 m61
      refine bV (by kernel_rfl) ?_
      exact mid (g46) _ _ ⟨bH.t,zs2,zs5,zs6,zs7,zs20,zs21,zs22,Rg.t,bx10.t,bx20.t,o_out_1.t,o_left.t,m61⟩
     ·
      refine eO (min (gI g.2 ↑k).1 (gI g.2 ↑k).2,max (gI g.2 ↑k).1 (gI g.2 ↑k).2) oR (cq eS U3 aD) aD rfl m25.t rfl rfl ?_
      intro w63 s66 ch64 m65
      refine xp 5 rfl (λw=>ay rfl rfl) (cE 2 rfl (ao (v:=vi (seen (min (gI g.2 ↑k).1 (gI g.2 ↑k).2,max (gI g.2 ↑k).1 (gI g.2 ↑k).2))) (dx (min (gI g.2 ↑k).1 (gI g.2 ↑k).2,max (gI g.2 ↑k).1 (gI g.2 ↑k).2) oR (cq eS U3 aD) aD rfl m65.mp rfl rfl) (xp 3 rfl (λw=>aJ (m:=seen (min (gI g.2 ↑k).1 (gI g.2 ↑k).2,max (gI g.2 ↑k).1 (gI g.2 ↑k).2)) (n:=1) rfl rfl (by omega)) (cE 6 rfl (dR rfl m65 rfl rfl ?_)))))
      intro w68 ch69 m70
      refine bV (by kernel_rfl) ?_
      exact mid (g46) _ _ ⟨bH.t,zs2,zs5,zs6,zs7,zs20,zs21,zs22,Rg.t,bx10.t,bx20.t,o_out_1.t,o_left.t,m70⟩
    rintro g74 f72 w73 ⟨bH,zs2,zs5,zs6,zs7,zs20,zs21,zs22,Rg,bx10,bx20,o_out_1,o_left,m59⟩
    refine ak (a6 rfl (lx (aJ (m:=↑k) (n:=1) zs22 rfl (by omega)) (mi ((k:Int)+1) (ab ?_))))
    refine back7 (k+1,out_1_v,out_1,left_v,left,(λq=>if q=(min (gI g.2 ↑k).1 (gI g.2 ↑k).2,max (gI g.2 ↑k).1 (gI g.2 ↑k).2) then((seen (min (gI g.2 ↑k).1 (gI g.2 ↑k).2,max (gI g.2 ↑k).1 (gI g.2 ↑k).2))+1) else seen q),g74) _ _ ⟨bH,zs2,zs5,zs6,zs7,zs20,zs21,rfl,Rg,bx10,bx20,m59,o_out_1,o_left,by omega,?_⟩ ?_
    · show dC left out_1 (λq=>if q=(min (gI g.2 ↑k).1 (gI g.2 ↑k).2,max (gI g.2 ↑k).1 (gI g.2 ↑k).2) then((seen (min (gI g.2 ↑k).1 (gI g.2 ↑k).2,max (gI g.2 ↑k).1 (gI g.2 ↑k).2))+1) else seen q) g (k+1)
      exact hinv.skip ‹_› (.inl q34)
    · show Int.toNat (_-_)<Int.toNat (_-_)
      omega
   refine lv (v23) (wy (congrArg Bool.not (df q34))) (ar zs7) (lv (vg [vi (min (gI g.2 ↑k).1 (gI g.2 ↑k).2),vi (max (gI g.2 ↑k).1 (gI g.2 ↑k).2)]) (wy (congrArg Bool.not (df q34))) (av (ds:=[vi (min (gI g.2 ↑k).1 (gI g.2 ↑k).2),vi (max (gI g.2 ↑k).1 (gI g.2 ↑k).2)]) bm rfl bx50.t rfl rfl) ?_)
   refine lv (vi (seen (min (gI g.2 ↑k).1 (gI g.2 ↑k).2,max (gI g.2 ↑k).1 (gI g.2 ↑k).2))) (wy (congrArg Bool.not (df q34))) (dx (min (gI g.2 ↑k).1 (gI g.2 ↑k).2,max (gI g.2 ↑k).1 (gI g.2 ↑k).2) oR (cq eS U3 aD) aD rfl m25.t rfl rfl) (lv (vb (decide ((seen (min (gI g.2 ↑k).1 (gI g.2 ↑k).2,max (gI g.2 ↑k).1 (gI g.2 ↑k).2))=0))) (wy (congrArg Bool.not (df q34))) (dd (m:=seen (min (gI g.2 ↑k).1 (gI g.2 ↑k).2,max (gI g.2 ↑k).1 (gI g.2 ↑k).2)) (n:=0) rfl rfl) ?_)
   refine lw (vb (decide ((seen (min (gI g.2 ↑k).1 (gI g.2 ↑k).2,max (gI g.2 ↑k).1 (gI g.2 ↑k).2))=0))) (bh rfl (congrArg Bool.not (df q34)) rfl) (ab ?_)
   by_cases p10:(seen (min (gI g.2 ↑k).1 (gI g.2 ↑k).2,max (gI g.2 ↑k).1 (gI g.2 ↑k).2))=0
   ·
    refine ag rfl (dt p10) (a7 (a6 rfl (lx (aa dK rfl rfl zs5 rfl) ?_)))
    refine lx (a8 bM rfl bx20.t rfl) (lx (av (ds:=[vi ((gI g.2 ↑k).1),vi ((gI g.2 ↑k).2)]) bm rfl bx40.t rfl rfl) (lo (aq (α:=Pt) g46 (is 7) (is 7) (7,0) rfl [(gI g.2 ↑k)] eG bm (by decide) (by decide) (vs:=[(0,vg [vi ((gI g.2 ↑k).1),vi ((gI g.2 ↑k).2)])]) rfl rfl (.cons rfl .nil) ?_)))
    intro g76 w77 v78 ch79 o80
    refine lo ?_
    refine aS (α:=Pt) (xs:=out_1) (ys:=([(gI g.2 ↑k)])) g76 (J:=is 8) (S:=is 8) (8,0) rfl eG bm (by decide) rfl rfl rfl o_out_1.t o80.flat (by decide) (by(simp;omega)) ?_
    intro g82 w83 v84 ch85 o86
    refine lx (aa dK rfl rfl zs5 rfl) (lo ?_)
    refine aC (cs':=[vi g.1,v84]) bM rfl rfl bx20.t (aL o86.flat) nq (aM o86.flat) rfl ?_
    intro w87 ch88 bx89
    refine ab ?_
    refine a6 rfl (mz zs6 (mi ↑k (lo (aq (α:=Int) g82 (is 9) (is 9) (9,0) rfl [(k:Int)] bF aD (by decide) (by decide) (vs:=[(0,vi ↑k)]) rfl rfl (.cons rfl .nil) ?_))))
    intro g90 w91 v92 ch93 o94
    refine lo ?_
    refine aS (α:=Int) (xs:=left) (ys:=([(k:Int)])) g90 (J:=is 10) (S:=is 10) (10,0) rfl bF aD (by decide) rfl rfl rfl o_left.t o94.flat (by decide) (by(simp;omega)) ?_
    intro g96 w97 v98 ch99 o100
    refine ma v98 (ab ?_)
    refine dw (σ:=ax) (λgq f w=>aW w0 gq w/\f 2=vp b8 0/\f 5=vp b15 0/\f 6=v98/\f 7=v23/\f 20=g_v/\f 21=vi (g.2.length:Int)/\f 22=vi ↑k/\Sl gq (is 0) w g_v g.2/\Bx gq (is 2) w b8 [vi 0,vn]/\Ow gq (is 8) (is 8) w v84 (out_1++[(gI g.2 ↑k)])/\Bx gq (is 3) w b15 [vi g.1,v84]/\Ow gq (is 10) (is 10) w v98 (left++[(k:Int)])/\Mp gq (is 4) w v23 (λq=>if q=(min (gI g.2 ↑k).1 (gI g.2 ↑k).2,max (gI g.2 ↑k).1 (gI g.2 ↑k).2) then((seen (min (gI g.2 ↑k).1 (gI g.2 ↑k).2,max (gI g.2 ↑k).1 (gI g.2 ↑k).2))+1) else seen q)) g96 [0,1,3,5] fe ?_ ?_
    ·
     intro mid
     intro w102 ch101
     refine xp (v:=v23) 0 rfl (λw=>ar zs7) ?_
     refine xv 1 [0] rfl (av (ds:=[vi (min (gI g.2 ↑k).1 (gI g.2 ↑k).2),vi (max (gI g.2 ↑k).1 (gI g.2 ↑k).2)]) bm rfl bx50.t rfl rfl) ?_
     refine de 2 4 rfl rfl (by kernel_rfl) rfl rfl ?_ ?_
     ·
      refine ao (v:=vi (seen (min (gI g.2 ↑k).1 (gI g.2 ↑k).2,max (gI g.2 ↑k).1 (gI g.2 ↑k).2))) (dx (min (gI g.2 ↑k).1 (gI g.2 ↑k).2,max (gI g.2 ↑k).1 (gI g.2 ↑k).2) oR (cq eS U3 aD) aD rfl m25.t rfl rfl) (xp 3 rfl (λw=>aJ (m:=seen (min (gI g.2 ↑k).1 (gI g.2 ↑k).2,max (gI g.2 ↑k).1 (gI g.2 ↑k).2)) (n:=1) rfl rfl (by omega)) (cE 4 rfl (eO (min (gI g.2 ↑k).1 (gI g.2 ↑k).2,max (gI g.2 ↑k).1 (gI g.2 ↑k).2) oR (cq eS U3 aD) aD rfl m25.t rfl rfl ?_)))
      intro w104 s107 ch105 m106
      refine xp 5 rfl (λw=>ay rfl rfl) (cE 6 rfl (dR rfl m106 rfl rfl ?_))
      intro w108 ch109 m110
      refine bV (by kernel_rfl) ?_
      exact mid (g96) _ _ ⟨bH.t,zs2,zs5,rfl,zs7,zs20,zs21,zs22,Rg.t,bx10.t,o86.t,bx89.t,o100.t,m110⟩
     ·
      refine eO (min (gI g.2 ↑k).1 (gI g.2 ↑k).2,max (gI g.2 ↑k).1 (gI g.2 ↑k).2) oR (cq eS U3 aD) aD rfl m25.t rfl rfl ?_
      intro w115 s118 ch116 m117
      refine xp 5 rfl (λw=>ay rfl rfl) (cE 2 rfl (ao (v:=vi (seen (min (gI g.2 ↑k).1 (gI g.2 ↑k).2,max (gI g.2 ↑k).1 (gI g.2 ↑k).2))) (dx (min (gI g.2 ↑k).1 (gI g.2 ↑k).2,max (gI g.2 ↑k).1 (gI g.2 ↑k).2) oR (cq eS U3 aD) aD rfl m117.mp rfl rfl) (xp 3 rfl (λw=>aJ (m:=seen (min (gI g.2 ↑k).1 (gI g.2 ↑k).2,max (gI g.2 ↑k).1 (gI g.2 ↑k).2)) (n:=1) rfl rfl (by omega)) (cE 6 rfl (dR rfl m117 rfl rfl ?_)))))
      intro w119 ch120 m121
      refine bV (by kernel_rfl) ?_
      exact mid (g96) _ _ ⟨bH.t,zs2,zs5,rfl,zs7,zs20,zs21,zs22,Rg.t,bx10.t,o86.t,bx89.t,o100.t,m121⟩
    rintro g128 f126 w127 ⟨bH,zs2,zs5,zs6,zs7,zs20,zs21,zs22,Rg,bx10,o86,bx89,o100,m108⟩
    refine ak (a6 rfl (lx (aJ (m:=↑k) (n:=1) zs22 rfl (by omega)) (mi ((k:Int)+1) (ab ?_))))
    refine back7 (k+1,v84,(out_1++[(gI g.2 ↑k)]),v98,(left++[(k:Int)]),(λq=>if q=(min (gI g.2 ↑k).1 (gI g.2 ↑k).2,max (gI g.2 ↑k).1 (gI g.2 ↑k).2) then((seen (min (gI g.2 ↑k).1 (gI g.2 ↑k).2,max (gI g.2 ↑k).1 (gI g.2 ↑k).2))+1) else seen q),g128) _ _ ⟨bH,zs2,zs5,zs6,zs7,zs20,zs21,rfl,Rg,bx10,bx89,m108,o86,o100,by omega,?_⟩ ?_
    · show dC (left++[(k:Int)]) (out_1++[(gI g.2 ↑k)]) (λq=>if q=(min (gI g.2 ↑k).1 (gI g.2 ↑k).2,max (gI g.2 ↑k).1 (gI g.2 ↑k).2) then((seen (min (gI g.2 ↑k).1 (gI g.2 ↑k).2,max (gI g.2 ↑k).1 (gI g.2 ↑k).2))+1) else seen q) g (k+1)
      exact hinv.take ‹_› q34 p10
    · show Int.toNat (_-_)<Int.toNat (_-_)
      omega
   refine af rfl (df p10) (am ?_)
   refine dw (σ:=ax) (λgq f w=>aW w0 gq w/\f 2=vp b8 0/\f 5=vp b15 0/\f 6=left_v/\f 7=v23/\f 20=g_v/\f 21=vi (g.2.length:Int)/\f 22=vi ↑k/\Sl gq (is 0) w g_v g.2/\Bx gq (is 2) w b8 [vi 0,vn]/\Bx gq (is 3) w b15 [vi g.1,out_1_v]/\Ow gq (is 8) (is 8) w out_1_v out_1/\Ow gq (is 10) (is 10) w left_v left/\Mp gq (is 4) w v23 (λq=>if q=(min (gI g.2 ↑k).1 (gI g.2 ↑k).2,max (gI g.2 ↑k).1 (gI g.2 ↑k).2) then((seen (min (gI g.2 ↑k).1 (gI g.2 ↑k).2,max (gI g.2 ↑k).1 (gI g.2 ↑k).2))+1) else seen q)) g46 [0,1,3,5] fe ?_ ?_
   ·
    intro mid
    intro w130 ch129
    refine xp (v:=v23) 0 rfl (λw=>ar zs7) ?_
    refine xv 1 [0] rfl (av (ds:=[vi (min (gI g.2 ↑k).1 (gI g.2 ↑k).2),vi (max (gI g.2 ↑k).1 (gI g.2 ↑k).2)]) bm rfl bx50.t rfl rfl) ?_
    refine de 2 4 rfl rfl (by kernel_rfl) rfl rfl ?_ ?_
    ·
     refine ao (v:=vi (seen (min (gI g.2 ↑k).1 (gI g.2 ↑k).2,max (gI g.2 ↑k).1 (gI g.2 ↑k).2))) (dx (min (gI g.2 ↑k).1 (gI g.2 ↑k).2,max (gI g.2 ↑k).1 (gI g.2 ↑k).2) oR (cq eS U3 aD) aD rfl m25.t rfl rfl) (xp 3 rfl (λw=>aJ (m:=seen (min (gI g.2 ↑k).1 (gI g.2 ↑k).2,max (gI g.2 ↑k).1 (gI g.2 ↑k).2)) (n:=1) rfl rfl (by omega)) (cE 4 rfl (eO (min (gI g.2 ↑k).1 (gI g.2 ↑k).2,max (gI g.2 ↑k).1 (gI g.2 ↑k).2) oR (cq eS U3 aD) aD rfl m25.t rfl rfl ?_)))
     intro w131 s134 ch132 m133
     refine xp 5 rfl (λw=>ay rfl rfl) (cE 6 rfl (dR rfl m133 rfl rfl ?_))
     intro w135 ch136 m137
     refine bV (by kernel_rfl) ?_
     exact mid (g46) _ _ ⟨bH.t,zs2,zs5,zs6,zs7,zs20,zs21,zs22,Rg.t,bx10.t,bx20.t,o_out_1.t,o_left.t,m137⟩
    ·
     refine eO (min (gI g.2 ↑k).1 (gI g.2 ↑k).2,max (gI g.2 ↑k).1 (gI g.2 ↑k).2) oR (cq eS U3 aD) aD rfl m25.t rfl rfl ?_
     intro w139 s142 ch140 m141
     refine xp 5 rfl (λw=>ay rfl rfl) (cE 2 rfl (ao (v:=vi (seen (min (gI g.2 ↑k).1 (gI g.2 ↑k).2,max (gI g.2 ↑k).1 (gI g.2 ↑k).2))) (dx (min (gI g.2 ↑k).1 (gI g.2 ↑k).2,max (gI g.2 ↑k).1 (gI g.2 ↑k).2) oR (cq eS U3 aD) aD rfl m141.mp rfl rfl) (xp 3 rfl (λw=>aJ (m:=seen (min (gI g.2 ↑k).1 (gI g.2 ↑k).2,max (gI g.2 ↑k).1 (gI g.2 ↑k).2)) (n:=1) rfl rfl (by omega)) (cE 6 rfl (dR rfl m141 rfl rfl ?_)))))
     intro w143 ch144 m145
     refine bV (by kernel_rfl) ?_
     exact mid (g46) _ _ ⟨bH.t,zs2,zs5,zs6,zs7,zs20,zs21,zs22,Rg.t,bx10.t,bx20.t,o_out_1.t,o_left.t,m145⟩
   rintro g149 f147 w148 ⟨bH,zs2,zs5,zs6,zs7,zs20,zs21,zs22,Rg,bx10,bx20,o_out_1,o_left,m135⟩
   refine ak (a6 rfl (lx (aJ (m:=↑k) (n:=1) zs22 rfl (by omega)) (mi ((k:Int)+1) (ab ?_))))
   refine back7 (k+1,out_1_v,out_1,left_v,left,(λq=>if q=(min (gI g.2 ↑k).1 (gI g.2 ↑k).2,max (gI g.2 ↑k).1 (gI g.2 ↑k).2) then((seen (min (gI g.2 ↑k).1 (gI g.2 ↑k).2,max (gI g.2 ↑k).1 (gI g.2 ↑k).2))+1) else seen q),g149) _ _ ⟨bH,zs2,zs5,zs6,zs7,zs20,zs21,rfl,Rg,bx10,bx20,m135,o_out_1,o_left,by omega,?_⟩ ?_
   · show dC left out_1 (λq=>if q=(min (gI g.2 ↑k).1 (gI g.2 ↑k).2,max (gI g.2 ↑k).1 (gI g.2 ↑k).2) then((seen (min (gI g.2 ↑k).1 (gI g.2 ↑k).2,max (gI g.2 ↑k).1 (gI g.2 ↑k).2))+1) else seen q) g (k+1)
     exact hinv.skip ‹_› (.inr p10)
   · show Int.toNat (_-_)<Int.toNat (_-_)
     omega
  refine af rfl (df p7) (aF rfl (a7 ?_))
  refine a6 rfl (lx (av (ds:=[vi g.1,out_1_v]) aK zs5 bx20 rfl rfl) (mz zs6 (lo (aA (cs':=[vi g.1,out_1_v]) aK zs2 rfl bx10 rfl nq (AllOne.all (.cons rfl (.cons (aM o_out_1.flat) .nil))) rfl ?_))))
  intro w150 ch151 bx152
  refine ma left_v (ai 0 (ab (az (vs:=[vg [vi g.1,out_1_v],left_v,vi 0]) Tryz.func133 (.cell zs2 (cd (ds:=[vi g.1,out_1_v]) aK bx152 rfl rfl) (.tmp rfl (.tmp rfl .nil))) ?_)))
  have e0:((g.1,out_1):(Int)×(List Pt))=((cV g).1):=by
    (have hk:k=g.2.length:=by omega
     subst hk
     (simp only[cV,if_pos hm,<-hinv.out];done))
  have e1:(left:List Int)=((cV g).2.1):=by
    (have hk:k=g.2.length:=by omega
     subst hk
     (simp only[cV,if_pos hm,<-hinv.left];done))
  have e2:(0:Int)=((cV g).2.2):=by
    (have hk:k=g.2.length:=by omega
     subst hk
     (simp only[cV,if_pos hm,<-hinv.out];done))
  exact⟨(fin w0 g32 (λn=>if n=8 then 1 else if n=10 then 2 else 0),out_1_v,left_v),(iZ (a:=(g.1,out_1)) (b:=left) (c:=0) (λ(z0:(Int)×(List Pt)) (z1:List Int) (z2:Int)=>Ending.returned (vt [vg [vi z0.1,out_1_v],left_v,vi z2])) e0 e1 e2),bH.t.fresh _,((congrArg (λ(z:(Int)×(List Pt))=>z.2) e0)▸(o_out_1.t.glue (γ:=c0) (ren:=(λn=>if n=8 then 1 else if n=10 then 2 else 0)) (k:=1) bH.t.col rfl rfl)),(e1▸(o_left.t.glue (γ:=c0) (ren:=(λn=>if n=8 then 1 else if n=10 then 2 else 0)) (k:=2) bH.t.col rfl rfl))⟩
 refine ag rfl (congrArg Bool.not (Bool.eq_false_iff.2 p1)) (a7 ?_)
 refine a6 rfl (lw (vg [vi 0,vn]) (bn (vs:=[]) rfl (by kernel_rfl)) (lo ?_))
 refine aA (cs':=[vi 0,vn]) aK rfl rfl bx10.t rfl nq (AllOne.all (.cons rfl (.cons rfl .nil))) rfl ?_
 intro w153 ch154 bx155
 refine ma vn (ai 1 (ab (az (vs:=[vg [vi 0,vn],vn,vi 1]) Tryz.func133 (.cell rfl (cd (ds:=[vi 0,vn]) aK bx155 rfl rfl) (.tmp rfl (.tmp rfl .nil))) ?_)))
 have e0:((0,[]):(Int)×(List Pt))=((cV g).1):=by
   (have hn:¬bO g:=λh=>p1 (dt h)
    simp only[cV,if_neg hn];done)
 have e1:([]:List Int)=((cV g).2.1):=by
   (have hn:¬bO g:=λh=>p1 (dt h)
    simp only[cV,if_neg hn];done)
 have e2:(1:Int)=((cV g).2.2):=by
   (have hn:¬bO g:=λh=>p1 (dt h)
    simp only[cV,if_neg hn];done)
 exact⟨(fin w0 g9 (λn=>0),vn,vn),(iZ (a:=(0,[])) (b:=[]) (c:=1) (λ(z0:(Int)×(List Pt)) (z1:List Int) (z2:Int)=>Ending.returned (vt [vg [vi z0.1,vn],vn,vi z2])) e0 e1 e2),bH.t.fresh _,((congrArg (λ(z:(Int)×(List Pt))=>z.2) e0)▸Ow.nil),(e1▸Ow.nil)⟩
theorem lp(w0:World)(n:Int)(x:Int)(hn:0<=n/\n<=1000000):
    Calls Tryz.prog 137 #[vi n,vi x] w0 (λee w=>∃xx:ax×Value,ee= .returned ((λ⟨δ,rv0⟩=>rv0) xx)/\(λ(⟨δ,rv0⟩:ax×Value) (w:World)=>dz w0 δ w/\Ow δ (is 1) (is 1) w rv0 (List.replicate n.toNat x)) xx w):=by
 refine ah Tryz.func137 rfl nq ?_
 have bH:=aW.start w0
 obtain⟨hn1,hn2⟩:=hn
 have hrep:((List.replicate n.toNat (0:Int)).length:Int)=n:=by simp;omega
 refine a7 (a6 rfl (ma vn (ab (a7 (a6 rfl (mi n (lo (dF (α:=Int) (l:=n) (cp:=n) c0 (is 1) (is 1) (1,0) rfl (0:Int) bF aD rfl rfl rfl (by omega) (by omega) (by omega) (by omega) ?_))))))))
 intro g1 w2 v3 ch4 o5 _
 refine ma v3 (ab (a7 (a7 (a6 rfl (mv v3 ?_)))))
 have len6:=(o5.flat).small
 refine lx (bG bF rfl o5.flat) (mi 0 (ab (aj ?_)))
 refine aR (σ:=Nat×(List Int)×ax) (λ⟨k,l,gq⟩ f w=>aW w0 gq w/\f 1=vi x/\f 5=v3/\f 10=vi (List.length (List.replicate (Int.toNat n) (0:Int)):Int)/\f 11=vi ↑k/\Ow gq (is 1) (is 1) w v3 l/\(k:Int)<=((List.length (List.replicate (Int.toNat n) (0:Int)):Int):Int)/\(l=List.replicate k x++List.replicate (n.toNat-k) 0/\(k:Int)<=n)) (λ⟨k,l,gq⟩=>Int.toNat (((List.length (List.replicate (Int.toNat n) (0:Int)):Int):Int)-(k:Int))) (0,(List.replicate (Int.toNat n) (0:Int)),g1) ?_ ?_
 · exact⟨bH.t,rfl,rfl,rfl,rfl,o5,by omega,by exact⟨by simp,by omega⟩⟩
 rintro⟨k,l,g9⟩ f7 w8 ⟨bH,zs1,zs5,zs10,zs11,o5,hle_k,hinv⟩ back3
 have hll:l.length=n.toNat:=by rw[hinv.1];simp;omega
 refine a7 (a6 rfl (lx (br (m:=↑k) (n:=(List.length (List.replicate (Int.toNat n) (0:Int)):Int)) zs11 zs10) (ab (a7 ?_))))
 by_cases p3:(k:Int)<(List.length (List.replicate (Int.toNat n) (0:Int)):Int)
 ·
  refine ag rfl (dt p3) (am (a7 (aj (a7 (a6 rfl (mz zs11 (ai (k:Int) (ab (a6 rfl (mz zs5 (mi ↑k ?_)))))))))))
  refine mz zs1 (lx (ad (v:=v3) (i:=↑k) bF rfl rfl o5.flat rfl (by omega) (by omega)) (lo (aU (i:=↑k) x aD rfl rfl o5 (by omega) (by omega) rfl ?_)))
  intro w10 ch11 bx12
  refine ab (ak (a6 rfl (lx (aJ (m:=↑k) (n:=1) zs11 rfl (by omega)) (mi ((k:Int)+1) (ab ?_)))))
  refine back3 (k+1,(List.set l (Int.toNat ↑k) x),g9) _ _ ⟨bH.t,zs1,zs5,zs10,rfl,bx12,by omega,?_⟩ ?_
  · show(List.set l (Int.toNat ↑k) x)=List.replicate (k+1) x++List.replicate (n.toNat-(k+1)) 0/\((k+1):Int)<=n
    have hk1:k<n.toNat:=by simp at*;omega
    refine⟨by rw[hinv.1];exact pm hk1,by omega⟩
  · show Int.toNat (_-_)<Int.toNat (_-_)
    omega
 refine af rfl (df p3) (aF rfl (a7 (a6 rfl (mz zs5 (ma v3 (ab (az (vs:=[v3]) Tryz.func137 (.tmp rfl .nil) ?_)))))))
 have e0:(l:List Int)=(List.replicate n.toNat x):=by
   obtain⟨h1,h2⟩:=hinv
   have hk:k=n.toNat:=by simp at*;omega
   subst hk;rw[h1];simp
 exact⟨(fin w0 g9 (λn=>if n=1 then 1 else 0),v3),(congrArg (a₁:=l) (λ(z0:List Int)=>Ending.returned (v3)) e0),bH.fresh _,(e0▸(o5.glue (γ:=c0) (ren:=(λn=>if n=1 then 1 else 0)) (k:=1) bH.col rfl rfl))⟩
set_option maxHeartbeats 1000000 in
theorem qO(w0:World)(g:(Int)×(List Pt))(g_v:Value)(hg_v:Ro w0 g_v g.2):
    Calls Tryz.prog 102 #[vg [vi g.1,g_v]] w0 (λee w=>∃xx:ax×Value,ee= .returned ((λ⟨δ,rv0⟩=>vt [rv0,vi ((bx g).2.1),vi ((bx g).2.2)]) xx)/\(λ(⟨δ,rv0⟩:ax×Value) (w:World)=>dz w0 δ w/\Ow δ (is 1) (is 1) w rv0 ((bx g).1)) xx w):=by
 refine ah Tryz.func102 rfl nq ?_
 have bH:=aW.start w0
 have Rg:=hg_v.sl
 refine a7 (a6 rfl (cy rfl (bU c0 (is 1) (1,0) rfl rfl ?_)))
 intro g4 w1 b3 ch2 bx5
 refine ma vn (ai 0 (ai 0 (ab (a7 (a7 (a6 rfl (lx (av (ds:=[vi g.1,g_v]) aK rfl bx5 rfl rfl) ?_)))))))
 refine lo (bI (v:=vb (eI g)) (aB (vals:=[vg [vi g.1,g_v]]) Tryz.func32 jc jp rfl) (jA w1 g g_v Rg.t.ro) ?_)
 intro w6 hb7
 replace hb7:=aG hb7 g4
 refine lx (fM (b:=(eI g)) rfl) (ab ?_)
 by_cases p1:(eI g)=true
 ·
  have hm:=of_decide_eq_true p1
  have hm0:=hm
  obtain⟨hm1,hm2,hm3,hm4⟩:=hm0
  refine af rfl (congrArg Bool.not p1) (am (a7 (a6 rfl ?_)))
  refine lx (av (ds:=[vi g.1,g_v]) aK rfl bx5.t rfl rfl) (lo (aV (aB (vals:=[vg [vi g.1,g_v]]) Tryz.func136 vk uh rfl) (ah Tryz.func136 rfl nq ?_)))
  refine a7 (a6 rfl (cy rfl (bU g4 (is 2) (2,0) rfl rfl ?_)))
  intro g11 w8 b10 ch9 bx12
  refine ma ((Value.pointer none)) (ab (a7 (bp g11 [0,1,2,4,6] fe ?_)))
  intro w14 ch13
  refine xh 0 [1,2,3] rfl (λw' hw'=>av (ds:=[vi g.1,g_v]) aK rfl (bx12.t.bel hw') rfl rfl) (xp 1 rfl (λw=>aa dK rfl rfl rfl rfl) (xv 2 [1,0] rfl (a8 aD rfl bx12.t rfl) (cE 3 rfl (iY (α:=Int) (n:=g.1) (cp:=g.1) g11 3 fh bS rfl rfl rfl (by omega) (by omega) (by omega) (by omega) ?_))))
  intro g15 w16 v17 ch18 o19
  refine xp (v:=vg [vi g.1,g_v,v17]) 4 rfl (λw=>bn (vs:=[(0,vg [vi g.1,g_v]),(1,v17)]) rfl (by rw[Sl.form Rg.t,Sl.form o19.sl];kernel_rfl)) (cE 5 rfl (bU g15 (is 4) (4,0) rfl rfl ?_))
  intro g24 w21 b23 ch22 bx25
  refine xp (v:=vp b23 0) 6 rfl (λw=>bK rfl) (bV (by kernel_rfl) (a7 (a7 (a6 rfl (lx (aa dK rfl rfl rfl rfl) ?_)))))
  refine lx (a8 bM rfl bx12.t rfl) ?_
  have len26:=(Rg).small
  refine lx (bG eG rfl Rg.t) (mi 0 (ab (aj ?_)))
  refine aR (σ:=Nat×j7×ax) (λ⟨e_c1,O_c1,gq⟩ f w=>aW w0 gq w/\f 3=vp b23 0/\f 15=g_v/\f 16=vi (g.2.length:Int)/\f 17=vi ↑e_c1/\Sl gq (is 0) w g_v g.2/\Bx gq (is 1) w b3 [vi g.1,g_v]/\dr gq 3 w v17 O_c1/\Bx gq (is 4) w b23 [vi g.1,g_v,v17]/\(e_c1:Int)<=((g.2.length:Int):Int)/\(dW O_c1 g e_c1)) (λ⟨e_c1,O_c1,gq⟩=>Int.toNat (((g.2.length:Int):Int)-(e_c1:Int))) (0,(List.replicate (Int.toNat g.1) []),g24) ?_ ?_
  have C28:=cg [] (ch9.o (ch13.o (ch18.o ch22.n)))
  have C27:=ch2.n.seq (hb7.n.seq C28)
  · exact⟨bH.t,rfl,rfl,rfl,rfl,Rg.t,bx5.t,o19.t,bx25,by omega,by exact dW.start hm1⟩
  rintro⟨e_c1,O_c1,g31⟩ f29 w30 ⟨bH,zs3_c1,zs15_c1,zs16_c1,zs17_c1,Rg,bx5,o19,bx25,hle_e_c1,hov_c1⟩ back3_c1
  have hol_c1:=hov_c1.len
  refine a7 (a6 rfl (lx (br (m:=↑e_c1) (n:=(g.2.length:Int)) zs17_c1 zs16_c1) (ab (a7 ?_))))
  by_cases p3_c1:(e_c1:Int)<(g.2.length:Int)
  ·
   refine ag rfl (dt p3_c1) ?_
   obtain⟨⟨he1,he2⟩,he3,he4⟩:=hm4 _ (bz (xs:=g.2) (i:=↑e_c1) (by omega) (by omega))
   have hq1:=hov_c1.rl he1 he2
   have hq2:=hov_c1.rl2 he1 he2 he3 he4 (2*(e_c1:Int))
   refine am (a7 (aj (a7 (a6 rfl (mz zs17_c1 (lx (ad (v:=g_v) (i:=↑e_c1) eG rfl zs15_c1 Rg zs17_c1 (by omega) (by omega)) (lw (vg [vi ((gI g.2 ↑e_c1).1),vi ((gI g.2 ↑e_c1).2)]) (bW (v:=g_v) (i:=↑e_c1) bm rfl Rg (by omega) (by omega) rfl) (lo (aZ g31 (is 5) (5,0) rfl bm ?_)))))))))
   intro g35 w32 b34 ch33 bx36
   refine ai (e_c1:Int) (lo (aA (cs':=[vi ((gI g.2 ↑e_c1).1),vi ((gI g.2 ↑e_c1).2)]) bm rfl rfl bx36 rfl nq (AllOne.all (.cons rfl (.cons rfl .nil))) rfl ?_))
   intro w37 ch38 bx39
   refine ab (a7 (a6 rfl (lx (av (ds:=[vi ((gI g.2 ↑e_c1).1),vi ((gI g.2 ↑e_c1).2)]) bm rfl bx39 rfl rfl) (mi 0 (ab (aj (gQ (a7 ?_))))))))
   refine a6 rfl (lx (br (m:=0) (n:=2) rfl rfl) (ab (a7 (ag rfl rfl (am (a7 (aj (a7 (a6 rfl (mi 0 (lw (vi ((gI g.2 ↑e_c1).1)) (eo eS aD rfl rfl (by decide) (by decide) rfl) ?_)))))))))))
   refine ai 0 (ai ((gI g.2 ↑e_c1).1) (ab ?_))
   refine dw (σ:=ax) (λgq f w=>aW w0 gq w/\f 3=vp b23 0/\f 4=vi ↑e_c1/\f 15=g_v/\f 16=vi (g.2.length:Int)/\f 17=vi ↑e_c1/\f 22=vg [vi ((gI g.2 ↑e_c1).1),vi ((gI g.2 ↑e_c1).2)]/\f 23=vi 0/\Sl gq (is 0) w g_v g.2/\Bx gq (is 1) w b3 [vi g.1,g_v]/\Bx gq (is 4) w b23 [vi g.1,g_v,v17]/\dr gq 3 w v17 (List.set O_c1 (Int.toNat ((gI g.2 ↑e_c1).1)) (gI O_c1 ((gI g.2 ↑e_c1).1)++[(2*(e_c1:Int))+0]))) g35 [0,1,2,4,5,6,7,8,9,10,11,12,13,14,15,18] fe ?_ ?_
   ·
    intro mid
    intro w41 ch40
    refine xp (v:=vp b23 0) 0 rfl (λw=>ar zs3_c1) (xp (v:=vp b23 0) 1 rfl (λw=>ae rfl) (xp 2 rfl (λw=>aa py rfl rfl rfl rfl) (xp (v:=vi ((gI g.2 ↑e_c1).1)) 4 rfl (λw=>ar rfl) (xp (v:=vp b23 0) 5 rfl (λw=>ar zs3_c1) (xp (v:=vp b23 0) 6 rfl (λw=>ae rfl) (xp 7 rfl (λw=>aa py rfl rfl rfl rfl) ?_))))))
    refine xh 8 [7,6,5,4,2,1,0,3,9,12,14,13,15,16] rfl (λw' hw'=>a8 e9 rfl (bx25.t.bel hw') rfl) (xp (v:=vi ((gI g.2 ↑e_c1).1)) 9 rfl (λw=>ar rfl) ?_)
    refine xh 10 [9,8,7,6,5,4,2,1,0,3,12,14,13,15,16] rfl (λw' hw'=>ad (v:=v17) (i:=(gI g.2 ↑e_c1).1) fh rfl rfl (o19.t.sl.bel hw') rfl (by omega) (by omega)) ?_
    obtain⟨v43,cel44,r45⟩:=cG (r:=(gI g.2 ↑e_c1).1) (o19.a ch40) (by omega) (by omega)
    refine xh 11 [10,9,8,7,6,5,4,2,1,0,3,12,14,13,15,16] rfl (λw' hw'=>cv bS rfl (jJ cel44 hw')) (xp (v:=vi ↑e_c1) 12 rfl (λw=>ar rfl) (xp 13 rfl (λw=>kb (m:=2) (n:=↑e_c1) rfl rfl (by omega)) (xp (v:=vi 0) 14 rfl (λw=>ar rfl) (xp 15 rfl (λw=>aJ (m:=2*(e_c1:Int)) (n:=0) rfl rfl (by omega)) ?_))))
    refine de 3 16 rfl rfl (by kernel_rfl) rfl rfl ?_ ?_
    ·
     refine ao (v:=v17) (a8 e9 rfl bx25.t rfl) (cE 16 rfl (aq (α:=Int) g35 (is 6) (is 6) (6,0) rfl [(2*(e_c1:Int))+0] bF aD (by decide) (by decide) (vs:=[(0,vi ((2*(e_c1:Int))+0))]) rfl rfl (.cons rfl .nil) ?_))
     intro g46 w47 v48 ch49 o50
     refine cE 17 rfl ?_
     refine aS (α:=Int) (xs:=(gI O_c1 ((gI g.2 ↑e_c1).1))) (ys:=([(2*(e_c1:Int))+0])) g46 (J:=row 3 (Int.toNat ((gI g.2 ↑e_c1).1)+1)) (S:=row 3 (Int.toNat ((gI g.2 ↑e_c1).1)+1)) (3,Int.toNat ((gI g.2 ↑e_c1).1)+1) rfl bF aD (by decide) rfl rfl rfl r45.t o50.flat (by decide) (by(simp;omega)) ?_
     intro g51 w52 v53 ch54 o55
     have o56:=(o19.a ch49).rowchg ch54
     obtain⟨us57,hl58,r59⟩:=o56.vc
     try simp only[List.length_set,List.length_append,List.length_cons,List.length_nil] at hl58
     refine xv 18 [17,16,3,15,14,13,12,11,10,9,8,7,6,5,4,2,1,0] rfl (ad (v:=v17) (i:=(gI g.2 ↑e_c1).1) fh rfl rfl r59 rfl (by omega) (by omega)) (cE 19 rfl (bT (r:=(gI g.2 ↑e_c1).1) bS rfl rfl o56 o55 (by omega) (by omega) ?_))
     intro w63 ch64 o65
     refine bV (by kernel_rfl) ?_
     exact mid (g51) _ _ ⟨bH.t,zs3_c1,rfl,zs15_c1,zs16_c1,zs17_c1,rfl,rfl,Rg.t,bx5.t,bx25.t,o65⟩
    ·
     refine aq (α:=Int) g35 (is 6) (is 6) (6,0) rfl [(2*(e_c1:Int))+0] bF aD (by decide) (by decide) (vs:=[(0,vi ((2*(e_c1:Int))+0))]) rfl rfl (.cons rfl .nil) ?_
     intro g68 w69 v70 ch71 o72
     refine de 3 17 rfl rfl (by kernel_rfl) rfl rfl ?_ ?_
     ·
      refine ao (v:=v17) (a8 e9 rfl bx25.t rfl) (cE 17 rfl ?_)
      refine aS (α:=Int) (xs:=(gI O_c1 ((gI g.2 ↑e_c1).1))) (ys:=([(2*(e_c1:Int))+0])) g68 (J:=row 3 (Int.toNat ((gI g.2 ↑e_c1).1)+1)) (S:=row 3 (Int.toNat ((gI g.2 ↑e_c1).1)+1)) (3,Int.toNat ((gI g.2 ↑e_c1).1)+1) rfl bF aD (by decide) rfl rfl rfl r45.t o72.flat (by decide) (by(simp;omega)) ?_
      intro g73 w74 v75 ch76 o77
      have o78:=(o19.a ch71).rowchg ch76
      obtain⟨us79,hl80,r81⟩:=o78.vc
      try simp only[List.length_set,List.length_append,List.length_cons,List.length_nil] at hl80
      refine xv 18 [17,3,16,15,14,13,12,11,10,9,8,7,6,5,4,2,1,0] rfl (ad (v:=v17) (i:=(gI g.2 ↑e_c1).1) fh rfl rfl r81 rfl (by omega) (by omega)) (cE 19 rfl (bT (r:=(gI g.2 ↑e_c1).1) bS rfl rfl o78 o77 (by omega) (by omega) ?_))
      intro w85 ch86 o87
      refine bV (by kernel_rfl) ?_
      exact mid (g73) _ _ ⟨bH.t,zs3_c1,rfl,zs15_c1,zs16_c1,zs17_c1,rfl,rfl,Rg.t,bx5.t,bx25.t,o87⟩
     ·
      refine aS (α:=Int) (xs:=(gI O_c1 ((gI g.2 ↑e_c1).1))) (ys:=([(2*(e_c1:Int))+0])) g68 (J:=row 3 (Int.toNat ((gI g.2 ↑e_c1).1)+1)) (S:=row 3 (Int.toNat ((gI g.2 ↑e_c1).1)+1)) (3,Int.toNat ((gI g.2 ↑e_c1).1)+1) rfl bF aD (by decide) rfl rfl rfl r45.t o72.flat (by decide) (by(simp;omega)) ?_
      intro g89 w90 v91 ch92 o93
      have o94:=(o19.a ch71).rowchg ch92
      refine cE 3 rfl (ao (v:=v17) (a8 e9 rfl bx25.t rfl) ?_)
      obtain⟨us95,hl96,r97⟩:=o94.vc
      try simp only[List.length_set,List.length_append,List.length_cons,List.length_nil] at hl96
      refine xv 18 [3,17,16,15,14,13,12,11,10,9,8,7,6,5,4,2,1,0] rfl (ad (v:=v17) (i:=(gI g.2 ↑e_c1).1) fh rfl rfl r97 rfl (by omega) (by omega)) (cE 19 rfl (bT (r:=(gI g.2 ↑e_c1).1) bS rfl rfl o94 o93 (by omega) (by omega) ?_))
      intro w101 ch102 o103
      refine bV (by kernel_rfl) ?_
      exact mid (g89) _ _ ⟨bH.t,zs3_c1,rfl,zs15_c1,zs16_c1,zs17_c1,rfl,rfl,Rg.t,bx5.t,bx25.t,o103⟩
   rintro g107 f105 w106 ⟨bH,zs3_c1,zs4_c1,zs15_c1,zs16_c1,zs17_c1,zs22_c1,zs23_c1,Rg,bx5,bx25,o62⟩
   refine ak (a6 rfl (lx (aJ (m:=0) (n:=1) zs23_c1 rfl (by omega)) (mi 1 (ab (eu (a7 (a6 rfl (lx (br (m:=1) (n:=2) rfl rfl) (ab (a7 (ag rfl rfl ?_)))))))))))
   refine am (a7 (aj (a7 (a6 rfl (mi 1 (lw (vi ((gI g.2 ↑e_c1).2)) (eo eS aD zs22_c1 rfl (by decide) (by decide) rfl) (ai 1 (ai ((gI g.2 ↑e_c1).2) (ab ?_)))))))))
   refine dw (σ:=ax) (λgq f w=>aW w0 gq w/\f 3=vp b23 0/\f 4=vi ↑e_c1/\f 15=g_v/\f 16=vi (g.2.length:Int)/\f 17=vi ↑e_c1/\f 22=vg [vi ((gI g.2 ↑e_c1).1),vi ((gI g.2 ↑e_c1).2)]/\f 23=vi 1/\Sl gq (is 0) w g_v g.2/\Bx gq (is 1) w b3 [vi g.1,g_v]/\Bx gq (is 4) w b23 [vi g.1,g_v,v17]/\dr gq 3 w v17 (List.set (List.set O_c1 (Int.toNat ((gI g.2 ↑e_c1).1)) (gI O_c1 ((gI g.2 ↑e_c1).1)++[(2*(e_c1:Int))+0])) (Int.toNat ((gI g.2 ↑e_c1).2)) (gI (List.set O_c1 (Int.toNat ((gI g.2 ↑e_c1).1)) (gI O_c1 ((gI g.2 ↑e_c1).1)++[(2*(e_c1:Int))+0])) ((gI g.2 ↑e_c1).2)++[(2*(e_c1:Int))+1]))) g107 [0,1,2,4,5,6,7,8,9,10,11,12,13,14,15,18] fe ?_ ?_
   ·
    intro mid
    intro w109 ch108
    refine xp (v:=vp b23 0) 0 rfl (λw=>ar zs3_c1) (xp (v:=vp b23 0) 1 rfl (λw=>ae rfl) (xp 2 rfl (λw=>aa py rfl rfl rfl rfl) (xp (v:=vi ((gI g.2 ↑e_c1).2)) 4 rfl (λw=>ar rfl) (xp (v:=vp b23 0) 5 rfl (λw=>ar zs3_c1) (xp (v:=vp b23 0) 6 rfl (λw=>ae rfl) (xp 7 rfl (λw=>aa py rfl rfl rfl rfl) ?_))))))
    refine xh 8 [7,6,5,4,2,1,0,3,9,12,14,13,15,16] rfl (λw' hw'=>a8 e9 rfl (bx25.t.bel hw') rfl) (xp (v:=vi ((gI g.2 ↑e_c1).2)) 9 rfl (λw=>ar rfl) ?_)
    refine xh 10 [9,8,7,6,5,4,2,1,0,3,12,14,13,15,16] rfl (λw' hw'=>ad (v:=v17) (i:=(gI g.2 ↑e_c1).2) fh rfl rfl (o62.t.sl.bel hw') rfl (by omega) (by(simp only[List.length_set,List.length_append,List.length_cons,List.length_nil,List.length_replicate,List.length_map,List.length_take,List.length_drop];omega))) ?_
    obtain⟨v110,cel111,r112⟩:=cG (r:=(gI g.2 ↑e_c1).2) (o62.a ch108) (by omega) (by(simp only[List.length_set,List.length_append,List.length_cons,List.length_nil,List.length_replicate,List.length_map,List.length_take,List.length_drop];omega))
    refine xh 11 [10,9,8,7,6,5,4,2,1,0,3,12,14,13,15,16] rfl (λw' hw'=>cv bS rfl (jJ cel111 hw')) (xp (v:=vi ↑e_c1) 12 rfl (λw=>ar zs4_c1) (xp 13 rfl (λw=>kb (m:=2) (n:=↑e_c1) rfl rfl (by omega)) (xp (v:=vi 1) 14 rfl (λw=>ar rfl) (xp 15 rfl (λw=>aJ (m:=2*(e_c1:Int)) (n:=1) rfl rfl (by omega)) ?_))))
    refine de 3 16 rfl rfl (by kernel_rfl) rfl rfl ?_ ?_
    ·
     refine ao (v:=v17) (a8 e9 rfl bx25.t rfl) (cE 16 rfl (aq (α:=Int) g107 (is 6) (is 6) (6,0) rfl [(2*(e_c1:Int))+1] bF aD (by decide) (by decide) (vs:=[(0,vi ((2*(e_c1:Int))+1))]) rfl rfl (.cons rfl .nil) ?_))
     intro g113 w114 v115 ch116 o117
     refine cE 17 rfl ?_
     refine aS (α:=Int) (xs:=(gI (List.set O_c1 (Int.toNat ((gI g.2 ↑e_c1).1)) (gI O_c1 ((gI g.2 ↑e_c1).1)++[(2*(e_c1:Int))+0])) ((gI g.2 ↑e_c1).2))) (ys:=([(2*(e_c1:Int))+1])) g113 (J:=row 3 (Int.toNat ((gI g.2 ↑e_c1).2)+1)) (S:=row 3 (Int.toNat ((gI g.2 ↑e_c1).2)+1)) (3,Int.toNat ((gI g.2 ↑e_c1).2)+1) rfl bF aD (by decide) rfl rfl rfl r112.t o117.flat (by decide) (by(simp;omega)) ?_
     intro g118 w119 v120 ch121 o122
     have o123:=(o62.a ch116).rowchg ch121
     obtain⟨us124,hl125,r126⟩:=o123.vc
     try simp only[List.length_set,List.length_append,List.length_cons,List.length_nil] at hl125
     refine xv 18 [17,16,3,15,14,13,12,11,10,9,8,7,6,5,4,2,1,0] rfl (ad (v:=v17) (i:=(gI g.2 ↑e_c1).2) fh rfl rfl r126 rfl (by omega) (by omega)) (cE 19 rfl (bT (r:=(gI g.2 ↑e_c1).2) bS rfl rfl o123 o122 (by omega) (by(simp only[List.length_set,List.length_append,List.length_cons,List.length_nil,List.length_replicate,List.length_map,List.length_take,List.length_drop];omega)) ?_))
     intro w130 ch131 o132
     refine bV (by kernel_rfl) ?_
     have C134:=cg [3] (ch116.o ((ch121.lr rfl).seq ch131.e))
     have C133:=ch108.n.seq C134
     exact mid (g118) _ _ ⟨bH.t,zs3_c1,zs4_c1,zs15_c1,zs16_c1,zs17_c1,zs22_c1,rfl,Rg.t,bx5.t,bx25.t,o132⟩
    ·
     refine aq (α:=Int) g107 (is 6) (is 6) (6,0) rfl [(2*(e_c1:Int))+1] bF aD (by decide) (by decide) (vs:=[(0,vi ((2*(e_c1:Int))+1))]) rfl rfl (.cons rfl .nil) ?_
     intro g135 w136 v137 ch138 o139
     refine de 3 17 rfl rfl (by kernel_rfl) rfl rfl ?_ ?_
     ·
      refine ao (v:=v17) (a8 e9 rfl bx25.t rfl) (cE 17 rfl ?_)
      refine aS (α:=Int) (xs:=(gI (List.set O_c1 (Int.toNat ((gI g.2 ↑e_c1).1)) (gI O_c1 ((gI g.2 ↑e_c1).1)++[(2*(e_c1:Int))+0])) ((gI g.2 ↑e_c1).2))) (ys:=([(2*(e_c1:Int))+1])) g135 (J:=row 3 (Int.toNat ((gI g.2 ↑e_c1).2)+1)) (S:=row 3 (Int.toNat ((gI g.2 ↑e_c1).2)+1)) (3,Int.toNat ((gI g.2 ↑e_c1).2)+1) rfl bF aD (by decide) rfl rfl rfl r112.t o139.flat (by decide) (by(simp;omega)) ?_
      intro g140 w141 v142 ch143 o144
      have o145:=(o62.a ch138).rowchg ch143
      obtain⟨us146,hl147,r148⟩:=o145.vc
      try simp only[List.length_set,List.length_append,List.length_cons,List.length_nil] at hl147
      refine xv 18 [17,3,16,15,14,13,12,11,10,9,8,7,6,5,4,2,1,0] rfl (ad (v:=v17) (i:=(gI g.2 ↑e_c1).2) fh rfl rfl r148 rfl (by omega) (by omega)) (cE 19 rfl (bT (r:=(gI g.2 ↑e_c1).2) bS rfl rfl o145 o144 (by omega) (by(simp only[List.length_set,List.length_append,List.length_cons,List.length_nil,List.length_replicate,List.length_map,List.length_take,List.length_drop];omega)) ?_))
      intro w152 ch153 o154
      refine bV (by kernel_rfl) ?_
      exact mid (g140) _ _ ⟨bH.t,zs3_c1,zs4_c1,zs15_c1,zs16_c1,zs17_c1,zs22_c1,rfl,Rg.t,bx5.t,bx25.t,o154⟩
     ·
      refine aS (α:=Int) (xs:=(gI (List.set O_c1 (Int.toNat ((gI g.2 ↑e_c1).1)) (gI O_c1 ((gI g.2 ↑e_c1).1)++[(2*(e_c1:Int))+0])) ((gI g.2 ↑e_c1).2))) (ys:=([(2*(e_c1:Int))+1])) g135 (J:=row 3 (Int.toNat ((gI g.2 ↑e_c1).2)+1)) (S:=row 3 (Int.toNat ((gI g.2 ↑e_c1).2)+1)) (3,Int.toNat ((gI g.2 ↑e_c1).2)+1) rfl bF aD (by decide) rfl rfl rfl r112.t o139.flat (by decide) (by(simp;omega)) ?_
      intro g156 w157 v158 ch159 o160
      have o161:=(o62.a ch138).rowchg ch159
      refine cE 3 rfl (ao (v:=v17) (a8 e9 rfl bx25.t rfl) ?_)
      obtain⟨us162,hl163,r164⟩:=o161.vc
      try simp only[List.length_set,List.length_append,List.length_cons,List.length_nil] at hl163
      refine xv 18 [3,17,16,15,14,13,12,11,10,9,8,7,6,5,4,2,1,0] rfl (ad (v:=v17) (i:=(gI g.2 ↑e_c1).2) fh rfl rfl r164 rfl (by omega) (by omega)) (cE 19 rfl (bT (r:=(gI g.2 ↑e_c1).2) bS rfl rfl o161 o160 (by omega) (by(simp only[List.length_set,List.length_append,List.length_cons,List.length_nil,List.length_replicate,List.length_map,List.length_take,List.length_drop];omega)) ?_))
      intro w168 ch169 o170
      refine bV (by kernel_rfl) ?_
      exact mid (g156) _ _ ⟨bH.t,zs3_c1,zs4_c1,zs15_c1,zs16_c1,zs17_c1,zs22_c1,rfl,Rg.t,bx5.t,bx25.t,o170⟩
   rintro g174 f172 w173 ⟨bH,zs3_c1,zs4_c1,zs15_c1,zs16_c1,zs17_c1,zs22_c1,zs23_c1,Rg,bx5,bx25,o130⟩
   refine ak (a6 rfl (lx (aJ (m:=1) (n:=1) zs23_c1 rfl (by omega)) (mi 2 (ab (eu (a7 (a6 rfl (lx (br (m:=2) (n:=2) rfl rfl) (ab (a7 (af rfl rfl ?_)))))))))))
   refine aF rfl (ak (a6 rfl (lx (aJ (m:=↑e_c1) (n:=1) zs17_c1 rfl (by omega)) (mi ((e_c1:Int)+1) (ab ?_)))))
   refine back3_c1 (e_c1+1,(List.set (List.set O_c1 (Int.toNat ((gI g.2 ↑e_c1).1)) (gI O_c1 ((gI g.2 ↑e_c1).1)++[(2*(e_c1:Int))+0])) (Int.toNat ((gI g.2 ↑e_c1).2)) (gI (List.set O_c1 (Int.toNat ((gI g.2 ↑e_c1).1)) (gI O_c1 ((gI g.2 ↑e_c1).1)++[(2*(e_c1:Int))+0])) ((gI g.2 ↑e_c1).2)++[(2*(e_c1:Int))+1])),g174) _ _ ⟨bH,zs3_c1,zs15_c1,zs16_c1,rfl,Rg,bx5,o130,bx25,by omega,?_⟩ ?_
   · show dW (List.set (List.set O_c1 (Int.toNat ((gI g.2 ↑e_c1).1)) (gI O_c1 ((gI g.2 ↑e_c1).1)++[(2*(e_c1:Int))+0])) (Int.toNat ((gI g.2 ↑e_c1).2)) (gI (List.set O_c1 (Int.toNat ((gI g.2 ↑e_c1).1)) (gI O_c1 ((gI g.2 ↑e_c1).1)++[(2*(e_c1:Int))+0])) ((gI g.2 ↑e_c1).2)++[(2*(e_c1:Int))+1])) g (e_c1+1)
     exact hov_c1.next he1 he2 he3 he4 (by omega) (by omega)
   · show Int.toNat (_-_)<Int.toNat (_-_)
     omega
  refine af rfl (df p3_c1) (aF rfl (a7 (a6 rfl (mz zs3_c1 (ma (vp b23 0) (ab (az (vs:=[vp b23 0]) Tryz.func136 (.tmp rfl .nil) ?_)))))))
  refine⟨vp b23 0,rfl,?_⟩
  refine ma (vp b23 0) (ab (a7 ?_))
  have hOut:=hov_c1.done (by omega)
  refine a6 rfl (lx (aa dK rfl rfl rfl rfl) (lx (a8 aD rfl bx5 rfl) (lo (bB (aB (vals:=[vi g.1,vi (-1)]) Tryz.func137 m7 m9 rfl) (lp w30 g.1 (-1) (by omega)) ?_))))
  rintro⟨d176,v178⟩ w175 ⟨fr177,o179⟩
  obtain⟨g180,ch181,G180⟩:=hU g31 fr177 (λn=>if n=1 then 7 else 0)
  replace o179:=o179.gl G180 7
  refine ma v178 (ab (a7 ?_))
  refine a6 rfl (ai 0 (ab (a7 (a7 (a6 rfl (mv v178 ?_))))))
  have len182:=(o179.flat).small
  refine lx (bG bF rfl o179.flat) (mi 0 (ab (aj ?_)))
  refine aR (σ:=Nat×Int×(List Int)×ax) (λ⟨q,n,part,gq⟩ f w=>aW w0 gq w/\f 5=vp b23 0/\f 6=v178/\f 7=vi n/\f 20=vi (List.length (List.replicate g.1.toNat (-1)):Int)/\f 21=vi ↑q/\Sl gq (is 0) w g_v g.2/\dr gq 3 w v17 O_c1/\Bx gq (is 4) w b23 [vi g.1,g_v,v17]/\Ow gq (is 7) (is 7) w v178 part/\(q:Int)<=((List.length (List.replicate g.1.toNat (-1)):Int):Int)/\(part=(cI g q).1/\n=(cI g q).2)) (λ⟨q,n,part,gq⟩=>Int.toNat (((List.length (List.replicate g.1.toNat (-1)):Int):Int)-(q:Int))) (0,0,List.replicate g.1.toNat (-1),g180) ?_ ?_
  · exact⟨bH.t,rfl,rfl,rfl,rfl,rfl,Rg.t,o19.t,bx25.t,o179,by omega,by exact⟨rfl,rfl⟩⟩
  rintro⟨q,n,part,g185⟩ f183 w184 ⟨bH,zs5,zs6,zs7,zs20,zs21,Rg,o19,bx25,o179,hle_q,hinv⟩ back7
  have hpl:=oJ g q
  have hpart:(part.length:Int)=g.1:=by rw[hinv.1,hpl.1];omega
  have hi2:=hinv.2
  have hrep:((List.replicate g.1.toNat (-1:Int)).length:Int)=g.1:=by simp;omega
  refine a7 (a6 rfl (lx (br (m:=↑q) (n:=(List.length (List.replicate g.1.toNat (-1)):Int)) zs21 zs20) (ab (a7 ?_))))
  by_cases p7:(q:Int)<(List.length (List.replicate g.1.toNat (-1)):Int)
  ·
   refine ag rfl (dt p7) (am (a7 (aj (a7 (a6 rfl (mz zs21 (ai (q:Int) (ab (a7 (a7 (a6 rfl (mz zs6 (mi ↑q ?_)))))))))))))
   refine lx (ad (v:=v178) (i:=↑q) bF rfl rfl o179.flat rfl (by omega) (by omega)) (lx (aw (v:=v178) (i:=↑q) aD rfl o179.flat (by omega) (by omega) (by decide) rfl) (lx (eL (m:=(gI part ↑q)) (n:=0) rfl rfl) (ab ?_)))
   by_cases p9:0<=(gI part ↑q)
   ·
    refine ag rfl (dt p9) (aF rfl (a6 rfl (lx (aJ (m:=↑q) (n:=1) zs21 rfl (by omega)) (mi ((q:Int)+1) (ab ?_)))))
    refine back7 (q+1,n,part,g185) _ _ ⟨bH,zs5,zs6,zs7,zs20,rfl,Rg,o19,bx25,o179,by omega,?_⟩ ?_
    · show part=(cI g (q+1)).1/\n=(cI g (q+1)).2
      exact sQ hinv ‹_›
    · show Int.toNat (_-_)<Int.toNat (_-_)
      omega
   refine af rfl (df p9) (am (a7 (a7 (a6 rfl (mz zs5 (mi ↑q (lo (aV (aB (vals:=[vp b23 0,vi ↑q]) Tryz.func138 vD uX rfl) (ah Tryz.func138 rfl nq ?_)))))))))
   have hOut:=hov_c1.done (by omega)
   refine a7 (a6 rfl (cy rfl (aZ g185 (is 8) (8,0) rfl dN ?_)))
   intro g189 w186 b188 ch187 bx190
   refine ab (a7 (a6 rfl (mv (vp b23 0) (lw (vp b23 0) (ae rfl) (lx (aa py rfl rfl rfl rfl) (lx (aa dK rfl rfl rfl rfl) ?_))))))
   refine lx (a8 aD rfl bx25.t rfl) (mi ↑q (lo (aV (aB (vals:=[vi g.1,vi ↑q]) Tryz.func153 um uJ rfl) (ah Tryz.func153 rfl nq (a7 (a6 rfl (cy rfl (aZ g189 (is 9) (9,0) rfl dN ?_))))))))
   intro g194 w191 b193 ch192 bx195
   refine ab (a7 (a6 rfl (mi ↑q (lo (aq (α:=Int) g194 (is 10) (is 10) (10,0) rfl [(q:Int)] bF aD (by decide) (by decide) (vs:=[(0,vi ↑q)]) rfl rfl (.cons rfl .nil) ?_)))))
   intro g196 w197 v198 ch199 o200
   refine mi g.1 (lo (bB (aB (vals:=[vi g.1,vi (-1)]) Tryz.func137 m7 m9 rfl) (lp w197 g.1 (-1) (by omega)) ?_))
   rintro⟨d202,v204⟩ w201 ⟨fr203,o205⟩
   obtain⟨g206,ch207,G206⟩:=hU g196 fr203 (λn=>if n=1 then 11 else 0)
   replace o205:=o205.gl G206 11
   refine mi g.1 (lo (bB (aB (vals:=[vi g.1,vi (-1)]) Tryz.func137 m7 m9 rfl) (lp w201 g.1 (-1) (by omega)) ?_))
   rintro⟨d209,v211⟩ w208 ⟨fr210,o212⟩
   obtain⟨g213,ch214,G213⟩:=hU g206 fr210 (λn=>if n=1 then 12 else 0)
   replace o212:=o212.gl G213 12
   refine lw (vg [v198,v204,v211,vn]) (bn (vs:=[(0,v198),(1,v204),(2,v211)]) rfl (by rw[Sl.form o200.t.flat,Sl.form o205.t.flat,Sl.form o212.flat];kernel_rfl)) (lo (aZ g213 (is 13) (13,0) rfl dN ?_))
   intro g218 w215 b217 ch216 bx219
   refine lo ?_
   refine aA (cs':=[v198,v204,v211,vn]) dN rfl rfl bx219 rfl nq (AllOne.all (.cons (aM o200.t.flat) (.cons (aM o205.t.flat) (.cons (aM o212.t.flat) (.cons rfl .nil))))) rfl ?_
   intro w220 ch221 bx222
   refine ab (a7 (a6 rfl (lx (aa ob rfl rfl rfl rfl) (lx (a8 bS rfl bx222 rfl) (mi ↑q ?_)))))
   refine lx (ad (v:=v211) (i:=↑q) bF rfl rfl o212.t.flat rfl (by omega) (by omega)) (lo (aU (i:=↑q) 0 aD rfl rfl o212.t (by omega) (by omega) rfl ?_))
   intro w223 ch224 bx225
   refine ab (a7 (a6 rfl ?_))
   refine lx (av (ds:=[v198,v204,v211,vn]) dN rfl bx222.t rfl rfl) (lo ?_)
   refine aA (cs':=[v198,v204,v211,vn]) dN rfl rfl bx195.t rfl nq (AllOne.all (.cons (aM o200.t.flat) (.cons (aM o205.t.flat) (.cons (aM bx225.flat) (.cons rfl .nil))))) rfl ?_
   intro w226 ch227 bx228
   refine ab (az (vs:=[vg [v198,v204,v211,vn]]) Tryz.func153 (.cell rfl (cd (ds:=[v198,v204,v211,vn]) dN bx228 rfl rfl) .nil) ?_)
   refine⟨vg [v198,v204,v211,vn],rfl,?_⟩
   refine lo (aZ g218 (is 14) (14,0) rfl dN ?_)
   intro g233 w230 b232 ch231 bx234
   refine lo ?_
   refine aA (cs':=[v198,v204,v211,vn]) dN rfl rfl bx234 rfl nq (AllOne.all (.cons (aM o200.t.flat) (.cons (aM o205.t.flat) (.cons (aM bx225.t.flat) (.cons rfl .nil))))) rfl ?_
   intro w235 ch236 bx237
   refine ab (a7 (a7 ?_))
   refine a6 rfl (ai 0 (ab (aj ?_)))
   refine aR (σ:=Value×(List Int)×Nat×(List Int)×(List Int)×ax) (λ⟨Or_c2_v,Or_c2,i_c2,By_c2,Fa_c2,gq⟩ f w=>aW w0 gq w/\f 0=vp b23 0/\f 4=vp b188 0/\f 5=vp b232 0/\f 6=vi ↑i_c2/\Sl gq (is 0) w g_v g.2/\dr gq 3 w v17 O_c1/\Bx gq (is 4) w b23 [vi g.1,g_v,v17]/\Ow gq (is 7) (is 7) w v178 part/\Bx gq (is 8) w b188 [vn,vn,vn,vn]/\Ow gq (is 11) (is 11) w v204 By_c2/\Ow gq (is 12) (is 12) w v211 Fa_c2/\Bx gq (is 14) w b232 [Or_c2_v,v204,v211,vn]/\Ow gq (is 10) (is 10) w Or_c2_v Or_c2/\(g0 ⟨Or_c2,By_c2,Fa_c2⟩ g (q:Int) i_c2)) (λ⟨Or_c2_v,Or_c2,i_c2,By_c2,Fa_c2,gq⟩=>Int.toNat g.1-i_c2) (v198,[(q:Int)],0,List.replicate g.1.toNat (-1),(List.set (List.replicate g.1.toNat (-1)) (Int.toNat ↑q) 0),g233) ?_ ?_
   have C239:=cg [9,12,13,14] (ch192.o (ch199.o (ch207.o (ch214.o (ch216.o (ch221.s (ch224.s (ch227.s (ch231.o ch236.e)))))))))
   have C238:=ch187.n.seq C239
   · exact⟨bH.t,rfl,rfl,rfl,rfl,Rg.t,o19.t,bx25.t,o179.t,bx190.t,o205.t,bx225.t,bx237,o200.t,by exact g0.start (by omega) (by omega)⟩
   rintro⟨Or_c2_v,Or_c2,i_c2,By_c2,Fa_c2,g242⟩ f240 w241 ⟨bH,zs0_c2,zs4_c2,zs5_c2,zs6_c2,Rg,o19,bx25,o179,bx190,o205,bx225,bx237,o_Or_c2,hgo_c2⟩ back3_c2
   obtain⟨hgf,hgb,hgl,hgi⟩:=hgo_c2.facts hm1
   refine a7 (a7 (a6 rfl (mz zs6_c2 (lx (aa ob rfl rfl zs5_c2 rfl) (lx (a8 bS rfl bx237 rfl) ?_)))))
   have len243:=(o_Or_c2.flat).small
   refine lx (bG bF rfl o_Or_c2.flat) (lx (br (m:=↑i_c2) (n:=(Or_c2.length:Int)) rfl rfl) (ab ?_))
   by_cases p3_c2:(i_c2:Int)<(Or_c2.length:Int)
   ·
    refine ag rfl (dt p3_c2) ?_
    have hnode:=hgo_c2.node ‹_›
    have hO1:=hov_c1.len
    refine am (a7 (aj (a7 (a6 rfl (lx (aa ob rfl rfl zs5_c2 rfl) (lx (a8 bS rfl bx237 rfl) (mz zs6_c2 (lx (ad (v:=Or_c2_v) (i:=↑i_c2) bF rfl rfl o_Or_c2.flat rfl (by omega) (by omega)) (lx (aw (v:=Or_c2_v) (i:=↑i_c2) aD rfl o_Or_c2.flat (by omega) (by omega) (by decide) rfl) (ai (gI Or_c2 ↑i_c2) ?_))))))))))
    refine ab (a7 (a6 rfl (mz zs0_c2 (lw (vp b23 0) (ae rfl) (lx (aa py rfl rfl rfl rfl) (lx (a8 e9 rfl bx25 rfl) (mi (gI Or_c2 ↑i_c2) (lx (ad (v:=v17) (i:=(gI Or_c2 ↑i_c2)) fh rfl rfl o19.sl rfl (by omega) (by omega)) ?_))))))))
    obtain⟨v244,cel245,r246⟩:=cG (r:=(gI Or_c2 ↑i_c2)) o19 (by omega) (by omega)
    refine lx (cv bS rfl cel245) ?_
    have len247:=(r246.row_sl).small
    refine lx (bG bF rfl r246.row_sl) (mi 0 (ab (aj ?_)))
    refine aR (σ:=Value×(List Int)×Nat×(List Int)×(List Int)×ax) (λ⟨Os_c2_v,Os_c2,j_c2,Bs_c2,Fs_c2,gq⟩ f w=>aW w0 gq w/\f 0=vp b23 0/\f 4=vp b188 0/\f 5=vp b232 0/\f 6=vi ↑i_c2/\f 7=vi (gI Or_c2 ↑i_c2)/\f 35=v244/\f 36=vi (List.length (gI O_c1 (gI Or_c2 ↑i_c2)):Int)/\f 37=vi ↑j_c2/\Sl gq (is 0) w g_v g.2/\dr gq 3 w v17 O_c1/\Bx gq (is 4) w b23 [vi g.1,g_v,v17]/\Ow gq (is 7) (is 7) w v178 part/\Bx gq (is 8) w b188 [vn,vn,vn,vn]/\Ow gq (is 11) (is 11) w v204 Bs_c2/\Ow gq (is 12) (is 12) w v211 Fs_c2/\Bx gq (is 14) w b232 [Os_c2_v,v204,v211,vn]/\Ow gq (row 3 (Int.toNat (gI Or_c2 ↑i_c2)+1)) (row 3 (Int.toNat (gI Or_c2 ↑i_c2)+1)) w v244 (gI O_c1 (gI Or_c2 ↑i_c2))/\Ow gq (is 10) (is 10) w Os_c2_v Os_c2/\(j_c2:Int)<=((List.length (gI O_c1 (gI Or_c2 ↑i_c2)):Int):Int)/\(dS ⟨Os_c2,Bs_c2,Fs_c2⟩ g ⟨Or_c2,By_c2,Fa_c2⟩ (gI Or_c2 ↑i_c2) j_c2)) (λ⟨Os_c2_v,Os_c2,j_c2,Bs_c2,Fs_c2,gq⟩=>Int.toNat (((List.length (gI O_c1 (gI Or_c2 ↑i_c2)):Int):Int)-(j_c2:Int))) (Or_c2_v,Or_c2,0,By_c2,Fa_c2,g242) ?_ ?_
    · exact⟨bH,zs0_c2,zs4_c2,zs5_c2,zs6_c2,rfl,rfl,rfl,rfl,Rg,o19,bx25,o179,bx190,o205,bx225,bx237,r246,o_Or_c2,by omega,by exact hgo_c2.row ‹_›⟩
    rintro⟨Os_c2_v,Os_c2,j_c2,Bs_c2,Fs_c2,g250⟩ f248 w249 ⟨bH,zs0_c2,zs4_c2,zs5_c2,zs6_c2,zs7_c2,zs35_c2,zs36_c2,zs37_c2,Rg,o19,bx25,o179,bx190,o205,bx225,bx237,r246,o_Os_c2,hle_j_c2,hrw⟩ back7_c2
    obtain⟨hr1,hr2,hr3,hr4,hr5,hr6⟩:=hrw.facts hm1
    have hrow:=hOut _ hr4.1 hr4.2
    refine a7 (a6 rfl (lx (br (m:=↑j_c2) (n:=(List.length (gI O_c1 (gI Or_c2 ↑i_c2)):Int)) zs37_c2 zs36_c2) (ab (a7 ?_))))
    by_cases p7_c2:(j_c2:Int)<(List.length (gI O_c1 (gI Or_c2 ↑i_c2)):Int)
    ·
     refine ag rfl (dt p7_c2) ?_
     have hjl:(j_c2:Int)<(d6 g (gI Or_c2 ↑i_c2)).length:=by rw[<-hrow];assumption
     have hhe:gI (gI O_c1 (gI Or_c2 ↑i_c2)) (j_c2:Int)=gI (d6 g (gI Or_c2 ↑i_c2)) (j_c2:Int):=by rw[hrow]
     have hhr:=(f4 (bz (xs:=d6 g (gI Or_c2 ↑i_c2)) (i:=↑j_c2) (by omega) hjl)).1
     rw[<-hhe] at hhr
     have hti:=fQ hm hhr.1 hhr.2
     unfold cF at hti
     refine am (a7 (aj (a7 (a6 rfl (lx (ad (v:=v244) (i:=↑j_c2) bF rfl zs35_c2 r246.row_sl zs37_c2 (by omega) (by omega)) (lx (aw (v:=v244) (i:=↑j_c2) aD rfl r246.row_sl (by omega) (by omega) (by decide) rfl) (ai (gI (gI O_c1 (gI Or_c2 ↑i_c2)) (j_c2:Int)) (ab (a7 ?_)))))))))
     refine dw (σ:=ax) (λgq f w=>aW w0 gq w/\f 0=vp b23 0/\f 4=vp b188 0/\f 5=vp b232 0/\f 6=vi ↑i_c2/\f 7=vi (gI Or_c2 ↑i_c2)/\f 9=vi (gI (gI O_c1 (gI Or_c2 ↑i_c2)) (j_c2:Int))/\f 35=v244/\f 36=vi (List.length (gI O_c1 (gI Or_c2 ↑i_c2)):Int)/\f 37=vi ↑j_c2/\f 48=vb (decide ((gI Fs_c2 (pI (gI g.2 ((gI (gI O_c1 (gI Or_c2 ↑i_c2)) (j_c2:Int))/2)) (1-((gI (gI O_c1 (gI Or_c2 ↑i_c2)) (j_c2:Int))%2))))<0))/\Sl gq (is 0) w g_v g.2/\dr gq 3 w v17 O_c1/\Bx gq (is 4) w b23 [vi g.1,g_v,v17]/\Ow gq (is 7) (is 7) w v178 part/\Bx gq (is 8) w b188 [vn,vn,vn,vn]/\Ow gq (is 11) (is 11) w v204 Bs_c2/\Ow gq (is 12) (is 12) w v211 Fs_c2/\Bx gq (is 14) w b232 [Os_c2_v,v204,v211,vn]/\Ow gq (row 3 (Int.toNat (gI Or_c2 ↑i_c2)+1)) (row 3 (Int.toNat (gI Or_c2 ↑i_c2)+1)) w v244 (gI O_c1 (gI Or_c2 ↑i_c2))/\Ow gq (is 10) (is 10) w Os_c2_v Os_c2) g250 [0,2,3,5,6,7] fe ?_ ?_
     ·
      intro mid
      intro w252 ch251
      refine xp 0 rfl (λw=>aa ob rfl rfl zs5_c2 rfl) (xp (v:=vp b23 0) 2 rfl (λw=>ar zs0_c2) (xp (v:=vi (gI (gI O_c1 (gI Or_c2 ↑i_c2)) (j_c2:Int))) 3 rfl (λw=>ar rfl) ?_))
      refine de 1 4 rfl rfl (by kernel_rfl) rfl rfl ?_ ?_
      ·
       refine ao (v:=v211) (a8 bS rfl bx237.t rfl) (cE 4 rfl (aV (aB (vals:=[vp b23 0,vi (gI (gI O_c1 (gI Or_c2 ↑i_c2)) (j_c2:Int))]) Tryz.func154 lG m8 rfl) (ah Tryz.func154 rfl nq ?_)))
       refine a7 (a6 rfl (ai 0 (ab (a7 (a6 rfl (mv (vp b23 0) (lw (vp b23 0) (ae rfl) (lx (aa py rfl rfl rfl rfl) (lx (aa dK rfl rfl rfl rfl) ?_)))))))))
       refine lx (a8 bM rfl bx25.t rfl) (mi (gI (gI O_c1 (gI Or_c2 ↑i_c2)) (j_c2:Int)) (lx (kh (m:=(gI (gI O_c1 (gI Or_c2 ↑i_c2)) (j_c2:Int))) (n:=2) rfl rfl (by omega) (by omega) (by omega)) (mi (gI (gI O_c1 (gI Or_c2 ↑i_c2)) (j_c2:Int)) (lx (nc (m:=(gI (gI O_c1 (gI Or_c2 ↑i_c2)) (j_c2:Int))) (n:=2) rfl rfl (by omega) (by omega)) (lx (da (m:=1) (n:=(gI (gI O_c1 (gI Or_c2 ↑i_c2)) (j_c2:Int))%2) rfl rfl (by omega)) (lx (ad (v:=g_v) (i:=(gI (gI O_c1 (gI Or_c2 ↑i_c2)) (j_c2:Int))/2) eG rfl rfl Rg.t rfl (by omega) (by omega)) (lx (d3 (i:=1-((gI (gI O_c1 (gI Or_c2 ↑i_c2)) (j_c2:Int))%2)) eS rfl rfl rfl (by omega) (by omega) (Nat.mul_one _)) ?_)))))))
       refine lx (dH (v:=g_v) (i:=(gI (gI O_c1 (gI Or_c2 ↑i_c2)) (j_c2:Int))/2) aD rfl Rg.t (by omega) (by omega) (show Int.toNat (1-((gI (gI O_c1 (gI Or_c2 ↑i_c2)) (j_c2:Int))%2))<2 by omega) (gU _ (by omega) (by omega))) (ai (pI (gI g.2 ((gI (gI O_c1 (gI Or_c2 ↑i_c2)) (j_c2:Int))/2)) (1-((gI (gI O_c1 (gI Or_c2 ↑i_c2)) (j_c2:Int))%2))) (ab (az (vs:=[vi (pI (gI g.2 ((gI (gI O_c1 (gI Or_c2 ↑i_c2)) (j_c2:Int))/2)) (1-((gI (gI O_c1 (gI Or_c2 ↑i_c2)) (j_c2:Int))%2)))]) Tryz.func154 (.tmp rfl .nil) ?_)))
       refine⟨vi (pI (gI g.2 ((gI (gI O_c1 (gI Or_c2 ↑i_c2)) (j_c2:Int))/2)) (1-((gI (gI O_c1 (gI Or_c2 ↑i_c2)) (j_c2:Int))%2))),rfl,?_⟩
       refine xv 5 [4,1,3,2,0] rfl (ad (v:=v211) (i:=pI (gI g.2 ((gI (gI O_c1 (gI Or_c2 ↑i_c2)) (j_c2:Int))/2)) (1-((gI (gI O_c1 (gI Or_c2 ↑i_c2)) (j_c2:Int))%2))) bF rfl rfl bx225.t.flat rfl (by omega) (by omega)) (xv 6 [5,4,1,3,2,0] rfl (aw (v:=v211) (i:=pI (gI g.2 ((gI (gI O_c1 (gI Or_c2 ↑i_c2)) (j_c2:Int))/2)) (1-((gI (gI O_c1 (gI Or_c2 ↑i_c2)) (j_c2:Int))%2))) aD rfl bx225.t.flat (by omega) (by omega) (by decide) rfl) (xp 7 rfl (λw=>br (m:=(gI Fs_c2 (pI (gI g.2 ((gI (gI O_c1 (gI Or_c2 ↑i_c2)) (j_c2:Int))/2)) (1-((gI (gI O_c1 (gI Or_c2 ↑i_c2)) (j_c2:Int))%2))))) (n:=0) rfl rfl) (bV (by kernel_rfl) ?_)))
       exact mid (g250) _ _ ⟨bH.t,zs0_c2,zs4_c2,zs5_c2,zs6_c2,zs7_c2,rfl,zs35_c2,zs36_c2,zs37_c2,rfl,Rg.t,o19.t,bx25.t,o179.t,bx190.t,o205.t,bx225.t,bx237.t,r246.t,o_Os_c2.t⟩
      ·
       refine aV (aB (vals:=[vp b23 0,vi (gI (gI O_c1 (gI Or_c2 ↑i_c2)) (j_c2:Int))]) Tryz.func154 lG m8 rfl) (ah Tryz.func154 rfl nq ?_)
       refine a7 (a6 rfl (ai 0 (ab (a7 (a6 rfl (mv (vp b23 0) (lw (vp b23 0) (ae rfl) (lx (aa py rfl rfl rfl rfl) (lx (aa dK rfl rfl rfl rfl) ?_)))))))))
       refine lx (a8 bM rfl bx25.t rfl) (mi (gI (gI O_c1 (gI Or_c2 ↑i_c2)) (j_c2:Int)) (lx (kh (m:=(gI (gI O_c1 (gI Or_c2 ↑i_c2)) (j_c2:Int))) (n:=2) rfl rfl (by omega) (by omega) (by omega)) (mi (gI (gI O_c1 (gI Or_c2 ↑i_c2)) (j_c2:Int)) (lx (nc (m:=(gI (gI O_c1 (gI Or_c2 ↑i_c2)) (j_c2:Int))) (n:=2) rfl rfl (by omega) (by omega)) (lx (da (m:=1) (n:=(gI (gI O_c1 (gI Or_c2 ↑i_c2)) (j_c2:Int))%2) rfl rfl (by omega)) (lx (ad (v:=g_v) (i:=(gI (gI O_c1 (gI Or_c2 ↑i_c2)) (j_c2:Int))/2) eG rfl rfl Rg.t rfl (by omega) (by omega)) (lx (d3 (i:=1-((gI (gI O_c1 (gI Or_c2 ↑i_c2)) (j_c2:Int))%2)) eS rfl rfl rfl (by omega) (by omega) (Nat.mul_one _)) ?_)))))))
       refine lx (dH (v:=g_v) (i:=(gI (gI O_c1 (gI Or_c2 ↑i_c2)) (j_c2:Int))/2) aD rfl Rg.t (by omega) (by omega) (show Int.toNat (1-((gI (gI O_c1 (gI Or_c2 ↑i_c2)) (j_c2:Int))%2))<2 by omega) (gU _ (by omega) (by omega))) (ai (pI (gI g.2 ((gI (gI O_c1 (gI Or_c2 ↑i_c2)) (j_c2:Int))/2)) (1-((gI (gI O_c1 (gI Or_c2 ↑i_c2)) (j_c2:Int))%2))) (ab (az (vs:=[vi (pI (gI g.2 ((gI (gI O_c1 (gI Or_c2 ↑i_c2)) (j_c2:Int))/2)) (1-((gI (gI O_c1 (gI Or_c2 ↑i_c2)) (j_c2:Int))%2)))]) Tryz.func154 (.tmp rfl .nil) ?_)))
       refine⟨vi (pI (gI g.2 ((gI (gI O_c1 (gI Or_c2 ↑i_c2)) (j_c2:Int))/2)) (1-((gI (gI O_c1 (gI Or_c2 ↑i_c2)) (j_c2:Int))%2))),rfl,?_⟩
       refine cE 1 rfl (ao (v:=v211) (a8 bS rfl bx237.t rfl) ?_)
       refine xv 5 [1,4,3,2,0] rfl (ad (v:=v211) (i:=pI (gI g.2 ((gI (gI O_c1 (gI Or_c2 ↑i_c2)) (j_c2:Int))/2)) (1-((gI (gI O_c1 (gI Or_c2 ↑i_c2)) (j_c2:Int))%2))) bF rfl rfl bx225.t.flat rfl (by omega) (by omega)) (xv 6 [5,1,4,3,2,0] rfl (aw (v:=v211) (i:=pI (gI g.2 ((gI (gI O_c1 (gI Or_c2 ↑i_c2)) (j_c2:Int))/2)) (1-((gI (gI O_c1 (gI Or_c2 ↑i_c2)) (j_c2:Int))%2))) aD rfl bx225.t.flat (by omega) (by omega) (by decide) rfl) (xp 7 rfl (λw=>br (m:=(gI Fs_c2 (pI (gI g.2 ((gI (gI O_c1 (gI Or_c2 ↑i_c2)) (j_c2:Int))/2)) (1-((gI (gI O_c1 (gI Or_c2 ↑i_c2)) (j_c2:Int))%2))))) (n:=0) rfl rfl) (bV (by kernel_rfl) ?_)))
       exact mid (g250) _ _ ⟨bH.t,zs0_c2,zs4_c2,zs5_c2,zs6_c2,zs7_c2,rfl,zs35_c2,zs36_c2,zs37_c2,rfl,Rg.t,o19.t,bx25.t,o179.t,bx190.t,o205.t,bx225.t,bx237.t,r246.t,o_Os_c2.t⟩
     rintro g255 f253 w254 ⟨bH,zs0_c2,zs4_c2,zs5_c2,zs6_c2,zs7_c2,zs9_c2,zs35_c2,zs36_c2,zs37_c2,zs48_c2,Rg,o19,bx25,o179,bx190,o205,bx225,bx237,r246,o_Os_c2⟩
     by_cases p9_c2:(gI Fs_c2 (pI (gI g.2 ((gI (gI O_c1 (gI Or_c2 ↑i_c2)) (j_c2:Int))/2)) (1-((gI (gI O_c1 (gI Or_c2 ↑i_c2)) (j_c2:Int))%2))))<0
     ·
      refine ag zs48_c2 (dt p9_c2) (a6 rfl (mz zs0_c2 (mz zs9_c2 (lx (aa ob rfl rfl zs5_c2 rfl) (lx (a8 bS rfl bx237 rfl) (mz zs7_c2 (lx (ad (v:=v211) (i:=(gI Or_c2 ↑i_c2)) bF rfl rfl bx225.flat rfl (by omega) (by omega)) (lx (aw (v:=v211) (i:=(gI Or_c2 ↑i_c2)) aD rfl bx225.flat (by omega) (by omega) (by decide) rfl) (lx (aJ (m:=(gI Fs_c2 (gI Or_c2 ↑i_c2))) (n:=1) rfl rfl (by omega)) ?_)))))))))
      refine lo (aV (aB (vals:=[vp b23 0,vp b232 0,vi (gI (gI O_c1 (gI Or_c2 ↑i_c2)) (j_c2:Int)),vi ((gI Fs_c2 (gI Or_c2 ↑i_c2))+1)]) Tryz.func155 vm vj (fI rfl (fI zs5_c2 (fI rfl (fI rfl rfl))))) (ah Tryz.func155 rfl nq (a7 (a6 rfl (mv (vp b23 0) (mi (gI (gI O_c1 (gI Or_c2 ↑i_c2)) (j_c2:Int)) (lo (aV (aB (vals:=[vp b23 0,vi (gI (gI O_c1 (gI Or_c2 ↑i_c2)) (j_c2:Int))]) Tryz.func154 lG m8 rfl) (ah Tryz.func154 rfl nq (a7 (a6 rfl ?_)))))))))))
      refine ai 0 (ab (a7 (a6 rfl (mv (vp b23 0) (lw (vp b23 0) (ae rfl) (lx (aa py rfl rfl rfl rfl) (lx (aa dK rfl rfl rfl rfl) (lx (a8 bM rfl bx25 rfl) (mi (gI (gI O_c1 (gI Or_c2 ↑i_c2)) (j_c2:Int)) (lx (kh (m:=(gI (gI O_c1 (gI Or_c2 ↑i_c2)) (j_c2:Int))) (n:=2) rfl rfl (by omega) (by omega) (by omega)) (mi (gI (gI O_c1 (gI Or_c2 ↑i_c2)) (j_c2:Int)) ?_)))))))))))
      refine lx (nc (m:=(gI (gI O_c1 (gI Or_c2 ↑i_c2)) (j_c2:Int))) (n:=2) rfl rfl (by omega) (by omega)) (lx (da (m:=1) (n:=(gI (gI O_c1 (gI Or_c2 ↑i_c2)) (j_c2:Int))%2) rfl rfl (by omega)) (lx (ad (v:=g_v) (i:=(gI (gI O_c1 (gI Or_c2 ↑i_c2)) (j_c2:Int))/2) eG rfl rfl Rg rfl (by omega) (by omega)) (lx (d3 (i:=1-((gI (gI O_c1 (gI Or_c2 ↑i_c2)) (j_c2:Int))%2)) eS rfl rfl rfl (by omega) (by omega) (Nat.mul_one _)) (lx (dH (v:=g_v) (i:=(gI (gI O_c1 (gI Or_c2 ↑i_c2)) (j_c2:Int))/2) aD rfl Rg (by omega) (by omega) (show Int.toNat (1-((gI (gI O_c1 (gI Or_c2 ↑i_c2)) (j_c2:Int))%2))<2 by omega) (gU _ (by omega) (by omega))) ?_))))
      refine ai (pI (gI g.2 ((gI (gI O_c1 (gI Or_c2 ↑i_c2)) (j_c2:Int))/2)) (1-((gI (gI O_c1 (gI Or_c2 ↑i_c2)) (j_c2:Int))%2))) (ab (az (vs:=[vi (pI (gI g.2 ((gI (gI O_c1 (gI Or_c2 ↑i_c2)) (j_c2:Int))/2)) (1-((gI (gI O_c1 (gI Or_c2 ↑i_c2)) (j_c2:Int))%2)))]) Tryz.func154 (.tmp rfl .nil) ?_))
      refine⟨vi (pI (gI g.2 ((gI (gI O_c1 (gI Or_c2 ↑i_c2)) (j_c2:Int))/2)) (1-((gI (gI O_c1 (gI Or_c2 ↑i_c2)) (j_c2:Int))%2))),rfl,?_⟩
      refine ai (pI (gI g.2 ((gI (gI O_c1 (gI Or_c2 ↑i_c2)) (j_c2:Int))/2)) (1-((gI (gI O_c1 (gI Or_c2 ↑i_c2)) (j_c2:Int))%2))) (ab (a7 (a6 rfl (mv (vp b232 0) (mv (vp b232 0) (lw (vp b232 0) (ae rfl) (lx (aa ob rfl rfl rfl rfl) (lx (a8 bS rfl bx237 rfl) (mi (pI (gI g.2 ((gI (gI O_c1 (gI Or_c2 ↑i_c2)) (j_c2:Int))/2)) (1-((gI (gI O_c1 (gI Or_c2 ↑i_c2)) (j_c2:Int))%2))) (lo ?_))))))))))
      refine aq (α:=Int) g255 (is 17) (is 17) (17,0) rfl [pI (gI g.2 ((gI (gI O_c1 (gI Or_c2 ↑i_c2)) (j_c2:Int))/2)) (1-((gI (gI O_c1 (gI Or_c2 ↑i_c2)) (j_c2:Int))%2))] bF aD (by decide) (by decide) (vs:=[(0,vi (pI (gI g.2 ((gI (gI O_c1 (gI Or_c2 ↑i_c2)) (j_c2:Int))/2)) (1-((gI (gI O_c1 (gI Or_c2 ↑i_c2)) (j_c2:Int))%2))))]) rfl rfl (.cons rfl .nil) ?_
      intro g256 w257 v258 ch259 o260
      refine lo ?_
      refine aS (α:=Int) (xs:=Os_c2) (ys:=([pI (gI g.2 ((gI (gI O_c1 (gI Or_c2 ↑i_c2)) (j_c2:Int))/2)) (1-((gI (gI O_c1 (gI Or_c2 ↑i_c2)) (j_c2:Int))%2))])) g256 (J:=is 10) (S:=is 10) (10,0) rfl bF aD (by decide) rfl rfl rfl o_Os_c2.t o260.flat (by decide) (by(simp;omega)) ?_
      intro g261 w262 v263 ch264 o265
      refine lw (vp b232 0) (ae rfl) (lx (aa ob rfl rfl rfl rfl) (lo ?_))
      refine aC (cs':=[v263,v204,v211,vn]) bS rfl rfl bx237.t (aL o265.flat) nq (aM o265.flat) rfl ?_
      intro w266 ch267 bx268
      refine ab ?_
      refine bp g261 [0,1,2,3,4,5,6,7,8,9,10,11,12,14] fe ?_
      intro w270 ch269
      refine xp (v:=vp b232 0) 0 rfl (λw=>ar rfl) (xp (v:=vp b232 0) 1 rfl (λw=>ae rfl) (xp 2 rfl (λw=>aa ob rfl rfl rfl rfl) ?_))
      refine xv 3 [2,1,0,4,5,9,10,11,6,7,8] rfl (a8 bS rfl bx268.t rfl) (xp (v:=vi (pI (gI g.2 ((gI (gI O_c1 (gI Or_c2 ↑i_c2)) (j_c2:Int))/2)) (1-((gI (gI O_c1 (gI Or_c2 ↑i_c2)) (j_c2:Int))%2)))) 4 rfl (λw=>ar rfl) (xp (v:=vp b232 0) 5 rfl (λw=>ar rfl) (xp (v:=vp b232 0) 6 rfl (λw=>ae rfl) (xp 7 rfl (λw=>aa ob rfl rfl rfl rfl) (xv 8 [7,6,5,4,3,2,1,0,9,10,11] rfl (a8 bS rfl bx268.t rfl) (xp (v:=vi (pI (gI g.2 ((gI (gI O_c1 (gI Or_c2 ↑i_c2)) (j_c2:Int))/2)) (1-((gI (gI O_c1 (gI Or_c2 ↑i_c2)) (j_c2:Int))%2)))) 9 rfl (λw=>ar rfl) (xp (v:=vi (gI (gI O_c1 (gI Or_c2 ↑i_c2)) (j_c2:Int))) 10 rfl (λw=>ar rfl) ?_)))))))
      refine xp (v:=vi ((gI Fs_c2 (gI Or_c2 ↑i_c2))+1)) 11 rfl (λw=>ar rfl) ?_
      refine xv 12 [11,10,9,8,7,6,5,4,3,2,1,0] rfl (ad (v:=v204) (i:=pI (gI g.2 ((gI (gI O_c1 (gI Or_c2 ↑i_c2)) (j_c2:Int))/2)) (1-((gI (gI O_c1 (gI Or_c2 ↑i_c2)) (j_c2:Int))%2))) bF rfl rfl o205.t.flat rfl (by omega) (by omega)) (cE 13 rfl (aU (i:=pI (gI g.2 ((gI (gI O_c1 (gI Or_c2 ↑i_c2)) (j_c2:Int))/2)) (1-((gI (gI O_c1 (gI Or_c2 ↑i_c2)) (j_c2:Int))%2))) (gI (gI O_c1 (gI Or_c2 ↑i_c2)) (j_c2:Int)) aD rfl rfl o205.t (by omega) (by omega) rfl ?_))
      intro w272 ch273 bx274
      refine xv 14 [13,12,11,10,9,8,7,6,5,4,3,2,1,0] rfl (ad (v:=v211) (i:=pI (gI g.2 ((gI (gI O_c1 (gI Or_c2 ↑i_c2)) (j_c2:Int))/2)) (1-((gI (gI O_c1 (gI Or_c2 ↑i_c2)) (j_c2:Int))%2))) bF rfl rfl bx225.t.flat rfl (by omega) (by omega)) (cE 15 rfl (aU (i:=pI (gI g.2 ((gI (gI O_c1 (gI Or_c2 ↑i_c2)) (j_c2:Int))/2)) (1-((gI (gI O_c1 (gI Or_c2 ↑i_c2)) (j_c2:Int))%2))) ((gI Fs_c2 (gI Or_c2 ↑i_c2))+1) aD rfl rfl bx225.t (by omega) (by omega) rfl ?_))
      intro w276 ch277 bx278
      refine bV (by kernel_rfl) (ck (vs:=[]) Tryz.func155 .nil ?_)
      refine⟨vt [],rfl,?_⟩
      refine ab (ak (a6 rfl (lx (aJ (m:=↑j_c2) (n:=1) zs37_c2 rfl (by omega)) (mi ((j_c2:Int)+1) (ab ?_)))))
      have C279:=cg [10,11,12,14] (ch259.o (ch264.s (ch267.s (ch269.o (ch273.s ch277.e)))))
      refine back7_c2 (v263,(Os_c2++[pI (gI g.2 ((gI (gI O_c1 (gI Or_c2 ↑i_c2)) (j_c2:Int))/2)) (1-((gI (gI O_c1 (gI Or_c2 ↑i_c2)) (j_c2:Int))%2))]),j_c2+1,(List.set Bs_c2 (Int.toNat (pI (gI g.2 ((gI (gI O_c1 (gI Or_c2 ↑i_c2)) (j_c2:Int))/2)) (1-((gI (gI O_c1 (gI Or_c2 ↑i_c2)) (j_c2:Int))%2)))) (gI (gI O_c1 (gI Or_c2 ↑i_c2)) (j_c2:Int))),(List.set Fs_c2 (Int.toNat (pI (gI g.2 ((gI (gI O_c1 (gI Or_c2 ↑i_c2)) (j_c2:Int))/2)) (1-((gI (gI O_c1 (gI Or_c2 ↑i_c2)) (j_c2:Int))%2)))) ((gI Fs_c2 (gI Or_c2 ↑i_c2))+1)),g261) _ _ ⟨bH.t,zs0_c2,zs4_c2,zs5_c2,zs6_c2,zs7_c2,zs35_c2,zs36_c2,rfl,Rg.t,o19.t,bx25.t,o179.t,bx190.t,bx274.t,bx278,bx268.t,r246.chg C279 (lZ rfl) (lZ rfl),o265.t,by omega,?_⟩ ?_
      · show dS ⟨(Os_c2++[pI (gI g.2 ((gI (gI O_c1 (gI Or_c2 ↑i_c2)) (j_c2:Int))/2)) (1-((gI (gI O_c1 (gI Or_c2 ↑i_c2)) (j_c2:Int))%2))]),(List.set Bs_c2 (Int.toNat (pI (gI g.2 ((gI (gI O_c1 (gI Or_c2 ↑i_c2)) (j_c2:Int))/2)) (1-((gI (gI O_c1 (gI Or_c2 ↑i_c2)) (j_c2:Int))%2)))) (gI (gI O_c1 (gI Or_c2 ↑i_c2)) (j_c2:Int))),(List.set Fs_c2 (Int.toNat (pI (gI g.2 ((gI (gI O_c1 (gI Or_c2 ↑i_c2)) (j_c2:Int))/2)) (1-((gI (gI O_c1 (gI Or_c2 ↑i_c2)) (j_c2:Int))%2)))) ((gI Fs_c2 (gI Or_c2 ↑i_c2))+1))⟩ g ⟨Or_c2,By_c2,Fa_c2⟩ (gI Or_c2 ↑i_c2) (j_c2+1)
        exact hrw.yes hm hjl hhe ‹_›
      · show Int.toNat (_-_)<Int.toNat (_-_)
        omega
     refine af zs48_c2 (df p9_c2) (am (ak (a6 rfl (lx (aJ (m:=↑j_c2) (n:=1) zs37_c2 rfl (by omega)) (mi ((j_c2:Int)+1) (ab ?_))))))
     refine back7_c2 (Os_c2_v,Os_c2,j_c2+1,Bs_c2,Fs_c2,g255) _ _ ⟨bH,zs0_c2,zs4_c2,zs5_c2,zs6_c2,zs7_c2,zs35_c2,zs36_c2,rfl,Rg,o19,bx25,o179,bx190,o205.t,bx225.t,bx237.t,r246,o_Os_c2.t,by omega,?_⟩ ?_
     · show dS ⟨Os_c2,Bs_c2,Fs_c2⟩ g ⟨Or_c2,By_c2,Fa_c2⟩ (gI Or_c2 ↑i_c2) (j_c2+1)
       exact hrw.no hm hjl hhe ‹_›
     · show Int.toNat (_-_)<Int.toNat (_-_)
       omega
    refine af rfl (df p7_c2) (aF rfl (ak ?_))
    refine a6 rfl (mz zs6_c2 (lx (aJ (m:=↑i_c2) (n:=1) rfl rfl (by omega)) (ai ((i_c2:Int)+1) (ab ?_))))
    refine back3_c2 (Os_c2_v,Os_c2,i_c2+1,Bs_c2,Fs_c2,g250) _ _ ⟨bH,zs0_c2,zs4_c2,zs5_c2,rfl,Rg,o19,bx25,o179,bx190,o205.t,bx225.t,bx237.t,o_Os_c2.t,?_⟩ ?_
    · show g0 ⟨Os_c2,Bs_c2,Fs_c2⟩ g (q:Int) (i_c2+1)
      exact hgo_c2.next hm1 ‹_› hrw (by rw[<-hrow];assumption)
    · show Int.toNat g.1-(i_c2+1)<Int.toNat g.1-i_c2
      omega
   refine af rfl (df p3_c2) (aF rfl (a7 (a6 rfl (lx (av (ds:=[Or_c2_v,v204,v211,vn]) dN zs5_c2 bx237.t rfl rfl) (lo (aA (cs':=[Or_c2_v,v204,v211,vn]) dN zs4_c2 rfl bx190 rfl nq (AllOne.all (.cons (aM o_Or_c2.flat) (.cons (aM o205.t.flat) (.cons (aM bx225.t.flat) (.cons rfl .nil))))) rfl ?_))))))
   intro w281 ch282 bx283
   refine ab (az (vs:=[vg [Or_c2_v,v204,v211,vn]]) Tryz.func138 (.cell zs4_c2 (cd (ds:=[Or_c2_v,v204,v211,vn]) dN bx283 rfl rfl) .nil) ?_)
   refine⟨vg [Or_c2_v,v204,v211,vn],rfl,?_⟩
   refine lw (Or_c2_v) (rK ob rfl bS rfl rfl) ?_
   refine lx (bG bF rfl o_Or_c2.t.flat) (mi 0 (ab (aj ?_)))
   refine aR (σ:=Nat×(List Int)×ax) (λ⟨j,part2,gq⟩ f w=>aW w0 gq w/\f 5=vp b23 0/\f 6=v178/\f 7=vi n/\f 20=vi (List.length (List.replicate g.1.toNat (-1)):Int)/\f 21=vi ↑q/\f 32=Or_c2_v/\f 33=vi (Or_c2.length:Int)/\f 34=vi ↑j/\Sl gq (is 0) w g_v g.2/\dr gq 3 w v17 O_c1/\Bx gq (is 4) w b23 [vi g.1,g_v,v17]/\Ow gq (is 7) (is 7) w v178 part2/\Ow gq (is 10) (is 10) w Or_c2_v Or_c2/\(j:Int)<=((Or_c2.length:Int):Int)/\(part2=(List.take j Or_c2).foldl (λl_ w_=>l_.set w_.toNat n) part)) (λ⟨j,part2,gq⟩=>Int.toNat (((Or_c2.length:Int):Int)-(j:Int))) (0,part,g242) ?_ ?_
   · exact⟨bH.t,zs5,zs6,zs7,zs20,zs21,rfl,rfl,rfl,Rg.t,o19.t,bx25.t,o179.t,o_Or_c2.t,by omega,by simp⟩
   rintro⟨j,part2,g286⟩ f284 w285 ⟨bH,zs5,zs6,zs7,zs20,zs21,zs32,zs33,zs34,Rg,o19,bx25,o179,o_Or_c2,hle_j,hpa⟩ back11
   obtain⟨hbo1,hbo2⟩:=sA hgo_c2 ‹_›
   have hp2:part2.length=part.length:=by rw[hpa];exact gL _ _ _
   refine a7 (a6 rfl (lx (br (m:=↑j) (n:=(Or_c2.length:Int)) zs34 zs33) (ab (a7 ?_))))
   by_cases p11:(j:Int)<(Or_c2.length:Int)
   ·
    refine ag rfl (dt p11) ?_
    have hwr:=hbo2 _ (bz (xs:=Or_c2) (i:=↑j) (by omega) ‹_›)
    refine am (a7 (aj (a7 (a6 rfl (lx (ad (v:=Or_c2_v) (i:=↑j) bF rfl zs32 o_Or_c2.flat zs34 (by omega) (by omega)) (lx (aw (v:=Or_c2_v) (i:=↑j) aD rfl o_Or_c2.flat (by omega) (by omega) (by decide) rfl) (ai (gI Or_c2 ↑j) (ab (a6 rfl (mz zs6 (mi (gI Or_c2 ↑j) ?_)))))))))))
    refine mz zs7 (lx (ad (v:=v178) (i:=(gI Or_c2 ↑j)) bF rfl rfl o179.flat rfl (by omega) (by omega)) (lo (aU (i:=(gI Or_c2 ↑j)) n aD rfl rfl o179 (by omega) (by omega) rfl ?_)))
    intro w287 ch288 bx289
    refine ab (ak (a6 rfl (lx (aJ (m:=↑j) (n:=1) zs34 rfl (by omega)) (mi ((j:Int)+1) (ab ?_)))))
    refine back11 (j+1,(List.set part2 (Int.toNat (gI Or_c2 ↑j)) n),g286) _ _ ⟨bH.t,zs5,zs6,zs7,zs20,zs21,zs32,zs33,rfl,Rg.t,o19.t,bx25.t,bx289,o_Or_c2.t,by omega,?_⟩ ?_
    · show(List.set part2 (Int.toNat (gI Or_c2 ↑j)) n)=(List.take (j+1) Or_c2).foldl (λl_ w_=>l_.set w_.toNat n) part
      rw[nX ‹_›,<-hpa]
    · show Int.toNat (_-_)<Int.toNat (_-_)
      omega
   refine af rfl (df p11) (aF rfl ?_)
   refine a6 rfl (mz zs7 (lx (aJ (m:=n) (n:=1) rfl rfl (by omega)) (ai (n+1) (ab (ak (a6 rfl (lx (aJ (m:=↑q) (n:=1) zs21 rfl (by omega)) (mi ((q:Int)+1) (ab ?_)))))))))
   refine back7 (q+1,n+1,part2,g286) _ _ ⟨bH,zs5,zs6,rfl,zs20,rfl,Rg,o19,bx25,o179,by omega,?_⟩ ?_
   · show part2=(cI g (q+1)).1/\(n+1)=(cI g (q+1)).2
     exact x8 hinv ‹_› hbo1 hpa ‹_›
   · show Int.toNat (_-_)<Int.toNat (_-_)
     omega
  refine af rfl (df p7) (aF rfl (a7 ?_))
  refine a6 rfl (mz zs6 (mz zs7 (ma v178 (ai n (ai 0 (ab (az (vs:=[v178,vi n,vi 0]) Tryz.func102 (.tmp rfl (.tmp rfl (.tmp rfl .nil))) ?_)))))))
  have e0:(part:List Int)=((bx g).1):=by
    exact(ki hm (by omega) hinv).1
  have e1:(n:Int)=((bx g).2.1):=by
    exact(ki hm (by omega) hinv).2.1
  have e2:(0:Int)=((bx g).2.2):=by
    exact(ki hm (by omega) hinv).2.2
  exact⟨(fin w0 g185 (λn=>if n=7 then 1 else 0),v178),(iZ (a:=part) (b:=n) (c:=0) (λ(z0:List Int) (z1:Int) (z2:Int)=>Ending.returned (vt [v178,vi z1,vi z2])) e0 e1 e2),bH.fresh _,(e0▸(o179.glue (γ:=c0) (ren:=(λn=>if n=7 then 1 else 0)) (k:=1) bH.col rfl rfl))⟩
 refine ag rfl (congrArg Bool.not (Bool.eq_false_iff.2 p1)) (a7 ?_)
 refine a6 rfl (ma vn (ai 0 (ai 1 (ab (az (vs:=[vn,vi 0,vi 1]) Tryz.func102 (.tmp rfl (.tmp rfl (.tmp rfl .nil))) ?_)))))
 have e0:([]:List Int)=((bx g).1):=by
   (have hn:¬bO g:=λh=>p1 (dt h)
    unfold bx;rw[if_neg hn];done)
 have e1:(0:Int)=((bx g).2.1):=by
   (have hn:¬bO g:=λh=>p1 (dt h)
    unfold bx;rw[if_neg hn];done)
 have e2:(1:Int)=((bx g).2.2):=by
   (have hn:¬bO g:=λh=>p1 (dt h)
    unfold bx;rw[if_neg hn];done)
 exact⟨(fin w0 g4 (λn=>0),vn),(iZ (a:=[]) (b:=0) (c:=1) (λ(z0:List Int) (z1:Int) (z2:Int)=>Ending.returned (vt [vn,vi z1,vi z2])) e0 e1 e2),bH.t.fresh _,(e0▸Ow.nil)⟩
end TL
