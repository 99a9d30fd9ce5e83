import Derived.Test.YtfpckpgnnplhnaaGreatSkTlGenA
import Derived.Test.YtfpckpgnnplhnaaGreatSkTlAli
set_option linter.all false
set_option maxRecDepth 20000
namespace TL
open Go Go.Proofs
theorem eX:Tryz.prog.follows .mixedOrders=true:=by kernel_rfl
theorem bN:Tp Tryz.prog 38 false 1 24 (.slice none 0 0):=Tp.of (by kernel_rfl)
theorem dW:Tp Tryz.prog 85 false 1 24 (.slice none 0 0):=Tp.of (by kernel_rfl)
theorem dJ:Tp Tryz.prog 177 true 4 96 (.agg #[.slice none 0 0,.slice none 0 0,.slice none 0 0,.slice none 0 0]):=Tp.of (by kernel_rfl)
theorem ti:Tryz.f136.body.isNone=false:=rfl
theorem su:(Tryz.f136.name== "runtime.NumGoroutine")=false:=by decide+kernel
theorem kC:Tryz.f137.body.isNone=false:=rfl
theorem kz:(Tryz.f137.name== "runtime.NumGoroutine")=false:=by decide+kernel
theorem tD:Tryz.f138.body.isNone=false:=rfl
theorem sI:(Tryz.f138.name== "runtime.NumGoroutine")=false:=by decide+kernel
theorem tE:Tryz.f151.body.isNone=false:=rfl
theorem sv:(Tryz.f151.name== "runtime.NumGoroutine")=false:=by decide+kernel
theorem tP:Tryz.f153.body.isNone=false:=rfl
theorem sF:(Tryz.f153.name== "runtime.NumGoroutine")=false:=by decide+kernel
theorem km:Tryz.f154.body.isNone=false:=rfl
theorem kN:(Tryz.f154.name== "runtime.NumGoroutine")=false:=by decide+kernel
theorem tl:Tryz.f155.body.isNone=false:=rfl
theorem tX:(Tryz.f155.name== "runtime.NumGoroutine")=false:=by decide+kernel
theorem zn(w0:World)(g:(Int)×(List Pt))(g_v:Value)(hg_v:Ro w0 g_v g.2):
    Calls Tryz.prog 133 #[vg [vi g.1,g_v]] w0 (λee w=>∃xx:aw×Value×Value,ee= .returned ((λ⟨δ,rv0,rv1⟩=>vt [vg [vi (((cQ g).1).1),rv0],rv1,vi ((cQ g).2.2)]) xx)/\(λ(⟨δ,rv0,rv1⟩:aw×Value×Value) (w:World)=>dU w0 δ w/\Ow δ (is 1) (is 1) w rv0 (((cQ g).1).2)/\Ow δ (is 2) (is 2) w rv1 ((cQ g).2.1)) xx w):=by
 refine ap Tryz.func133 rfl nq ?_
 have bH:=b6.start w0
 have Rg:=hg_v.sl
 refine a7 (a6 rfl (cN rfl (cq c0 (is 1) (1,0) rfl rfl ?_)))
 intro g4 w1 b3 ch2 bx5
 refine lo (bi g4 (is 2) (2,0) rfl aX ?_)
 intro g9 w6 b8 ch7 bx10
 refine ma vn (ai 0 (ab (a7 (a7 (a6 rfl ?_)))))
 replace bx5:=bx5.cn ch7
 refine lx (ay (ds:=[vi g.1,g_v]) aX rfl bx5 rfl rfl) ?_
 replace Rg:=(Rg.cn ch2).cn ch7
 refine lo (bV (v:=vb (dm g)) (aH (vals:=[vg [vi g.1,g_v]]) Tryz.func32 iH iY rfl) (iP w6 g g_v (Rg).ro) ?_)
 intro w11 hb12
 replace hb12:=aN hb12 g9
 refine lx (eU (b:=(dm g)) rfl) (ab ?_)
 by_cases p1:(dm g)=true
 ·
  have hm:=of_decide_eq_true p1
  have hm0:=hm
  obtain⟨hm1,hm2,hm3,hm4⟩:=hm0
  refine ag rfl (congrArg Bool.not p1) (ao (a7 (a6 rfl (lx (aa ea rfl rfl rfl rfl) ?_))))
  replace bx5:=bx5.cn hb12
  refine lx (a8 ah rfl bx5 rfl) (lw (vg [vi g.1,vn]) (bh (vs:=[(0,vi g.1)]) rfl (by kernel_rfl)) (lo (bi g9 (is 3) (3,0) rfl aX ?_)))
  intro g16 w13 b15 ch14 bx17
  refine lo (ax (cs':=[vi g.1,vn]) aX rfl rfl bx17 rfl nq (AllOne.all (.cons rfl (.cons rfl .nil))) rfl ?_)
  intro w18 ch19 bx20
  clear bx17
  refine ab (a7 (a6 rfl (ma vn (ab (a7 (a6 rfl (cN rfl (nL (K:=Pt) g16 (is 4) (4,0) rfl ?_))))))))
  intro g21 w22 v23 ch24 m25
  refine ma v23 (ab (a7 (a7 (a6 rfl (lx (aa ea rfl rfl rfl rfl) ?_)))))
  have C26:=cg [3] (ch14.n.seq ((ch19.l rfl).seq ch24.n))
  replace bx5:=bx5.ca C26
  refine lx (a8 bR rfl bx5 rfl) ?_
  have C27:=cg [3] (hb12.n.seq (ch14.n.seq ((ch19.l rfl).seq ch24.n)))
  replace Rg:=Rg.ca C27
  have len28:=(Rg).small
  refine lx (bp eR rfl Rg) (mi 0 (ab (am ?_)))
  clear bx5
  refine aV (σ:=Nat×Value×(List Pt)×Value×(List Int)×(Pt->Int)×aw) (λ⟨k,out_1_v,out_1,left_v,left,seen,gq⟩ f w=>b6 w0 gq w/\f 2=vp b8 0/\f 5=vp b15 0/\f 6=left_v/\f 7=v23/\f 20=g_v/\f 21=vi (g.2.length:Int)/\f 22=vi ↑k/\Sl gq (is 0) w g_v g.2/\Bx gq (is 2) w b8 [vi 0,vn]/\Bx gq (is 3) w b15 [vi g.1,out_1_v]/\Mp gq (is 4) w v23 seen/\Ow gq (is 8) (is 8) w out_1_v out_1/\Ow gq (is 10) (is 10) w left_v left/\(k:Int)<=((g.2.length:Int):Int)/\(dx left out_1 seen g k)) (λ⟨k,out_1_v,out_1,left_v,left,seen,gq⟩=>Int.toNat (((g.2.length:Int):Int)-(k:Int))) (0,vn,[],vn,[],(λ_=>0),g21) ?_ ?_
  have C29:=cg [3] (ch2.n.seq (ch7.n.seq (hb12.n.seq (ch14.n.seq ((ch19.l rfl).seq ch24.n)))))
  · exact⟨bH.ca C29,rfl,rfl,rfl,rfl,rfl,rfl,rfl,Rg,bx10.ca C27,bx20.cn ch24,m25,Ow.nil,Ow.nil,by omega,by exact dx.start g⟩
  clear Rg bx10 bx20 m25 bH
  rintro⟨k,out_1_v,out_1,left_v,left,seen,g32⟩ f30 w31 ⟨bH,zs2,zs5,zs6,zs7,zs20,zs21,zs22,Rg,bx10,bx20,m25,o_out_1,o_left,hle_k,hinv⟩ back7
  obtain⟨hbl,hbo,hse⟩:=hinv.bd
  refine a7 (a6 rfl (lx (bw (m:=↑k) (n:=(g.2.length:Int)) zs22 zs21) (ab (a7 ?_))))
  by_cases p7:(k:Int)<(g.2.length:Int)
  ·
   refine af rfl (dt p7) ?_
   have hse1:=hse (min (gI g.2 ↑k).1 (gI g.2 ↑k).2,max (gI g.2 ↑k).1 (gI g.2 ↑k).2)
   refine ao (a7 (am (a7 (a6 rfl (mz zs22 (lx (ad (v:=g_v) (i:=↑k) eR rfl zs20 Rg zs22 (by omega) (by omega)) (lw (vg [vi ((gI g.2 ↑k).1),vi ((gI g.2 ↑k).2)]) (bJ (v:=g_v) (i:=↑k) bx rfl Rg (by omega) (by omega) rfl) (lo (bi g32 (is 5) (5,0) rfl bx ?_)))))))))
   intro g36 w33 b35 ch34 bx37
   refine ai (k:Int) (lo (ax (cs':=[vi ((gI g.2 ↑k).1),vi ((gI g.2 ↑k).2)]) bx rfl rfl bx37 rfl nq (AllOne.all (.cons rfl (.cons rfl .nil))) rfl ?_))
   intro w38 ch39 bx40
   clear bx37
   refine ab (a7 (a6 rfl (lx (ay (ds:=[vi ((gI g.2 ↑k).1),vi ((gI g.2 ↑k).2)]) bx rfl bx40 rfl rfl) (lo (bV (v:=vg [vi (min (gI g.2 ↑k).1 (gI g.2 ↑k).2),vi (max (gI g.2 ↑k).1 (gI g.2 ↑k).2)]) (aH (vals:=[vg [vi ((gI g.2 ↑k).1),vi ((gI g.2 ↑k).2)]]) Tryz.func151 tE sv rfl) (yb w38 (gI g.2 ↑k)) ?_)))))
   intro w41 hb42
   replace hb42:=aN hb42 g36
   refine lo (bi g36 (is 6) (6,0) rfl bx ?_)
   intro g46 w43 b45 ch44 bx47
   refine lo (ax (cs':=[vi (min (gI g.2 ↑k).1 (gI g.2 ↑k).2),vi (max (gI g.2 ↑k).1 (gI g.2 ↑k).2)]) bx rfl rfl bx47 rfl nq (AllOne.all (.cons rfl (.cons rfl .nil))) rfl ?_)
   intro w48 ch49 bx50
   clear bx47
   refine ab (a7 (a7 (a6 rfl (lx (aQ eO rfl rfl rfl (by decide) (by decide) rfl) ?_))))
   have C51:=cg [6] (hb42.n.seq (ch44.n.seq (ch49.l rfl)))
   replace bx40:=bx40.ca C51
   refine lx (a8 ah rfl bx40 rfl) (lx (aQ eO rfl rfl rfl (by decide) (by decide) rfl) (lx (a8 ah rfl bx40 rfl) (lx (dq (m:=(gI g.2 ↑k).1) (n:=(gI g.2 ↑k).2) rfl rfl) (mv (vb (!(decide (((gI g.2 ↑k).1)=((gI g.2 ↑k).2))))) ?_))))
   by_cases q34:((gI g.2 ↑k).1)=((gI g.2 ↑k).2)
   ·
    refine aA (wn (congrArg Bool.not (dt q34))) (aA (wn (congrArg Bool.not (dt q34))) (aA (wn (congrArg Bool.not (dt q34))) (aA (wn (congrArg Bool.not (dt q34))) (lw (vb false) (bt rfl (congrArg Bool.not (dt q34)) rfl) (ab (ag rfl rfl (ao ?_)))))))
    clear bx40
    refine dl (σ:=aw) (λgq f w=>b6 w0 gq w/\f 2=vp b8 0/\f 5=vp b15 0/\f 6=left_v/\f 7=v23/\f 20=g_v/\f 21=vi (g.2.length:Int)/\f 22=vi ↑k/\Sl gq (is 0) w g_v g.2/\Bx gq (is 2) w b8 [vi 0,vn]/\Bx gq (is 3) w b15 [vi g.1,out_1_v]/\Ow gq (is 8) (is 8) w out_1_v out_1/\Ow gq (is 10) (is 10) w left_v left/\Mp gq (is 4) w v23 (λq=>if q=(min (gI g.2 ↑k).1 (gI g.2 ↑k).2,max (gI g.2 ↑k).1 (gI g.2 ↑k).2) then((seen (min (gI g.2 ↑k).1 (gI g.2 ↑k).2,max (gI g.2 ↑k).1 (gI g.2 ↑k).2))+1) else seen q)) g46 [0,1,3,5] eX ?_ ?_
    ·
     intro mid
     intro w53 ch52
     refine xp (v:=v23) 0 rfl (λw=>aq zs7) ?_
     replace bx50:=bx50.cn ch52
     refine xv 1 [0] rfl (ay (ds:=[vi (min (gI g.2 ↑k).1 (gI g.2 ↑k).2),vi (max (gI g.2 ↑k).1 (gI g.2 ↑k).2)]) bx rfl bx50 rfl rfl) ?_
     refine dD 2 4 rfl rfl (by kernel_rfl) rfl rfl ?_ ?_
     ·
      have C54:=cg [5,6] (ch34.n.seq ((ch39.l rfl).seq (hb42.n.seq (ch44.n.seq ((ch49.l rfl).seq ch52.n)))))
      replace m25:=m25.ca C54
      refine aj (v:=vi (seen (min (gI g.2 ↑k).1 (gI g.2 ↑k).2,max (gI g.2 ↑k).1 (gI g.2 ↑k).2))) (dp (min (gI g.2 ↑k).1 (gI g.2 ↑k).2,max (gI g.2 ↑k).1 (gI g.2 ↑k).2) nh (ci eO U3 ah) ah rfl m25 rfl rfl) (xp 3 rfl (λw=>aS (m:=seen (min (gI g.2 ↑k).1 (gI g.2 ↑k).2,max (gI g.2 ↑k).1 (gI g.2 ↑k).2)) (n:=1) rfl rfl (by omega)) (b9 4 rfl (by kernel_rfl) rfl (eN (min (gI g.2 ↑k).1 (gI g.2 ↑k).2,max (gI g.2 ↑k).1 (gI g.2 ↑k).2) nh (ci eO U3 ah) ah rfl m25 rfl rfl ?_)))
      intro w55 s58 ch56 m57
      clear m25
      refine xp 5 rfl (λw=>aJ rfl rfl) (b9 6 rfl (by kernel_rfl) rfl (dK rfl m57 rfl rfl ?_))
      intro w59 ch60 m61
      clear m57
      refine bS (by kernel_rfl) ?_
      have C62:=cg [4,5,6] (ch34.n.seq ((ch39.l rfl).seq (hb42.n.seq (ch44.n.seq ((ch49.l rfl).seq (ch52.n.seq ((ch56.l rfl).seq (ch60.l rfl))))))))
      exact mid (g46) _ _ ⟨bH.ca C62,zs2,zs5,zs6,zs7,zs20,zs21,zs22,Rg.ca C62,bx10.ca C62,bx20.ca C62,o_out_1.ca C62,o_left.ca C62,m61⟩
     ·
      have C67:=cg [5,6] (ch34.n.seq ((ch39.l rfl).seq (hb42.n.seq (ch44.n.seq ((ch49.l rfl).seq ch52.n)))))
      replace m25:=m25.ca C67
      refine eN (min (gI g.2 ↑k).1 (gI g.2 ↑k).2,max (gI g.2 ↑k).1 (gI g.2 ↑k).2) nh (ci eO U3 ah) ah rfl m25 rfl rfl ?_
      intro w63 s66 ch64 m65
      clear m25
      refine xp 5 rfl (λw=>aJ rfl rfl) (b9 2 rfl (by kernel_rfl) rfl (aj (v:=vi (seen (min (gI g.2 ↑k).1 (gI g.2 ↑k).2,max (gI g.2 ↑k).1 (gI g.2 ↑k).2))) (dp (min (gI g.2 ↑k).1 (gI g.2 ↑k).2,max (gI g.2 ↑k).1 (gI g.2 ↑k).2) nh (ci eO U3 ah) ah rfl m65.mp rfl rfl) (xp 3 rfl (λw=>aS (m:=seen (min (gI g.2 ↑k).1 (gI g.2 ↑k).2,max (gI g.2 ↑k).1 (gI g.2 ↑k).2)) (n:=1) rfl rfl (by omega)) (b9 6 rfl (by kernel_rfl) rfl (dK rfl m65 rfl rfl ?_)))))
      intro w68 ch69 m70
      clear m65
      refine bS (by kernel_rfl) ?_
      have C71:=cg [4,5,6] (ch34.n.seq ((ch39.l rfl).seq (hb42.n.seq (ch44.n.seq ((ch49.l rfl).seq (ch52.n.seq ((ch64.l rfl).seq (ch69.l rfl))))))))
      exact mid (g46) _ _ ⟨bH.ca C71,zs2,zs5,zs6,zs7,zs20,zs21,zs22,Rg.ca C71,bx10.ca C71,bx20.ca C71,o_out_1.ca C71,o_left.ca C71,m70⟩
    clear Rg bx10 bx20 m25 o_out_1 o_left bx50 bH
    rintro g74 f72 w73 ⟨bH,zs2,zs5,zs6,zs7,zs20,zs21,zs22,Rg,bx10,bx20,o_out_1,o_left,m59⟩
    refine ak (a6 rfl (lx (aS (m:=↑k) (n:=1) zs22 rfl (by omega)) (mi ((k:Int)+1) (ab ?_))))
    refine back7 (k+1,out_1_v,out_1,left_v,left,(λq=>if q=(min (gI g.2 ↑k).1 (gI g.2 ↑k).2,max (gI g.2 ↑k).1 (gI g.2 ↑k).2) then((seen (min (gI g.2 ↑k).1 (gI g.2 ↑k).2,max (gI g.2 ↑k).1 (gI g.2 ↑k).2))+1) else seen q),g74) _ _ ⟨bH,zs2,zs5,zs6,zs7,zs20,zs21,rfl,Rg,bx10,bx20,m59,o_out_1,o_left,by omega,?_⟩ ?_
    · show dx left out_1 (λq=>if q=(min (gI g.2 ↑k).1 (gI g.2 ↑k).2,max (gI g.2 ↑k).1 (gI g.2 ↑k).2) then((seen (min (gI g.2 ↑k).1 (gI g.2 ↑k).2,max (gI g.2 ↑k).1 (gI g.2 ↑k).2))+1) else seen q) g (k+1)
      exact hinv.skip ‹_› (.inl q34)
    · show Int.toNat (_-_)<Int.toNat (_-_)
      omega
   refine lv (v23) (wy (congrArg Bool.not (df q34))) (aq zs7) (lv (vg [vi (min (gI g.2 ↑k).1 (gI g.2 ↑k).2),vi (max (gI g.2 ↑k).1 (gI g.2 ↑k).2)]) (wy (congrArg Bool.not (df q34))) (ay (ds:=[vi (min (gI g.2 ↑k).1 (gI g.2 ↑k).2),vi (max (gI g.2 ↑k).1 (gI g.2 ↑k).2)]) bx rfl bx50 rfl rfl) ?_)
   have C75:=cg [5,6] (ch34.n.seq ((ch39.l rfl).seq (hb42.n.seq (ch44.n.seq (ch49.l rfl)))))
   replace m25:=m25.ca C75
   refine lv (vi (seen (min (gI g.2 ↑k).1 (gI g.2 ↑k).2,max (gI g.2 ↑k).1 (gI g.2 ↑k).2))) (wy (congrArg Bool.not (df q34))) (dp (min (gI g.2 ↑k).1 (gI g.2 ↑k).2,max (gI g.2 ↑k).1 (gI g.2 ↑k).2) nh (ci eO U3 ah) ah rfl m25 rfl rfl) (lv (vb (decide ((seen (min (gI g.2 ↑k).1 (gI g.2 ↑k).2,max (gI g.2 ↑k).1 (gI g.2 ↑k).2))=0))) (wy (congrArg Bool.not (df q34))) (dA (m:=seen (min (gI g.2 ↑k).1 (gI g.2 ↑k).2,max (gI g.2 ↑k).1 (gI g.2 ↑k).2)) (n:=0) rfl rfl) ?_)
   refine lw (vb (decide ((seen (min (gI g.2 ↑k).1 (gI g.2 ↑k).2,max (gI g.2 ↑k).1 (gI g.2 ↑k).2))=0))) (bj rfl (congrArg Bool.not (df q34)) rfl) (ab ?_)
   by_cases p10:(seen (min (gI g.2 ↑k).1 (gI g.2 ↑k).2,max (gI g.2 ↑k).1 (gI g.2 ↑k).2))=0
   ·
    refine af rfl (dt p10) (a7 (a6 rfl (lx (aa ea rfl rfl zs5 rfl) ?_)))
    replace bx20:=bx20.ca C75
    refine lx (a8 bR rfl bx20 rfl) (lx (ay (ds:=[vi ((gI g.2 ↑k).1),vi ((gI g.2 ↑k).2)]) bx rfl bx40 rfl rfl) (lo (ar (α:=Pt) g46 (is 7) (is 7) (7,0) rfl [(gI g.2 ↑k)] eR bx (by decide) (by decide) (vs:=[(0,vg [vi ((gI g.2 ↑k).1),vi ((gI g.2 ↑k).2)])]) rfl rfl (.cons rfl .nil) ?_)))
    intro g76 w77 v78 ch79 o80
    refine lo ?_
    have C81:=cg [5,6] (ch34.n.seq ((ch39.l rfl).seq (hb42.n.seq (ch44.n.seq ((ch49.l rfl).seq ch79.n)))))
    replace o_out_1:=o_out_1.ca C81
    refine aK (α:=Pt) (xs:=out_1) (ys:=([(gI g.2 ↑k)])) g76 (J:=is 8) (S:=is 8) (8,0) rfl eR bx (by decide) rfl rfl rfl o_out_1 o80.flat (by decide) (by(simp;omega)) ?_
    intro g82 w83 v84 ch85 o86
    clear o_out_1
    refine lx (aa ea rfl rfl zs5 rfl) (lo ?_)
    replace bx20:=(bx20.cn ch79).ce ch85
    refine aC (cs':=[vi g.1,v84]) bR rfl rfl bx20 (aP o86.flat) nq (aG o86.flat) rfl ?_
    intro w87 ch88 bx89
    clear bx20
    refine ab ?_
    clear bx40 o80
    refine a6 rfl (mz zs6 (mi ↑k (lo (ar (α:=Int) g82 (is 9) (is 9) (9,0) rfl [(k:Int)] bF ah (by decide) (by decide) (vs:=[(0,vi ↑k)]) rfl rfl (.cons rfl .nil) ?_))))
    intro g90 w91 v92 ch93 o94
    refine lo ?_
    have C95:=cg [3,5,6,8] (ch34.n.seq ((ch39.l rfl).seq (hb42.n.seq (ch44.n.seq ((ch49.l rfl).seq (ch79.n.seq ((ch85.l rfl).seq ((ch88.l rfl).seq ch93.n))))))))
    replace o_left:=o_left.ca C95
    refine aK (α:=Int) (xs:=left) (ys:=([(k:Int)])) g90 (J:=is 10) (S:=is 10) (10,0) rfl bF ah (by decide) rfl rfl rfl o_left o94.flat (by decide) (by(simp;omega)) ?_
    intro g96 w97 v98 ch99 o100
    clear o_left
    refine ma v98 (ab ?_)
    clear o94
    refine dl (σ:=aw) (λgq f w=>b6 w0 gq w/\f 2=vp b8 0/\f 5=vp b15 0/\f 6=v98/\f 7=v23/\f 20=g_v/\f 21=vi (g.2.length:Int)/\f 22=vi ↑k/\Sl gq (is 0) w g_v g.2/\Bx gq (is 2) w b8 [vi 0,vn]/\Ow gq (is 8) (is 8) w v84 (out_1++[(gI g.2 ↑k)])/\Bx gq (is 3) w b15 [vi g.1,v84]/\Ow gq (is 10) (is 10) w v98 (left++[(k:Int)])/\Mp gq (is 4) w v23 (λq=>if q=(min (gI g.2 ↑k).1 (gI g.2 ↑k).2,max (gI g.2 ↑k).1 (gI g.2 ↑k).2) then((seen (min (gI g.2 ↑k).1 (gI g.2 ↑k).2,max (gI g.2 ↑k).1 (gI g.2 ↑k).2))+1) else seen q)) g96 [0,1,3,5] eX ?_ ?_
    ·
     intro mid
     intro w102 ch101
     refine xp (v:=v23) 0 rfl (λw=>aq zs7) ?_
     have C103:=cg [3,8,10] (ch79.n.seq ((ch85.l rfl).seq ((ch88.l rfl).seq (ch93.n.seq ((ch99.l rfl).seq ch101.n)))))
     replace bx50:=bx50.ca C103
     refine xv 1 [0] rfl (ay (ds:=[vi (min (gI g.2 ↑k).1 (gI g.2 ↑k).2),vi (max (gI g.2 ↑k).1 (gI g.2 ↑k).2)]) bx rfl bx50 rfl rfl) ?_
     refine dD 2 4 rfl rfl (by kernel_rfl) rfl rfl ?_ ?_
     ·
      replace m25:=m25.ca C103
      refine aj (v:=vi (seen (min (gI g.2 ↑k).1 (gI g.2 ↑k).2,max (gI g.2 ↑k).1 (gI g.2 ↑k).2))) (dp (min (gI g.2 ↑k).1 (gI g.2 ↑k).2,max (gI g.2 ↑k).1 (gI g.2 ↑k).2) nh (ci eO U3 ah) ah rfl m25 rfl rfl) (xp 3 rfl (λw=>aS (m:=seen (min (gI g.2 ↑k).1 (gI g.2 ↑k).2,max (gI g.2 ↑k).1 (gI g.2 ↑k).2)) (n:=1) rfl rfl (by omega)) (b9 4 rfl (by kernel_rfl) rfl (eN (min (gI g.2 ↑k).1 (gI g.2 ↑k).2,max (gI g.2 ↑k).1 (gI g.2 ↑k).2) nh (ci eO U3 ah) ah rfl m25 rfl rfl ?_)))
      intro w104 s107 ch105 m106
      clear m25
      refine xp 5 rfl (λw=>aJ rfl rfl) (b9 6 rfl (by kernel_rfl) rfl (dK rfl m106 rfl rfl ?_))
      intro w108 ch109 m110
      clear m106
      refine bS (by kernel_rfl) ?_
      have C111:=cg [3,4,5,6,8,10] (ch34.n.seq ((ch39.l rfl).seq (hb42.n.seq (ch44.n.seq ((ch49.l rfl).seq (ch79.n.seq ((ch85.l rfl).seq ((ch88.l rfl).seq (ch93.n.seq ((ch99.l rfl).seq (ch101.n.seq ((ch105.l rfl).seq (ch109.l rfl)))))))))))))
      have C112:=cg [3,4,10] ((ch88.l rfl).seq (ch93.n.seq ((ch99.l rfl).seq (ch101.n.seq ((ch105.l rfl).seq (ch109.l rfl))))))
      have C113:=cg [4,10] (ch93.n.seq ((ch99.l rfl).seq (ch101.n.seq ((ch105.l rfl).seq (ch109.l rfl)))))
      have C114:=cg [4] (ch101.n.seq ((ch105.l rfl).seq (ch109.l rfl)))
      exact mid (g96) _ _ ⟨bH.ca C111,zs2,zs5,rfl,zs7,zs20,zs21,zs22,Rg.ca C111,bx10.ca C111,o86.ca C112,bx89.ca C113,o100.ca C114,m110⟩
     ·
      replace m25:=m25.ca C103
      refine eN (min (gI g.2 ↑k).1 (gI g.2 ↑k).2,max (gI g.2 ↑k).1 (gI g.2 ↑k).2) nh (ci eO U3 ah) ah rfl m25 rfl rfl ?_
      intro w115 s118 ch116 m117
      clear m25
      refine xp 5 rfl (λw=>aJ rfl rfl) (b9 2 rfl (by kernel_rfl) rfl (aj (v:=vi (seen (min (gI g.2 ↑k).1 (gI g.2 ↑k).2,max (gI g.2 ↑k).1 (gI g.2 ↑k).2))) (dp (min (gI g.2 ↑k).1 (gI g.2 ↑k).2,max (gI g.2 ↑k).1 (gI g.2 ↑k).2) nh (ci eO U3 ah) ah rfl m117.mp rfl rfl) (xp 3 rfl (λw=>aS (m:=seen (min (gI g.2 ↑k).1 (gI g.2 ↑k).2,max (gI g.2 ↑k).1 (gI g.2 ↑k).2)) (n:=1) rfl rfl (by omega)) (b9 6 rfl (by kernel_rfl) rfl (dK rfl m117 rfl rfl ?_)))))
      intro w119 ch120 m121
      clear m117
      refine bS (by kernel_rfl) ?_
      have C122:=cg [3,4,5,6,8,10] (ch34.n.seq ((ch39.l rfl).seq (hb42.n.seq (ch44.n.seq ((ch49.l rfl).seq (ch79.n.seq ((ch85.l rfl).seq ((ch88.l rfl).seq (ch93.n.seq ((ch99.l rfl).seq (ch101.n.seq ((ch116.l rfl).seq (ch120.l rfl)))))))))))))
      have C123:=cg [3,4,10] ((ch88.l rfl).seq (ch93.n.seq ((ch99.l rfl).seq (ch101.n.seq ((ch116.l rfl).seq (ch120.l rfl))))))
      have C124:=cg [4,10] (ch93.n.seq ((ch99.l rfl).seq (ch101.n.seq ((ch116.l rfl).seq (ch120.l rfl)))))
      have C125:=cg [4] (ch101.n.seq ((ch116.l rfl).seq (ch120.l rfl)))
      exact mid (g96) _ _ ⟨bH.ca C122,zs2,zs5,rfl,zs7,zs20,zs21,zs22,Rg.ca C122,bx10.ca C122,o86.ca C123,bx89.ca C124,o100.ca C125,m121⟩
    clear Rg bx10 m25 bx50 o86 bx89 o100 bH
    rintro g128 f126 w127 ⟨bH,zs2,zs5,zs6,zs7,zs20,zs21,zs22,Rg,bx10,o86,bx89,o100,m108⟩
    refine ak (a6 rfl (lx (aS (m:=↑k) (n:=1) zs22 rfl (by omega)) (mi ((k:Int)+1) (ab ?_))))
    refine back7 (k+1,v84,(out_1++[(gI g.2 ↑k)]),v98,(left++[(k:Int)]),(λq=>if q=(min (gI g.2 ↑k).1 (gI g.2 ↑k).2,max (gI g.2 ↑k).1 (gI g.2 ↑k).2) then((seen (min (gI g.2 ↑k).1 (gI g.2 ↑k).2,max (gI g.2 ↑k).1 (gI g.2 ↑k).2))+1) else seen q),g128) _ _ ⟨bH,zs2,zs5,zs6,zs7,zs20,zs21,rfl,Rg,bx10,bx89,m108,o86,o100,by omega,?_⟩ ?_
    · show dx (left++[(k:Int)]) (out_1++[(gI g.2 ↑k)]) (λq=>if q=(min (gI g.2 ↑k).1 (gI g.2 ↑k).2,max (gI g.2 ↑k).1 (gI g.2 ↑k).2) then((seen (min (gI g.2 ↑k).1 (gI g.2 ↑k).2,max (gI g.2 ↑k).1 (gI g.2 ↑k).2))+1) else seen q) g (k+1)
      exact hinv.take ‹_› q34 p10
    · show Int.toNat (_-_)<Int.toNat (_-_)
      omega
   refine ag rfl (df p10) (ao ?_)
   clear bx40
   refine dl (σ:=aw) (λgq f w=>b6 w0 gq w/\f 2=vp b8 0/\f 5=vp b15 0/\f 6=left_v/\f 7=v23/\f 20=g_v/\f 21=vi (g.2.length:Int)/\f 22=vi ↑k/\Sl gq (is 0) w g_v g.2/\Bx gq (is 2) w b8 [vi 0,vn]/\Bx gq (is 3) w b15 [vi g.1,out_1_v]/\Ow gq (is 8) (is 8) w out_1_v out_1/\Ow gq (is 10) (is 10) w left_v left/\Mp gq (is 4) w v23 (λq=>if q=(min (gI g.2 ↑k).1 (gI g.2 ↑k).2,max (gI g.2 ↑k).1 (gI g.2 ↑k).2) then((seen (min (gI g.2 ↑k).1 (gI g.2 ↑k).2,max (gI g.2 ↑k).1 (gI g.2 ↑k).2))+1) else seen q)) g46 [0,1,3,5] eX ?_ ?_
   ·
    intro mid
    intro w130 ch129
    refine xp (v:=v23) 0 rfl (λw=>aq zs7) ?_
    replace bx50:=bx50.cn ch129
    refine xv 1 [0] rfl (ay (ds:=[vi (min (gI g.2 ↑k).1 (gI g.2 ↑k).2),vi (max (gI g.2 ↑k).1 (gI g.2 ↑k).2)]) bx rfl bx50 rfl rfl) ?_
    refine dD 2 4 rfl rfl (by kernel_rfl) rfl rfl ?_ ?_
    ·
     replace m25:=m25.cn ch129
     refine aj (v:=vi (seen (min (gI g.2 ↑k).1 (gI g.2 ↑k).2,max (gI g.2 ↑k).1 (gI g.2 ↑k).2))) (dp (min (gI g.2 ↑k).1 (gI g.2 ↑k).2,max (gI g.2 ↑k).1 (gI g.2 ↑k).2) nh (ci eO U3 ah) ah rfl m25 rfl rfl) (xp 3 rfl (λw=>aS (m:=seen (min (gI g.2 ↑k).1 (gI g.2 ↑k).2,max (gI g.2 ↑k).1 (gI g.2 ↑k).2)) (n:=1) rfl rfl (by omega)) (b9 4 rfl (by kernel_rfl) rfl (eN (min (gI g.2 ↑k).1 (gI g.2 ↑k).2,max (gI g.2 ↑k).1 (gI g.2 ↑k).2) nh (ci eO U3 ah) ah rfl m25 rfl rfl ?_)))
     intro w131 s134 ch132 m133
     clear m25
     refine xp 5 rfl (λw=>aJ rfl rfl) (b9 6 rfl (by kernel_rfl) rfl (dK rfl m133 rfl rfl ?_))
     intro w135 ch136 m137
     clear m133
     refine bS (by kernel_rfl) ?_
     have C138:=cg [4,5,6] (ch34.n.seq ((ch39.l rfl).seq (hb42.n.seq (ch44.n.seq ((ch49.l rfl).seq (ch129.n.seq ((ch132.l rfl).seq (ch136.l rfl))))))))
     exact mid (g46) _ _ ⟨bH.ca C138,zs2,zs5,zs6,zs7,zs20,zs21,zs22,Rg.ca C138,bx10.ca C138,bx20.ca C138,o_out_1.ca C138,o_left.ca C138,m137⟩
    ·
     replace m25:=m25.cn ch129
     refine eN (min (gI g.2 ↑k).1 (gI g.2 ↑k).2,max (gI g.2 ↑k).1 (gI g.2 ↑k).2) nh (ci eO U3 ah) ah rfl m25 rfl rfl ?_
     intro w139 s142 ch140 m141
     clear m25
     refine xp 5 rfl (λw=>aJ rfl rfl) (b9 2 rfl (by kernel_rfl) rfl (aj (v:=vi (seen (min (gI g.2 ↑k).1 (gI g.2 ↑k).2,max (gI g.2 ↑k).1 (gI g.2 ↑k).2))) (dp (min (gI g.2 ↑k).1 (gI g.2 ↑k).2,max (gI g.2 ↑k).1 (gI g.2 ↑k).2) nh (ci eO U3 ah) ah rfl m141.mp rfl rfl) (xp 3 rfl (λw=>aS (m:=seen (min (gI g.2 ↑k).1 (gI g.2 ↑k).2,max (gI g.2 ↑k).1 (gI g.2 ↑k).2)) (n:=1) rfl rfl (by omega)) (b9 6 rfl (by kernel_rfl) rfl (dK rfl m141 rfl rfl ?_)))))
     intro w143 ch144 m145
     clear m141
     refine bS (by kernel_rfl) ?_
     have C146:=cg [4,5,6] (ch34.n.seq ((ch39.l rfl).seq (hb42.n.seq (ch44.n.seq ((ch49.l rfl).seq (ch129.n.seq ((ch140.l rfl).seq (ch144.l rfl))))))))
     exact mid (g46) _ _ ⟨bH.ca C146,zs2,zs5,zs6,zs7,zs20,zs21,zs22,Rg.ca C146,bx10.ca C146,bx20.ca C146,o_out_1.ca C146,o_left.ca C146,m145⟩
   clear Rg bx10 bx20 m25 o_out_1 o_left bx50 bH
   rintro g149 f147 w148 ⟨bH,zs2,zs5,zs6,zs7,zs20,zs21,zs22,Rg,bx10,bx20,o_out_1,o_left,m135⟩
   refine ak (a6 rfl (lx (aS (m:=↑k) (n:=1) zs22 rfl (by omega)) (mi ((k:Int)+1) (ab ?_))))
   refine back7 (k+1,out_1_v,out_1,left_v,left,(λq=>if q=(min (gI g.2 ↑k).1 (gI g.2 ↑k).2,max (gI g.2 ↑k).1 (gI g.2 ↑k).2) then((seen (min (gI g.2 ↑k).1 (gI g.2 ↑k).2,max (gI g.2 ↑k).1 (gI g.2 ↑k).2))+1) else seen q),g149) _ _ ⟨bH,zs2,zs5,zs6,zs7,zs20,zs21,rfl,Rg,bx10,bx20,m135,o_out_1,o_left,by omega,?_⟩ ?_
   · show dx left out_1 (λq=>if q=(min (gI g.2 ↑k).1 (gI g.2 ↑k).2,max (gI g.2 ↑k).1 (gI g.2 ↑k).2) then((seen (min (gI g.2 ↑k).1 (gI g.2 ↑k).2,max (gI g.2 ↑k).1 (gI g.2 ↑k).2))+1) else seen q) g (k+1)
     exact hinv.skip ‹_› (.inr p10)
   · show Int.toNat (_-_)<Int.toNat (_-_)
     omega
  refine ag rfl (df p7) (aO rfl (a7 ?_))
  clear m25
  refine a6 rfl (lx (ay (ds:=[vi g.1,out_1_v]) aX zs5 bx20 rfl rfl) (mz zs6 (lo (ax (cs':=[vi g.1,out_1_v]) aX zs2 rfl bx10 rfl nq (AllOne.all (.cons rfl (.cons (aG o_out_1.flat) .nil))) rfl ?_))))
  intro w150 ch151 bx152
  clear bx10
  refine ma left_v (ai 0 (ab (au (vs:=[vg [vi g.1,out_1_v],left_v,vi 0]) Tryz.func133 (.cell zs2 (cy (ds:=[vi g.1,out_1_v]) aX bx152 rfl rfl) (.tmp rfl (.tmp rfl .nil))) ?_)))
  replace bH:=bH.ce ch151
  replace o_out_1:=o_out_1.ce ch151
  replace o_left:=o_left.ce ch151
  have e0:((g.1,out_1):(Int)×(List Pt))=((cQ g).1):=by
    (have hk:k=g.2.length:=by omega
     subst hk
     (simp only[cQ,if_pos hm,<-hinv.out];done))
  have e1:(left:List Int)=((cQ g).2.1):=by
    (have hk:k=g.2.length:=by omega
     subst hk
     (simp only[cQ,if_pos hm,<-hinv.left];done))
  have e2:(0:Int)=((cQ g).2.2):=by
    (have hk:k=g.2.length:=by omega
     subst hk
     (simp only[cQ,if_pos hm,<-hinv.out];done))
  exact⟨(fin w0 g32 (λn=>if n=8 then 1 else if n=10 then 2 else 0),out_1_v,left_v),(iw (a:=(g.1,out_1)) (b:=left) (c:=0) (λ(z0:(Int)×(List Pt)) (z1:List Int) (z2:Int)=>Ending.returned (vt [vg [vi z0.1,out_1_v],left_v,vi z2])) e0 e1 e2),bH.fresh _,((congrArg (λ(z:(Int)×(List Pt))=>z.2) e0)▸(o_out_1.glue (γ:=c0) (ren:=(λn=>if n=8 then 1 else if n=10 then 2 else 0)) (k:=1) bH.col rfl rfl)),(e1▸(o_left.glue (γ:=c0) (ren:=(λn=>if n=8 then 1 else if n=10 then 2 else 0)) (k:=2) bH.col rfl rfl))⟩
 refine af rfl (congrArg Bool.not (Bool.eq_false_iff.2 p1)) (a7 ?_)
 clear bx5
 refine a6 rfl (lw (vg [vi 0,vn]) (bh (vs:=[]) rfl (by kernel_rfl)) (lo ?_))
 replace bx10:=bx10.cn hb12
 refine ax (cs':=[vi 0,vn]) aX rfl rfl bx10 rfl nq (AllOne.all (.cons rfl (.cons rfl .nil))) rfl ?_
 intro w153 ch154 bx155
 clear bx10
 refine ma vn (ai 1 (ab (au (vs:=[vg [vi 0,vn],vn,vi 1]) Tryz.func133 (.cell rfl (cy (ds:=[vi 0,vn]) aX bx155 rfl rfl) (.tmp rfl (.tmp rfl .nil))) ?_)))
 have C156:=cg [2] (ch2.n.seq (ch7.n.seq (hb12.n.seq (ch154.l rfl))))
 replace bH:=bH.ca C156
 have e0:((0,[]):(Int)×(List Pt))=((cQ g).1):=by
   (have hn:¬c7 g:=λh=>p1 (dt h)
    simp only[cQ,if_neg hn];done)
 have e1:([]:List Int)=((cQ g).2.1):=by
   (have hn:¬c7 g:=λh=>p1 (dt h)
    simp only[cQ,if_neg hn];done)
 have e2:(1:Int)=((cQ g).2.2):=by
   (have hn:¬c7 g:=λh=>p1 (dt h)
    simp only[cQ,if_neg hn];done)
 exact⟨(fin w0 g9 (λn=>0),vn,vn),(iw (a:=(0,[])) (b:=[]) (c:=1) (λ(z0:(Int)×(List Pt)) (z1:List Int) (z2:Int)=>Ending.returned (vt [vg [vi z0.1,vn],vn,vi z2])) e0 e1 e2),bH.fresh _,((congrArg (λ(z:(Int)×(List Pt))=>z.2) e0)▸Ow.nil),(e1▸Ow.nil)⟩
theorem kT(w0:World)(n:Int)(x:Int)(hn:0<=n/\n<=1000000):
    Calls Tryz.prog 137 #[vi n,vi x] w0 (λee w=>∃xx:aw×Value,ee= .returned ((λ⟨δ,rv0⟩=>rv0) xx)/\(λ(⟨δ,rv0⟩:aw×Value) (w:World)=>dU w0 δ w/\Ow δ (is 1) (is 1) w rv0 (List.replicate n.toNat x)) xx w):=by
 refine ap Tryz.func137 rfl nq ?_
 have bH:=b6.start w0
 obtain⟨hn1,hn2⟩:=hn
 have hrep:((List.replicate n.toNat (0:Int)).length:Int)=n:=by simp;omega
 refine a7 (a6 rfl (ma vn (ab (a7 (a6 rfl (mi n (lo (dN (α:=Int) (l:=n) (cp:=n) c0 (is 1) (is 1) (1,0) rfl (0:Int) bF ah rfl rfl rfl (by omega) (by omega) (by omega) (by omega) ?_))))))))
 intro g1 w2 v3 ch4 o5 _
 refine ma v3 (ab (a7 (a7 (a6 rfl (mv v3 ?_)))))
 have len6:=(o5.flat).small
 refine lx (bp bF rfl o5.flat) (mi 0 (ab (am ?_)))
 refine aV (σ:=Nat×(List Int)×aw) (λ⟨k,l,gq⟩ f w=>b6 w0 gq w/\f 1=vi x/\f 5=v3/\f 10=vi (List.length (List.replicate (Int.toNat n) (0:Int)):Int)/\f 11=vi ↑k/\Ow gq (is 1) (is 1) w v3 l/\(k:Int)<=((List.length (List.replicate (Int.toNat n) (0:Int)):Int):Int)/\(l=List.replicate k x++List.replicate (n.toNat-k) 0/\(k:Int)<=n)) (λ⟨k,l,gq⟩=>Int.toNat (((List.length (List.replicate (Int.toNat n) (0:Int)):Int):Int)-(k:Int))) (0,(List.replicate (Int.toNat n) (0:Int)),g1) ?_ ?_
 · exact⟨bH.cn ch4,rfl,rfl,rfl,rfl,o5,by omega,by exact⟨by simp,by omega⟩⟩
 clear o5 bH
 rintro⟨k,l,g9⟩ f7 w8 ⟨bH,zs1,zs5,zs10,zs11,o5,hle_k,hinv⟩ back3
 have hll:l.length=n.toNat:=by rw[hinv.1];simp;omega
 refine a7 (a6 rfl (lx (bw (m:=↑k) (n:=(List.length (List.replicate (Int.toNat n) (0:Int)):Int)) zs11 zs10) (ab (a7 ?_))))
 by_cases p3:(k:Int)<(List.length (List.replicate (Int.toNat n) (0:Int)):Int)
 ·
  refine af rfl (dt p3) (ao (a7 (am (a7 (a6 rfl (mz zs11 (ai (k:Int) (ab (a6 rfl (mz zs5 (mi ↑k ?_)))))))))))
  refine mz zs1 (lx (ad (v:=v3) (i:=↑k) bF rfl rfl o5.flat rfl (by omega) (by omega)) (lo (aZ (i:=↑k) x ah rfl rfl o5 (by omega) (by omega) rfl ?_)))
  intro w10 ch11 bx12
  clear o5
  refine ab (ak (a6 rfl (lx (aS (m:=↑k) (n:=1) zs11 rfl (by omega)) (mi ((k:Int)+1) (ab ?_)))))
  refine back3 (k+1,(List.set l (Int.toNat ↑k) x),g9) _ _ ⟨bH.ce ch11,zs1,zs5,zs10,rfl,bx12,by omega,?_⟩ ?_
  · show(List.set l (Int.toNat ↑k) x)=List.replicate (k+1) x++List.replicate (n.toNat-(k+1)) 0/\((k+1):Int)<=n
    have hk1:k<n.toNat:=by simp at*;omega
    refine⟨by rw[hinv.1];exact tn hk1,by omega⟩
  · show Int.toNat (_-_)<Int.toNat (_-_)
    omega
 refine ag rfl (df p3) (aO rfl (a7 (a6 rfl (mz zs5 (ma v3 (ab (au (vs:=[v3]) Tryz.func137 (.tmp rfl .nil) ?_)))))))
 have e0:(l:List Int)=(List.replicate n.toNat x):=by
   obtain⟨h1,h2⟩:=hinv
   have hk:k=n.toNat:=by simp at*;omega
   subst hk;rw[h1];simp
 exact⟨(fin w0 g9 (λn=>if n=1 then 1 else 0),v3),(congrArg (a₁:=l) (λ(z0:List Int)=>Ending.returned (v3)) e0),bH.fresh _,(e0▸(o5.glue (γ:=c0) (ren:=(λn=>if n=1 then 1 else 0)) (k:=1) bH.col rfl rfl))⟩
set_option maxHeartbeats 1000000 in
theorem qy(w0:World)(g:(Int)×(List Pt))(g_v:Value)(hg_v:Ro w0 g_v g.2):
    Calls Tryz.prog 102 #[vg [vi g.1,g_v]] w0 (λee w=>∃xx:aw×Value,ee= .returned ((λ⟨δ,rv0⟩=>vt [rv0,vi ((bu g).2.1),vi ((bu g).2.2)]) xx)/\(λ(⟨δ,rv0⟩:aw×Value) (w:World)=>dU w0 δ w/\Ow δ (is 1) (is 1) w rv0 ((bu g).1)) xx w):=by
 refine ap Tryz.func102 rfl nq ?_
 have bH:=b6.start w0
 have Rg:=hg_v.sl
 refine a7 (a6 rfl (cN rfl (cq c0 (is 1) (1,0) rfl rfl ?_)))
 intro g4 w1 b3 ch2 bx5
 refine ma vn (ai 0 (ai 0 (ab (a7 (a7 (a6 rfl (lx (ay (ds:=[vi g.1,g_v]) aX rfl bx5 rfl rfl) ?_)))))))
 replace Rg:=Rg.cn ch2
 refine lo (bV (v:=vb (dm g)) (aH (vals:=[vg [vi g.1,g_v]]) Tryz.func32 iH iY rfl) (iP w1 g g_v (Rg).ro) ?_)
 intro w6 hb7
 replace hb7:=aN hb7 g4
 refine lx (eU (b:=(dm g)) rfl) (ab ?_)
 by_cases p1:(dm g)=true
 ·
  have hm:=of_decide_eq_true p1
  have hm0:=hm
  obtain⟨hm1,hm2,hm3,hm4⟩:=hm0
  refine ag rfl (congrArg Bool.not p1) (ao (a7 (a6 rfl ?_)))
  replace bx5:=bx5.cn hb7
  refine lx (ay (ds:=[vi g.1,g_v]) aX rfl bx5 rfl rfl) (lo (br (aH (vals:=[vg [vi g.1,g_v]]) Tryz.func136 ti su rfl) (ap Tryz.func136 rfl nq ?_)))
  replace Rg:=Rg.cn hb7
  refine a7 (a6 rfl (cN rfl (cq g4 (is 2) (2,0) rfl rfl ?_)))
  intro g11 w8 b10 ch9 bx12
  refine ma ((Value.pointer none)) (ab (a7 (bq g11 [0,1,2,4,6] eX ?_)))
  intro w14 ch13
  replace bx12:=bx12.cn ch13
  refine xh 0 [1,2,3] rfl (λw' hw'=>ay (ds:=[vi g.1,g_v]) aX rfl (bx12.bel hw') rfl rfl) (xp 1 rfl (λw=>aa ea rfl rfl rfl rfl) (xv 2 [1,0] rfl (a8 ah rfl bx12 rfl) (b9 3 rfl (by kernel_rfl) rfl (jq (α:=Int) (n:=g.1) (cp:=g.1) g11 3 gf bN rfl rfl rfl (by omega) (by omega) (by omega) (by omega) ?_))))
  intro g15 w16 v17 ch18 o19
  have C20:=cg [] (ch9.n.seq (ch13.n.seq ch18.n))
  replace Rg:=Rg.ca C20
  refine xp (v:=vg [vi g.1,g_v,v17]) 4 rfl (λw=>bh (vs:=[(0,vg [vi g.1,g_v]),(1,v17)]) rfl (by rw[Sl.form Rg,Sl.form o19.sl];kernel_rfl)) (b9 5 rfl (by kernel_rfl) rfl (cq g15 (is 4) (4,0) rfl rfl ?_))
  intro g24 w21 b23 ch22 bx25
  refine xp (v:=vp b23 0) 6 rfl (λw=>bm rfl) (bS (by kernel_rfl) (a7 (a7 (a6 rfl (lx (aa ea rfl rfl rfl rfl) ?_)))))
  replace bx12:=(bx12.cn ch18).cn ch22
  refine lx (a8 bR rfl bx12 rfl) ?_
  replace Rg:=Rg.cn ch22
  have len26:=(Rg).small
  refine lx (bp eR rfl Rg) (mi 0 (ab (am ?_)))
  clear bx12
  refine aV (σ:=Nat×jH×aw) (λ⟨e_c1,O_c1,gq⟩ f w=>b6 w0 gq w/\f 3=vp b23 0/\f 15=g_v/\f 16=vi (g.2.length:Int)/\f 17=vi ↑e_c1/\Sl gq (is 0) w g_v g.2/\Bx gq (is 1) w b3 [vi g.1,g_v]/\dr gq 3 w v17 O_c1/\Bx gq (is 4) w b23 [vi g.1,g_v,v17]/\(e_c1:Int)<=((g.2.length:Int):Int)/\(dT O_c1 g e_c1)) (λ⟨e_c1,O_c1,gq⟩=>Int.toNat (((g.2.length:Int):Int)-(e_c1:Int))) (0,(List.replicate (Int.toNat g.1) []),g24) ?_ ?_
  have C28:=cg [] (ch9.n.seq (ch13.n.seq (ch18.n.seq ch22.n)))
  have C27:=ch2.n.seq (hb7.n.seq C28)
  · exact⟨bH.ca C27,rfl,rfl,rfl,rfl,Rg,bx5.ca C28,o19.cn ch22,bx25,by omega,by exact dT.start hm1⟩
  clear Rg bx5 o19 bx25 bH
  rintro⟨e_c1,O_c1,g31⟩ f29 w30 ⟨bH,zs3_c1,zs15_c1,zs16_c1,zs17_c1,Rg,bx5,o19,bx25,hle_e_c1,hov_c1⟩ back3_c1
  have hol_c1:=hov_c1.len
  refine a7 (a6 rfl (lx (bw (m:=↑e_c1) (n:=(g.2.length:Int)) zs17_c1 zs16_c1) (ab (a7 ?_))))
  by_cases p3_c1:(e_c1:Int)<(g.2.length:Int)
  ·
   refine af rfl (dt p3_c1) ?_
   obtain⟨⟨he1,he2⟩,he3,he4⟩:=hm4 _ (bC (xs:=g.2) (i:=↑e_c1) (by omega) (by omega))
   have hq1:=hov_c1.rl he1 he2
   have hq2:=hov_c1.rl2 he1 he2 he3 he4 (2*(e_c1:Int))
   refine ao (a7 (am (a7 (a6 rfl (mz zs17_c1 (lx (ad (v:=g_v) (i:=↑e_c1) eR rfl zs15_c1 Rg zs17_c1 (by omega) (by omega)) (lw (vg [vi ((gI g.2 ↑e_c1).1),vi ((gI g.2 ↑e_c1).2)]) (bJ (v:=g_v) (i:=↑e_c1) bx rfl Rg (by omega) (by omega) rfl) (lo (bi g31 (is 5) (5,0) rfl bx ?_)))))))))
   intro g35 w32 b34 ch33 bx36
   refine ai (e_c1:Int) (lo (ax (cs':=[vi ((gI g.2 ↑e_c1).1),vi ((gI g.2 ↑e_c1).2)]) bx rfl rfl bx36 rfl nq (AllOne.all (.cons rfl (.cons rfl .nil))) rfl ?_))
   intro w37 ch38 bx39
   clear bx36
   refine ab (a7 (a6 rfl (lx (ay (ds:=[vi ((gI g.2 ↑e_c1).1),vi ((gI g.2 ↑e_c1).2)]) bx rfl bx39 rfl rfl) (mi 0 (ab (am (fF (a7 ?_))))))))
   clear bx39
   refine a6 rfl (lx (bw (m:=0) (n:=2) rfl rfl) (ab (a7 (af rfl rfl (ao (a7 (am (a7 (a6 rfl (mi 0 (lw (vi ((gI g.2 ↑e_c1).1)) (eo eO ah rfl rfl (by decide) (by decide) rfl) ?_)))))))))))
   refine ai 0 (ai ((gI g.2 ↑e_c1).1) (ab ?_))
   refine dl (σ:=aw) (λgq f w=>b6 w0 gq w/\f 3=vp b23 0/\f 4=vi ↑e_c1/\f 15=g_v/\f 16=vi (g.2.length:Int)/\f 17=vi ↑e_c1/\f 22=vg [vi ((gI g.2 ↑e_c1).1),vi ((gI g.2 ↑e_c1).2)]/\f 23=vi 0/\Sl gq (is 0) w g_v g.2/\Bx gq (is 1) w b3 [vi g.1,g_v]/\Bx gq (is 4) w b23 [vi g.1,g_v,v17]/\dr gq 3 w v17 (List.set O_c1 (Int.toNat ((gI g.2 ↑e_c1).1)) (gI O_c1 ((gI g.2 ↑e_c1).1)++[(2*(e_c1:Int))+0]))) g35 [0,1,2,4,5,6,7,8,9,10,11,12,13,14,15,18] eX ?_ ?_
   ·
    intro mid
    intro w41 ch40
    refine xp (v:=vp b23 0) 0 rfl (λw=>aq zs3_c1) (xp (v:=vp b23 0) 1 rfl (λw=>ae rfl) (xp 2 rfl (λw=>aa ow rfl rfl rfl rfl) (xp (v:=vi ((gI g.2 ↑e_c1).1)) 4 rfl (λw=>aq rfl) (xp (v:=vp b23 0) 5 rfl (λw=>aq zs3_c1) (xp (v:=vp b23 0) 6 rfl (λw=>ae rfl) (xp 7 rfl (λw=>aa ow rfl rfl rfl rfl) ?_))))))
    have C42:=cg [5] (ch33.n.seq ((ch38.l rfl).seq ch40.n))
    replace bx25:=bx25.ca C42
    refine xh 8 [7,6,5,4,2,1,0,3,9,12,14,13,15,16] rfl (λw' hw'=>a8 dW rfl (bx25.bel hw') rfl) (xp (v:=vi ((gI g.2 ↑e_c1).1)) 9 rfl (λw=>aq rfl) ?_)
    replace o19:=o19.ca C42
    refine xh 10 [9,8,7,6,5,4,2,1,0,3,12,14,13,15,16] rfl (λw' hw'=>ad (v:=v17) (i:=(gI g.2 ↑e_c1).1) gf rfl rfl (o19.sl.bel hw') rfl (by omega) (by omega)) ?_
    obtain⟨v43,cel44,r45⟩:=dv (r:=(gI g.2 ↑e_c1).1) o19 (by omega) (by omega)
    refine xh 11 [10,9,8,7,6,5,4,2,1,0,3,12,14,13,15,16] rfl (λw' hw'=>cH bN rfl (jX cel44 hw')) (xp (v:=vi ↑e_c1) 12 rfl (λw=>aq rfl) (xp 13 rfl (λw=>pv (m:=2) (n:=↑e_c1) rfl rfl (by omega)) (xp (v:=vi 0) 14 rfl (λw=>aq rfl) (xp 15 rfl (λw=>aS (m:=2*(e_c1:Int)) (n:=0) rfl rfl (by omega)) ?_))))
    refine dD 3 16 rfl rfl (by kernel_rfl) rfl rfl ?_ ?_
    ·
     refine aj (v:=v17) (a8 dW rfl bx25 rfl) (b9 16 rfl (by kernel_rfl) rfl (ar (α:=Int) g35 (is 6) (is 6) (6,0) rfl [(2*(e_c1:Int))+0] bF ah (by decide) (by decide) (vs:=[(0,vi ((2*(e_c1:Int))+0))]) rfl rfl (.cons rfl .nil) ?_))
     intro g46 w47 v48 ch49 o50
     refine b9 17 rfl (by kernel_rfl) rfl ?_
     replace o19:=o19.cn ch49
     replace r45:=r45.cn ch49
     refine aK (α:=Int) (xs:=(gI O_c1 ((gI g.2 ↑e_c1).1))) (ys:=([(2*(e_c1:Int))+0])) g46 (J:=row 3 (Int.toNat ((gI g.2 ↑e_c1).1)+1)) (S:=row 3 (Int.toNat ((gI g.2 ↑e_c1).1)+1)) (3,Int.toNat ((gI g.2 ↑e_c1).1)+1) rfl bF ah (by decide) rfl rfl rfl r45 o50.flat (by decide) (by(simp;omega)) ?_
     intro g51 w52 v53 ch54 o55
     have o56:=o19.rowchg ch54
     clear o19 cel44 r45
     obtain⟨us57,hl58,r59⟩:=o56.vc
     try simp only[List.length_set,List.length_append,List.length_cons,List.length_nil] at hl58
     refine xv 18 [17,16,3,15,14,13,12,11,10,9,8,7,6,5,4,2,1,0] rfl (ad (v:=v17) (i:=(gI g.2 ↑e_c1).1) gf rfl rfl r59 rfl (by omega) (by omega)) (b9 19 rfl (by kernel_rfl) rfl (cr (r:=(gI g.2 ↑e_c1).1) bN rfl rfl o56 o55 (by omega) (by omega) ?_))
     intro w63 ch64 o65
     clear o56 o55
     refine bS (by kernel_rfl) ?_
     have C66:=cg [3,5] (ch33.n.seq ((ch38.l rfl).seq (ch40.n.seq (ch49.n.seq ((ch54.lr rfl).seq (ch64.l rfl))))))
     have C67:=cg [3] (ch49.n.seq ((ch54.lr rfl).seq (ch64.l rfl)))
     exact mid (g51) _ _ ⟨bH.ca C66,zs3_c1,rfl,zs15_c1,zs16_c1,zs17_c1,rfl,rfl,Rg.ca C66,bx5.ca C66,bx25.ca C67,o65⟩
    ·
     refine ar (α:=Int) g35 (is 6) (is 6) (6,0) rfl [(2*(e_c1:Int))+0] bF ah (by decide) (by decide) (vs:=[(0,vi ((2*(e_c1:Int))+0))]) rfl rfl (.cons rfl .nil) ?_
     intro g68 w69 v70 ch71 o72
     refine dD 3 17 rfl rfl (by kernel_rfl) rfl rfl ?_ ?_
     ·
      replace bx25:=bx25.cn ch71
      refine aj (v:=v17) (a8 dW rfl bx25 rfl) (b9 17 rfl (by kernel_rfl) rfl ?_)
      replace o19:=o19.cn ch71
      replace r45:=r45.cn ch71
      refine aK (α:=Int) (xs:=(gI O_c1 ((gI g.2 ↑e_c1).1))) (ys:=([(2*(e_c1:Int))+0])) g68 (J:=row 3 (Int.toNat ((gI g.2 ↑e_c1).1)+1)) (S:=row 3 (Int.toNat ((gI g.2 ↑e_c1).1)+1)) (3,Int.toNat ((gI g.2 ↑e_c1).1)+1) rfl bF ah (by decide) rfl rfl rfl r45 o72.flat (by decide) (by(simp;omega)) ?_
      intro g73 w74 v75 ch76 o77
      have o78:=o19.rowchg ch76
      clear o19 cel44 r45
      obtain⟨us79,hl80,r81⟩:=o78.vc
      try simp only[List.length_set,List.length_append,List.length_cons,List.length_nil] at hl80
      refine xv 18 [17,3,16,15,14,13,12,11,10,9,8,7,6,5,4,2,1,0] rfl (ad (v:=v17) (i:=(gI g.2 ↑e_c1).1) gf rfl rfl r81 rfl (by omega) (by omega)) (b9 19 rfl (by kernel_rfl) rfl (cr (r:=(gI g.2 ↑e_c1).1) bN rfl rfl o78 o77 (by omega) (by omega) ?_))
      intro w85 ch86 o87
      clear o78 o77
      refine bS (by kernel_rfl) ?_
      have C88:=cg [3,5] (ch33.n.seq ((ch38.l rfl).seq (ch40.n.seq (ch71.n.seq ((ch76.lr rfl).seq (ch86.l rfl))))))
      exact mid (g73) _ _ ⟨bH.ca C88,zs3_c1,rfl,zs15_c1,zs16_c1,zs17_c1,rfl,rfl,Rg.ca C88,bx5.ca C88,(bx25.chg ch76 (jz rfl)).ce ch86,o87⟩
     ·
      replace o19:=o19.cn ch71
      replace r45:=r45.cn ch71
      refine aK (α:=Int) (xs:=(gI O_c1 ((gI g.2 ↑e_c1).1))) (ys:=([(2*(e_c1:Int))+0])) g68 (J:=row 3 (Int.toNat ((gI g.2 ↑e_c1).1)+1)) (S:=row 3 (Int.toNat ((gI g.2 ↑e_c1).1)+1)) (3,Int.toNat ((gI g.2 ↑e_c1).1)+1) rfl bF ah (by decide) rfl rfl rfl r45 o72.flat (by decide) (by(simp;omega)) ?_
      intro g89 w90 v91 ch92 o93
      have o94:=o19.rowchg ch92
      clear o19 cel44 r45
      replace bx25:=(bx25.cn ch71).chg ch92 (jz rfl)
      refine b9 3 rfl (by kernel_rfl) rfl (aj (v:=v17) (a8 dW rfl bx25 rfl) ?_)
      obtain⟨us95,hl96,r97⟩:=o94.vc
      try simp only[List.length_set,List.length_append,List.length_cons,List.length_nil] at hl96
      refine xv 18 [3,17,16,15,14,13,12,11,10,9,8,7,6,5,4,2,1,0] rfl (ad (v:=v17) (i:=(gI g.2 ↑e_c1).1) gf rfl rfl r97 rfl (by omega) (by omega)) (b9 19 rfl (by kernel_rfl) rfl (cr (r:=(gI g.2 ↑e_c1).1) bN rfl rfl o94 o93 (by omega) (by omega) ?_))
      intro w101 ch102 o103
      clear o94 o93
      refine bS (by kernel_rfl) ?_
      have C104:=cg [3,5] (ch33.n.seq ((ch38.l rfl).seq (ch40.n.seq (ch71.n.seq ((ch92.lr rfl).seq (ch102.l rfl))))))
      exact mid (g89) _ _ ⟨bH.ca C104,zs3_c1,rfl,zs15_c1,zs16_c1,zs17_c1,rfl,rfl,Rg.ca C104,bx5.ca C104,bx25.ce ch102,o103⟩
   clear Rg bx5 o19 bx25 bH
   rintro g107 f105 w106 ⟨bH,zs3_c1,zs4_c1,zs15_c1,zs16_c1,zs17_c1,zs22_c1,zs23_c1,Rg,bx5,bx25,o62⟩
   refine ak (a6 rfl (lx (aS (m:=0) (n:=1) zs23_c1 rfl (by omega)) (mi 1 (ab (dE (a7 (a6 rfl (lx (bw (m:=1) (n:=2) rfl rfl) (ab (a7 (af rfl rfl ?_)))))))))))
   refine ao (a7 (am (a7 (a6 rfl (mi 1 (lw (vi ((gI g.2 ↑e_c1).2)) (eo eO ah zs22_c1 rfl (by decide) (by decide) rfl) (ai 1 (ai ((gI g.2 ↑e_c1).2) (ab ?_)))))))))
   refine dl (σ:=aw) (λgq f w=>b6 w0 gq w/\f 3=vp b23 0/\f 4=vi ↑e_c1/\f 15=g_v/\f 16=vi (g.2.length:Int)/\f 17=vi ↑e_c1/\f 22=vg [vi ((gI g.2 ↑e_c1).1),vi ((gI g.2 ↑e_c1).2)]/\f 23=vi 1/\Sl gq (is 0) w g_v g.2/\Bx gq (is 1) w b3 [vi g.1,g_v]/\Bx gq (is 4) w b23 [vi g.1,g_v,v17]/\dr gq 3 w v17 (List.set (List.set O_c1 (Int.toNat ((gI g.2 ↑e_c1).1)) (gI O_c1 ((gI g.2 ↑e_c1).1)++[(2*(e_c1:Int))+0])) (Int.toNat ((gI g.2 ↑e_c1).2)) (gI (List.set O_c1 (Int.toNat ((gI g.2 ↑e_c1).1)) (gI O_c1 ((gI g.2 ↑e_c1).1)++[(2*(e_c1:Int))+0])) ((gI g.2 ↑e_c1).2)++[(2*(e_c1:Int))+1]))) g107 [0,1,2,4,5,6,7,8,9,10,11,12,13,14,15,18] eX ?_ ?_
   ·
    intro mid
    intro w109 ch108
    refine xp (v:=vp b23 0) 0 rfl (λw=>aq zs3_c1) (xp (v:=vp b23 0) 1 rfl (λw=>ae rfl) (xp 2 rfl (λw=>aa ow rfl rfl rfl rfl) (xp (v:=vi ((gI g.2 ↑e_c1).2)) 4 rfl (λw=>aq rfl) (xp (v:=vp b23 0) 5 rfl (λw=>aq zs3_c1) (xp (v:=vp b23 0) 6 rfl (λw=>ae rfl) (xp 7 rfl (λw=>aa ow rfl rfl rfl rfl) ?_))))))
    replace bx25:=bx25.cn ch108
    refine xh 8 [7,6,5,4,2,1,0,3,9,12,14,13,15,16] rfl (λw' hw'=>a8 dW rfl (bx25.bel hw') rfl) (xp (v:=vi ((gI g.2 ↑e_c1).2)) 9 rfl (λw=>aq rfl) ?_)
    replace o62:=o62.cn ch108
    refine xh 10 [9,8,7,6,5,4,2,1,0,3,12,14,13,15,16] rfl (λw' hw'=>ad (v:=v17) (i:=(gI g.2 ↑e_c1).2) gf rfl rfl (o62.sl.bel hw') rfl (by omega) (by(simp only[List.length_set,List.length_append,List.length_cons,List.length_nil,List.length_replicate,List.length_map,List.length_take,List.length_drop];omega))) ?_
    obtain⟨v110,cel111,r112⟩:=dv (r:=(gI g.2 ↑e_c1).2) o62 (by omega) (by(simp only[List.length_set,List.length_append,List.length_cons,List.length_nil,List.length_replicate,List.length_map,List.length_take,List.length_drop];omega))
    refine xh 11 [10,9,8,7,6,5,4,2,1,0,3,12,14,13,15,16] rfl (λw' hw'=>cH bN rfl (jX cel111 hw')) (xp (v:=vi ↑e_c1) 12 rfl (λw=>aq zs4_c1) (xp 13 rfl (λw=>pv (m:=2) (n:=↑e_c1) rfl rfl (by omega)) (xp (v:=vi 1) 14 rfl (λw=>aq rfl) (xp 15 rfl (λw=>aS (m:=2*(e_c1:Int)) (n:=1) rfl rfl (by omega)) ?_))))
    refine dD 3 16 rfl rfl (by kernel_rfl) rfl rfl ?_ ?_
    ·
     refine aj (v:=v17) (a8 dW rfl bx25 rfl) (b9 16 rfl (by kernel_rfl) rfl (ar (α:=Int) g107 (is 6) (is 6) (6,0) rfl [(2*(e_c1:Int))+1] bF ah (by decide) (by decide) (vs:=[(0,vi ((2*(e_c1:Int))+1))]) rfl rfl (.cons rfl .nil) ?_))
     intro g113 w114 v115 ch116 o117
     refine b9 17 rfl (by kernel_rfl) rfl ?_
     replace o62:=o62.cn ch116
     replace r112:=r112.cn ch116
     refine aK (α:=Int) (xs:=(gI (List.set O_c1 (Int.toNat ((gI g.2 ↑e_c1).1)) (gI O_c1 ((gI g.2 ↑e_c1).1)++[(2*(e_c1:Int))+0])) ((gI g.2 ↑e_c1).2))) (ys:=([(2*(e_c1:Int))+1])) g113 (J:=row 3 (Int.toNat ((gI g.2 ↑e_c1).2)+1)) (S:=row 3 (Int.toNat ((gI g.2 ↑e_c1).2)+1)) (3,Int.toNat ((gI g.2 ↑e_c1).2)+1) rfl bF ah (by decide) rfl rfl rfl r112 o117.flat (by decide) (by(simp;omega)) ?_
     intro g118 w119 v120 ch121 o122
     have o123:=o62.rowchg ch121
     clear o62 cel111 r112
     obtain⟨us124,hl125,r126⟩:=o123.vc
     try simp only[List.length_set,List.length_append,List.length_cons,List.length_nil] at hl125
     refine xv 18 [17,16,3,15,14,13,12,11,10,9,8,7,6,5,4,2,1,0] rfl (ad (v:=v17) (i:=(gI g.2 ↑e_c1).2) gf rfl rfl r126 rfl (by omega) (by omega)) (b9 19 rfl (by kernel_rfl) rfl (cr (r:=(gI g.2 ↑e_c1).2) bN rfl rfl o123 o122 (by omega) (by(simp only[List.length_set,List.length_append,List.length_cons,List.length_nil,List.length_replicate,List.length_map,List.length_take,List.length_drop];omega)) ?_))
     intro w130 ch131 o132
     clear o123 o122
     refine bS (by kernel_rfl) ?_
     have C134:=cg [3] (ch116.n.seq ((ch121.lr rfl).seq (ch131.l rfl)))
     have C133:=ch108.n.seq C134
     exact mid (g118) _ _ ⟨bH.ca C133,zs3_c1,zs4_c1,zs15_c1,zs16_c1,zs17_c1,zs22_c1,rfl,Rg.ca C133,bx5.ca C133,bx25.ca C134,o132⟩
    ·
     refine ar (α:=Int) g107 (is 6) (is 6) (6,0) rfl [(2*(e_c1:Int))+1] bF ah (by decide) (by decide) (vs:=[(0,vi ((2*(e_c1:Int))+1))]) rfl rfl (.cons rfl .nil) ?_
     intro g135 w136 v137 ch138 o139
     refine dD 3 17 rfl rfl (by kernel_rfl) rfl rfl ?_ ?_
     ·
      replace bx25:=bx25.cn ch138
      refine aj (v:=v17) (a8 dW rfl bx25 rfl) (b9 17 rfl (by kernel_rfl) rfl ?_)
      replace o62:=o62.cn ch138
      replace r112:=r112.cn ch138
      refine aK (α:=Int) (xs:=(gI (List.set O_c1 (Int.toNat ((gI g.2 ↑e_c1).1)) (gI O_c1 ((gI g.2 ↑e_c1).1)++[(2*(e_c1:Int))+0])) ((gI g.2 ↑e_c1).2))) (ys:=([(2*(e_c1:Int))+1])) g135 (J:=row 3 (Int.toNat ((gI g.2 ↑e_c1).2)+1)) (S:=row 3 (Int.toNat ((gI g.2 ↑e_c1).2)+1)) (3,Int.toNat ((gI g.2 ↑e_c1).2)+1) rfl bF ah (by decide) rfl rfl rfl r112 o139.flat (by decide) (by(simp;omega)) ?_
      intro g140 w141 v142 ch143 o144
      have o145:=o62.rowchg ch143
      clear o62 cel111 r112
      obtain⟨us146,hl147,r148⟩:=o145.vc
      try simp only[List.length_set,List.length_append,List.length_cons,List.length_nil] at hl147
      refine xv 18 [17,3,16,15,14,13,12,11,10,9,8,7,6,5,4,2,1,0] rfl (ad (v:=v17) (i:=(gI g.2 ↑e_c1).2) gf rfl rfl r148 rfl (by omega) (by omega)) (b9 19 rfl (by kernel_rfl) rfl (cr (r:=(gI g.2 ↑e_c1).2) bN rfl rfl o145 o144 (by omega) (by(simp only[List.length_set,List.length_append,List.length_cons,List.length_nil,List.length_replicate,List.length_map,List.length_take,List.length_drop];omega)) ?_))
      intro w152 ch153 o154
      clear o145 o144
      refine bS (by kernel_rfl) ?_
      have C155:=cg [3] (ch108.n.seq (ch138.n.seq ((ch143.lr rfl).seq (ch153.l rfl))))
      exact mid (g140) _ _ ⟨bH.ca C155,zs3_c1,zs4_c1,zs15_c1,zs16_c1,zs17_c1,zs22_c1,rfl,Rg.ca C155,bx5.ca C155,(bx25.chg ch143 (jz rfl)).ce ch153,o154⟩
     ·
      replace o62:=o62.cn ch138
      replace r112:=r112.cn ch138
      refine aK (α:=Int) (xs:=(gI (List.set O_c1 (Int.toNat ((gI g.2 ↑e_c1).1)) (gI O_c1 ((gI g.2 ↑e_c1).1)++[(2*(e_c1:Int))+0])) ((gI g.2 ↑e_c1).2))) (ys:=([(2*(e_c1:Int))+1])) g135 (J:=row 3 (Int.toNat ((gI g.2 ↑e_c1).2)+1)) (S:=row 3 (Int.toNat ((gI g.2 ↑e_c1).2)+1)) (3,Int.toNat ((gI g.2 ↑e_c1).2)+1) rfl bF ah (by decide) rfl rfl rfl r112 o139.flat (by decide) (by(simp;omega)) ?_
      intro g156 w157 v158 ch159 o160
      have o161:=o62.rowchg ch159
      clear o62 cel111 r112
      replace bx25:=(bx25.cn ch138).chg ch159 (jz rfl)
      refine b9 3 rfl (by kernel_rfl) rfl (aj (v:=v17) (a8 dW rfl bx25 rfl) ?_)
      obtain⟨us162,hl163,r164⟩:=o161.vc
      try simp only[List.length_set,List.length_append,List.length_cons,List.length_nil] at hl163
      refine xv 18 [3,17,16,15,14,13,12,11,10,9,8,7,6,5,4,2,1,0] rfl (ad (v:=v17) (i:=(gI g.2 ↑e_c1).2) gf rfl rfl r164 rfl (by omega) (by omega)) (b9 19 rfl (by kernel_rfl) rfl (cr (r:=(gI g.2 ↑e_c1).2) bN rfl rfl o161 o160 (by omega) (by(simp only[List.length_set,List.length_append,List.length_cons,List.length_nil,List.length_replicate,List.length_map,List.length_take,List.length_drop];omega)) ?_))
      intro w168 ch169 o170
      clear o161 o160
      refine bS (by kernel_rfl) ?_
      have C171:=cg [3] (ch108.n.seq (ch138.n.seq ((ch159.lr rfl).seq (ch169.l rfl))))
      exact mid (g156) _ _ ⟨bH.ca C171,zs3_c1,zs4_c1,zs15_c1,zs16_c1,zs17_c1,zs22_c1,rfl,Rg.ca C171,bx5.ca C171,bx25.ce ch169,o170⟩
   clear Rg bx5 bx25 o62 bH
   rintro g174 f172 w173 ⟨bH,zs3_c1,zs4_c1,zs15_c1,zs16_c1,zs17_c1,zs22_c1,zs23_c1,Rg,bx5,bx25,o130⟩
   refine ak (a6 rfl (lx (aS (m:=1) (n:=1) zs23_c1 rfl (by omega)) (mi 2 (ab (dE (a7 (a6 rfl (lx (bw (m:=2) (n:=2) rfl rfl) (ab (a7 (ag rfl rfl ?_)))))))))))
   refine aO rfl (ak (a6 rfl (lx (aS (m:=↑e_c1) (n:=1) zs17_c1 rfl (by omega)) (mi ((e_c1:Int)+1) (ab ?_)))))
   refine back3_c1 (e_c1+1,(List.set (List.set O_c1 (Int.toNat ((gI g.2 ↑e_c1).1)) (gI O_c1 ((gI g.2 ↑e_c1).1)++[(2*(e_c1:Int))+0])) (Int.toNat ((gI g.2 ↑e_c1).2)) (gI (List.set O_c1 (Int.toNat ((gI g.2 ↑e_c1).1)) (gI O_c1 ((gI g.2 ↑e_c1).1)++[(2*(e_c1:Int))+0])) ((gI g.2 ↑e_c1).2)++[(2*(e_c1:Int))+1])),g174) _ _ ⟨bH,zs3_c1,zs15_c1,zs16_c1,rfl,Rg,bx5,o130,bx25,by omega,?_⟩ ?_
   · show dT (List.set (List.set O_c1 (Int.toNat ((gI g.2 ↑e_c1).1)) (gI O_c1 ((gI g.2 ↑e_c1).1)++[(2*(e_c1:Int))+0])) (Int.toNat ((gI g.2 ↑e_c1).2)) (gI (List.set O_c1 (Int.toNat ((gI g.2 ↑e_c1).1)) (gI O_c1 ((gI g.2 ↑e_c1).1)++[(2*(e_c1:Int))+0])) ((gI g.2 ↑e_c1).2)++[(2*(e_c1:Int))+1])) g (e_c1+1)
     exact hov_c1.next he1 he2 he3 he4 (by omega) (by omega)
   · show Int.toNat (_-_)<Int.toNat (_-_)
     omega
  refine ag rfl (df p3_c1) (aO rfl (a7 (a6 rfl (mz zs3_c1 (ma (vp b23 0) (ab (au (vs:=[vp b23 0]) Tryz.func136 (.tmp rfl .nil) ?_)))))))
  refine⟨vp b23 0,rfl,?_⟩
  refine ma (vp b23 0) (ab (a7 ?_))
  have hOut:=hov_c1.done (by omega)
  refine a6 rfl (lx (aa ea rfl rfl rfl rfl) (lx (a8 ah rfl bx5 rfl) (lo (bE (aH (vals:=[vi g.1,vi (-1)]) Tryz.func137 kC kz rfl) (kT w30 g.1 (-1) (by omega)) ?_))))
  rintro⟨d176,v178⟩ w175 ⟨fr177,o179⟩
  obtain⟨g180,ch181,G180⟩:=i8 g31 fr177 (λn=>if n=1 then 7 else 0)
  replace o179:=o179.gl G180 7
  refine ma v178 (ab (a7 ?_))
  clear bx5
  refine a6 rfl (ai 0 (ab (a7 (a7 (a6 rfl (mv v178 ?_))))))
  have len182:=(o179.flat).small
  refine lx (bp bF rfl o179.flat) (mi 0 (ab (am ?_)))
  refine aV (σ:=Nat×Int×(List Int)×aw) (λ⟨q,n,part,gq⟩ f w=>b6 w0 gq w/\f 5=vp b23 0/\f 6=v178/\f 7=vi n/\f 20=vi (List.length (List.replicate g.1.toNat (-1)):Int)/\f 21=vi ↑q/\Sl gq (is 0) w g_v g.2/\dr gq 3 w v17 O_c1/\Bx gq (is 4) w b23 [vi g.1,g_v,v17]/\Ow gq (is 7) (is 7) w v178 part/\(q:Int)<=((List.length (List.replicate g.1.toNat (-1)):Int):Int)/\(part=(cE g q).1/\n=(cE g q).2)) (λ⟨q,n,part,gq⟩=>Int.toNat (((List.length (List.replicate g.1.toNat (-1)):Int):Int)-(q:Int))) (0,0,List.replicate g.1.toNat (-1),g180) ?_ ?_
  · exact⟨bH.cn ch181,rfl,rfl,rfl,rfl,rfl,Rg.cn ch181,o19.cn ch181,bx25.cn ch181,o179,by omega,by exact⟨rfl,rfl⟩⟩
  clear Rg o19 bx25 o179 bH
  rintro⟨q,n,part,g185⟩ f183 w184 ⟨bH,zs5,zs6,zs7,zs20,zs21,Rg,o19,bx25,o179,hle_q,hinv⟩ back7
  have hpl:=ns g q
  have hpart:(part.length:Int)=g.1:=by rw[hinv.1,hpl.1];omega
  have hi2:=hinv.2
  have hrep:((List.replicate g.1.toNat (-1:Int)).length:Int)=g.1:=by simp;omega
  refine a7 (a6 rfl (lx (bw (m:=↑q) (n:=(List.length (List.replicate g.1.toNat (-1)):Int)) zs21 zs20) (ab (a7 ?_))))
  by_cases p7:(q:Int)<(List.length (List.replicate g.1.toNat (-1)):Int)
  ·
   refine af rfl (dt p7) (ao (a7 (am (a7 (a6 rfl (mz zs21 (ai (q:Int) (ab (a7 (a7 (a6 rfl (mz zs6 (mi ↑q ?_)))))))))))))
   refine lx (ad (v:=v178) (i:=↑q) bF rfl rfl o179.flat rfl (by omega) (by omega)) (lx (av (v:=v178) (i:=↑q) ah rfl o179.flat (by omega) (by omega) (by decide) rfl) (lx (eB (m:=(gI part ↑q)) (n:=0) rfl rfl) (ab ?_)))
   by_cases p9:0<=(gI part ↑q)
   ·
    refine af rfl (dt p9) (aO rfl (a6 rfl (lx (aS (m:=↑q) (n:=1) zs21 rfl (by omega)) (mi ((q:Int)+1) (ab ?_)))))
    refine back7 (q+1,n,part,g185) _ _ ⟨bH,zs5,zs6,zs7,zs20,rfl,Rg,o19,bx25,o179,by omega,?_⟩ ?_
    · show part=(cE g (q+1)).1/\n=(cE g (q+1)).2
      exact rj hinv ‹_›
    · show Int.toNat (_-_)<Int.toNat (_-_)
      omega
   refine ag rfl (df p9) (ao (a7 (a7 (a6 rfl (mz zs5 (mi ↑q (lo (br (aH (vals:=[vp b23 0,vi ↑q]) Tryz.func138 tD sI rfl) (ap Tryz.func138 rfl nq ?_)))))))))
   have hOut:=hov_c1.done (by omega)
   refine a7 (a6 rfl (cN rfl (bi g185 (is 8) (8,0) rfl dJ ?_)))
   intro g189 w186 b188 ch187 bx190
   refine ab (a7 (a6 rfl (mv (vp b23 0) (lw (vp b23 0) (ae rfl) (lx (aa ow rfl rfl rfl rfl) (lx (aa ea rfl rfl rfl rfl) ?_))))))
   replace bx25:=bx25.cn ch187
   refine lx (a8 ah rfl bx25 rfl) (mi ↑q (lo (br (aH (vals:=[vi g.1,vi ↑q]) Tryz.func153 tP sF rfl) (ap Tryz.func153 rfl nq (a7 (a6 rfl (cN rfl (bi g189 (is 9) (9,0) rfl dJ ?_))))))))
   intro g194 w191 b193 ch192 bx195
   refine ab (a7 (a6 rfl (mi ↑q (lo (ar (α:=Int) g194 (is 10) (is 10) (10,0) rfl [(q:Int)] bF ah (by decide) (by decide) (vs:=[(0,vi ↑q)]) rfl rfl (.cons rfl .nil) ?_)))))
   intro g196 w197 v198 ch199 o200
   refine mi g.1 (lo (bE (aH (vals:=[vi g.1,vi (-1)]) Tryz.func137 kC kz rfl) (kT w197 g.1 (-1) (by omega)) ?_))
   rintro⟨d202,v204⟩ w201 ⟨fr203,o205⟩
   obtain⟨g206,ch207,G206⟩:=i8 g196 fr203 (λn=>if n=1 then 11 else 0)
   replace o205:=o205.gl G206 11
   refine mi g.1 (lo (bE (aH (vals:=[vi g.1,vi (-1)]) Tryz.func137 kC kz rfl) (kT w201 g.1 (-1) (by omega)) ?_))
   rintro⟨d209,v211⟩ w208 ⟨fr210,o212⟩
   obtain⟨g213,ch214,G213⟩:=i8 g206 fr210 (λn=>if n=1 then 12 else 0)
   replace o212:=o212.gl G213 12
   replace o200:=(o200.cn ch207).cn ch214
   replace o205:=o205.cn ch214
   refine lw (vg [v198,v204,v211,vn]) (bh (vs:=[(0,v198),(1,v204),(2,v211)]) rfl (by rw[Sl.form o200.flat,Sl.form o205.flat,Sl.form o212.flat];kernel_rfl)) (lo (bi g213 (is 13) (13,0) rfl dJ ?_))
   intro g218 w215 b217 ch216 bx219
   refine lo ?_
   replace o212:=o212.cn ch216
   replace o205:=o205.cn ch216
   replace o200:=o200.cn ch216
   refine ax (cs':=[v198,v204,v211,vn]) dJ rfl rfl bx219 rfl nq (AllOne.all (.cons (aG o200.flat) (.cons (aG o205.flat) (.cons (aG o212.flat) (.cons rfl .nil))))) rfl ?_
   intro w220 ch221 bx222
   clear bx219
   refine ab (a7 (a6 rfl (lx (aa mR rfl rfl rfl rfl) (lx (a8 bN rfl bx222 rfl) (mi ↑q ?_)))))
   replace o212:=o212.ce ch221
   refine lx (ad (v:=v211) (i:=↑q) bF rfl rfl o212.flat rfl (by omega) (by omega)) (lo (aZ (i:=↑q) 0 ah rfl rfl o212 (by omega) (by omega) rfl ?_))
   intro w223 ch224 bx225
   clear o212
   refine ab (a7 (a6 rfl ?_))
   replace bx222:=bx222.ce ch224
   refine lx (ay (ds:=[v198,v204,v211,vn]) dJ rfl bx222 rfl rfl) (lo ?_)
   have C229:=cg [12,13] (ch199.n.seq (ch207.n.seq (ch214.n.seq (ch216.n.seq ((ch221.l rfl).seq (ch224.l rfl))))))
   replace bx195:=bx195.ca C229
   replace o205:=(o205.ce ch221).ce ch224
   replace o200:=(o200.ce ch221).ce ch224
   refine ax (cs':=[v198,v204,v211,vn]) dJ rfl rfl bx195 rfl nq (AllOne.all (.cons (aG o200.flat) (.cons (aG o205.flat) (.cons (aG bx225.flat) (.cons rfl .nil))))) rfl ?_
   intro w226 ch227 bx228
   clear bx195
   refine ab (au (vs:=[vg [v198,v204,v211,vn]]) Tryz.func153 (.cell rfl (cy (ds:=[v198,v204,v211,vn]) dJ bx228 rfl rfl) .nil) ?_)
   refine⟨vg [v198,v204,v211,vn],rfl,?_⟩
   refine lo (bi g218 (is 14) (14,0) rfl dJ ?_)
   intro g233 w230 b232 ch231 bx234
   refine lo ?_
   replace bx225:=(bx225.ce ch227).cn ch231
   replace o205:=(o205.ce ch227).cn ch231
   replace o200:=(o200.ce ch227).cn ch231
   refine ax (cs':=[v198,v204,v211,vn]) dJ rfl rfl bx234 rfl nq (AllOne.all (.cons (aG o200.flat) (.cons (aG o205.flat) (.cons (aG bx225.flat) (.cons rfl .nil))))) rfl ?_
   intro w235 ch236 bx237
   clear bx234
   refine ab (a7 (a7 ?_))
   clear bx222 bx228
   refine a6 rfl (ai 0 (ab (am ?_)))
   refine aV (σ:=Value×(List Int)×Nat×(List Int)×(List Int)×aw) (λ⟨Or_c2_v,Or_c2,i_c2,By_c2,Fa_c2,gq⟩ f w=>b6 w0 gq w/\f 0=vp b23 0/\f 4=vp b188 0/\f 5=vp b232 0/\f 6=vi ↑i_c2/\Sl gq (is 0) w g_v g.2/\dr gq 3 w v17 O_c1/\Bx gq (is 4) w b23 [vi g.1,g_v,v17]/\Ow gq (is 7) (is 7) w v178 part/\Bx gq (is 8) w b188 [vn,vn,vn,vn]/\Ow gq (is 11) (is 11) w v204 By_c2/\Ow gq (is 12) (is 12) w v211 Fa_c2/\Bx gq (is 14) w b232 [Or_c2_v,v204,v211,vn]/\Ow gq (is 10) (is 10) w Or_c2_v Or_c2/\(fM ⟨Or_c2,By_c2,Fa_c2⟩ g (q:Int) i_c2)) (λ⟨Or_c2_v,Or_c2,i_c2,By_c2,Fa_c2,gq⟩=>Int.toNat g.1-i_c2) (v198,[(q:Int)],0,List.replicate g.1.toNat (-1),(List.set (List.replicate g.1.toNat (-1)) (Int.toNat ↑q) 0),g233) ?_ ?_
   have C239:=cg [9,12,13,14] (ch192.n.seq (ch199.n.seq (ch207.n.seq (ch214.n.seq (ch216.n.seq ((ch221.l rfl).seq ((ch224.l rfl).seq ((ch227.l rfl).seq (ch231.n.seq (ch236.l rfl))))))))))
   have C238:=ch187.n.seq C239
   · exact⟨bH.ca C238,rfl,rfl,rfl,rfl,Rg.ca C238,o19.ca C238,bx25.ca C239,o179.ca C238,bx190.ca C239,o205.ce ch236,bx225.ce ch236,bx237,o200.ce ch236,by exact fM.start (by omega) (by omega)⟩
   clear Rg o19 bx25 o179 bx190 o200 o205 bx225 bx237 bH
   rintro⟨Or_c2_v,Or_c2,i_c2,By_c2,Fa_c2,g242⟩ f240 w241 ⟨bH,zs0_c2,zs4_c2,zs5_c2,zs6_c2,Rg,o19,bx25,o179,bx190,o205,bx225,bx237,o_Or_c2,hgo_c2⟩ back3_c2
   obtain⟨hgf,hgb,hgl,hgi⟩:=hgo_c2.facts hm1
   refine a7 (a7 (a6 rfl (mz zs6_c2 (lx (aa mR rfl rfl zs5_c2 rfl) (lx (a8 bN rfl bx237 rfl) ?_)))))
   have len243:=(o_Or_c2.flat).small
   refine lx (bp bF rfl o_Or_c2.flat) (lx (bw (m:=↑i_c2) (n:=(Or_c2.length:Int)) rfl rfl) (ab ?_))
   by_cases p3_c2:(i_c2:Int)<(Or_c2.length:Int)
   ·
    refine af rfl (dt p3_c2) ?_
    have hnode:=hgo_c2.node ‹_›
    have hO1:=hov_c1.len
    refine ao (a7 (am (a7 (a6 rfl (lx (aa mR rfl rfl zs5_c2 rfl) (lx (a8 bN rfl bx237 rfl) (mz zs6_c2 (lx (ad (v:=Or_c2_v) (i:=↑i_c2) bF rfl rfl o_Or_c2.flat rfl (by omega) (by omega)) (lx (av (v:=Or_c2_v) (i:=↑i_c2) ah rfl o_Or_c2.flat (by omega) (by omega) (by decide) rfl) (ai (gI Or_c2 ↑i_c2) ?_))))))))))
    refine ab (a7 (a6 rfl (mz zs0_c2 (lw (vp b23 0) (ae rfl) (lx (aa ow rfl rfl rfl rfl) (lx (a8 dW rfl bx25 rfl) (mi (gI Or_c2 ↑i_c2) (lx (ad (v:=v17) (i:=(gI Or_c2 ↑i_c2)) gf rfl rfl o19.sl rfl (by omega) (by omega)) ?_))))))))
    obtain⟨v244,cel245,r246⟩:=dv (r:=(gI Or_c2 ↑i_c2)) o19 (by omega) (by omega)
    refine lx (cH bN rfl cel245) ?_
    have len247:=(r246.row_sl).small
    refine lx (bp bF rfl r246.row_sl) (mi 0 (ab (am ?_)))
    refine aV (σ:=Value×(List Int)×Nat×(List Int)×(List Int)×aw) (λ⟨Os_c2_v,Os_c2,j_c2,Bs_c2,Fs_c2,gq⟩ f w=>b6 w0 gq w/\f 0=vp b23 0/\f 4=vp b188 0/\f 5=vp b232 0/\f 6=vi ↑i_c2/\f 7=vi (gI Or_c2 ↑i_c2)/\f 35=v244/\f 36=vi (List.length (gI O_c1 (gI Or_c2 ↑i_c2)):Int)/\f 37=vi ↑j_c2/\Sl gq (is 0) w g_v g.2/\dr gq 3 w v17 O_c1/\Bx gq (is 4) w b23 [vi g.1,g_v,v17]/\Ow gq (is 7) (is 7) w v178 part/\Bx gq (is 8) w b188 [vn,vn,vn,vn]/\Ow gq (is 11) (is 11) w v204 Bs_c2/\Ow gq (is 12) (is 12) w v211 Fs_c2/\Bx gq (is 14) w b232 [Os_c2_v,v204,v211,vn]/\Ow gq (row 3 (Int.toNat (gI Or_c2 ↑i_c2)+1)) (row 3 (Int.toNat (gI Or_c2 ↑i_c2)+1)) w v244 (gI O_c1 (gI Or_c2 ↑i_c2))/\Ow gq (is 10) (is 10) w Os_c2_v Os_c2/\(j_c2:Int)<=((List.length (gI O_c1 (gI Or_c2 ↑i_c2)):Int):Int)/\(dO ⟨Os_c2,Bs_c2,Fs_c2⟩ g ⟨Or_c2,By_c2,Fa_c2⟩ (gI Or_c2 ↑i_c2) j_c2)) (λ⟨Os_c2_v,Os_c2,j_c2,Bs_c2,Fs_c2,gq⟩=>Int.toNat (((List.length (gI O_c1 (gI Or_c2 ↑i_c2)):Int):Int)-(j_c2:Int))) (Or_c2_v,Or_c2,0,By_c2,Fa_c2,g242) ?_ ?_
    · exact⟨bH,zs0_c2,zs4_c2,zs5_c2,zs6_c2,rfl,rfl,rfl,rfl,Rg,o19,bx25,o179,bx190,o205,bx225,bx237,r246,o_Or_c2,by omega,by exact hgo_c2.row ‹_›⟩
    clear Rg o19 bx25 o179 bx190 o205 bx225 bx237 o_Or_c2 cel245 r246 bH
    rintro⟨Os_c2_v,Os_c2,j_c2,Bs_c2,Fs_c2,g250⟩ f248 w249 ⟨bH,zs0_c2,zs4_c2,zs5_c2,zs6_c2,zs7_c2,zs35_c2,zs36_c2,zs37_c2,Rg,o19,bx25,o179,bx190,o205,bx225,bx237,r246,o_Os_c2,hle_j_c2,hrw⟩ back7_c2
    obtain⟨hr1,hr2,hr3,hr4,hr5,hr6⟩:=hrw.facts hm1
    have hrow:=hOut _ hr4.1 hr4.2
    refine a7 (a6 rfl (lx (bw (m:=↑j_c2) (n:=(List.length (gI O_c1 (gI Or_c2 ↑i_c2)):Int)) zs37_c2 zs36_c2) (ab (a7 ?_))))
    by_cases p7_c2:(j_c2:Int)<(List.length (gI O_c1 (gI Or_c2 ↑i_c2)):Int)
    ·
     refine af rfl (dt p7_c2) ?_
     have hjl:(j_c2:Int)<(gV g (gI Or_c2 ↑i_c2)).length:=by rw[<-hrow];assumption
     have hhe:gI (gI O_c1 (gI Or_c2 ↑i_c2)) (j_c2:Int)=gI (gV g (gI Or_c2 ↑i_c2)) (j_c2:Int):=by rw[hrow]
     have hhr:=(lG (bC (xs:=gV g (gI Or_c2 ↑i_c2)) (i:=↑j_c2) (by omega) hjl)).1
     rw[<-hhe] at hhr
     have hti:=mt hm hhr.1 hhr.2
     unfold fZ at hti
     refine ao (a7 (am (a7 (a6 rfl (lx (ad (v:=v244) (i:=↑j_c2) bF rfl zs35_c2 r246.row_sl zs37_c2 (by omega) (by omega)) (lx (av (v:=v244) (i:=↑j_c2) ah rfl r246.row_sl (by omega) (by omega) (by decide) rfl) (ai (gI (gI O_c1 (gI Or_c2 ↑i_c2)) (j_c2:Int)) (ab (a7 ?_)))))))))
     refine dl (σ:=aw) (λgq f w=>b6 w0 gq w/\f 0=vp b23 0/\f 4=vp b188 0/\f 5=vp b232 0/\f 6=vi ↑i_c2/\f 7=vi (gI Or_c2 ↑i_c2)/\f 9=vi (gI (gI O_c1 (gI Or_c2 ↑i_c2)) (j_c2:Int))/\f 35=v244/\f 36=vi (List.length (gI O_c1 (gI Or_c2 ↑i_c2)):Int)/\f 37=vi ↑j_c2/\f 48=vb (decide ((gI Fs_c2 (pI (gI g.2 ((gI (gI O_c1 (gI Or_c2 ↑i_c2)) (j_c2:Int))/2)) (1-((gI (gI O_c1 (gI Or_c2 ↑i_c2)) (j_c2:Int))%2))))<0))/\Sl gq (is 0) w g_v g.2/\dr gq 3 w v17 O_c1/\Bx gq (is 4) w b23 [vi g.1,g_v,v17]/\Ow gq (is 7) (is 7) w v178 part/\Bx gq (is 8) w b188 [vn,vn,vn,vn]/\Ow gq (is 11) (is 11) w v204 Bs_c2/\Ow gq (is 12) (is 12) w v211 Fs_c2/\Bx gq (is 14) w b232 [Os_c2_v,v204,v211,vn]/\Ow gq (row 3 (Int.toNat (gI Or_c2 ↑i_c2)+1)) (row 3 (Int.toNat (gI Or_c2 ↑i_c2)+1)) w v244 (gI O_c1 (gI Or_c2 ↑i_c2))/\Ow gq (is 10) (is 10) w Os_c2_v Os_c2) g250 [0,2,3,5,6,7] eX ?_ ?_
     ·
      intro mid
      intro w252 ch251
      refine xp 0 rfl (λw=>aa mR rfl rfl zs5_c2 rfl) (xp (v:=vp b23 0) 2 rfl (λw=>aq zs0_c2) (xp (v:=vi (gI (gI O_c1 (gI Or_c2 ↑i_c2)) (j_c2:Int))) 3 rfl (λw=>aq rfl) ?_))
      refine dD 1 4 rfl rfl (by kernel_rfl) rfl rfl ?_ ?_
      ·
       replace bx237:=bx237.cn ch251
       refine aj (v:=v211) (a8 bN rfl bx237 rfl) (b9 4 rfl (by kernel_rfl) rfl (br (aH (vals:=[vp b23 0,vi (gI (gI O_c1 (gI Or_c2 ↑i_c2)) (j_c2:Int))]) Tryz.func154 km kN rfl) (ap Tryz.func154 rfl nq ?_)))
       replace Rg:=Rg.cn ch251
       replace o19:=o19.cn ch251
       refine a7 (a6 rfl (ai 0 (ab (a7 (a6 rfl (mv (vp b23 0) (lw (vp b23 0) (ae rfl) (lx (aa ow rfl rfl rfl rfl) (lx (aa ea rfl rfl rfl rfl) ?_)))))))))
       replace bx25:=bx25.cn ch251
       refine lx (a8 bR rfl bx25 rfl) (mi (gI (gI O_c1 (gI Or_c2 ↑i_c2)) (j_c2:Int)) (lx (mK (m:=(gI (gI O_c1 (gI Or_c2 ↑i_c2)) (j_c2:Int))) (n:=2) rfl rfl (by omega) (by omega) (by omega)) (mi (gI (gI O_c1 (gI Or_c2 ↑i_c2)) (j_c2:Int)) (lx (pQ (m:=(gI (gI O_c1 (gI Or_c2 ↑i_c2)) (j_c2:Int))) (n:=2) rfl rfl (by omega) (by omega)) (lx (ej (m:=1) (n:=(gI (gI O_c1 (gI Or_c2 ↑i_c2)) (j_c2:Int))%2) rfl rfl (by omega)) (lx (ad (v:=g_v) (i:=(gI (gI O_c1 (gI Or_c2 ↑i_c2)) (j_c2:Int))/2) eR rfl rfl Rg rfl (by omega) (by omega)) (lx (cA (i:=1-((gI (gI O_c1 (gI Or_c2 ↑i_c2)) (j_c2:Int))%2)) eO rfl rfl rfl (by omega) (by omega) (Nat.mul_one _)) ?_)))))))
       refine lx (cK (v:=g_v) (i:=(gI (gI O_c1 (gI Or_c2 ↑i_c2)) (j_c2:Int))/2) ah rfl Rg (by omega) (by omega) (show Int.toNat (1-((gI (gI O_c1 (gI Or_c2 ↑i_c2)) (j_c2:Int))%2))<2 by omega) (iN _ (by omega) (by omega))) (ai (pI (gI g.2 ((gI (gI O_c1 (gI Or_c2 ↑i_c2)) (j_c2:Int))/2)) (1-((gI (gI O_c1 (gI Or_c2 ↑i_c2)) (j_c2:Int))%2))) (ab (au (vs:=[vi (pI (gI g.2 ((gI (gI O_c1 (gI Or_c2 ↑i_c2)) (j_c2:Int))/2)) (1-((gI (gI O_c1 (gI Or_c2 ↑i_c2)) (j_c2:Int))%2)))]) Tryz.func154 (.tmp rfl .nil) ?_)))
       refine⟨vi (pI (gI g.2 ((gI (gI O_c1 (gI Or_c2 ↑i_c2)) (j_c2:Int))/2)) (1-((gI (gI O_c1 (gI Or_c2 ↑i_c2)) (j_c2:Int))%2))),rfl,?_⟩
       replace bx225:=bx225.cn ch251
       refine xv 5 [4,1,3,2,0] rfl (ad (v:=v211) (i:=pI (gI g.2 ((gI (gI O_c1 (gI Or_c2 ↑i_c2)) (j_c2:Int))/2)) (1-((gI (gI O_c1 (gI Or_c2 ↑i_c2)) (j_c2:Int))%2))) bF rfl rfl bx225.flat rfl (by omega) (by omega)) (xv 6 [5,4,1,3,2,0] rfl (av (v:=v211) (i:=pI (gI g.2 ((gI (gI O_c1 (gI Or_c2 ↑i_c2)) (j_c2:Int))/2)) (1-((gI (gI O_c1 (gI Or_c2 ↑i_c2)) (j_c2:Int))%2))) ah rfl bx225.flat (by omega) (by omega) (by decide) rfl) (xp 7 rfl (λw=>bw (m:=(gI Fs_c2 (pI (gI g.2 ((gI (gI O_c1 (gI Or_c2 ↑i_c2)) (j_c2:Int))/2)) (1-((gI (gI O_c1 (gI Or_c2 ↑i_c2)) (j_c2:Int))%2))))) (n:=0) rfl rfl) (bS (by kernel_rfl) ?_)))
       exact mid (g250) _ _ ⟨bH.cn ch251,zs0_c2,zs4_c2,zs5_c2,zs6_c2,zs7_c2,rfl,zs35_c2,zs36_c2,zs37_c2,rfl,Rg,o19,bx25,o179.cn ch251,bx190.cn ch251,o205.cn ch251,bx225,bx237,r246.cn ch251,o_Os_c2.cn ch251⟩
      ·
       refine br (aH (vals:=[vp b23 0,vi (gI (gI O_c1 (gI Or_c2 ↑i_c2)) (j_c2:Int))]) Tryz.func154 km kN rfl) (ap Tryz.func154 rfl nq ?_)
       replace Rg:=Rg.cn ch251
       replace o19:=o19.cn ch251
       refine a7 (a6 rfl (ai 0 (ab (a7 (a6 rfl (mv (vp b23 0) (lw (vp b23 0) (ae rfl) (lx (aa ow rfl rfl rfl rfl) (lx (aa ea rfl rfl rfl rfl) ?_)))))))))
       replace bx25:=bx25.cn ch251
       refine lx (a8 bR rfl bx25 rfl) (mi (gI (gI O_c1 (gI Or_c2 ↑i_c2)) (j_c2:Int)) (lx (mK (m:=(gI (gI O_c1 (gI Or_c2 ↑i_c2)) (j_c2:Int))) (n:=2) rfl rfl (by omega) (by omega) (by omega)) (mi (gI (gI O_c1 (gI Or_c2 ↑i_c2)) (j_c2:Int)) (lx (pQ (m:=(gI (gI O_c1 (gI Or_c2 ↑i_c2)) (j_c2:Int))) (n:=2) rfl rfl (by omega) (by omega)) (lx (ej (m:=1) (n:=(gI (gI O_c1 (gI Or_c2 ↑i_c2)) (j_c2:Int))%2) rfl rfl (by omega)) (lx (ad (v:=g_v) (i:=(gI (gI O_c1 (gI Or_c2 ↑i_c2)) (j_c2:Int))/2) eR rfl rfl Rg rfl (by omega) (by omega)) (lx (cA (i:=1-((gI (gI O_c1 (gI Or_c2 ↑i_c2)) (j_c2:Int))%2)) eO rfl rfl rfl (by omega) (by omega) (Nat.mul_one _)) ?_)))))))
       refine lx (cK (v:=g_v) (i:=(gI (gI O_c1 (gI Or_c2 ↑i_c2)) (j_c2:Int))/2) ah rfl Rg (by omega) (by omega) (show Int.toNat (1-((gI (gI O_c1 (gI Or_c2 ↑i_c2)) (j_c2:Int))%2))<2 by omega) (iN _ (by omega) (by omega))) (ai (pI (gI g.2 ((gI (gI O_c1 (gI Or_c2 ↑i_c2)) (j_c2:Int))/2)) (1-((gI (gI O_c1 (gI Or_c2 ↑i_c2)) (j_c2:Int))%2))) (ab (au (vs:=[vi (pI (gI g.2 ((gI (gI O_c1 (gI Or_c2 ↑i_c2)) (j_c2:Int))/2)) (1-((gI (gI O_c1 (gI Or_c2 ↑i_c2)) (j_c2:Int))%2)))]) Tryz.func154 (.tmp rfl .nil) ?_)))
       refine⟨vi (pI (gI g.2 ((gI (gI O_c1 (gI Or_c2 ↑i_c2)) (j_c2:Int))/2)) (1-((gI (gI O_c1 (gI Or_c2 ↑i_c2)) (j_c2:Int))%2))),rfl,?_⟩
       replace bx237:=bx237.cn ch251
       refine b9 1 rfl (by kernel_rfl) rfl (aj (v:=v211) (a8 bN rfl bx237 rfl) ?_)
       replace bx225:=bx225.cn ch251
       refine xv 5 [1,4,3,2,0] rfl (ad (v:=v211) (i:=pI (gI g.2 ((gI (gI O_c1 (gI Or_c2 ↑i_c2)) (j_c2:Int))/2)) (1-((gI (gI O_c1 (gI Or_c2 ↑i_c2)) (j_c2:Int))%2))) bF rfl rfl bx225.flat rfl (by omega) (by omega)) (xv 6 [5,1,4,3,2,0] rfl (av (v:=v211) (i:=pI (gI g.2 ((gI (gI O_c1 (gI Or_c2 ↑i_c2)) (j_c2:Int))/2)) (1-((gI (gI O_c1 (gI Or_c2 ↑i_c2)) (j_c2:Int))%2))) ah rfl bx225.flat (by omega) (by omega) (by decide) rfl) (xp 7 rfl (λw=>bw (m:=(gI Fs_c2 (pI (gI g.2 ((gI (gI O_c1 (gI Or_c2 ↑i_c2)) (j_c2:Int))/2)) (1-((gI (gI O_c1 (gI Or_c2 ↑i_c2)) (j_c2:Int))%2))))) (n:=0) rfl rfl) (bS (by kernel_rfl) ?_)))
       exact mid (g250) _ _ ⟨bH.cn ch251,zs0_c2,zs4_c2,zs5_c2,zs6_c2,zs7_c2,rfl,zs35_c2,zs36_c2,zs37_c2,rfl,Rg,o19,bx25,o179.cn ch251,bx190.cn ch251,o205.cn ch251,bx225,bx237,r246.cn ch251,o_Os_c2.cn ch251⟩
     clear Rg o19 bx25 o179 bx190 o205 bx225 bx237 r246 o_Os_c2 bH
     rintro g255 f253 w254 ⟨bH,zs0_c2,zs4_c2,zs5_c2,zs6_c2,zs7_c2,zs9_c2,zs35_c2,zs36_c2,zs37_c2,zs48_c2,Rg,o19,bx25,o179,bx190,o205,bx225,bx237,r246,o_Os_c2⟩
     by_cases p9_c2:(gI Fs_c2 (pI (gI g.2 ((gI (gI O_c1 (gI Or_c2 ↑i_c2)) (j_c2:Int))/2)) (1-((gI (gI O_c1 (gI Or_c2 ↑i_c2)) (j_c2:Int))%2))))<0
     ·
      refine af zs48_c2 (dt p9_c2) (a6 rfl (mz zs0_c2 (mz zs9_c2 (lx (aa mR rfl rfl zs5_c2 rfl) (lx (a8 bN rfl bx237 rfl) (mz zs7_c2 (lx (ad (v:=v211) (i:=(gI Or_c2 ↑i_c2)) bF rfl rfl bx225.flat rfl (by omega) (by omega)) (lx (av (v:=v211) (i:=(gI Or_c2 ↑i_c2)) ah rfl bx225.flat (by omega) (by omega) (by decide) rfl) (lx (aS (m:=(gI Fs_c2 (gI Or_c2 ↑i_c2))) (n:=1) rfl rfl (by omega)) ?_)))))))))
      refine lo (br (aH (vals:=[vp b23 0,vp b232 0,vi (gI (gI O_c1 (gI Or_c2 ↑i_c2)) (j_c2:Int)),vi ((gI Fs_c2 (gI Or_c2 ↑i_c2))+1)]) Tryz.func155 tl tX (rA rfl (rA zs5_c2 (rA rfl (rA rfl rfl))))) (ap Tryz.func155 rfl nq (a7 (a6 rfl (mv (vp b23 0) (mi (gI (gI O_c1 (gI Or_c2 ↑i_c2)) (j_c2:Int)) (lo (br (aH (vals:=[vp b23 0,vi (gI (gI O_c1 (gI Or_c2 ↑i_c2)) (j_c2:Int))]) Tryz.func154 km kN rfl) (ap Tryz.func154 rfl nq (a7 (a6 rfl ?_)))))))))))
      refine ai 0 (ab (a7 (a6 rfl (mv (vp b23 0) (lw (vp b23 0) (ae rfl) (lx (aa ow rfl rfl rfl rfl) (lx (aa ea rfl rfl rfl rfl) (lx (a8 bR rfl bx25 rfl) (mi (gI (gI O_c1 (gI Or_c2 ↑i_c2)) (j_c2:Int)) (lx (mK (m:=(gI (gI O_c1 (gI Or_c2 ↑i_c2)) (j_c2:Int))) (n:=2) rfl rfl (by omega) (by omega) (by omega)) (mi (gI (gI O_c1 (gI Or_c2 ↑i_c2)) (j_c2:Int)) ?_)))))))))))
      refine lx (pQ (m:=(gI (gI O_c1 (gI Or_c2 ↑i_c2)) (j_c2:Int))) (n:=2) rfl rfl (by omega) (by omega)) (lx (ej (m:=1) (n:=(gI (gI O_c1 (gI Or_c2 ↑i_c2)) (j_c2:Int))%2) rfl rfl (by omega)) (lx (ad (v:=g_v) (i:=(gI (gI O_c1 (gI Or_c2 ↑i_c2)) (j_c2:Int))/2) eR rfl rfl Rg rfl (by omega) (by omega)) (lx (cA (i:=1-((gI (gI O_c1 (gI Or_c2 ↑i_c2)) (j_c2:Int))%2)) eO rfl rfl rfl (by omega) (by omega) (Nat.mul_one _)) (lx (cK (v:=g_v) (i:=(gI (gI O_c1 (gI Or_c2 ↑i_c2)) (j_c2:Int))/2) ah rfl Rg (by omega) (by omega) (show Int.toNat (1-((gI (gI O_c1 (gI Or_c2 ↑i_c2)) (j_c2:Int))%2))<2 by omega) (iN _ (by omega) (by omega))) ?_))))
      refine ai (pI (gI g.2 ((gI (gI O_c1 (gI Or_c2 ↑i_c2)) (j_c2:Int))/2)) (1-((gI (gI O_c1 (gI Or_c2 ↑i_c2)) (j_c2:Int))%2))) (ab (au (vs:=[vi (pI (gI g.2 ((gI (gI O_c1 (gI Or_c2 ↑i_c2)) (j_c2:Int))/2)) (1-((gI (gI O_c1 (gI Or_c2 ↑i_c2)) (j_c2:Int))%2)))]) Tryz.func154 (.tmp rfl .nil) ?_))
      refine⟨vi (pI (gI g.2 ((gI (gI O_c1 (gI Or_c2 ↑i_c2)) (j_c2:Int))/2)) (1-((gI (gI O_c1 (gI Or_c2 ↑i_c2)) (j_c2:Int))%2))),rfl,?_⟩
      refine ai (pI (gI g.2 ((gI (gI O_c1 (gI Or_c2 ↑i_c2)) (j_c2:Int))/2)) (1-((gI (gI O_c1 (gI Or_c2 ↑i_c2)) (j_c2:Int))%2))) (ab (a7 (a6 rfl (mv (vp b232 0) (mv (vp b232 0) (lw (vp b232 0) (ae rfl) (lx (aa mR rfl rfl rfl rfl) (lx (a8 bN rfl bx237 rfl) (mi (pI (gI g.2 ((gI (gI O_c1 (gI Or_c2 ↑i_c2)) (j_c2:Int))/2)) (1-((gI (gI O_c1 (gI Or_c2 ↑i_c2)) (j_c2:Int))%2))) (lo ?_))))))))))
      refine ar (α:=Int) g255 (is 17) (is 17) (17,0) rfl [pI (gI g.2 ((gI (gI O_c1 (gI Or_c2 ↑i_c2)) (j_c2:Int))/2)) (1-((gI (gI O_c1 (gI Or_c2 ↑i_c2)) (j_c2:Int))%2))] bF ah (by decide) (by decide) (vs:=[(0,vi (pI (gI g.2 ((gI (gI O_c1 (gI Or_c2 ↑i_c2)) (j_c2:Int))/2)) (1-((gI (gI O_c1 (gI Or_c2 ↑i_c2)) (j_c2:Int))%2))))]) rfl rfl (.cons rfl .nil) ?_
      intro g256 w257 v258 ch259 o260
      refine lo ?_
      replace o_Os_c2:=o_Os_c2.cn ch259
      refine aK (α:=Int) (xs:=Os_c2) (ys:=([pI (gI g.2 ((gI (gI O_c1 (gI Or_c2 ↑i_c2)) (j_c2:Int))/2)) (1-((gI (gI O_c1 (gI Or_c2 ↑i_c2)) (j_c2:Int))%2))])) g256 (J:=is 10) (S:=is 10) (10,0) rfl bF ah (by decide) rfl rfl rfl o_Os_c2 o260.flat (by decide) (by(simp;omega)) ?_
      intro g261 w262 v263 ch264 o265
      clear o_Os_c2
      refine lw (vp b232 0) (ae rfl) (lx (aa mR rfl rfl rfl rfl) (lo ?_))
      replace bx237:=(bx237.cn ch259).ce ch264
      refine aC (cs':=[v263,v204,v211,vn]) bN rfl rfl bx237 (aP o265.flat) nq (aG o265.flat) rfl ?_
      intro w266 ch267 bx268
      clear bx237
      refine ab ?_
      clear o260
      refine bq g261 [0,1,2,3,4,5,6,7,8,9,10,11,12,14] eX ?_
      intro w270 ch269
      refine xp (v:=vp b232 0) 0 rfl (λw=>aq rfl) (xp (v:=vp b232 0) 1 rfl (λw=>ae rfl) (xp 2 rfl (λw=>aa mR rfl rfl rfl rfl) ?_))
      replace bx268:=bx268.cn ch269
      refine xv 3 [2,1,0,4,5,9,10,11,6,7,8] rfl (a8 bN rfl bx268 rfl) (xp (v:=vi (pI (gI g.2 ((gI (gI O_c1 (gI Or_c2 ↑i_c2)) (j_c2:Int))/2)) (1-((gI (gI O_c1 (gI Or_c2 ↑i_c2)) (j_c2:Int))%2)))) 4 rfl (λw=>aq rfl) (xp (v:=vp b232 0) 5 rfl (λw=>aq rfl) (xp (v:=vp b232 0) 6 rfl (λw=>ae rfl) (xp 7 rfl (λw=>aa mR rfl rfl rfl rfl) (xv 8 [7,6,5,4,3,2,1,0,9,10,11] rfl (a8 bN rfl bx268 rfl) (xp (v:=vi (pI (gI g.2 ((gI (gI O_c1 (gI Or_c2 ↑i_c2)) (j_c2:Int))/2)) (1-((gI (gI O_c1 (gI Or_c2 ↑i_c2)) (j_c2:Int))%2)))) 9 rfl (λw=>aq rfl) (xp (v:=vi (gI (gI O_c1 (gI Or_c2 ↑i_c2)) (j_c2:Int))) 10 rfl (λw=>aq rfl) ?_)))))))
      refine xp (v:=vi ((gI Fs_c2 (gI Or_c2 ↑i_c2))+1)) 11 rfl (λw=>aq rfl) ?_
      have C271:=cg [10,14] (ch259.n.seq ((ch264.l rfl).seq ((ch267.l rfl).seq ch269.n)))
      replace o205:=o205.ca C271
      refine xv 12 [11,10,9,8,7,6,5,4,3,2,1,0] rfl (ad (v:=v204) (i:=pI (gI g.2 ((gI (gI O_c1 (gI Or_c2 ↑i_c2)) (j_c2:Int))/2)) (1-((gI (gI O_c1 (gI Or_c2 ↑i_c2)) (j_c2:Int))%2))) bF rfl rfl o205.flat rfl (by omega) (by omega)) (b9 13 rfl (by kernel_rfl) rfl (aZ (i:=pI (gI g.2 ((gI (gI O_c1 (gI Or_c2 ↑i_c2)) (j_c2:Int))/2)) (1-((gI (gI O_c1 (gI Or_c2 ↑i_c2)) (j_c2:Int))%2))) (gI (gI O_c1 (gI Or_c2 ↑i_c2)) (j_c2:Int)) ah rfl rfl o205 (by omega) (by omega) rfl ?_))
      intro w272 ch273 bx274
      clear o205
      have C275:=cg [10,11,14] (ch259.n.seq ((ch264.l rfl).seq ((ch267.l rfl).seq (ch269.n.seq (ch273.l rfl)))))
      replace bx225:=bx225.ca C275
      refine xv 14 [13,12,11,10,9,8,7,6,5,4,3,2,1,0] rfl (ad (v:=v211) (i:=pI (gI g.2 ((gI (gI O_c1 (gI Or_c2 ↑i_c2)) (j_c2:Int))/2)) (1-((gI (gI O_c1 (gI Or_c2 ↑i_c2)) (j_c2:Int))%2))) bF rfl rfl bx225.flat rfl (by omega) (by omega)) (b9 15 rfl (by kernel_rfl) rfl (aZ (i:=pI (gI g.2 ((gI (gI O_c1 (gI Or_c2 ↑i_c2)) (j_c2:Int))/2)) (1-((gI (gI O_c1 (gI Or_c2 ↑i_c2)) (j_c2:Int))%2))) ((gI Fs_c2 (gI Or_c2 ↑i_c2))+1) ah rfl rfl bx225 (by omega) (by omega) rfl ?_))
      intro w276 ch277 bx278
      clear bx225
      refine bS (by kernel_rfl) (dS (vs:=[]) Tryz.func155 .nil ?_)
      refine⟨vt [],rfl,?_⟩
      refine ab (ak (a6 rfl (lx (aS (m:=↑j_c2) (n:=1) zs37_c2 rfl (by omega)) (mi ((j_c2:Int)+1) (ab ?_)))))
      have C279:=cg [10,11,12,14] (ch259.n.seq ((ch264.l rfl).seq ((ch267.l rfl).seq (ch269.n.seq ((ch273.l rfl).seq (ch277.l rfl))))))
      have C280:=cg [11,12,14] ((ch267.l rfl).seq (ch269.n.seq ((ch273.l rfl).seq (ch277.l rfl))))
      refine back7_c2 (v263,(Os_c2++[pI (gI g.2 ((gI (gI O_c1 (gI Or_c2 ↑i_c2)) (j_c2:Int))/2)) (1-((gI (gI O_c1 (gI Or_c2 ↑i_c2)) (j_c2:Int))%2))]),j_c2+1,(List.set Bs_c2 (Int.toNat (pI (gI g.2 ((gI (gI O_c1 (gI Or_c2 ↑i_c2)) (j_c2:Int))/2)) (1-((gI (gI O_c1 (gI Or_c2 ↑i_c2)) (j_c2:Int))%2)))) (gI (gI O_c1 (gI Or_c2 ↑i_c2)) (j_c2:Int))),(List.set Fs_c2 (Int.toNat (pI (gI g.2 ((gI (gI O_c1 (gI Or_c2 ↑i_c2)) (j_c2:Int))/2)) (1-((gI (gI O_c1 (gI Or_c2 ↑i_c2)) (j_c2:Int))%2)))) ((gI Fs_c2 (gI Or_c2 ↑i_c2))+1)),g261) _ _ ⟨bH.ca C279,zs0_c2,zs4_c2,zs5_c2,zs6_c2,zs7_c2,zs35_c2,zs36_c2,rfl,Rg.ca C279,o19.ca C279,bx25.ca C279,o179.ca C279,bx190.ca C279,bx274.ce ch277,bx278,(bx268.ce ch273).ce ch277,r246.chg C279 (o4 rfl) (o4 rfl),o265.ca C280,by omega,?_⟩ ?_
      · show dO ⟨(Os_c2++[pI (gI g.2 ((gI (gI O_c1 (gI Or_c2 ↑i_c2)) (j_c2:Int))/2)) (1-((gI (gI O_c1 (gI Or_c2 ↑i_c2)) (j_c2:Int))%2))]),(List.set Bs_c2 (Int.toNat (pI (gI g.2 ((gI (gI O_c1 (gI Or_c2 ↑i_c2)) (j_c2:Int))/2)) (1-((gI (gI O_c1 (gI Or_c2 ↑i_c2)) (j_c2:Int))%2)))) (gI (gI O_c1 (gI Or_c2 ↑i_c2)) (j_c2:Int))),(List.set Fs_c2 (Int.toNat (pI (gI g.2 ((gI (gI O_c1 (gI Or_c2 ↑i_c2)) (j_c2:Int))/2)) (1-((gI (gI O_c1 (gI Or_c2 ↑i_c2)) (j_c2:Int))%2)))) ((gI Fs_c2 (gI Or_c2 ↑i_c2))+1))⟩ g ⟨Or_c2,By_c2,Fa_c2⟩ (gI Or_c2 ↑i_c2) (j_c2+1)
        exact hrw.yes hm hjl hhe ‹_›
      · show Int.toNat (_-_)<Int.toNat (_-_)
        omega
     refine ag zs48_c2 (df p9_c2) (ao (ak (a6 rfl (lx (aS (m:=↑j_c2) (n:=1) zs37_c2 rfl (by omega)) (mi ((j_c2:Int)+1) (ab ?_))))))
     refine back7_c2 (Os_c2_v,Os_c2,j_c2+1,Bs_c2,Fs_c2,g255) _ _ ⟨bH,zs0_c2,zs4_c2,zs5_c2,zs6_c2,zs7_c2,zs35_c2,zs36_c2,rfl,Rg,o19,bx25,o179,bx190,o205,bx225,bx237,r246,o_Os_c2,by omega,?_⟩ ?_
     · show dO ⟨Os_c2,Bs_c2,Fs_c2⟩ g ⟨Or_c2,By_c2,Fa_c2⟩ (gI Or_c2 ↑i_c2) (j_c2+1)
       exact hrw.no hm hjl hhe ‹_›
     · show Int.toNat (_-_)<Int.toNat (_-_)
       omega
    refine ag rfl (df p7_c2) (aO rfl (ak ?_))
    clear r246
    refine a6 rfl (mz zs6_c2 (lx (aS (m:=↑i_c2) (n:=1) rfl rfl (by omega)) (ai ((i_c2:Int)+1) (ab ?_))))
    refine back3_c2 (Os_c2_v,Os_c2,i_c2+1,Bs_c2,Fs_c2,g250) _ _ ⟨bH,zs0_c2,zs4_c2,zs5_c2,rfl,Rg,o19,bx25,o179,bx190,o205,bx225,bx237,o_Os_c2,?_⟩ ?_
    · show fM ⟨Os_c2,Bs_c2,Fs_c2⟩ g (q:Int) (i_c2+1)
      exact hgo_c2.next hm1 ‹_› hrw (by rw[<-hrow];assumption)
    · show Int.toNat g.1-(i_c2+1)<Int.toNat g.1-i_c2
      omega
   refine ag rfl (df p3_c2) (aO rfl (a7 (a6 rfl (lx (ay (ds:=[Or_c2_v,v204,v211,vn]) dJ zs5_c2 bx237 rfl rfl) (lo (ax (cs':=[Or_c2_v,v204,v211,vn]) dJ zs4_c2 rfl bx190 rfl nq (AllOne.all (.cons (aG o_Or_c2.flat) (.cons (aG o205.flat) (.cons (aG bx225.flat) (.cons rfl .nil))))) rfl ?_))))))
   intro w281 ch282 bx283
   clear bx190
   refine ab (au (vs:=[vg [Or_c2_v,v204,v211,vn]]) Tryz.func138 (.cell zs4_c2 (cy (ds:=[Or_c2_v,v204,v211,vn]) dJ bx283 rfl rfl) .nil) ?_)
   refine⟨vg [Or_c2_v,v204,v211,vn],rfl,?_⟩
   refine lw (Or_c2_v) (qh mR rfl bN rfl rfl) ?_
   replace o_Or_c2:=o_Or_c2.ce ch282
   refine lx (bp bF rfl o_Or_c2.flat) (mi 0 (ab (am ?_)))
   clear o205 bx225 bx237 bx283
   refine aV (σ:=Nat×(List Int)×aw) (λ⟨j,part2,gq⟩ f w=>b6 w0 gq w/\f 5=vp b23 0/\f 6=v178/\f 7=vi n/\f 20=vi (List.length (List.replicate g.1.toNat (-1)):Int)/\f 21=vi ↑q/\f 32=Or_c2_v/\f 33=vi (Or_c2.length:Int)/\f 34=vi ↑j/\Sl gq (is 0) w g_v g.2/\dr gq 3 w v17 O_c1/\Bx gq (is 4) w b23 [vi g.1,g_v,v17]/\Ow gq (is 7) (is 7) w v178 part2/\Ow gq (is 10) (is 10) w Or_c2_v Or_c2/\(j:Int)<=((Or_c2.length:Int):Int)/\(part2=(List.take j Or_c2).foldl (λl_ w_=>l_.set w_.toNat n) part)) (λ⟨j,part2,gq⟩=>Int.toNat (((Or_c2.length:Int):Int)-(j:Int))) (0,part,g242) ?_ ?_
   · exact⟨bH.ce ch282,zs5,zs6,zs7,zs20,zs21,rfl,rfl,rfl,Rg.ce ch282,o19.ce ch282,bx25.ce ch282,o179.ce ch282,o_Or_c2,by omega,by simp⟩
   clear Rg o19 bx25 o179 o_Or_c2 bH
   rintro⟨j,part2,g286⟩ f284 w285 ⟨bH,zs5,zs6,zs7,zs20,zs21,zs32,zs33,zs34,Rg,o19,bx25,o179,o_Or_c2,hle_j,hpa⟩ back11
   obtain⟨hbo1,hbo2⟩:=qZ hgo_c2 ‹_›
   have hp2:part2.length=part.length:=by rw[hpa];exact k9 _ _ _
   refine a7 (a6 rfl (lx (bw (m:=↑j) (n:=(Or_c2.length:Int)) zs34 zs33) (ab (a7 ?_))))
   by_cases p11:(j:Int)<(Or_c2.length:Int)
   ·
    refine af rfl (dt p11) ?_
    have hwr:=hbo2 _ (bC (xs:=Or_c2) (i:=↑j) (by omega) ‹_›)
    refine ao (a7 (am (a7 (a6 rfl (lx (ad (v:=Or_c2_v) (i:=↑j) bF rfl zs32 o_Or_c2.flat zs34 (by omega) (by omega)) (lx (av (v:=Or_c2_v) (i:=↑j) ah rfl o_Or_c2.flat (by omega) (by omega) (by decide) rfl) (ai (gI Or_c2 ↑j) (ab (a6 rfl (mz zs6 (mi (gI Or_c2 ↑j) ?_)))))))))))
    refine mz zs7 (lx (ad (v:=v178) (i:=(gI Or_c2 ↑j)) bF rfl rfl o179.flat rfl (by omega) (by omega)) (lo (aZ (i:=(gI Or_c2 ↑j)) n ah rfl rfl o179 (by omega) (by omega) rfl ?_)))
    intro w287 ch288 bx289
    clear o179
    refine ab (ak (a6 rfl (lx (aS (m:=↑j) (n:=1) zs34 rfl (by omega)) (mi ((j:Int)+1) (ab ?_)))))
    refine back11 (j+1,(List.set part2 (Int.toNat (gI Or_c2 ↑j)) n),g286) _ _ ⟨bH.ce ch288,zs5,zs6,zs7,zs20,zs21,zs32,zs33,rfl,Rg.ce ch288,o19.ce ch288,bx25.ce ch288,bx289,o_Or_c2.ce ch288,by omega,?_⟩ ?_
    · show(List.set part2 (Int.toNat (gI Or_c2 ↑j)) n)=(List.take (j+1) Or_c2).foldl (λl_ w_=>l_.set w_.toNat n) part
      rw[n5 ‹_›,<-hpa]
    · show Int.toNat (_-_)<Int.toNat (_-_)
      omega
   refine ag rfl (df p11) (aO rfl ?_)
   clear o_Or_c2
   refine a6 rfl (mz zs7 (lx (aS (m:=n) (n:=1) rfl rfl (by omega)) (ai (n+1) (ab (ak (a6 rfl (lx (aS (m:=↑q) (n:=1) zs21 rfl (by omega)) (mi ((q:Int)+1) (ab ?_)))))))))
   refine back7 (q+1,n+1,part2,g286) _ _ ⟨bH,zs5,zs6,rfl,zs20,rfl,Rg,o19,bx25,o179,by omega,?_⟩ ?_
   · show part2=(cE g (q+1)).1/\(n+1)=(cE g (q+1)).2
     exact xn hinv ‹_› hbo1 hpa ‹_›
   · show Int.toNat (_-_)<Int.toNat (_-_)
     omega
  refine ag rfl (df p7) (aO rfl (a7 ?_))
  clear o19 bx25
  refine a6 rfl (mz zs6 (mz zs7 (ma v178 (ai n (ai 0 (ab (au (vs:=[v178,vi n,vi 0]) Tryz.func102 (.tmp rfl (.tmp rfl (.tmp rfl .nil))) ?_)))))))
  have e0:(part:List Int)=((bu g).1):=by
    exact(jn hm (by omega) hinv).1
  have e1:(n:Int)=((bu g).2.1):=by
    exact(jn hm (by omega) hinv).2.1
  have e2:(0:Int)=((bu g).2.2):=by
    exact(jn hm (by omega) hinv).2.2
  exact⟨(fin w0 g185 (λn=>if n=7 then 1 else 0),v178),(iw (a:=part) (b:=n) (c:=0) (λ(z0:List Int) (z1:Int) (z2:Int)=>Ending.returned (vt [v178,vi z1,vi z2])) e0 e1 e2),bH.fresh _,(e0▸(o179.glue (γ:=c0) (ren:=(λn=>if n=7 then 1 else 0)) (k:=1) bH.col rfl rfl))⟩
 refine af rfl (congrArg Bool.not (Bool.eq_false_iff.2 p1)) (a7 ?_)
 clear bx5
 refine a6 rfl (ma vn (ai 0 (ai 1 (ab (au (vs:=[vn,vi 0,vi 1]) Tryz.func102 (.tmp rfl (.tmp rfl (.tmp rfl .nil))) ?_)))))
 replace bH:=bH.cn ch2
 replace bH:=bH.cn hb7
 have e0:([]:List Int)=((bu g).1):=by
   (have hn:¬c7 g:=λh=>p1 (dt h)
    unfold bu;rw[if_neg hn];done)
 have e1:(0:Int)=((bu g).2.1):=by
   (have hn:¬c7 g:=λh=>p1 (dt h)
    unfold bu;rw[if_neg hn];done)
 have e2:(1:Int)=((bu g).2.2):=by
   (have hn:¬c7 g:=λh=>p1 (dt h)
    unfold bu;rw[if_neg hn];done)
 exact⟨(fin w0 g4 (λn=>0),vn),(iw (a:=[]) (b:=0) (c:=1) (λ(z0:List Int) (z1:Int) (z2:Int)=>Ending.returned (vt [vn,vi z1,vi z2])) e0 e1 e2),bH.fresh _,(e0▸Ow.nil)⟩
end TL
