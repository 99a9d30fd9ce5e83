import Derived.Test.YtfpckpgnnplhnaaGreatSwTlGenA
import Derived.Test.YtfpckpgnnplhnaaGreatSwTlAli
set_option linter.all false
set_option maxRecDepth 20000
namespace TL
open Go Go.Proofs
theorem uG:Tryz.prog.follows .mixedOrders=true:=by kernel_rfl
theorem gu:Tp Tryz.prog 38 false 1 24 (.slice none 0 0):=Tp.of (by kernel_rfl)
theorem aY:Tp Tryz.prog 73 false 1 8 (.pointer none):=Tp.of (by kernel_rfl)
theorem bq:Tp Tryz.prog 74 false 1 24 (.slice none 0 0):=Tp.of (by kernel_rfl)
theorem bj:Tp Tryz.prog 78 true 4 32 (.agg #[.int .i64 0,.int .i64 0,.int .i64 0,.int .i64 0]):=Tp.of (by kernel_rfl)
theorem rW:Tryz.f51.body.isNone=false:=rfl
theorem s3:(Tryz.f51.name== "runtime.NumGoroutine")=false:=by decide+kernel
theorem fO(w0:World)(of:List Int)(of_v:Value)(hof_v:Ro w0 of_v of)(i:Int)(hr:sS of (dm of i) i)(ho:∀x∈of,-1099511627776<=x/\x<=1099511627776):
    Calls Tryz.prog 70 #[of_v,vi i] w0 (λee w=>ee= .returned (vi (dm of i))/\eK w0.heap.size w0 w):=by
 refine ah Tryz.func70 rfl nq ?_
 have bH:=aW.start w0
 have Rof:=hof_v.sl
 refine a7 (a6 rfl (ai 0 (ab (a7 (aj ?_)))))
 refine aR (σ:=Int×ax) (λ⟨i2,gq⟩ f w=>aW w0 gq w/\f 0=of_v/\f 1=vi i2/\Sl gq (is 0) w of_v of/\(sS of (dm of i) i2)) (λ⟨i2,gq⟩=>gx of.length of i2) (i,c0) ?_ ?_
 · exact⟨bH,rfl,rfl,Rof,by exact hr⟩
 rintro⟨i2,g3⟩ f1 w2 ⟨bH,zs0,zs1,Rof,hri⟩ back1
 obtain⟨hri1,hri2⟩:=hri.in_
 refine a7 (a7 (a6 rfl (mz zs0 (mz zs1 (lx (ad (v:=of_v) (i:=i2) bF rfl rfl Rof rfl (by omega) (by omega)) (lx (aw (v:=of_v) (i:=i2) aD rfl Rof (by omega) (by omega) (by decide) rfl) (mz zs1 (lx (du (m:=(gI of i2)) (n:=i2) rfl rfl) (ab ?_)))))))))
 by_cases p1:(gI of i2)=i2
 ·
  refine af rfl (congrArg Bool.not (dt p1)) (aF rfl (a7 (a6 rfl (mz zs1 (ai i2 (ab (az (vs:=[vi i2]) Tryz.func70 (.tmp rfl .nil) ?_)))))))
  have e0:(i2:Int)=(dm of i):=by
    exact hri.here ‹_›
  exact⟨ri e0,bH.below⟩
 refine ag rfl (congrArg Bool.not (df p1)) (am (aj (a6 rfl (mz zs0 (mz zs1 (lx (ad (v:=of_v) (i:=i2) bF rfl rfl Rof rfl (by omega) (by omega)) (lx (aw (v:=of_v) (i:=i2) aD rfl Rof (by omega) (by omega) (by decide) rfl) (ai (gI of i2) (ab ?_)))))))))
 refine ak ?_
 refine back1 ((gI of i2),g3) _ _ ⟨bH,zs0,rfl,Rof,?_⟩ ?_
 · show sS of (dm of i) (gI of i2)
   exact hri.next ‹_›
 · show gx of.length of (gI of i2)<gx of.length of i2
   exact hri.less ‹_›
theorem fN(w0:World)(ps:List Pp)(ps_v:Value)(hps_v:Ro w0 ps_v ps)(names:Int)(AR:List Pp×List (ch Bd))(hAR:CU w0 AR.1 AR.2)(hin:∀u∈ps,u∈AR.1)(hnm:0<=names/\names<=100000)(hpl:(ps.length:Int)<=100001)(hok:qj (ps.map (bt AR)) names):
    Calls Tryz.prog 44 #[ps_v,vi names] w0 (λee w=>∃xx:ax×Value,ee= .returned ((λ⟨δ,rv0⟩=>rv0) xx)/\(λ(⟨δ,rv0⟩:ax×Value) (w:World)=>dz w0 δ w/\dr δ 1 w rv0 (aQ (ps.map (bt AR)) names)) xx w):=by
 refine ah Tryz.func44 rfl nq ?_
 have bH:=aW.start w0
 have Rps:=hps_v.sl
 have ar_A:=hAR.start
 obtain⟨hn0,hn1⟩:=hnm
 have hVl:(ps.map (bt AR)).length=ps.length:=List.length_map ..
 refine a7 (a6 rfl (ma vn (ab (a7 (a6 rfl (mi names (lo (iY (α:=Int) (n:=names) (cp:=names) c0 1 fh gu rfl rfl rfl (by omega) (by omega) (by omega) (by omega) ?_))))))))
 intro g1 w2 v3 ch4 o5
 refine ma v3 (ab (a7 (a7 (a6 rfl (mv ps_v ?_)))))
 have len6:=(Rps).small
 refine lx (bG jH rfl Rps.t) (mi 0 (ab (aj ?_)))
 refine aR (σ:=Nat×j7×ax) (λ⟨i,l,gq⟩ f w=>aW w0 gq w/\f 5=v3/\f 12=ps_v/\f 13=vi (ps.length:Int)/\f 14=vi ↑i/\Sl gq (is 0) w ps_v ps/\gC gq w AR.1 AR.2/\dr gq 1 w v3 l/\(i:Int)<=((ps.length:Int):Int)/\(o9 (ps.map (bt AR)) names i 0 l)) (λ⟨i,l,gq⟩=>Int.toNat (((ps.length:Int):Int)-(i:Int))) (0,(List.replicate (Int.toNat names) []),g1) ?_ ?_
 · exact⟨bH.t,rfl,rfl,rfl,rfl,Rps.t,ar_A.t,o5,by omega,by exact o9.start hn0⟩
 rintro⟨i,l,g9⟩ f7 w8 ⟨bH,zs5,zs12,zs13,zs14,Rps,ar_A,o5,hle_i,hho⟩ back3
 have hll:=hho.len
 refine a7 (a6 rfl (lx (br (m:=↑i) (n:=(ps.length:Int)) zs14 zs13) (ab (a7 ?_))))
 by_cases p3:(i:Int)<(ps.length:Int)
 ·
  refine ag rfl (dt p3) (am (a7 (aj (a7 (a6 rfl (mz zs14 (lx (ad (v:=ps_v) (i:=↑i) jH rfl zs12 Rps zs14 (by omega) (by omega)) (lx (aw (v:=ps_v) (i:=↑i) aY rfl Rps (by omega) (by omega) (by decide) rfl) (ai (i:Int) (ma (Value.pointer (some ⟨(gI ps ↑i).n,0,none⟩)) ?_))))))))))
  refine ab (a7 ?_)
  have hpi:gI ps ↑i∈ps:=bz (by omega) (by omega)
  obtain⟨v10,bx11,o12⟩:=gC.gt (u:=(gI ps ↑i)) ar_A (j:=(AR.1.idxOf (gI ps ↑i))) (by exact fB (hin _ hpi))
  have hvi:gI (ps.map (bt AR)) (i:Int)=lA AR (gI ps ↑i):=wZ (by omega)
  obtain⟨hok1,hok2⟩:=hok (gI (ps.map (bt AR)) (i:Int)) (bz (by omega) (by omega))
  rw[hvi] at hok1 hok2
  refine a6 rfl (mv (Value.pointer (some ⟨(gI ps ↑i).n,0,none⟩)) (lw (Value.pointer (some ⟨(gI ps ↑i).n,0,none⟩)) (ae rfl) (lx (aa dV rfl rfl rfl rfl) (lx (a8 bq rfl bx11 rfl) ?_))))
  have len13:=(o12).small
  refine lx (bG cM rfl o12) (mi 0 (ab (aj ?_)))
  refine aR (σ:=Nat×j7×ax) (λ⟨j,l2,gq⟩ f w=>aW w0 gq w/\f 5=v3/\f 6=vi ↑i/\f 12=ps_v/\f 13=vi (ps.length:Int)/\f 14=vi ↑i/\f 22=v10/\f 23=vi (List.length ((lA AR (gI ps ↑i)).2):Int)/\f 24=vi ↑j/\Sl gq (is 0) w ps_v ps/\gC gq w AR.1 AR.2/\dr gq 1 w v3 l2/\Sl gq (is 0) w v10 ((lA AR (gI ps ↑i)).2)/\(j:Int)<=((List.length ((lA AR (gI ps ↑i)).2):Int):Int)/\(o9 (ps.map (bt AR)) names i j l2)) (λ⟨j,l2,gq⟩=>Int.toNat (((List.length ((lA AR (gI ps ↑i)).2):Int):Int)-(j:Int))) (0,l,g9) ?_ ?_
  · exact⟨bH,zs5,rfl,zs12,zs13,zs14,rfl,rfl,rfl,Rps,ar_A,o5,o12,by omega,by exact hho⟩
  rintro⟨j,l2,g16⟩ f14 w15 ⟨bH,zs5,zs6,zs12,zs13,zs14,zs22,zs23,zs24,Rps,ar_A,o5,o12,hle_j,hin2⟩ back6
  have hll2:=hin2.len
  have hlb2:=hin2.bd hok (by omega) (by omega)
  refine a7 (a6 rfl (lx (br (m:=↑j) (n:=(List.length ((lA AR (gI ps ↑i)).2):Int)) zs24 zs23) (ab (a7 ?_))))
  by_cases p6:(j:Int)<(List.length ((lA AR (gI ps ↑i)).2):Int)
  ·
   refine ag rfl (dt p6) ?_
   have hbj:=hok2 (gI (lA AR (gI ps ↑i)).2 (j:Int)) (bz (by omega) ‹_›)
   refine am (a7 (aj (a7 (a6 rfl (lx (ad (v:=v10) (i:=↑j) cM rfl zs22 o12 zs24 (by omega) (by omega)) (lw (vg [vi ((gI ((lA AR (gI ps ↑i)).2) (j:Int)).1),vi (((gI ((lA AR (gI ps ↑i)).2) (j:Int)).2).1),vi ((((gI ((lA AR (gI ps ↑i)).2) (j:Int)).2).2).1),vi ((((gI ((lA AR (gI ps ↑i)).2) (j:Int)).2).2).2)]) (bW (v:=v10) (i:=↑j) bj rfl o12 (by omega) (by omega) rfl) (lo (aZ g16 (is 2) (2,0) rfl bj ?_))))))))
   intro g20 w17 b19 ch18 bx21
   refine lo (aA (cs':=[vi ((gI ((lA AR (gI ps ↑i)).2) (j:Int)).1),vi (((gI ((lA AR (gI ps ↑i)).2) (j:Int)).2).1),vi ((((gI ((lA AR (gI ps ↑i)).2) (j:Int)).2).2).1),vi ((((gI ((lA AR (gI ps ↑i)).2) (j:Int)).2).2).2)]) bj rfl rfl bx21 rfl nq (AllOne.all (.cons rfl (.cons rfl (.cons rfl (.cons rfl .nil))))) rfl ?_)
   intro w22 ch23 bx24
   refine ab (a7 (a6 rfl (lx (av (ds:=[vi ((gI ((lA AR (gI ps ↑i)).2) (j:Int)).1),vi (((gI ((lA AR (gI ps ↑i)).2) (j:Int)).2).1),vi ((((gI ((lA AR (gI ps ↑i)).2) (j:Int)).2).2).1),vi ((((gI ((lA AR (gI ps ↑i)).2) (j:Int)).2).2).2)]) bj rfl bx24 rfl rfl) (lo ?_))))
   refine aV (aB (vals:=[vg [vi ((gI ((lA AR (gI ps ↑i)).2) (j:Int)).1),vi (((gI ((lA AR (gI ps ↑i)).2) (j:Int)).2).1),vi ((((gI ((lA AR (gI ps ↑i)).2) (j:Int)).2).2).1),vi ((((gI ((lA AR (gI ps ↑i)).2) (j:Int)).2).2).2)]]) Tryz.func51 rW s3 rfl) (ah Tryz.func51 rfl nq (a7 (a6 rfl (cy rfl (bU g20 (is 3) (3,0) rfl rfl ?_)))))
   intro g28 w25 b27 ch26 bx29
   refine ma (vb false) (ab (a7 (a6 rfl (lx (aa jg rfl rfl rfl rfl) (lx (a8 aD rfl bx29 rfl) (lx (eL (m:=(((gI ((lA AR (gI ps ↑i)).2) (j:Int)).2).2).1) (n:=0) rfl rfl) (ma (vb (decide (0<=((((gI ((lA AR (gI ps ↑i)).2) (j:Int)).2).2).1)))) (ab (az (vs:=[vb (decide (0<=((((gI ((lA AR (gI ps ↑i)).2) (j:Int)).2).2).1)))]) Tryz.func51 (.tmp rfl .nil) ?_)))))))))
   refine⟨vb (decide (0<=((((gI ((lA AR (gI ps ↑i)).2) (j:Int)).2).2).1))),rfl,?_⟩
   refine lx (fM (b:=decide (0<=((((gI ((lA AR (gI ps ↑i)).2) (j:Int)).2).2).1))) rfl) (ab ?_)
   by_cases p8:0<=((((gI ((lA AR (gI ps ↑i)).2) (j:Int)).2).2).1)
   ·
    refine af rfl (congrArg Bool.not (dt p8)) (am (ak ?_))
    refine a6 rfl (lx (aJ (m:=↑j) (n:=1) zs24 rfl (by omega)) (mi ((j:Int)+1) (ab ?_)))
    refine back6 (j+1,l2,g28) _ _ ⟨bH.t,zs5,zs6,zs12,zs13,zs14,zs22,zs23,rfl,Rps.t,ar_A.t,o5.t,o12.t,by omega,?_⟩ ?_
    · show o9 (ps.map (bt AR)) names i (j+1) l2
      exact hin2.no (by rw[hvi];assumption) (by rw[hvi];omega)
    · show Int.toNat (_-_)<Int.toNat (_-_)
      omega
   refine ag rfl (congrArg Bool.not (df p8)) ?_
   obtain⟨hbj1,hbj2⟩:=hbj (by omega)
   have hrl:=hlb2 (Int.toNat (gI (lA AR (gI ps ↑i)).2 (j:Int)).2.2.2) (by omega)
   rw[Int.toNat_of_nonneg hbj1] at hrl
   refine dw (σ:=ax) (λgq f w=>aW w0 gq w/\f 5=v3/\f 6=vi ↑i/\f 12=ps_v/\f 13=vi (ps.length:Int)/\f 14=vi ↑i/\f 22=v10/\f 23=vi (List.length ((lA AR (gI ps ↑i)).2):Int)/\f 24=vi ↑j/\Sl gq (is 0) w ps_v ps/\gC gq w AR.1 AR.2/\Sl gq (is 0) w v10 ((lA AR (gI ps ↑i)).2)/\dr gq 1 w v3 (List.set l2 (Int.toNat ((((gI ((lA AR (gI ps ↑i)).2) (j:Int)).2).2).2)) (gI l2 ((((gI ((lA AR (gI ps ↑i)).2) (j:Int)).2).2).2)++[(i:Int)]))) g28 [0,1,3,4,5,6,7,8,11] uG ?_ ?_
   ·
    intro mid
    intro w32 ch31
    refine xp (v:=v3) 0 rfl (λw=>ar zs5) (xp 1 rfl (λw=>aa jg rfl rfl rfl rfl) (xp (v:=v3) 3 rfl (λw=>ar zs5) (xp 4 rfl (λw=>aa jg rfl rfl rfl rfl) ?_)))
    refine xh 5 [4,3,1,0,2,8,9] rfl (λw' hw'=>a8 aD rfl (bx24.t.bel hw') rfl) ?_
    refine xh 6 [5,4,3,1,0,2,8,9] rfl (λw' hw'=>ad (v:=v3) (i:=(((gI ((lA AR (gI ps ↑i)).2) (j:Int)).2).2).2) fh rfl rfl (o5.t.sl.bel hw') rfl (by omega) (by omega)) ?_
    obtain⟨v34,cel35,r36⟩:=cG (r:=(((gI ((lA AR (gI ps ↑i)).2) (j:Int)).2).2).2) (o5.a ch31) (by omega) (by omega)
    refine xh 7 [6,5,4,3,1,0,2,8,9] rfl (λw' hw'=>cv gu rfl (jJ cel35 hw')) (xp (v:=vi ↑i) 8 rfl (λw=>ar zs6) ?_)
    refine de 2 9 rfl rfl (by kernel_rfl) rfl rfl ?_ ?_
    ·
     refine ao (v:=vi ((((gI ((lA AR (gI ps ↑i)).2) (j:Int)).2).2).2)) (a8 aD rfl bx24.t rfl) (cE 9 rfl (aq (α:=Int) g28 (is 4) (is 4) (4,0) rfl [(i:Int)] bF aD (by decide) (by decide) (vs:=[(0,vi ↑i)]) rfl rfl (.cons rfl .nil) ?_))
     intro g37 w38 v39 ch40 o41
     refine cE 10 rfl ?_
     refine aS (α:=Int) (xs:=(gI l2 ((((gI ((lA AR (gI ps ↑i)).2) (j:Int)).2).2).2))) (ys:=([(i:Int)])) g37 (J:=row 1 (Int.toNat ((((gI ((lA AR (gI ps ↑i)).2) (j:Int)).2).2).2)+1)) (S:=row 1 (Int.toNat ((((gI ((lA AR (gI ps ↑i)).2) (j:Int)).2).2).2)+1)) (1,Int.toNat ((((gI ((lA AR (gI ps ↑i)).2) (j:Int)).2).2).2)+1) rfl bF aD (by decide) rfl rfl rfl r36.t o41.flat (by decide) (by(simp;omega)) ?_
     intro g42 w43 v44 ch45 o46
     have o47:=(o5.a ch40).rowchg ch45
     obtain⟨us48,hl49,r50⟩:=o47.vc
     try simp only[List.length_set,List.length_append,List.length_cons,List.length_nil] at hl49
     refine xv 11 [10,9,2,8,7,6,5,4,3,1,0] rfl (ad (v:=v3) (i:=(((gI ((lA AR (gI ps ↑i)).2) (j:Int)).2).2).2) fh rfl rfl r50 rfl (by omega) (by omega)) (cE 12 rfl (bT (r:=(((gI ((lA AR (gI ps ↑i)).2) (j:Int)).2).2).2) gu rfl rfl o47 o46 (by omega) (by omega) ?_))
     intro w54 ch55 o56
     refine bV (by kernel_rfl) ?_
     exact mid (g42) _ _ ⟨bH.t,zs5,zs6,zs12,zs13,zs14,zs22,zs23,zs24,Rps.t,ar_A.t,o12.t,o56⟩
    ·
     refine aq (α:=Int) g28 (is 4) (is 4) (4,0) rfl [(i:Int)] bF aD (by decide) (by decide) (vs:=[(0,vi ↑i)]) rfl rfl (.cons rfl .nil) ?_
     intro g58 w59 v60 ch61 o62
     refine de 2 10 rfl rfl (by kernel_rfl) rfl rfl ?_ ?_
     ·
      refine ao (v:=vi ((((gI ((lA AR (gI ps ↑i)).2) (j:Int)).2).2).2)) (a8 aD rfl bx24.t rfl) (cE 10 rfl ?_)
      refine aS (α:=Int) (xs:=(gI l2 ((((gI ((lA AR (gI ps ↑i)).2) (j:Int)).2).2).2))) (ys:=([(i:Int)])) g58 (J:=row 1 (Int.toNat ((((gI ((lA AR (gI ps ↑i)).2) (j:Int)).2).2).2)+1)) (S:=row 1 (Int.toNat ((((gI ((lA AR (gI ps ↑i)).2) (j:Int)).2).2).2)+1)) (1,Int.toNat ((((gI ((lA AR (gI ps ↑i)).2) (j:Int)).2).2).2)+1) rfl bF aD (by decide) rfl rfl rfl r36.t o62.flat (by decide) (by(simp;omega)) ?_
      intro g63 w64 v65 ch66 o67
      have o68:=(o5.a ch61).rowchg ch66
      obtain⟨us69,hl70,r71⟩:=o68.vc
      try simp only[List.length_set,List.length_append,List.length_cons,List.length_nil] at hl70
      refine xv 11 [10,2,9,8,7,6,5,4,3,1,0] rfl (ad (v:=v3) (i:=(((gI ((lA AR (gI ps ↑i)).2) (j:Int)).2).2).2) fh rfl rfl r71 rfl (by omega) (by omega)) (cE 12 rfl (bT (r:=(((gI ((lA AR (gI ps ↑i)).2) (j:Int)).2).2).2) gu rfl rfl o68 o67 (by omega) (by omega) ?_))
      intro w75 ch76 o77
      refine bV (by kernel_rfl) ?_
      exact mid (g63) _ _ ⟨bH.t,zs5,zs6,zs12,zs13,zs14,zs22,zs23,zs24,Rps.t,ar_A.t,o12.t,o77⟩
     ·
      refine aS (α:=Int) (xs:=(gI l2 ((((gI ((lA AR (gI ps ↑i)).2) (j:Int)).2).2).2))) (ys:=([(i:Int)])) g58 (J:=row 1 (Int.toNat ((((gI ((lA AR (gI ps ↑i)).2) (j:Int)).2).2).2)+1)) (S:=row 1 (Int.toNat ((((gI ((lA AR (gI ps ↑i)).2) (j:Int)).2).2).2)+1)) (1,Int.toNat ((((gI ((lA AR (gI ps ↑i)).2) (j:Int)).2).2).2)+1) rfl bF aD (by decide) rfl rfl rfl r36.t o62.flat (by decide) (by(simp;omega)) ?_
      intro g79 w80 v81 ch82 o83
      have o84:=(o5.a ch61).rowchg ch82
      refine cE 2 rfl (ao (v:=vi ((((gI ((lA AR (gI ps ↑i)).2) (j:Int)).2).2).2)) (a8 aD rfl bx24.t rfl) ?_)
      obtain⟨us85,hl86,r87⟩:=o84.vc
      try simp only[List.length_set,List.length_append,List.length_cons,List.length_nil] at hl86
      refine xv 11 [2,10,9,8,7,6,5,4,3,1,0] rfl (ad (v:=v3) (i:=(((gI ((lA AR (gI ps ↑i)).2) (j:Int)).2).2).2) fh rfl rfl r87 rfl (by omega) (by omega)) (cE 12 rfl (bT (r:=(((gI ((lA AR (gI ps ↑i)).2) (j:Int)).2).2).2) gu rfl rfl o84 o83 (by omega) (by omega) ?_))
      intro w91 ch92 o93
      refine bV (by kernel_rfl) ?_
      exact mid (g79) _ _ ⟨bH.t,zs5,zs6,zs12,zs13,zs14,zs22,zs23,zs24,Rps.t,ar_A.t,o12.t,o93⟩
   rintro g97 f95 w96 ⟨bH,zs5,zs6,zs12,zs13,zs14,zs22,zs23,zs24,Rps,ar_A,o12,o54⟩
   refine ak (a6 rfl (lx (aJ (m:=↑j) (n:=1) zs24 rfl (by omega)) (mi ((j:Int)+1) (ab ?_))))
   refine back6 (j+1,(List.set l2 (Int.toNat ((((gI ((lA AR (gI ps ↑i)).2) (j:Int)).2).2).2)) (gI l2 ((((gI ((lA AR (gI ps ↑i)).2) (j:Int)).2).2).2)++[(i:Int)])),g97) _ _ ⟨bH,zs5,zs6,zs12,zs13,zs14,zs22,zs23,rfl,Rps,ar_A,o54,o12,by omega,?_⟩ ?_
   · show o9 (ps.map (bt AR)) names i (j+1) (List.set l2 (Int.toNat ((((gI ((lA AR (gI ps ↑i)).2) (j:Int)).2).2).2)) (gI l2 ((((gI ((lA AR (gI ps ↑i)).2) (j:Int)).2).2).2)++[(i:Int)]))
     (have hq:=hin2.yes (by rw[hvi];assumption) (by rw[hvi];omega) (by rw[hvi];exact hbj (by omega));rw[hvi] at hq;exact hq)
   · show Int.toNat (_-_)<Int.toNat (_-_)
     omega
  refine af rfl (df p6) (aF rfl (ak ?_))
  refine a6 rfl (lx (aJ (m:=↑i) (n:=1) zs14 rfl (by omega)) (mi ((i:Int)+1) (ab ?_)))
  refine back3 (i+1,l2,g16) _ _ ⟨bH,zs5,zs12,zs13,rfl,Rps,ar_A,o5.t,by omega,?_⟩ ?_
  · show o9 (ps.map (bt AR)) names (i+1) 0 l2
    exact hin2.next (by omega) (by rw[hvi];assumption)
  · show Int.toNat (_-_)<Int.toNat (_-_)
    omega
 refine af rfl (df p3) (aF rfl (a7 (a6 rfl (mz zs5 (ma v3 (ab (az (vs:=[v3]) Tryz.func44 (.tmp rfl .nil) ?_)))))))
 have e0:(l:j7)=(aQ (ps.map (bt AR)) names):=by
   exact hho.done (by omega)
 exact⟨(fin w0 g9 (λn=>if n=1 then 1 else 0),v3),(congrArg (a₁:=l) (λ(z0:j7)=>Ending.returned (v3)) e0),bH.fresh _,(e0▸(o5.t.glue (γ:=c0) (ren:=(λn=>if n=1 then 1 else 0)) (k:=1) bH.col rfl rfl))⟩
end TL
