import Derived.Test.YtfpckpgnnplhnaaGreatSwTlSqT
import Derived.Test.YtfpckpgnnplhnaaGreatSwTlGenA
import Derived.Test.YtfpckpgnnplhnaaGreatSwTlAli
set_option linter.all false
set_option maxRecDepth 20000
namespace TL
open Go Go.Proofs
theorem lQ:Tryz.prog.follows .mixedOrders=true:=by kernel_rfl
theorem xe:Tryz.f44.body.isNone=false:=rfl
theorem xU:(Tryz.f44.name== "runtime.NumGoroutine")=false:=by decide+kernel
theorem gT:Tryz.f70.body.isNone=false:=rfl
theorem gV:(Tryz.f70.name== "runtime.NumGoroutine")=false:=by decide+kernel
set_option maxHeartbeats 8000000 in
theorem qP(w0:World)(ps:List Pp)(ps_v:Value)(hps_v:Ro w0 ps_v ps)(names:Int)(AR:List Pp×List (ch Bd))(hAR:CU w0 AR.1 AR.2)(hin:∀u∈ps,u∈AR.1)(hnm:0<=names/\names<=100000)(hpl:(ps.length:Int)<=100001)(hok:qj (ps.map (bt AR)) names)(hj:fC (ps.map (bt AR)) (aQ (ps.map (bt AR)) names) names names.toNat=some (JV (ps.map (bt AR)) names))(hrt:∀i:Nat,(i:Int)<(ps.map (bt AR)).length->∃a,mr (JV (ps.map (bt AR)) names).1.length (JV (ps.map (bt AR)) names).1 (i:Int)=some a):
    Calls Tryz.prog 43 #[ps_v,vi names] w0 (λee w=>∃xx:ax×Value×List Pp×(List Pp×List (ch Bd)),ee= .returned ((λ(⟨δ,rv0,L,A⟩:ax×Value×List Pp×(List Pp×List (ch Bd)))=>rv0) xx)/\(λ(⟨δ,rv0,L,A⟩:ax×Value×List Pp×(List Pp×List (ch Bd))) (w:World)=>dz w0 δ w/\Ow δ (is 1) (is 1) w rv0 L/\fi δ 2 w A.1 A.2/\DN A L (ja (ps.map (bt AR)) names)) xx w):=by
 refine ah Tryz.func43 rfl nq ?_
 have bH:=aW.start w0
 have Rps:=hps_v.sl
 have ar_A:=hAR.start
 obtain⟨hn0,hn1⟩:=hnm
 have hVl:(ps.map (bt AR)).length=ps.length:=List.length_map ..
 have hHl:=vE (V:=(ps.map (bt AR))) hn0
 refine a7 (a6 rfl (ma vn (ab (a7 (a6 rfl (mv ps_v ?_))))))
 have len1:=(Rps).small
 refine lx (bG jH rfl Rps) (lo (dF (α:=Int) (l:=(ps.length:Int)) (cp:=(ps.length:Int)) c0 (is 1) (is 1) (1,0) rfl (0:Int) bF aD rfl rfl rfl (by omega) (by omega) (by omega) (by omega) ?_))
 intro g2 w3 v4 ch5 o6 hcap_
 refine ma v4 (ab (a7 (a7 (a6 rfl (mv v4 ?_)))))
 have len7:=(o6.flat).small
 refine lx (bG bF rfl o6.flat) (mi 0 (ab (aj ?_)))
 refine aR (σ:=Nat×(List Int)×ax) (λ⟨i0,of0,gq⟩ f w=>aW w0 gq w/\f 0=ps_v/\f 1=vi names/\f 5=v4/\f 22=vi (List.length (List.replicate (Int.toNat (ps.length:Int)) (0:Int)):Int)/\f 23=vi ↑i0/\Sl gq (is 0) w ps_v ps/\gC gq w AR.1 AR.2/\Ow gq (is 1) (is 1) w v4 of0/\(i0:Int)<=((List.length (List.replicate (Int.toNat (ps.length:Int)) (0:Int)):Int):Int)/\(B9 ps.length i0 of0)) (λ⟨i0,of0,gq⟩=>Int.toNat (((List.length (List.replicate (Int.toNat (ps.length:Int)) (0:Int)):Int):Int)-(i0:Int))) (0,(List.replicate (Int.toNat (ps.length:Int)) (0:Int)),g2) ?_ ?_
 · exact⟨bH.t,rfl,rfl,rfl,rfl,rfl,Rps.t,ar_A.t,o6,by omega,by exact B9.start⟩
 rintro⟨i0,of0,g10⟩ f8 w9 ⟨bH,zs0,zs1,zs5,zs22,zs23,Rps,ar_A,o6,hle_i0,hof⟩ back3
 have hofl:=hof.1
 have hrpl:(List.replicate (Int.toNat (ps.length:Int)) (0:Int)).length=ps.length:=by simp
 refine a7 (a6 rfl (lx (br (m:=↑i0) (n:=(List.length (List.replicate (Int.toNat (ps.length:Int)) (0:Int)):Int)) zs23 zs22) (ab (a7 ?_))))
 by_cases p3:(i0:Int)<(List.length (List.replicate (Int.toNat (ps.length:Int)) (0:Int)):Int)
 ·
  refine ag rfl (dt p3) (am (a7 (aj (a7 (a6 rfl (mz zs23 (ai (i0:Int) (ab (a6 rfl (mz zs5 (mi ↑i0 ?_)))))))))))
  refine mi ↑i0 (lx (ad (v:=v4) (i:=↑i0) bF rfl rfl o6.flat rfl (by omega) (by omega)) (lo (aU (i:=↑i0) (i0:Int) aD rfl rfl o6 (by omega) (by omega) rfl ?_)))
  intro w11 ch12 bx13
  refine ab (ak (a6 rfl (lx (aJ (m:=↑i0) (n:=1) zs23 rfl (by omega)) (mi ((i0:Int)+1) (ab ?_)))))
  refine back3 (i0+1,(List.set of0 (Int.toNat ↑i0) (i0:Int)),g10) _ _ ⟨bH.t,zs0,zs1,zs5,zs22,rfl,Rps.t,ar_A.t,bx13,by omega,?_⟩ ?_
  · show B9 ps.length (i0+1) (List.set of0 (Int.toNat ↑i0) (i0:Int))
    exact hof.next (by omega)
  · show Int.toNat (_-_)<Int.toNat (_-_)
    omega
 refine af rfl (df p3) (aF rfl (a7 ?_))
 have hof0:of0=bQ ps.length:=hof.done (by omega)
 refine a6 rfl (mz zs1 (lo (dF (α:=Bool) (l:=names) (cp:=names) g10 (is 2) (is 2) (2,0) rfl false j6 dA rfl rfl rfl (by omega) (by omega) (by omega) (by omega) ?_)))
 intro g14 w15 v16 ch17 o18 hcap_
 refine ma v16 (ab (a7 (a7 (a6 rfl (mz zs0 (mz zs1 ?_))))))
 refine lo (bB (aB (vals:=[ps_v,vi names]) Tryz.func44 xe xU rfl) (fN w15 ps ps_v Rps.t.ro names AR ar_A.t.ro (by exact hin) (by exact⟨hn0,hn1⟩) (by exact hpl) (by exact hok)) ?_)
 rintro⟨d20,v22⟩ w19 ⟨fr21,o23⟩
 obtain⟨g24,ch25,G24⟩:=hU g14 fr21 (λn=>if n=1 then 3 else 0)
 replace o23:=o23.gl G24 3
 have len26:=(o23.sl).small
 refine lx (bG fh rfl o23.sl) (mi 0 (ab (aj ?_)))
 refine aR (σ:=Nat×(List Int)×(List Bool)×ax) (λ⟨k,of1,gone,gq⟩ f w=>aW w0 gq w/\f 0=ps_v/\f 5=v4/\f 7=v16/\f 35=v22/\f 36=vi (List.length (aQ (ps.map (bt AR)) names):Int)/\f 37=vi ↑k/\Sl gq (is 0) w ps_v ps/\gC gq w AR.1 AR.2/\Ow gq (is 1) (is 1) w v4 of1/\Ow gq (is 2) (is 2) w v16 gone/\dr gq 3 w v22 (aQ (ps.map (bt AR)) names)/\(k:Int)<=((List.length (aQ (ps.map (bt AR)) names):Int):Int)/\(fC (ps.map (bt AR)) (aQ (ps.map (bt AR)) names) names k=some (of1,gone))) (λ⟨k,of1,gone,gq⟩=>Int.toNat (((List.length (aQ (ps.map (bt AR)) names):Int):Int)-(k:Int))) (0,of0,(List.replicate (Int.toNat names) false),g24) ?_ ?_
 · exact⟨bH.t,zs0,zs5,rfl,rfl,rfl,rfl,Rps.t,ar_A.t,o6.t,o18.t,o23,by omega,by(rw[hof0,<-hVl];rfl)⟩
 rintro⟨k,of1,gone,g29⟩ f27 w28 ⟨bH,zs0,zs5,zs7,zs35,zs36,zs37,Rps,ar_A,o6,o18,o23,hle_k,hjn⟩ back9
 obtain⟨hl1,hl2,hl3⟩:=lk hjn
 simp only at hl1 hl2 hl3
 have hob:=tG hl3 (by omega) (by omega)
 refine a7 (a6 rfl (lx (br (m:=↑k) (n:=(List.length (aQ (ps.map (bt AR)) names):Int)) zs37 zs36) (ab (a7 ?_))))
 by_cases p9:(k:Int)<(List.length (aQ (ps.map (bt AR)) names):Int)
 ·
  refine ag rfl (dt p9) ?_
  obtain⟨s1,s2,hk1,hk2,hk3⟩:=qw hj (k:=k) (by omega)
  rw[hjn] at hk1
  obtain rfl:=Option.some.inj hk1
  obtain⟨hq0,⟨hq1,hq2⟩,hq3,hq4⟩:=nQ hk2
  have hv0:=jf (A:=AR) (ps:=ps) hq1 (by omega)
  have hv1:=jf (A:=AR) (ps:=ps) hq3 (by omega)
  refine am (a7 (aj (a7 (a6 rfl (mz zs37 (lx (ad (v:=v22) (i:=↑k) fh rfl zs35 o23.sl zs37 (by omega) (by omega)) ?_))))))
  obtain⟨v30,cel31,r32⟩:=cG (r:=(k:Int)) o23 (by omega) (by omega)
  refine lx (cv gu rfl cel31) (ai (k:Int) (ma v30 (ab (a7 (a6 rfl (mz zs0 (mv v30 (lx (ad (v:=v30) (i:=0) bF rfl rfl r32.row_sl rfl (by omega) (by omega)) (lx (aw (v:=v30) (i:=0) aD rfl r32.row_sl (by omega) (by omega) (by decide) rfl) (lx (ad (v:=ps_v) (i:=(gI (gI (aQ (ps.map (bt AR)) names) (k:Int)) 0)) jH rfl rfl Rps rfl (by omega) (by omega)) (lx (aw (v:=ps_v) (i:=(gI (gI (aQ (ps.map (bt AR)) names) (k:Int)) 0)) aY rfl Rps (by omega) (by omega) (by decide) rfl) ?_)))))))))))
  refine lw (Value.pointer (some ⟨(gI ps (gI (gI (aQ (ps.map (bt AR)) names) (k:Int)) 0)).n,0,none⟩)) (ae rfl) (lx (aa dV rfl rfl rfl rfl) ?_)
  obtain⟨v33,bx34,o35⟩:=gC.gt (u:=(gI ps (gI (gI (aQ (ps.map (bt AR)) names) (k:Int)) 0))) ar_A (j:=(AR.1.idxOf (gI ps (gI (gI (aQ (ps.map (bt AR)) names) (k:Int)) 0)))) (by exact fB (hin _ (bz (by omega) (by omega))))
  refine lx (a8 aD rfl bx34 rfl) (ai ((lA AR (gI ps (gI (gI (aQ (ps.map (bt AR)) names) (k:Int)) 0))).1) (ab (a7 ?_)))
  refine a6 rfl (mi ((lA AR (gI ps (gI (gI (aQ (ps.map (bt AR)) names) (k:Int)) 0))).1) (lx (du (m:=(lA AR (gI ps (gI (gI (aQ (ps.map (bt AR)) names) (k:Int)) 0))).1) (n:=3) rfl rfl) (mv (vb (!(decide (((lA AR (gI ps (gI (gI (aQ (ps.map (bt AR)) names) (k:Int)) 0))).1)=3)))) ?_)))
  by_cases q53:((lA AR (gI ps (gI (gI (aQ (ps.map (bt AR)) names) (k:Int)) 0))).1)=3
  ·
   refine au (wn (congrArg Bool.not (dt q53))) (au (wn (congrArg Bool.not (dt q53))) (au (wn (congrArg Bool.not (dt q53))) (au (wn (congrArg Bool.not (dt q53))) (au (wn (congrArg Bool.not (dt q53))) (au (wn (congrArg Bool.not (dt q53))) (au (wn (congrArg Bool.not (dt q53))) (au (wn (congrArg Bool.not (dt q53))) (au (wn (congrArg Bool.not (dt q53))) (au (wn (congrArg Bool.not (dt q53))) ?_)))))))))
   refine au (wn (congrArg Bool.not (dt q53))) (lw (vb false) (bo rfl (congrArg Bool.not (dt q53)) rfl) (ab (af rfl rfl (am (ak ?_)))))
   refine a6 rfl (lx (aJ (m:=↑k) (n:=1) zs37 rfl (by omega)) (mi ((k:Int)+1) (ab ?_)))
   refine back9 (k+1,of1,gone,g29) _ _ ⟨bH,zs0,zs5,zs7,zs35,zs36,rfl,Rps,ar_A,o6,o18,o23,by omega,?_⟩ ?_
   · show fC (ps.map (bt AR)) (aQ (ps.map (bt AR)) names) names (k+1)=some (of1,gone)
     (rw[hk3];exact congrArg some (np hk2 (λc=>by rw[hv0] at c;exact absurd c.1 (by(intro d;exact d ‹_›)))))
   · show Int.toNat (_-_)<Int.toNat (_-_)
     omega
  refine lv (vi ((lA AR (gI ps (gI (gI (aQ (ps.map (bt AR)) names) (k:Int)) 0))).1)) (wy (congrArg Bool.not (df q53))) (ar rfl) (lv (ps_v) (wy (congrArg Bool.not (df q53))) (ar zs0) (lv (v30) (wy (congrArg Bool.not (df q53))) (ar rfl) (lv (Value.pointer (some (bu v30 1 (Int.toNat 1)))) (wy (congrArg Bool.not (df q53))) (ad (α:=Int) (xs:=gI (aQ (ps.map (bt AR)) names) (k:Int)) (v:=v30) (i:=1) bF rfl rfl r32.row_sl rfl (by omega) (by omega)) ?_)))
  refine lv (vi (gI (gI (aQ (ps.map (bt AR)) names) (k:Int)) 1)) (wy (congrArg Bool.not (df q53))) (aw (α:=Int) (xs:=gI (aQ (ps.map (bt AR)) names) (k:Int)) (v:=v30) (i:=1) aD rfl r32.row_sl (by omega) (by omega) (by decide) rfl) (lv (Value.pointer (some (bu ps_v 1 (Int.toNat (gI (gI (aQ (ps.map (bt AR)) names) (k:Int)) 1))))) (wy (congrArg Bool.not (df q53))) (ad (α:=Pp) (xs:=ps) (v:=ps_v) (i:=(gI (gI (aQ (ps.map (bt AR)) names) (k:Int)) 1)) jH rfl rfl Rps rfl (by omega) (by omega)) ?_)
  refine lv (Value.pointer (some ⟨(gI ps (gI (gI (aQ (ps.map (bt AR)) names) (k:Int)) 1)).n,0,none⟩)) (wy (congrArg Bool.not (df q53))) (aw (α:=Pp) (xs:=ps) (v:=ps_v) (i:=(gI (gI (aQ (ps.map (bt AR)) names) (k:Int)) 1)) aY rfl Rps (by omega) (by omega) (by decide) rfl) (lv (Value.pointer (some ⟨(gI ps (gI (gI (aQ (ps.map (bt AR)) names) (k:Int)) 1)).n,0,none⟩)) (wy (congrArg Bool.not (df q53))) (ae rfl) (lv (Value.pointer (some ⟨(gI ps (gI (gI (aQ (ps.map (bt AR)) names) (k:Int)) 1)).n,0,none⟩)) (wy (congrArg Bool.not (df q53))) (aa dV rfl rfl rfl rfl) ?_))
  obtain⟨v36,bx37,o38⟩:=gC.gt (u:=(gI ps (gI (gI (aQ (ps.map (bt AR)) names) (k:Int)) 1))) ar_A (j:=(AR.1.idxOf (gI ps (gI (gI (aQ (ps.map (bt AR)) names) (k:Int)) 1)))) (by exact fB (hin _ (bz (by omega) (by omega))))
  refine lv (vi ((lA AR (gI ps (gI (gI (aQ (ps.map (bt AR)) names) (k:Int)) 1))).1)) (wy (congrArg Bool.not (df q53))) (a8 aD rfl bx37 rfl) (lv (vb (decide (((lA AR (gI ps (gI (gI (aQ (ps.map (bt AR)) names) (k:Int)) 0))).1)=((lA AR (gI ps (gI (gI (aQ (ps.map (bt AR)) names) (k:Int)) 1))).1)))) (wy (congrArg Bool.not (df q53))) (dd (m:=(lA AR (gI ps (gI (gI (aQ (ps.map (bt AR)) names) (k:Int)) 0))).1) (n:=(lA AR (gI ps (gI (gI (aQ (ps.map (bt AR)) names) (k:Int)) 1))).1) rfl rfl) ?_)
  refine lw (vb (decide (((lA AR (gI ps (gI (gI (aQ (ps.map (bt AR)) names) (k:Int)) 0))).1)=((lA AR (gI ps (gI (gI (aQ (ps.map (bt AR)) names) (k:Int)) 1))).1)))) (bh rfl (congrArg Bool.not (df q53)) rfl) (ab ?_)
  by_cases p12:((lA AR (gI ps (gI (gI (aQ (ps.map (bt AR)) names) (k:Int)) 0))).1)=((lA AR (gI ps (gI (gI (aQ (ps.map (bt AR)) names) (k:Int)) 1))).1)
  ·
   refine ag rfl (dt p12) (a7 ?_)
   refine a6 rfl (mz zs7 (mi ↑k (lx (ad (v:=v16) (i:=↑k) j6 rfl rfl o18.flat rfl (by omega) (by omega)) (lo (aU (i:=↑k) true dA rfl rfl o18 (by omega) (by omega) rfl ?_)))))
   intro w39 ch40 bx41
   refine ab ?_
   have hcc:¬(gI (ps.map (bt AR)) (gI (gI (aQ (ps.map (bt AR)) names) (k:Int)) 0)).1=3/\(gI (ps.map (bt AR)) (gI (gI (aQ (ps.map (bt AR)) names) (k:Int)) 0)).1=(gI (ps.map (bt AR)) (gI (gI (aQ (ps.map (bt AR)) names) (k:Int)) 1)).1:=⟨by rw[hv0];assumption,by rw[hv0,hv1];assumption⟩
   obtain⟨hr1,hr2,⟨hr3,hr4⟩,⟨hr5,hr6⟩,hr7⟩:=ph hk2 hcc
   simp only at hr1 hr2 hr3 hr4 hr5 hr6 hr7
   refine dD (σ:=ax) (λgq f w=>aW w0 gq w/\f 0=ps_v/\f 5=v4/\f 7=v16/\f 35=v22/\f 36=vi (List.length (aQ (ps.map (bt AR)) names):Int)/\f 37=vi ↑k/\Sl gq (is 0) w ps_v ps/\gC gq w AR.1 AR.2/\dr gq 3 w v22 (aQ (ps.map (bt AR)) names)/\Ow gq (is 2) (is 2) w v16 (List.set gone (Int.toNat ↑k) true)/\Ow gq (is 1) (is 1) w v4 (List.set of1 (Int.toNat (dm of1 (gI (gI (aQ (ps.map (bt AR)) names) (k:Int)) 1))) (dm of1 (gI (gI (aQ (ps.map (bt AR)) names) (k:Int)) 0)))) g29 (inl [1]) lQ ?_ ?_
   ·
    intro mid
    intro w43 ch42
    refine ht (v:=v4) 0 rfl (bg.refl _ _ _) (λw' hw'=>ar zs5) (ht (v:=v4) 1 rfl (bg.refl _ _ _) (λw' hw'=>ar zs5) (ht (v:=v30) 2 rfl (bg.refl _ _ _) (λw' hw'=>ar rfl) (ht (v:=v4) 6 rfl (bg.refl _ _ _) (λw' hw'=>ar zs5) (ht (v:=v30) 7 rfl (bg.refl _ _ _) (λw' hw'=>ar rfl) ?_))))
    refine cj 3 [8] (by kernel_rfl) ⟨ca 3 rfl (by kernel_rfl) rfl ?_,ca 8 rfl (by kernel_rfl) rfl ?_,trivial⟩
    ·
     replace r32:=(r32.chg ch40 (kF rfl) (kF rfl)).cn ch42
     refine ao (v:=Value.pointer (some (bu v30 1 (Int.toNat 1)))) (ad (α:=Int) (xs:=gI (aQ (ps.map (bt AR)) names) (k:Int)) (v:=v30) (i:=1) bF rfl rfl r32.row_sl rfl (by omega) (by omega)) ?_
     refine⟨(bg.refl _ _ _),?_⟩
     refine ht 4 rfl (bg.refl _ _ _) (λw' hw'=>aw (v:=v30) (i:=1) aD rfl (r32.row_sl.chg hw' (kW rfl)) (by omega) (by omega) (by decide) rfl) ?_
     refine cj 5 [8] (by kernel_rfl) ⟨ca 5 rfl (by kernel_rfl) rfl ?_,ca 8 rfl (by kernel_rfl) rfl ?_,trivial⟩
     ·
      refine bI (v:=vi (dm of1 (gI (gI (aQ (ps.map (bt AR)) names) (k:Int)) 1))) (aB (vals:=[v4,vi (gI (gI (aQ (ps.map (bt AR)) names) (k:Int)) 1)]) Tryz.func70 gT gV rfl) (fO w43 of1 v4 (o6.t.flat).ro (gI (gI (aQ (ps.map (bt AR)) names) (k:Int)) 1) (by exact hr1) (by exact hob)) ?_
      intro w44 hb45
      replace hb45:=aG hb45 g29
      have hs46:bg (inl [1]) _ _ _ _:=hb45.n
      refine⟨hs46.same,?_⟩
      refine bY 8 rfl (ao (v:=Value.pointer (some (bu v30 1 (Int.toNat 0)))) (ad (α:=Int) (xs:=gI (aQ (ps.map (bt AR)) names) (k:Int)) (v:=v30) (i:=0) bF rfl rfl (r32.chg hs46 (lZ rfl) (lZ rfl)).row_sl rfl (by omega) (by omega)) ?_)
      refine⟨hs46.same,?_⟩
      refine ht 9 rfl hs46.same (λw' hw'=>aw (v:=v30) (i:=0) aD rfl (r32.row_sl.chg hw' (kW rfl)) (by omega) (by omega) (by decide) rfl) (bY 10 rfl ?_)
      refine bI (v:=vi (dm of1 (gI (gI (aQ (ps.map (bt AR)) names) (k:Int)) 0))) (aB (vals:=[v4,vi (gI (gI (aQ (ps.map (bt AR)) names) (k:Int)) 0)]) Tryz.func70 gT gV rfl) (fO w44 of1 v4 (o6.t.flat).ro (gI (gI (aQ (ps.map (bt AR)) names) (k:Int)) 0) (by exact hr2) (by exact hob)) ?_
      intro w47 hb48
      replace hb48:=aG hb48 g29
      have hs49:=hs46.seq (hb48.n)
      refine⟨hs49.same,?_⟩
      refine bY 11 rfl ?_
      refine ao (v:=Value.pointer (some (bu v4 1 (Int.toNat (dm of1 (gI (gI (aQ (ps.map (bt AR)) names) (k:Int)) 1)))))) (ad (α:=Int) (xs:=of1) (v:=v4) (i:=dm of1 (gI (gI (aQ (ps.map (bt AR)) names) (k:Int)) 1)) bF rfl rfl o6.t.flat rfl (by omega) (by omega)) ?_
      refine⟨hs49.same,?_⟩
      refine bY 12 rfl (aU (i:=dm of1 (gI (gI (aQ (ps.map (bt AR)) names) (k:Int)) 1)) (dm of1 (gI (gI (aQ (ps.map (bt AR)) names) (k:Int)) 0)) aD rfl rfl o6.t (by omega) (by omega) rfl ?_)
      intro w50 ch51 bx52
      have hs53:=hs49.seq (ch51.l rfl)
      refine⟨hs53.same,?_⟩
      refine ce (by kernel_rfl) ?_
      exact mid (g29) _ _ ⟨bH.t,zs0,zs5,zs7,zs35,zs36,zs37,Rps.t,ar_A.t,o23.t,bx41.t,bx52⟩
     ·
      refine ao (v:=Value.pointer (some (bu v30 1 (Int.toNat 0)))) (ad (α:=Int) (xs:=gI (aQ (ps.map (bt AR)) names) (k:Int)) (v:=v30) (i:=0) bF rfl rfl r32.row_sl rfl (by omega) (by omega)) ?_
      refine⟨(bg.refl _ _ _),?_⟩
      refine ht 9 rfl (bg.refl _ _ _) (λw' hw'=>aw (v:=v30) (i:=0) aD rfl (r32.row_sl.chg hw' (kW rfl)) (by omega) (by omega) (by decide) rfl) (bY 5 rfl ?_)
      refine bI (v:=vi (dm of1 (gI (gI (aQ (ps.map (bt AR)) names) (k:Int)) 1))) (aB (vals:=[v4,vi (gI (gI (aQ (ps.map (bt AR)) names) (k:Int)) 1)]) Tryz.func70 gT gV rfl) (fO w43 of1 v4 (o6.t.flat).ro (gI (gI (aQ (ps.map (bt AR)) names) (k:Int)) 1) (by exact hr1) (by exact hob)) ?_
      intro w55 hb56
      replace hb56:=aG hb56 g29
      have hs57:bg (inl [1]) _ _ _ _:=hb56.n
      refine⟨hs57.same,?_⟩
      refine bY 10 rfl ?_
      refine bI (v:=vi (dm of1 (gI (gI (aQ (ps.map (bt AR)) names) (k:Int)) 0))) (aB (vals:=[v4,vi (gI (gI (aQ (ps.map (bt AR)) names) (k:Int)) 0)]) Tryz.func70 gT gV rfl) (fO w55 of1 v4 (o6.t.flat).ro (gI (gI (aQ (ps.map (bt AR)) names) (k:Int)) 0) (by exact hr2) (by exact hob)) ?_
      intro w58 hb59
      replace hb59:=aG hb59 g29
      have hs60:=hs57.seq (hb59.n)
      refine⟨hs60.same,?_⟩
      refine bY 11 rfl ?_
      refine ao (v:=Value.pointer (some (bu v4 1 (Int.toNat (dm of1 (gI (gI (aQ (ps.map (bt AR)) names) (k:Int)) 1)))))) (ad (α:=Int) (xs:=of1) (v:=v4) (i:=dm of1 (gI (gI (aQ (ps.map (bt AR)) names) (k:Int)) 1)) bF rfl rfl o6.t.flat rfl (by omega) (by omega)) ?_
      refine⟨hs60.same,?_⟩
      refine bY 12 rfl (aU (i:=dm of1 (gI (gI (aQ (ps.map (bt AR)) names) (k:Int)) 1)) (dm of1 (gI (gI (aQ (ps.map (bt AR)) names) (k:Int)) 0)) aD rfl rfl o6.t (by omega) (by omega) rfl ?_)
      intro w61 ch62 bx63
      have hs64:=hs60.seq (ch62.l rfl)
      refine⟨hs64.same,?_⟩
      refine ce (by kernel_rfl) ?_
      exact mid (g29) _ _ ⟨bH.t,zs0,zs5,zs7,zs35,zs36,zs37,Rps.t,ar_A.t,o23.t,bx41.t,bx63⟩
    ·
     replace r32:=(r32.chg ch40 (kF rfl) (kF rfl)).cn ch42
     refine ao (v:=Value.pointer (some (bu v30 1 (Int.toNat 0)))) (ad (α:=Int) (xs:=gI (aQ (ps.map (bt AR)) names) (k:Int)) (v:=v30) (i:=0) bF rfl rfl r32.row_sl rfl (by omega) (by omega)) ?_
     refine⟨(bg.refl _ _ _),?_⟩
     refine ht 9 rfl (bg.refl _ _ _) (λw' hw'=>aw (v:=v30) (i:=0) aD rfl (r32.row_sl.chg hw' (kW rfl)) (by omega) (by omega) (by decide) rfl) (bY 3 rfl (ao (v:=Value.pointer (some (bu v30 1 (Int.toNat 1)))) (ad (α:=Int) (xs:=gI (aQ (ps.map (bt AR)) names) (k:Int)) (v:=v30) (i:=1) bF rfl rfl r32.row_sl rfl (by omega) (by omega)) ?_))
     refine⟨(bg.refl _ _ _),?_⟩
     refine ht 4 rfl (bg.refl _ _ _) (λw' hw'=>aw (v:=v30) (i:=1) aD rfl (r32.row_sl.chg hw' (kW rfl)) (by omega) (by omega) (by decide) rfl) (bY 5 rfl ?_)
     refine bI (v:=vi (dm of1 (gI (gI (aQ (ps.map (bt AR)) names) (k:Int)) 1))) (aB (vals:=[v4,vi (gI (gI (aQ (ps.map (bt AR)) names) (k:Int)) 1)]) Tryz.func70 gT gV rfl) (fO w43 of1 v4 (o6.t.flat).ro (gI (gI (aQ (ps.map (bt AR)) names) (k:Int)) 1) (by exact hr1) (by exact hob)) ?_
     intro w66 hb67
     replace hb67:=aG hb67 g29
     have hs68:bg (inl [1]) _ _ _ _:=hb67.n
     refine⟨hs68.same,?_⟩
     refine bY 10 rfl ?_
     refine bI (v:=vi (dm of1 (gI (gI (aQ (ps.map (bt AR)) names) (k:Int)) 0))) (aB (vals:=[v4,vi (gI (gI (aQ (ps.map (bt AR)) names) (k:Int)) 0)]) Tryz.func70 gT gV rfl) (fO w66 of1 v4 (o6.t.flat).ro (gI (gI (aQ (ps.map (bt AR)) names) (k:Int)) 0) (by exact hr2) (by exact hob)) ?_
     intro w69 hb70
     replace hb70:=aG hb70 g29
     have hs71:=hs68.seq (hb70.n)
     refine⟨hs71.same,?_⟩
     refine bY 11 rfl ?_
     refine ao (v:=Value.pointer (some (bu v4 1 (Int.toNat (dm of1 (gI (gI (aQ (ps.map (bt AR)) names) (k:Int)) 1)))))) (ad (α:=Int) (xs:=of1) (v:=v4) (i:=dm of1 (gI (gI (aQ (ps.map (bt AR)) names) (k:Int)) 1)) bF rfl rfl o6.t.flat rfl (by omega) (by omega)) ?_
     refine⟨hs71.same,?_⟩
     refine bY 12 rfl (aU (i:=dm of1 (gI (gI (aQ (ps.map (bt AR)) names) (k:Int)) 1)) (dm of1 (gI (gI (aQ (ps.map (bt AR)) names) (k:Int)) 0)) aD rfl rfl o6.t (by omega) (by omega) rfl ?_)
     intro w72 ch73 bx74
     have hs75:=hs71.seq (ch73.l rfl)
     refine⟨hs75.same,?_⟩
     refine ce (by kernel_rfl) ?_
     exact mid (g29) _ _ ⟨bH.t,zs0,zs5,zs7,zs35,zs36,zs37,Rps.t,ar_A.t,o23.t,bx41.t,bx74⟩
   rintro g79 f77 w78 ⟨bH,zs0,zs5,zs7,zs35,zs36,zs37,Rps,ar_A,o23,bx41,bx52⟩
   refine ak (a6 rfl (lx (aJ (m:=↑k) (n:=1) zs37 rfl (by omega)) (mi ((k:Int)+1) (ab ?_))))
   refine back9 (k+1,(List.set of1 (Int.toNat (dm of1 (gI (gI (aQ (ps.map (bt AR)) names) (k:Int)) 1))) (dm of1 (gI (gI (aQ (ps.map (bt AR)) names) (k:Int)) 0))),(List.set gone (Int.toNat ↑k) true),g79) _ _ ⟨bH,zs0,zs5,zs7,zs35,zs36,rfl,Rps,ar_A,bx52,bx41,o23,by omega,?_⟩ ?_
   · show fC (ps.map (bt AR)) (aQ (ps.map (bt AR)) names) names (k+1)=some ((List.set of1 (Int.toNat (dm of1 (gI (gI (aQ (ps.map (bt AR)) names) (k:Int)) 1))) (dm of1 (gI (gI (aQ (ps.map (bt AR)) names) (k:Int)) 0))),(List.set gone (Int.toNat ↑k) true))
     (rw[hk3];exact congrArg some hr7)
   · show Int.toNat (_-_)<Int.toNat (_-_)
     omega
  refine af rfl (df p12) (am (ak ?_))
  refine a6 rfl (lx (aJ (m:=↑k) (n:=1) zs37 rfl (by omega)) (mi ((k:Int)+1) (ab ?_)))
  refine back9 (k+1,of1,gone,g29) _ _ ⟨bH,zs0,zs5,zs7,zs35,zs36,rfl,Rps,ar_A,o6,o18,o23,by omega,?_⟩ ?_
  · show fC (ps.map (bt AR)) (aQ (ps.map (bt AR)) names) names (k+1)=some (of1,gone)
    (rw[hk3];exact congrArg some (np hk2 (λc=>by rw[hv0,hv1] at c;exact absurd c.2 ‹_›)))
  · show Int.toNat (_-_)<Int.toNat (_-_)
    omega
 refine af rfl (df p9) (aF rfl (a7 ?_))
 have hJ:(of1,gone)=(JV (ps.map (bt AR)) names):=Option.some.inj (hjn.symm.trans (by rw[show k=names.toNat by omega];exact hj))
 have hJ1:of1=(JV (ps.map (bt AR)) names).1:=congrArg Prod.fst hJ
 have hJ2:gone=(JV (ps.map (bt AR)) names).2:=congrArg Prod.snd hJ
 obtain⟨hl1,hl2,hl3⟩:=lk hjn
 simp only at hl1 hl2 hl3
 have hob:=tG hl3 (by omega) (by omega)
 have pm80:fi g29 4 w28 (([],[]):List Pp×List (ch Bd)).1 (([],[]):List Pp×List (ch Bd)).2:=fi.nil
 refine a6 rfl (cy rfl (sv (K:=Int) g29 (is 5) (5,0) rfl ?_))
 intro g81 w82 v83 ch84 m85
 refine ma v83 (ab (a7 (a6 rfl (ma vn (ab (a7 (a7 (a6 rfl (mz zs0 ?_)))))))))
 refine lx (bG jH rfl Rps.t) (mi 0 (ab (aj ?_)))
 refine aR (σ:=Value×(List Pp)×Nat×(List Pp×List (ch Bd))×(Int->Int)×ax) (λ⟨out_v,out,i,pmB,F,gq⟩ f w=>aW w0 gq w/\f 5=v4/\f 7=v16/\f 11=v83/\f 12=out_v/\f 83=ps_v/\f 84=vi (ps.length:Int)/\f 85=vi ↑i/\Sl gq (is 0) w ps_v ps/\gC gq w AR.1 AR.2/\Ow gq (is 1) (is 1) w v4 of1/\Ow gq (is 2) (is 2) w v16 gone/\fi gq 4 w pmB.1 pmB.2/\Mq gq (is 5) w v83 F/\Ow gq (is 9) (is 9) w out_v out/\(i:Int)<=((ps.length:Int):Int)/\(lR (fJ (ps.map (bt AR)) (JV (ps.map (bt AR)) names) i) F out pmB)) (λ⟨out_v,out,i,pmB,F,gq⟩=>Int.toNat (((ps.length:Int):Int)-(i:Int))) (vn,[],0,(([],[]):List Pp×List (ch Bd)),(λ(_:Int)=>(0:Int)),g81) ?_ ?_
 · exact⟨bH.t,zs5,zs7,rfl,rfl,rfl,rfl,rfl,Rps.t,ar_A.t,o6.t,o18.t,pm80.t,m85,Ow.nil,by omega,by exact lR.start⟩
 rintro⟨out_v,out,i,pmB,F,g88⟩ f86 w87 ⟨bH,zs5,zs7,zs11,zs12,zs83,zs84,zs85,Rps,ar_A,o6,o18,pm80,m85,o_out,hle_i,htg⟩ back19
 have hgl:=htg.len
 have hgl2:=tx (V:=(ps.map (bt AR))) (J:=(JV (ps.map (bt AR)) names)) i
 refine a7 (a6 rfl (lx (br (m:=↑i) (n:=(ps.length:Int)) zs85 zs84) (ab (a7 ?_))))
 by_cases p19:(i:Int)<(ps.length:Int)
 ·
  refine ag rfl (dt p19) (am (a7 (aj (a7 ?_))))
  obtain⟨a_,ha_⟩:=hrt i (by omega)
  rw[<-hJ1] at ha_
  obtain⟨hra,hrb⟩:=nT ha_
  have hvi:gI (ps.map (bt AR)) (i:Int)=(lA AR (gI ps ↑i)):=jf (by omega) (by omega)
  obtain⟨hok1,hok2⟩:=hok (gI (ps.map (bt AR)) (i:Int)) (bz (by omega) (by omega))
  rw[hvi] at hok1 hok2
  refine a6 rfl (mz zs85 (lx (ad (v:=ps_v) (i:=↑i) jH rfl zs83 Rps zs85 (by omega) (by omega)) (lx (aw (v:=ps_v) (i:=↑i) aY rfl Rps (by omega) (by omega) (by decide) rfl) (ai (i:Int) (ma (Value.pointer (some ⟨(gI ps ↑i).n,0,none⟩)) (ab (a7 (a6 rfl (mz zs5 (mi ↑i (lo ?_)))))))))))
  refine bI (v:=vi (dm of1 (i:Int))) (aB (vals:=[v4,vi ↑i]) Tryz.func70 gT gV rfl) (fO w87 of1 v4 (o6.flat).ro (i:Int) (by exact hrb) (by exact hob)) ?_
  intro w89 hb90
  replace hb90:=aG hb90 g88
  refine ai (dm of1 (i:Int)) (ab (a7 (a7 ?_)))
  refine kM [false,false,true] (σ:=Value×(List Pp)×(List Pp×List (ch Bd))×(Int->Int)×ax) (λ⟨out2_v,out2,pmC,F2,gq⟩ f w=>aW w0 gq w/\f 5=v4/\f 7=v16/\f 11=v83/\f 12=out2_v/\f 14=Value.pointer (some ⟨(gI ps ↑i).n,0,none⟩)/\f 15=vi (dm of1 (i:Int))/\f 83=ps_v/\f 84=vi (ps.length:Int)/\f 85=vi ↑i/\Sl gq (is 0) w ps_v ps/\gC gq w AR.1 AR.2/\Ow gq (is 1) (is 1) w v4 of1/\Ow gq (is 2) (is 2) w v16 gone/\fi gq 4 w pmC.1 pmC.2/\Mq gq (is 5) w v83 F2/\Ow gq (is 9) (is 9) w out2_v out2/\(Ci (ps.map (bt AR)) (JV (ps.map (bt AR)) names) i (dm of1 (i:Int)) (lA AR (gI ps ↑i)).1 F2 out2 pmC)) ?_ ?_
  ·
   intro mid_j1
   refine a6 rfl (mz zs11 (mi (dm of1 (i:Int)) ?_))
   refine lw ((cA (F (dm of1 (i:Int))))) (bJ (dm of1 (i:Int)) eJ (be U3) aY rfl m85.t rfl rfl rfl) (lw (vb (decide (F (dm of1 (i:Int))=0))) (D3 Gj rfl rfl) (ab ?_))
   by_cases p22:F (dm of1 (i:Int))=0
   ·
    refine ag rfl (dt p22) (a7 (a6 rfl (mz zs11 (mi (dm of1 (i:Int)) (mv (Value.pointer (some ⟨(gI ps ↑i).n,0,none⟩)) (lw (Value.pointer (some ⟨(gI ps ↑i).n,0,none⟩)) (ae rfl) (lx (aa dV rfl rfl rfl rfl) ?_)))))))
    obtain⟨v91,bx92,o93⟩:=gC.gt (u:=(gI ps ↑i)) (ar_A.a hb90) (j:=(AR.1.idxOf (gI ps ↑i))) (by exact fB (hin _ (bz (by omega) (by omega))))
    refine lx (a8 aD rfl bx92 rfl) (lw (vg [vi ((lA AR (gI ps ↑i)).1),vn]) (bn (vs:=[(0,vi ((lA AR (gI ps ↑i)).1))]) rfl (by kernel_rfl)) (lo (bU g88 (is 6) (6,0) rfl rfl ?_)))
    intro g97 w94 b96 ch95 bx98
    refine lo ?_
    refine pM (dm of1 (i:Int)) eJ (be U3) rfl m85.t rfl rfl rfl p22 ?_
    intro w99 ch100 m101
    replace m101:Mq g97 (is 5) w99 v83 (λq=>if q=(dm of1 (i:Int)) then((b96:Nat):Int)+1 else F q):=m101
    refine ab ?_
    obtain⟨g102,ch103,pm104⟩:=fi.add (pm80.a ch100) rfl rfl rfl (bx98.a ch100) (Ow.nil (γ:=g97) (J:=is 7) (S:=is 7))
    replace pm104:fi g102 4 w99 (pmB.1++[(⟨b96⟩:Pp)],pmB.2++[(((lA AR (gI ps ↑i)).1),([]))]).1 (pmB.1++[(⟨b96⟩:Pp)],pmB.2++[(((lA AR (gI ps ↑i)).1),([]))]).2:=pm104
    obtain⟨u,hu⟩:∃u:Pp,u=⟨b96⟩:=⟨_,rfl⟩
    have htm:=htg.new p22 (c:=(lA AR (gI ps ↑i)).1) (b:=⟨b96⟩) (fi.nd ‹_›)
    have hFr:(λq=>if q=dm of1 (i:Int) then((b96:Nat):Int)+1 else F q) (dm of1 (i:Int))=(u.n:Int)+1:=by rw[hu];exact if_pos rfl
    refine a6 rfl (mz zs12 (mz zs11 (mi (dm of1 (i:Int)) ?_)))
    refine lw (vp b96 0) (bJ (dm of1 (i:Int)) eJ (be U3) aY rfl (m101.a ch103) rfl rfl (by show cA (if _=_ then _ else _)=_;rw[if_pos rfl];exact c8 ⟨b96⟩)) (lo (aq (α:=Pp) g102 (is 8) (is 8) (8,0) rfl [(⟨b96⟩:Pp)] jH aY (by decide) (by decide) (vs:=[(0,vp b96 0)]) rfl rfl (.cons rfl .nil) ?_))
    intro g106 w107 v108 ch109 o110
    refine lo ?_
    refine aS (α:=Pp) (xs:=out) (ys:=([(⟨b96⟩:Pp)])) g106 (J:=is 9) (S:=is 9) (9,0) rfl jH aY (by decide) rfl rfl rfl o_out.t o110.flat (by decide) (by(simp;omega)) ?_
    intro g112 w113 v114 ch115 o116
    refine ma v114 (ab (a7 ?_))
    have C118:=cg [5,6,7,9] (ch95.n.seq ((ch100.l rfl).seq ((ch103.l2 rfl rfl).seq (ch109.n.seq (ch115.l rfl)))))
    have C117:=hb90.n.seq C118
    refine mid_j1 (v114,(out++[(⟨b96⟩:Pp)]),(pmB.1++[(⟨b96⟩:Pp)],pmB.2++[(((lA AR (gI ps ↑i)).1),([]))]),(λq=>if q=(dm of1 (i:Int)) then((b96:Nat):Int)+1 else F q),g112) _ _ ⟨bH.t,zs5,zs7,zs11,rfl,rfl,rfl,zs83,zs84,zs85,Rps.t,ar_A.t,o6.t,o18.t,pm104.t,m101.t,o116,?_⟩
    show Ci (ps.map (bt AR)) (JV (ps.map (bt AR)) names) i (dm of1 (i:Int)) (lA AR (gI ps ↑i)).1 (λq=>if q=(dm of1 (i:Int)) then((b96:Nat):Int)+1 else F q) (out++[(⟨b96⟩:Pp)]) (pmB.1++[(⟨b96⟩:Pp)],pmB.2++[(((lA AR (gI ps ↑i)).1),([]))])
    exact Ci.new htg p22 htm hFr (by rw[hu];simp)
   obtain⟨u,hFr,huo⟩:=htg.has p22
   have htm:=htg
   refine af rfl (df p22) (am (a7 ?_))
   refine mid_j1 (out_v,out,pmB,F,g88) _ _ ⟨bH.t,zs5,zs7,zs11,zs12,rfl,rfl,zs83,zs84,zs85,Rps.t,ar_A.t,o6.t,o18.t,pm80.t,m85.t,o_out.t,?_⟩
   show Ci (ps.map (bt AR)) (JV (ps.map (bt AR)) names) i (dm of1 (i:Int)) (lA AR (gI ps ↑i)).1 F out pmB
   exact Ci.old htg hFr huo
  rintro⟨out2_v,out2,pmC,F2,g121⟩ f119 w120 ⟨bH,z122_5,z122_7,z122_11,z122_12,z122_14,z122_15,z122_83,z122_84,z122_85,Rps,ar_A,o6,o18,pm80,m85,o_out2,htj⟩
  obtain⟨G2,u,htm,⟨hFr,huo⟩,hG2⟩:=htj
  have huo2:=htm.sub u huo
  obtain⟨g126,v123,ch127,pm128,bx124,o125⟩:=fi.opn 10 11 (u:=u) pm80 (j:=(pmC.1.idxOf u)) (by exact fB huo2)
  obtain⟨KB,hKB⟩:∃q_,q_=(lA pmC u).1:=⟨_,rfl⟩
  rw[<-hKB] at bx124
  obtain⟨OB0,hOB0⟩:∃q_,q_=(lA pmC u).2:=⟨_,rfl⟩
  rw[<-hOB0] at o125
  have hob0:(OB0.length:Int)<=100000*(i:Int):=by rw[hOB0];exact BG htm huo hG2 hok (by omega)
  refine a6 rfl (mz z122_14 (lw (Value.pointer (some ⟨(gI ps ↑i).n,0,none⟩)) (ae rfl) (lx (aa dV rfl rfl rfl rfl) ?_)))
  obtain⟨v129,bx130,o131⟩:=gC.gt (u:=(gI ps ↑i)) (ar_A.a ch127) (j:=(AR.1.idxOf (gI ps ↑i))) (by exact fB (hin _ (bz (by omega) (by omega))))
  refine lx (a8 bq rfl bx130 rfl) ?_
  have len132:=(o131).small
  refine lx (bG cM rfl o131) (mi 0 (ab (aj ?_)))
  refine aR (σ:=Nat×Value×(List Bd)×ax) (λ⟨m,OB_v,OB,gq⟩ f w=>aW w0 gq w/\f 5=v4/\f 7=v16/\f 11=v83/\f 12=out2_v/\f 15=vi (dm of1 (i:Int))/\f 83=ps_v/\f 84=vi (ps.length:Int)/\f 85=vi ↑i/\f 114=v129/\f 115=vi (List.length ((lA AR (gI ps ↑i)).2):Int)/\f 116=vi ↑m/\Sl gq (is 0) w ps_v ps/\gC gq w AR.1 AR.2/\Ow gq (is 1) (is 1) w v4 of1/\Ow gq (is 2) (is 2) w v16 gone/\Mq gq (is 5) w v83 F2/\Ow gq (is 9) (is 9) w out2_v out2/\dl gq 4 (pmC.1.idxOf u) w pmC.1 pmC.2/\Bx gq (is 10) w u.n [vi KB,OB_v]/\Sl gq (is 0) w v129 ((lA AR (gI ps ↑i)).2)/\Ow gq (is 11) (is 11) w OB_v OB/\(m:Int)<=((List.length ((lA AR (gI ps ↑i)).2):Int):Int)/\(OB=OB0++iO gone ((lA AR (gI ps ↑i)).2.take m))) (λ⟨m,OB_v,OB,gq⟩=>Int.toNat (((List.length ((lA AR (gI ps ↑i)).2):Int):Int)-(m:Int))) (0,v123,OB0,g126) ?_ ?_
  · exact⟨(bH.a ch127),z122_5,z122_7,z122_11,z122_12,z122_15,z122_83,z122_84,z122_85,rfl,rfl,rfl,(Rps.a ch127),(ar_A.a ch127),(o6.a ch127),(o18.a ch127),(m85.a ch127),(o_out2.a ch127),pm128,bx124,o131,o125,by omega,by simp[iO]⟩
  rintro⟨m,OB_v,OB,g135⟩ f133 w134 ⟨bH,zs5,zs7,zs11,zs12,zs15,zs83,zs84,zs85,zs114,zs115,zs116,Rps,ar_A,o6,o18,m85,o_out2,pm128,bx124,o131,o_OB,hle_m,hOB⟩ back26
  have hobl:OB.length<=OB0.length+m:=by rw[hOB,List.length_append];have:=ub (gone:=gone) (l:=(lA AR (gI ps ↑i)).2) (m:=m);omega
  refine a7 (a6 rfl (lx (br (m:=↑m) (n:=(List.length ((lA AR (gI ps ↑i)).2):Int)) zs116 zs115) (ab (a7 ?_))))
  by_cases p26:(m:Int)<(List.length ((lA AR (gI ps ↑i)).2):Int)
  ·
   refine ag rfl (dt p26) ?_
   have hbj:=hok2 (gI (lA AR (gI ps ↑i)).2 (m:Int)) (bz (by omega) ‹_›)
   refine am (a7 (aj (a7 (a6 rfl (lx (ad (v:=v129) (i:=↑m) cM rfl zs114 o131 zs116 (by omega) (by omega)) (lw (vg [vi ((gI ((lA AR (gI ps ↑i)).2) (m:Int)).1),vi (((gI ((lA AR (gI ps ↑i)).2) (m:Int)).2).1),vi ((((gI ((lA AR (gI ps ↑i)).2) (m:Int)).2).2).1),vi ((((gI ((lA AR (gI ps ↑i)).2) (m:Int)).2).2).2)]) (bW (v:=v129) (i:=↑m) bj rfl o131 (by omega) (by omega) rfl) (lo (aZ g135 (is 12) (12,0) rfl bj ?_))))))))
   intro g139 w136 b138 ch137 bx140
   refine lo (aA (cs':=[vi ((gI ((lA AR (gI ps ↑i)).2) (m:Int)).1),vi (((gI ((lA AR (gI ps ↑i)).2) (m:Int)).2).1),vi ((((gI ((lA AR (gI ps ↑i)).2) (m:Int)).2).2).1),vi ((((gI ((lA AR (gI ps ↑i)).2) (m:Int)).2).2).2)]) bj rfl rfl bx140 rfl nq (AllOne.all (.cons rfl (.cons rfl (.cons rfl (.cons rfl .nil))))) rfl ?_)
   intro w141 ch142 bx143
   refine ab (a7 (a6 rfl (lx (av (ds:=[vi ((gI ((lA AR (gI ps ↑i)).2) (m:Int)).1),vi (((gI ((lA AR (gI ps ↑i)).2) (m:Int)).2).1),vi ((((gI ((lA AR (gI ps ↑i)).2) (m:Int)).2).2).1),vi ((((gI ((lA AR (gI ps ↑i)).2) (m:Int)).2).2).2)]) bj rfl bx143 rfl rfl) (lo ?_))))
   refine aV (aB (vals:=[vg [vi ((gI ((lA AR (gI ps ↑i)).2) (m:Int)).1),vi (((gI ((lA AR (gI ps ↑i)).2) (m:Int)).2).1),vi ((((gI ((lA AR (gI ps ↑i)).2) (m:Int)).2).2).1),vi ((((gI ((lA AR (gI ps ↑i)).2) (m:Int)).2).2).2)]]) Tryz.func51 rW s3 rfl) (ah Tryz.func51 rfl nq (a7 (a6 rfl (cy rfl (bU g139 (is 13) (13,0) rfl rfl ?_)))))
   intro g147 w144 b146 ch145 bx148
   refine ma (vb false) (ab (a7 (a6 rfl (lx (aa jg rfl rfl rfl rfl) (lx (a8 aD rfl bx148 rfl) (lx (eL (m:=(((gI ((lA AR (gI ps ↑i)).2) (m:Int)).2).2).1) (n:=0) rfl rfl) (ma (vb (decide (0<=((((gI ((lA AR (gI ps ↑i)).2) (m:Int)).2).2).1)))) (ab (az (vs:=[vb (decide (0<=((((gI ((lA AR (gI ps ↑i)).2) (m:Int)).2).2).1)))]) Tryz.func51 (.tmp rfl .nil) ?_)))))))))
   refine⟨vb (decide (0<=((((gI ((lA AR (gI ps ↑i)).2) (m:Int)).2).2).1))),rfl,?_⟩
   refine mv (vb (decide (0<=((((gI ((lA AR (gI ps ↑i)).2) (m:Int)).2).2).1)))) ?_
   by_cases q122:0<=((((gI ((lA AR (gI ps ↑i)).2) (m:Int)).2).2).1)
   ·
    refine au (wn (dt q122)) (au (wn (dt q122)) (au (wn (dt q122)) (au (wn (dt q122)) (au (wn (dt q122)) (au (wn (dt q122)) (lw (vb true) (bh rfl (dt q122) rfl) (ab (ag rfl rfl ?_))))))))
    refine dD (σ:=Value×ax) (λ⟨v161,gq⟩ f w=>aW w0 gq w/\f 5=v4/\f 7=v16/\f 11=v83/\f 12=out2_v/\f 15=vi (dm of1 (i:Int))/\f 83=ps_v/\f 84=vi (ps.length:Int)/\f 85=vi ↑i/\f 114=v129/\f 115=vi (List.length ((lA AR (gI ps ↑i)).2):Int)/\f 116=vi ↑m/\Sl gq (is 0) w ps_v ps/\gC gq w AR.1 AR.2/\Ow gq (is 1) (is 1) w v4 of1/\Ow gq (is 2) (is 2) w v16 gone/\Mq gq (is 5) w v83 F2/\Ow gq (is 9) (is 9) w out2_v out2/\dl gq 4 (pmC.1.idxOf u) w pmC.1 pmC.2/\Sl gq (is 0) w v129 ((lA AR (gI ps ↑i)).2)/\Ow gq (is 11) (is 11) w v161 (OB++[((gI ((lA AR (gI ps ↑i)).2) (m:Int)).1,((gI ((lA AR (gI ps ↑i)).2) (m:Int)).2).1,(((gI ((lA AR (gI ps ↑i)).2) (m:Int)).2).2).1,(((gI ((lA AR (gI ps ↑i)).2) (m:Int)).2).2).2)])/\Bx gq (is 10) w u.n [vi KB,v161]) g147 (inl [10,11]) lQ ?_ ?_
    ·
     intro mid
     intro w150 ch149
     refine ht (v:=v83) 0 rfl (bg.refl _ _ _) (λw' hw'=>ar zs11) (ht (v:=vi (dm of1 (i:Int))) 1 rfl (bg.refl _ _ _) (λw' hw'=>ar zs15) (ht (v:=v83) 3 rfl (bg.refl _ _ _) (λw' hw'=>ar zs11) (ht (v:=vi (dm of1 (i:Int))) 4 rfl (bg.refl _ _ _) (λw' hw'=>ar zs15) ?_)))
     refine ht 9 rfl (bg.refl _ _ _) (λw' hw'=>av (ds:=[vi ((gI ((lA AR (gI ps ↑i)).2) (m:Int)).1),vi (((gI ((lA AR (gI ps ↑i)).2) (m:Int)).2).1),vi ((((gI ((lA AR (gI ps ↑i)).2) (m:Int)).2).2).1),vi ((((gI ((lA AR (gI ps ↑i)).2) (m:Int)).2).2).2)]) bj rfl bx143.t rfl rfl) ?_
     refine cj 2 [5,10] (by kernel_rfl) ⟨ca 2 rfl (by kernel_rfl) rfl ?_,ca 5 rfl (by kernel_rfl) rfl ?_,ca 10 rfl (by kernel_rfl) rfl ?_,trivial⟩
     ·
      refine ao (v:=Value.pointer (some ⟨u.n,0,none⟩)) (bJ (dm of1 (i:Int)) eJ (be U3) aY rfl m85.t rfl rfl (by exact(congrArg cA hFr).trans (c8 u))) ?_
      refine⟨(bg.refl _ _ _),?_⟩
      refine cj 5 [10] (by kernel_rfl) ⟨ca 5 rfl (by kernel_rfl) rfl ?_,ca 10 rfl (by kernel_rfl) rfl ?_,trivial⟩
      ·
       refine ao (v:=Value.pointer (some ⟨u.n,0,none⟩)) (bJ (dm of1 (i:Int)) eJ (be U3) aY rfl m85.t rfl rfl (by exact(congrArg cA hFr).trans (c8 u))) ?_
       refine⟨(bg.refl _ _ _),?_⟩
       refine ht (v:=Value.pointer (some ⟨u.n,0,none⟩)) 6 rfl (bg.refl _ _ _) (λw' hw'=>ae rfl) (ht 7 rfl (bg.refl _ _ _) (λw' hw'=>aa dV rfl rfl rfl rfl) ?_)
       refine cj 8 [10] (by kernel_rfl) ⟨ca 8 rfl (by kernel_rfl) rfl ?_,ca 10 rfl (by kernel_rfl) rfl ?_,trivial⟩
       ·
        refine ao (v:=OB_v) (a8 bq rfl bx124.t rfl) ?_
        refine⟨(bg.refl _ _ _),?_⟩
        refine bY 10 rfl ?_
        refine aq (α:=Bd) g147 (is 14) (is 14) (14,0) rfl [((gI ((lA AR (gI ps ↑i)).2) (m:Int)).1,((gI ((lA AR (gI ps ↑i)).2) (m:Int)).2).1,(((gI ((lA AR (gI ps ↑i)).2) (m:Int)).2).2).1,(((gI ((lA AR (gI ps ↑i)).2) (m:Int)).2).2).2)] cM bj (by decide) (by decide) (vs:=[(0,vg [vi ((gI ((lA AR (gI ps ↑i)).2) (m:Int)).1),vi (((gI ((lA AR (gI ps ↑i)).2) (m:Int)).2).1),vi ((((gI ((lA AR (gI ps ↑i)).2) (m:Int)).2).2).1),vi ((((gI ((lA AR (gI ps ↑i)).2) (m:Int)).2).2).2)])]) rfl rfl (.cons rfl .nil) ?_
        intro g152 w153 v154 ch155 o156
        have hs157:bg (inl [10,11]) _ _ _ _:=ch155.n
        refine⟨hs157.same,?_⟩
        refine bY 11 rfl ?_
        refine iJ o_OB.t o156.flat cM bj (by(simp;omega)) ?_
        intro g159 w160 v161 ch162 o163
        have hs164:=hs157.seq (ch162.l rfl)
        refine⟨hs164.same,?_⟩
        refine ht (v:=Value.pointer (some ⟨u.n,0,none⟩)) 12 rfl hs164.same (λw' hw'=>ae rfl) (ht 13 rfl hs164.same (λw' hw'=>aa dV rfl rfl rfl rfl) (bY 14 rfl ?_))
        refine aC (cs':=[vi KB,v161]) bq rfl rfl bx124.t (aL o163.flat) nq (aM o163.flat) rfl ?_
        intro w165 ch166 bx167
        have hs168:=hs164.seq (ch166.l rfl)
        refine⟨hs168.same,?_⟩
        refine ce (by kernel_rfl) ?_
        exact mid (v161,g159) _ _ ⟨bH.t,zs5,zs7,zs11,zs12,zs15,zs83,zs84,zs85,zs114,zs115,zs116,Rps.t,ar_A.t,o6.t,o18.t,m85.t,o_out2.t,pm128.t,o131.t,o163.t,bx167⟩
       ·
        refine aq (α:=Bd) g147 (is 14) (is 14) (14,0) rfl [((gI ((lA AR (gI ps ↑i)).2) (m:Int)).1,((gI ((lA AR (gI ps ↑i)).2) (m:Int)).2).1,(((gI ((lA AR (gI ps ↑i)).2) (m:Int)).2).2).1,(((gI ((lA AR (gI ps ↑i)).2) (m:Int)).2).2).2)] cM bj (by decide) (by decide) (vs:=[(0,vg [vi ((gI ((lA AR (gI ps ↑i)).2) (m:Int)).1),vi (((gI ((lA AR (gI ps ↑i)).2) (m:Int)).2).1),vi ((((gI ((lA AR (gI ps ↑i)).2) (m:Int)).2).2).1),vi ((((gI ((lA AR (gI ps ↑i)).2) (m:Int)).2).2).2)])]) rfl rfl (.cons rfl .nil) ?_
        intro g170 w171 v172 ch173 o174
        have hs175:bg (inl [10,11]) _ _ _ _:=ch173.n
        refine⟨hs175.same,?_⟩
        refine bY 8 rfl ?_
        refine ao (v:=OB_v) (a8 bq rfl bx124.t rfl) ?_
        refine⟨hs175.same,?_⟩
        refine bY 11 rfl ?_
        refine iJ o_OB.t o174.flat cM bj (by(simp;omega)) ?_
        intro g177 w178 v179 ch180 o181
        have hs182:=hs175.seq (ch180.l rfl)
        refine⟨hs182.same,?_⟩
        refine ht (v:=Value.pointer (some ⟨u.n,0,none⟩)) 12 rfl hs182.same (λw' hw'=>ae rfl) (ht 13 rfl hs182.same (λw' hw'=>aa dV rfl rfl rfl rfl) (bY 14 rfl ?_))
        refine aC (cs':=[vi KB,v179]) bq rfl rfl bx124.t (aL o181.flat) nq (aM o181.flat) rfl ?_
        intro w183 ch184 bx185
        have hs186:=hs182.seq (ch184.l rfl)
        refine⟨hs186.same,?_⟩
        refine ce (by kernel_rfl) ?_
        exact mid (v179,g177) _ _ ⟨bH.t,zs5,zs7,zs11,zs12,zs15,zs83,zs84,zs85,zs114,zs115,zs116,Rps.t,ar_A.t,o6.t,o18.t,m85.t,o_out2.t,pm128.t,o131.t,o181.t,bx185⟩
      ·
       refine aq (α:=Bd) g147 (is 14) (is 14) (14,0) rfl [((gI ((lA AR (gI ps ↑i)).2) (m:Int)).1,((gI ((lA AR (gI ps ↑i)).2) (m:Int)).2).1,(((gI ((lA AR (gI ps ↑i)).2) (m:Int)).2).2).1,(((gI ((lA AR (gI ps ↑i)).2) (m:Int)).2).2).2)] cM bj (by decide) (by decide) (vs:=[(0,vg [vi ((gI ((lA AR (gI ps ↑i)).2) (m:Int)).1),vi (((gI ((lA AR (gI ps ↑i)).2) (m:Int)).2).1),vi ((((gI ((lA AR (gI ps ↑i)).2) (m:Int)).2).2).1),vi ((((gI ((lA AR (gI ps ↑i)).2) (m:Int)).2).2).2)])]) rfl rfl (.cons rfl .nil) ?_
       intro g188 w189 v190 ch191 o192
       have hs193:bg (inl [10,11]) _ _ _ _:=ch191.n
       refine⟨hs193.same,?_⟩
       refine bY 5 rfl (ao (v:=Value.pointer (some ⟨u.n,0,none⟩)) (bJ (dm of1 (i:Int)) eJ (be U3) aY rfl m85.t rfl rfl (by exact(congrArg cA hFr).trans (c8 u))) ?_)
       refine⟨hs193.same,?_⟩
       refine ht (v:=Value.pointer (some ⟨u.n,0,none⟩)) 6 rfl hs193.same (λw' hw'=>ae rfl) (ht 7 rfl hs193.same (λw' hw'=>aa dV rfl rfl rfl rfl) (bY 8 rfl ?_))
       refine ao (v:=OB_v) (a8 bq rfl bx124.t rfl) ?_
       refine⟨hs193.same,?_⟩
       refine bY 11 rfl ?_
       refine iJ o_OB.t o192.flat cM bj (by(simp;omega)) ?_
       intro g195 w196 v197 ch198 o199
       have hs200:=hs193.seq (ch198.l rfl)
       refine⟨hs200.same,?_⟩
       refine ht (v:=Value.pointer (some ⟨u.n,0,none⟩)) 12 rfl hs200.same (λw' hw'=>ae rfl) (ht 13 rfl hs200.same (λw' hw'=>aa dV rfl rfl rfl rfl) (bY 14 rfl ?_))
       refine aC (cs':=[vi KB,v197]) bq rfl rfl bx124.t (aL o199.flat) nq (aM o199.flat) rfl ?_
       intro w201 ch202 bx203
       have hs204:=hs200.seq (ch202.l rfl)
       refine⟨hs204.same,?_⟩
       refine ce (by kernel_rfl) ?_
       exact mid (v197,g195) _ _ ⟨bH.t,zs5,zs7,zs11,zs12,zs15,zs83,zs84,zs85,zs114,zs115,zs116,Rps.t,ar_A.t,o6.t,o18.t,m85.t,o_out2.t,pm128.t,o131.t,o199.t,bx203⟩
     ·
      refine ao (v:=Value.pointer (some ⟨u.n,0,none⟩)) (bJ (dm of1 (i:Int)) eJ (be U3) aY rfl m85.t rfl rfl (by exact(congrArg cA hFr).trans (c8 u))) ?_
      refine⟨(bg.refl _ _ _),?_⟩
      refine ht (v:=Value.pointer (some ⟨u.n,0,none⟩)) 6 rfl (bg.refl _ _ _) (λw' hw'=>ae rfl) (ht 7 rfl (bg.refl _ _ _) (λw' hw'=>aa dV rfl rfl rfl rfl) ?_)
      refine cj 2 [8,10] (by kernel_rfl) ⟨ca 2 rfl (by kernel_rfl) rfl ?_,ca 8 rfl (by kernel_rfl) rfl ?_,ca 10 rfl (by kernel_rfl) rfl ?_,trivial⟩
      ·
       refine ao (v:=Value.pointer (some ⟨u.n,0,none⟩)) (bJ (dm of1 (i:Int)) eJ (be U3) aY rfl m85.t rfl rfl (by exact(congrArg cA hFr).trans (c8 u))) ?_
       refine⟨(bg.refl _ _ _),?_⟩
       refine cj 8 [10] (by kernel_rfl) ⟨ca 8 rfl (by kernel_rfl) rfl ?_,ca 10 rfl (by kernel_rfl) rfl ?_,trivial⟩
       ·
        refine ao (v:=OB_v) (a8 bq rfl bx124.t rfl) ?_
        refine⟨(bg.refl _ _ _),?_⟩
        refine bY 10 rfl ?_
        refine aq (α:=Bd) g147 (is 14) (is 14) (14,0) rfl [((gI ((lA AR (gI ps ↑i)).2) (m:Int)).1,((gI ((lA AR (gI ps ↑i)).2) (m:Int)).2).1,(((gI ((lA AR (gI ps ↑i)).2) (m:Int)).2).2).1,(((gI ((lA AR (gI ps ↑i)).2) (m:Int)).2).2).2)] cM bj (by decide) (by decide) (vs:=[(0,vg [vi ((gI ((lA AR (gI ps ↑i)).2) (m:Int)).1),vi (((gI ((lA AR (gI ps ↑i)).2) (m:Int)).2).1),vi ((((gI ((lA AR (gI ps ↑i)).2) (m:Int)).2).2).1),vi ((((gI ((lA AR (gI ps ↑i)).2) (m:Int)).2).2).2)])]) rfl rfl (.cons rfl .nil) ?_
        intro g207 w208 v209 ch210 o211
        have hs212:bg (inl [10,11]) _ _ _ _:=ch210.n
        refine⟨hs212.same,?_⟩
        refine bY 11 rfl ?_
        refine iJ o_OB.t o211.flat cM bj (by(simp;omega)) ?_
        intro g214 w215 v216 ch217 o218
        have hs219:=hs212.seq (ch217.l rfl)
        refine⟨hs219.same,?_⟩
        refine ht (v:=Value.pointer (some ⟨u.n,0,none⟩)) 12 rfl hs219.same (λw' hw'=>ae rfl) (ht 13 rfl hs219.same (λw' hw'=>aa dV rfl rfl rfl rfl) (bY 14 rfl ?_))
        refine aC (cs':=[vi KB,v216]) bq rfl rfl bx124.t (aL o218.flat) nq (aM o218.flat) rfl ?_
        intro w220 ch221 bx222
        have hs223:=hs219.seq (ch221.l rfl)
        refine⟨hs223.same,?_⟩
        refine ce (by kernel_rfl) ?_
        exact mid (v216,g214) _ _ ⟨bH.t,zs5,zs7,zs11,zs12,zs15,zs83,zs84,zs85,zs114,zs115,zs116,Rps.t,ar_A.t,o6.t,o18.t,m85.t,o_out2.t,pm128.t,o131.t,o218.t,bx222⟩
       ·
        refine aq (α:=Bd) g147 (is 14) (is 14) (14,0) rfl [((gI ((lA AR (gI ps ↑i)).2) (m:Int)).1,((gI ((lA AR (gI ps ↑i)).2) (m:Int)).2).1,(((gI ((lA AR (gI ps ↑i)).2) (m:Int)).2).2).1,(((gI ((lA AR (gI ps ↑i)).2) (m:Int)).2).2).2)] cM bj (by decide) (by decide) (vs:=[(0,vg [vi ((gI ((lA AR (gI ps ↑i)).2) (m:Int)).1),vi (((gI ((lA AR (gI ps ↑i)).2) (m:Int)).2).1),vi ((((gI ((lA AR (gI ps ↑i)).2) (m:Int)).2).2).1),vi ((((gI ((lA AR (gI ps ↑i)).2) (m:Int)).2).2).2)])]) rfl rfl (.cons rfl .nil) ?_
        intro g225 w226 v227 ch228 o229
        have hs230:bg (inl [10,11]) _ _ _ _:=ch228.n
        refine⟨hs230.same,?_⟩
        refine bY 8 rfl ?_
        refine ao (v:=OB_v) (a8 bq rfl bx124.t rfl) ?_
        refine⟨hs230.same,?_⟩
        refine bY 11 rfl ?_
        refine iJ o_OB.t o229.flat cM bj (by(simp;omega)) ?_
        intro g232 w233 v234 ch235 o236
        have hs237:=hs230.seq (ch235.l rfl)
        refine⟨hs237.same,?_⟩
        refine ht (v:=Value.pointer (some ⟨u.n,0,none⟩)) 12 rfl hs237.same (λw' hw'=>ae rfl) (ht 13 rfl hs237.same (λw' hw'=>aa dV rfl rfl rfl rfl) (bY 14 rfl ?_))
        refine aC (cs':=[vi KB,v234]) bq rfl rfl bx124.t (aL o236.flat) nq (aM o236.flat) rfl ?_
        intro w238 ch239 bx240
        have hs241:=hs237.seq (ch239.l rfl)
        refine⟨hs241.same,?_⟩
        refine ce (by kernel_rfl) ?_
        exact mid (v234,g232) _ _ ⟨bH.t,zs5,zs7,zs11,zs12,zs15,zs83,zs84,zs85,zs114,zs115,zs116,Rps.t,ar_A.t,o6.t,o18.t,m85.t,o_out2.t,pm128.t,o131.t,o236.t,bx240⟩
      ·
       refine ao (v:=OB_v) (a8 bq rfl bx124.t rfl) ?_
       refine⟨(bg.refl _ _ _),?_⟩
       refine cj 2 [10] (by kernel_rfl) ⟨ca 2 rfl (by kernel_rfl) rfl ?_,ca 10 rfl (by kernel_rfl) rfl ?_,trivial⟩
       ·
        refine ao (v:=Value.pointer (some ⟨u.n,0,none⟩)) (bJ (dm of1 (i:Int)) eJ (be U3) aY rfl m85.t rfl rfl (by exact(congrArg cA hFr).trans (c8 u))) ?_
        refine⟨(bg.refl _ _ _),?_⟩
        refine bY 10 rfl ?_
        refine aq (α:=Bd) g147 (is 14) (is 14) (14,0) rfl [((gI ((lA AR (gI ps ↑i)).2) (m:Int)).1,((gI ((lA AR (gI ps ↑i)).2) (m:Int)).2).1,(((gI ((lA AR (gI ps ↑i)).2) (m:Int)).2).2).1,(((gI ((lA AR (gI ps ↑i)).2) (m:Int)).2).2).2)] cM bj (by decide) (by decide) (vs:=[(0,vg [vi ((gI ((lA AR (gI ps ↑i)).2) (m:Int)).1),vi (((gI ((lA AR (gI ps ↑i)).2) (m:Int)).2).1),vi ((((gI ((lA AR (gI ps ↑i)).2) (m:Int)).2).2).1),vi ((((gI ((lA AR (gI ps ↑i)).2) (m:Int)).2).2).2)])]) rfl rfl (.cons rfl .nil) ?_
        intro g243 w244 v245 ch246 o247
        have hs248:bg (inl [10,11]) _ _ _ _:=ch246.n
        refine⟨hs248.same,?_⟩
        refine bY 11 rfl ?_
        refine iJ o_OB.t o247.flat cM bj (by(simp;omega)) ?_
        intro g250 w251 v252 ch253 o254
        have hs255:=hs248.seq (ch253.l rfl)
        refine⟨hs255.same,?_⟩
        refine ht (v:=Value.pointer (some ⟨u.n,0,none⟩)) 12 rfl hs255.same (λw' hw'=>ae rfl) (ht 13 rfl hs255.same (λw' hw'=>aa dV rfl rfl rfl rfl) (bY 14 rfl ?_))
        refine aC (cs':=[vi KB,v252]) bq rfl rfl bx124.t (aL o254.flat) nq (aM o254.flat) rfl ?_
        intro w256 ch257 bx258
        have hs259:=hs255.seq (ch257.l rfl)
        refine⟨hs259.same,?_⟩
        refine ce (by kernel_rfl) ?_
        exact mid (v252,g250) _ _ ⟨bH.t,zs5,zs7,zs11,zs12,zs15,zs83,zs84,zs85,zs114,zs115,zs116,Rps.t,ar_A.t,o6.t,o18.t,m85.t,o_out2.t,pm128.t,o131.t,o254.t,bx258⟩
       ·
        refine aq (α:=Bd) g147 (is 14) (is 14) (14,0) rfl [((gI ((lA AR (gI ps ↑i)).2) (m:Int)).1,((gI ((lA AR (gI ps ↑i)).2) (m:Int)).2).1,(((gI ((lA AR (gI ps ↑i)).2) (m:Int)).2).2).1,(((gI ((lA AR (gI ps ↑i)).2) (m:Int)).2).2).2)] cM bj (by decide) (by decide) (vs:=[(0,vg [vi ((gI ((lA AR (gI ps ↑i)).2) (m:Int)).1),vi (((gI ((lA AR (gI ps ↑i)).2) (m:Int)).2).1),vi ((((gI ((lA AR (gI ps ↑i)).2) (m:Int)).2).2).1),vi ((((gI ((lA AR (gI ps ↑i)).2) (m:Int)).2).2).2)])]) rfl rfl (.cons rfl .nil) ?_
        intro g261 w262 v263 ch264 o265
        have hs266:bg (inl [10,11]) _ _ _ _:=ch264.n
        refine⟨hs266.same,?_⟩
        refine cj 2 [11] (by kernel_rfl) ⟨ca 2 rfl (by kernel_rfl) rfl ?_,ca 11 rfl (by kernel_rfl) rfl ?_,trivial⟩
        ·
         refine ao (v:=Value.pointer (some ⟨u.n,0,none⟩)) (bJ (dm of1 (i:Int)) eJ (be U3) aY rfl m85.t rfl rfl (by exact(congrArg cA hFr).trans (c8 u))) ?_
         refine⟨hs266.same,?_⟩
         refine bY 11 rfl ?_
         refine iJ o_OB.t o265.flat cM bj (by(simp;omega)) ?_
         intro g268 w269 v270 ch271 o272
         have hs273:=hs266.seq (ch271.l rfl)
         refine⟨hs273.same,?_⟩
         refine ht (v:=Value.pointer (some ⟨u.n,0,none⟩)) 12 rfl hs273.same (λw' hw'=>ae rfl) (ht 13 rfl hs273.same (λw' hw'=>aa dV rfl rfl rfl rfl) (bY 14 rfl ?_))
         refine aC (cs':=[vi KB,v270]) bq rfl rfl bx124.t (aL o272.flat) nq (aM o272.flat) rfl ?_
         intro w274 ch275 bx276
         have hs277:=hs273.seq (ch275.l rfl)
         refine⟨hs277.same,?_⟩
         refine ce (by kernel_rfl) ?_
         exact mid (v270,g268) _ _ ⟨bH.t,zs5,zs7,zs11,zs12,zs15,zs83,zs84,zs85,zs114,zs115,zs116,Rps.t,ar_A.t,o6.t,o18.t,m85.t,o_out2.t,pm128.t,o131.t,o272.t,bx276⟩
        ·
         refine iJ o_OB.t o265.flat cM bj (by(simp;omega)) ?_
         intro g280 w281 v282 ch283 o284
         have hs285:=hs266.seq (ch283.l rfl)
         refine⟨hs285.same,?_⟩
         refine bY 2 rfl (ao (v:=Value.pointer (some ⟨u.n,0,none⟩)) (bJ (dm of1 (i:Int)) eJ (be U3) aY rfl m85.t rfl rfl (by exact(congrArg cA hFr).trans (c8 u))) ?_)
         refine⟨hs285.same,?_⟩
         refine ht (v:=Value.pointer (some ⟨u.n,0,none⟩)) 12 rfl hs285.same (λw' hw'=>ae rfl) (ht 13 rfl hs285.same (λw' hw'=>aa dV rfl rfl rfl rfl) (bY 14 rfl ?_))
         refine aC (cs':=[vi KB,v282]) bq rfl rfl bx124.t (aL o284.flat) nq (aM o284.flat) rfl ?_
         intro w286 ch287 bx288
         have hs289:=hs285.seq (ch287.l rfl)
         refine⟨hs289.same,?_⟩
         refine ce (by kernel_rfl) ?_
         exact mid (v282,g280) _ _ ⟨bH.t,zs5,zs7,zs11,zs12,zs15,zs83,zs84,zs85,zs114,zs115,zs116,Rps.t,ar_A.t,o6.t,o18.t,m85.t,o_out2.t,pm128.t,o131.t,o284.t,bx288⟩
      ·
       refine aq (α:=Bd) g147 (is 14) (is 14) (14,0) rfl [((gI ((lA AR (gI ps ↑i)).2) (m:Int)).1,((gI ((lA AR (gI ps ↑i)).2) (m:Int)).2).1,(((gI ((lA AR (gI ps ↑i)).2) (m:Int)).2).2).1,(((gI ((lA AR (gI ps ↑i)).2) (m:Int)).2).2).2)] cM bj (by decide) (by decide) (vs:=[(0,vg [vi ((gI ((lA AR (gI ps ↑i)).2) (m:Int)).1),vi (((gI ((lA AR (gI ps ↑i)).2) (m:Int)).2).1),vi ((((gI ((lA AR (gI ps ↑i)).2) (m:Int)).2).2).1),vi ((((gI ((lA AR (gI ps ↑i)).2) (m:Int)).2).2).2)])]) rfl rfl (.cons rfl .nil) ?_
       intro g291 w292 v293 ch294 o295
       have hs296:bg (inl [10,11]) _ _ _ _:=ch294.n
       refine⟨hs296.same,?_⟩
       refine cj 2 [8] (by kernel_rfl) ⟨ca 2 rfl (by kernel_rfl) rfl ?_,ca 8 rfl (by kernel_rfl) rfl ?_,trivial⟩
       ·
        refine ao (v:=Value.pointer (some ⟨u.n,0,none⟩)) (bJ (dm of1 (i:Int)) eJ (be U3) aY rfl m85.t rfl rfl (by exact(congrArg cA hFr).trans (c8 u))) ?_
        refine⟨hs296.same,?_⟩
        refine bY 8 rfl ?_
        refine ao (v:=OB_v) (a8 bq rfl bx124.t rfl) ?_
        refine⟨hs296.same,?_⟩
        refine bY 11 rfl ?_
        refine iJ o_OB.t o295.flat cM bj (by(simp;omega)) ?_
        intro g298 w299 v300 ch301 o302
        have hs303:=hs296.seq (ch301.l rfl)
        refine⟨hs303.same,?_⟩
        refine ht (v:=Value.pointer (some ⟨u.n,0,none⟩)) 12 rfl hs303.same (λw' hw'=>ae rfl) (ht 13 rfl hs303.same (λw' hw'=>aa dV rfl rfl rfl rfl) (bY 14 rfl ?_))
        refine aC (cs':=[vi KB,v300]) bq rfl rfl bx124.t (aL o302.flat) nq (aM o302.flat) rfl ?_
        intro w304 ch305 bx306
        have hs307:=hs303.seq (ch305.l rfl)
        refine⟨hs307.same,?_⟩
        refine ce (by kernel_rfl) ?_
        exact mid (v300,g298) _ _ ⟨bH.t,zs5,zs7,zs11,zs12,zs15,zs83,zs84,zs85,zs114,zs115,zs116,Rps.t,ar_A.t,o6.t,o18.t,m85.t,o_out2.t,pm128.t,o131.t,o302.t,bx306⟩
       ·
        refine ao (v:=OB_v) (a8 bq rfl bx124.t rfl) ?_
        refine⟨hs296.same,?_⟩
        refine cj 2 [11] (by kernel_rfl) ⟨ca 2 rfl (by kernel_rfl) rfl ?_,ca 11 rfl (by kernel_rfl) rfl ?_,trivial⟩
        ·
         refine ao (v:=Value.pointer (some ⟨u.n,0,none⟩)) (bJ (dm of1 (i:Int)) eJ (be U3) aY rfl m85.t rfl rfl (by exact(congrArg cA hFr).trans (c8 u))) ?_
         refine⟨hs296.same,?_⟩
         refine bY 11 rfl ?_
         refine iJ o_OB.t o295.flat cM bj (by(simp;omega)) ?_
         intro g310 w311 v312 ch313 o314
         have hs315:=hs296.seq (ch313.l rfl)
         refine⟨hs315.same,?_⟩
         refine ht (v:=Value.pointer (some ⟨u.n,0,none⟩)) 12 rfl hs315.same (λw' hw'=>ae rfl) (ht 13 rfl hs315.same (λw' hw'=>aa dV rfl rfl rfl rfl) (bY 14 rfl ?_))
         refine aC (cs':=[vi KB,v312]) bq rfl rfl bx124.t (aL o314.flat) nq (aM o314.flat) rfl ?_
         intro w316 ch317 bx318
         have hs319:=hs315.seq (ch317.l rfl)
         refine⟨hs319.same,?_⟩
         refine ce (by kernel_rfl) ?_
         exact mid (v312,g310) _ _ ⟨bH.t,zs5,zs7,zs11,zs12,zs15,zs83,zs84,zs85,zs114,zs115,zs116,Rps.t,ar_A.t,o6.t,o18.t,m85.t,o_out2.t,pm128.t,o131.t,o314.t,bx318⟩
        ·
         refine iJ o_OB.t o295.flat cM bj (by(simp;omega)) ?_
         intro g321 w322 v323 ch324 o325
         have hs326:=hs296.seq (ch324.l rfl)
         refine⟨hs326.same,?_⟩
         refine bY 2 rfl (ao (v:=Value.pointer (some ⟨u.n,0,none⟩)) (bJ (dm of1 (i:Int)) eJ (be U3) aY rfl m85.t rfl rfl (by exact(congrArg cA hFr).trans (c8 u))) ?_)
         refine⟨hs326.same,?_⟩
         refine ht (v:=Value.pointer (some ⟨u.n,0,none⟩)) 12 rfl hs326.same (λw' hw'=>ae rfl) (ht 13 rfl hs326.same (λw' hw'=>aa dV rfl rfl rfl rfl) (bY 14 rfl ?_))
         refine aC (cs':=[vi KB,v323]) bq rfl rfl bx124.t (aL o325.flat) nq (aM o325.flat) rfl ?_
         intro w327 ch328 bx329
         have hs330:=hs326.seq (ch328.l rfl)
         refine⟨hs330.same,?_⟩
         refine ce (by kernel_rfl) ?_
         exact mid (v323,g321) _ _ ⟨bH.t,zs5,zs7,zs11,zs12,zs15,zs83,zs84,zs85,zs114,zs115,zs116,Rps.t,ar_A.t,o6.t,o18.t,m85.t,o_out2.t,pm128.t,o131.t,o325.t,bx329⟩
     ·
      refine aq (α:=Bd) g147 (is 14) (is 14) (14,0) rfl [((gI ((lA AR (gI ps ↑i)).2) (m:Int)).1,((gI ((lA AR (gI ps ↑i)).2) (m:Int)).2).1,(((gI ((lA AR (gI ps ↑i)).2) (m:Int)).2).2).1,(((gI ((lA AR (gI ps ↑i)).2) (m:Int)).2).2).2)] cM bj (by decide) (by decide) (vs:=[(0,vg [vi ((gI ((lA AR (gI ps ↑i)).2) (m:Int)).1),vi (((gI ((lA AR (gI ps ↑i)).2) (m:Int)).2).1),vi ((((gI ((lA AR (gI ps ↑i)).2) (m:Int)).2).2).1),vi ((((gI ((lA AR (gI ps ↑i)).2) (m:Int)).2).2).2)])]) rfl rfl (.cons rfl .nil) ?_
      intro g332 w333 v334 ch335 o336
      have hs337:bg (inl [10,11]) _ _ _ _:=ch335.n
      refine⟨hs337.same,?_⟩
      refine cj 2 [5] (by kernel_rfl) ⟨ca 2 rfl (by kernel_rfl) rfl ?_,ca 5 rfl (by kernel_rfl) rfl ?_,trivial⟩
      ·
       refine ao (v:=Value.pointer (some ⟨u.n,0,none⟩)) (bJ (dm of1 (i:Int)) eJ (be U3) aY rfl m85.t rfl rfl (by exact(congrArg cA hFr).trans (c8 u))) ?_
       refine⟨hs337.same,?_⟩
       refine bY 5 rfl (ao (v:=Value.pointer (some ⟨u.n,0,none⟩)) (bJ (dm of1 (i:Int)) eJ (be U3) aY rfl m85.t rfl rfl (by exact(congrArg cA hFr).trans (c8 u))) ?_)
       refine⟨hs337.same,?_⟩
       refine ht (v:=Value.pointer (some ⟨u.n,0,none⟩)) 6 rfl hs337.same (λw' hw'=>ae rfl) (ht 7 rfl hs337.same (λw' hw'=>aa dV rfl rfl rfl rfl) (bY 8 rfl ?_))
       refine ao (v:=OB_v) (a8 bq rfl bx124.t rfl) ?_
       refine⟨hs337.same,?_⟩
       refine bY 11 rfl ?_
       refine iJ o_OB.t o336.flat cM bj (by(simp;omega)) ?_
       intro g340 w341 v342 ch343 o344
       have hs345:=hs337.seq (ch343.l rfl)
       refine⟨hs345.same,?_⟩
       refine ht (v:=Value.pointer (some ⟨u.n,0,none⟩)) 12 rfl hs345.same (λw' hw'=>ae rfl) (ht 13 rfl hs345.same (λw' hw'=>aa dV rfl rfl rfl rfl) (bY 14 rfl ?_))
       refine aC (cs':=[vi KB,v342]) bq rfl rfl bx124.t (aL o344.flat) nq (aM o344.flat) rfl ?_
       intro w346 ch347 bx348
       have hs349:=hs345.seq (ch347.l rfl)
       refine⟨hs349.same,?_⟩
       refine ce (by kernel_rfl) ?_
       exact mid (v342,g340) _ _ ⟨bH.t,zs5,zs7,zs11,zs12,zs15,zs83,zs84,zs85,zs114,zs115,zs116,Rps.t,ar_A.t,o6.t,o18.t,m85.t,o_out2.t,pm128.t,o131.t,o344.t,bx348⟩
      ·
       refine ao (v:=Value.pointer (some ⟨u.n,0,none⟩)) (bJ (dm of1 (i:Int)) eJ (be U3) aY rfl m85.t rfl rfl (by exact(congrArg cA hFr).trans (c8 u))) ?_
       refine⟨hs337.same,?_⟩
       refine ht (v:=Value.pointer (some ⟨u.n,0,none⟩)) 6 rfl hs337.same (λw' hw'=>ae rfl) (ht 7 rfl hs337.same (λw' hw'=>aa dV rfl rfl rfl rfl) ?_)
       refine cj 2 [8] (by kernel_rfl) ⟨ca 2 rfl (by kernel_rfl) rfl ?_,ca 8 rfl (by kernel_rfl) rfl ?_,trivial⟩
       ·
        refine ao (v:=Value.pointer (some ⟨u.n,0,none⟩)) (bJ (dm of1 (i:Int)) eJ (be U3) aY rfl m85.t rfl rfl (by exact(congrArg cA hFr).trans (c8 u))) ?_
        refine⟨hs337.same,?_⟩
        refine bY 8 rfl ?_
        refine ao (v:=OB_v) (a8 bq rfl bx124.t rfl) ?_
        refine⟨hs337.same,?_⟩
        refine bY 11 rfl ?_
        refine iJ o_OB.t o336.flat cM bj (by(simp;omega)) ?_
        intro g353 w354 v355 ch356 o357
        have hs358:=hs337.seq (ch356.l rfl)
        refine⟨hs358.same,?_⟩
        refine ht (v:=Value.pointer (some ⟨u.n,0,none⟩)) 12 rfl hs358.same (λw' hw'=>ae rfl) (ht 13 rfl hs358.same (λw' hw'=>aa dV rfl rfl rfl rfl) (bY 14 rfl ?_))
        refine aC (cs':=[vi KB,v355]) bq rfl rfl bx124.t (aL o357.flat) nq (aM o357.flat) rfl ?_
        intro w359 ch360 bx361
        have hs362:=hs358.seq (ch360.l rfl)
        refine⟨hs362.same,?_⟩
        refine ce (by kernel_rfl) ?_
        exact mid (v355,g353) _ _ ⟨bH.t,zs5,zs7,zs11,zs12,zs15,zs83,zs84,zs85,zs114,zs115,zs116,Rps.t,ar_A.t,o6.t,o18.t,m85.t,o_out2.t,pm128.t,o131.t,o357.t,bx361⟩
       ·
        refine ao (v:=OB_v) (a8 bq rfl bx124.t rfl) ?_
        refine⟨hs337.same,?_⟩
        refine cj 2 [11] (by kernel_rfl) ⟨ca 2 rfl (by kernel_rfl) rfl ?_,ca 11 rfl (by kernel_rfl) rfl ?_,trivial⟩
        ·
         refine ao (v:=Value.pointer (some ⟨u.n,0,none⟩)) (bJ (dm of1 (i:Int)) eJ (be U3) aY rfl m85.t rfl rfl (by exact(congrArg cA hFr).trans (c8 u))) ?_
         refine⟨hs337.same,?_⟩
         refine bY 11 rfl ?_
         refine iJ o_OB.t o336.flat cM bj (by(simp;omega)) ?_
         intro g365 w366 v367 ch368 o369
         have hs370:=hs337.seq (ch368.l rfl)
         refine⟨hs370.same,?_⟩
         refine ht (v:=Value.pointer (some ⟨u.n,0,none⟩)) 12 rfl hs370.same (λw' hw'=>ae rfl) (ht 13 rfl hs370.same (λw' hw'=>aa dV rfl rfl rfl rfl) (bY 14 rfl ?_))
         refine aC (cs':=[vi KB,v367]) bq rfl rfl bx124.t (aL o369.flat) nq (aM o369.flat) rfl ?_
         intro w371 ch372 bx373
         have hs374:=hs370.seq (ch372.l rfl)
         refine⟨hs374.same,?_⟩
         refine ce (by kernel_rfl) ?_
         exact mid (v367,g365) _ _ ⟨bH.t,zs5,zs7,zs11,zs12,zs15,zs83,zs84,zs85,zs114,zs115,zs116,Rps.t,ar_A.t,o6.t,o18.t,m85.t,o_out2.t,pm128.t,o131.t,o369.t,bx373⟩
        ·
         refine iJ o_OB.t o336.flat cM bj (by(simp;omega)) ?_
         intro g376 w377 v378 ch379 o380
         have hs381:=hs337.seq (ch379.l rfl)
         refine⟨hs381.same,?_⟩
         refine bY 2 rfl (ao (v:=Value.pointer (some ⟨u.n,0,none⟩)) (bJ (dm of1 (i:Int)) eJ (be U3) aY rfl m85.t rfl rfl (by exact(congrArg cA hFr).trans (c8 u))) ?_)
         refine⟨hs381.same,?_⟩
         refine ht (v:=Value.pointer (some ⟨u.n,0,none⟩)) 12 rfl hs381.same (λw' hw'=>ae rfl) (ht 13 rfl hs381.same (λw' hw'=>aa dV rfl rfl rfl rfl) (bY 14 rfl ?_))
         refine aC (cs':=[vi KB,v378]) bq rfl rfl bx124.t (aL o380.flat) nq (aM o380.flat) rfl ?_
         intro w382 ch383 bx384
         have hs385:=hs381.seq (ch383.l rfl)
         refine⟨hs385.same,?_⟩
         refine ce (by kernel_rfl) ?_
         exact mid (v378,g376) _ _ ⟨bH.t,zs5,zs7,zs11,zs12,zs15,zs83,zs84,zs85,zs114,zs115,zs116,Rps.t,ar_A.t,o6.t,o18.t,m85.t,o_out2.t,pm128.t,o131.t,o380.t,bx384⟩
    rintro⟨v161,g389⟩ f387 w388 ⟨bH,zs5,zs7,zs11,zs12,zs15,zs83,zs84,zs85,zs114,zs115,zs116,Rps,ar_A,o6,o18,m85,o_out2,pm128,o131,o163,bx167⟩
    refine ak (a6 rfl (lx (aJ (m:=↑m) (n:=1) zs116 rfl (by omega)) (mi ((m:Int)+1) (ab ?_))))
    refine back26 (m+1,v161,(OB++[((gI ((lA AR (gI ps ↑i)).2) (m:Int)).1,((gI ((lA AR (gI ps ↑i)).2) (m:Int)).2).1,(((gI ((lA AR (gI ps ↑i)).2) (m:Int)).2).2).1,(((gI ((lA AR (gI ps ↑i)).2) (m:Int)).2).2).2)]),g389) _ _ ⟨bH,zs5,zs7,zs11,zs12,zs15,zs83,zs84,zs85,zs114,zs115,rfl,Rps,ar_A,o6,o18,m85,o_out2,pm128,bx167,o131,o163,by omega,?_⟩ ?_
    · show(OB++[((gI ((lA AR (gI ps ↑i)).2) (m:Int)).1,((gI ((lA AR (gI ps ↑i)).2) (m:Int)).2).1,(((gI ((lA AR (gI ps ↑i)).2) (m:Int)).2).2).1,(((gI ((lA AR (gI ps ↑i)).2) (m:Int)).2).2).2)])=OB0++iO gone ((lA AR (gI ps ↑i)).2.take (m+1))
      (rw[hOB,List.append_assoc,tH ‹_› (.inl (by omega))])
    · show Int.toNat (_-_)<Int.toNat (_-_)
      omega
   refine lv (v16) (wy (df q122)) (ar zs7) (lv (vp b138 3) (wy (df q122)) (aa jg rfl rfl rfl rfl) ?_)
   refine lv (vi ((((gI ((lA AR (gI ps ↑i)).2) (m:Int)).2).2).2)) (wy (df q122)) (a8 aD rfl bx143.t rfl) ?_
   refine lv (Value.pointer (some (bu v16 1 (Int.toNat ((((gI ((lA AR (gI ps ↑i)).2) (m:Int)).2).2).2))))) (wy (df q122)) (ad (α:=Bool) (xs:=gone) (v:=v16) (i:=(((gI ((lA AR (gI ps ↑i)).2) (m:Int)).2).2).2) j6 rfl rfl o18.t.flat rfl (by(omega)) (by(omega))) (lv (vb (gI gone ((((gI ((lA AR (gI ps ↑i)).2) (m:Int)).2).2).2))) (wy (df q122)) (aw (α:=Bool) (xs:=gone) (v:=v16) (i:=(((gI ((lA AR (gI ps ↑i)).2) (m:Int)).2).2).2) dA rfl o18.t.flat (by(omega)) (by(omega)) (by decide) rfl) ?_)
   refine lv (vb (!(gI gone ((((gI ((lA AR (gI ps ↑i)).2) (m:Int)).2).2).2)))) (wy (df q122)) (fM (b:=(gI gone ((((gI ((lA AR (gI ps ↑i)).2) (m:Int)).2).2).2))) rfl) (lw (vb (!(gI gone ((((gI ((lA AR (gI ps ↑i)).2) (m:Int)).2).2).2)))) (bo rfl (df q122) rfl) (ab ?_))
   by_cases p28:(gI gone ((((gI ((lA AR (gI ps ↑i)).2) (m:Int)).2).2).2))=true
   ·
    refine af rfl (congrArg Bool.not p28) (am (ak ?_))
    refine a6 rfl (lx (aJ (m:=↑m) (n:=1) zs116 rfl (by omega)) (mi ((m:Int)+1) (ab ?_)))
    refine back26 (m+1,OB_v,OB,g147) _ _ ⟨bH.t,zs5,zs7,zs11,zs12,zs15,zs83,zs84,zs85,zs114,zs115,rfl,Rps.t,ar_A.t,o6.t,o18.t,m85.t,o_out2.t,pm128.t,bx124.t,o131.t,o_OB.t,by omega,?_⟩ ?_
    · show OB=OB0++iO gone ((lA AR (gI ps ↑i)).2.take (m+1))
      (rw[hOB,<-Dr ‹_› (by omega) ‹_›])
    · show Int.toNat (_-_)<Int.toNat (_-_)
      omega
   refine ag rfl (congrArg Bool.not (Bool.eq_false_iff.2 p28)) ?_
   refine dD (σ:=Value×ax) (λ⟨v403,gq⟩ f w=>aW w0 gq w/\f 5=v4/\f 7=v16/\f 11=v83/\f 12=out2_v/\f 15=vi (dm of1 (i:Int))/\f 83=ps_v/\f 84=vi (ps.length:Int)/\f 85=vi ↑i/\f 114=v129/\f 115=vi (List.length ((lA AR (gI ps ↑i)).2):Int)/\f 116=vi ↑m/\Sl gq (is 0) w ps_v ps/\gC gq w AR.1 AR.2/\Ow gq (is 1) (is 1) w v4 of1/\Ow gq (is 2) (is 2) w v16 gone/\Mq gq (is 5) w v83 F2/\Ow gq (is 9) (is 9) w out2_v out2/\dl gq 4 (pmC.1.idxOf u) w pmC.1 pmC.2/\Sl gq (is 0) w v129 ((lA AR (gI ps ↑i)).2)/\Ow gq (is 11) (is 11) w v403 (OB++[((gI ((lA AR (gI ps ↑i)).2) (m:Int)).1,((gI ((lA AR (gI ps ↑i)).2) (m:Int)).2).1,(((gI ((lA AR (gI ps ↑i)).2) (m:Int)).2).2).1,(((gI ((lA AR (gI ps ↑i)).2) (m:Int)).2).2).2)])/\Bx gq (is 10) w u.n [vi KB,v403]) g147 (inl [10,11]) lQ ?_ ?_
   ·
    intro mid
    intro w392 ch391
    refine ht (v:=v83) 0 rfl (bg.refl _ _ _) (λw' hw'=>ar zs11) (ht (v:=vi (dm of1 (i:Int))) 1 rfl (bg.refl _ _ _) (λw' hw'=>ar zs15) (ht (v:=v83) 3 rfl (bg.refl _ _ _) (λw' hw'=>ar zs11) (ht (v:=vi (dm of1 (i:Int))) 4 rfl (bg.refl _ _ _) (λw' hw'=>ar zs15) ?_)))
    refine ht 9 rfl (bg.refl _ _ _) (λw' hw'=>av (ds:=[vi ((gI ((lA AR (gI ps ↑i)).2) (m:Int)).1),vi (((gI ((lA AR (gI ps ↑i)).2) (m:Int)).2).1),vi ((((gI ((lA AR (gI ps ↑i)).2) (m:Int)).2).2).1),vi ((((gI ((lA AR (gI ps ↑i)).2) (m:Int)).2).2).2)]) bj rfl bx143.t rfl rfl) ?_
    refine cj 2 [5,10] (by kernel_rfl) ⟨ca 2 rfl (by kernel_rfl) rfl ?_,ca 5 rfl (by kernel_rfl) rfl ?_,ca 10 rfl (by kernel_rfl) rfl ?_,trivial⟩
    ·
     refine ao (v:=Value.pointer (some ⟨u.n,0,none⟩)) (bJ (dm of1 (i:Int)) eJ (be U3) aY rfl m85.t rfl rfl (by exact(congrArg cA hFr).trans (c8 u))) ?_
     refine⟨(bg.refl _ _ _),?_⟩
     refine cj 5 [10] (by kernel_rfl) ⟨ca 5 rfl (by kernel_rfl) rfl ?_,ca 10 rfl (by kernel_rfl) rfl ?_,trivial⟩
     ·
      refine ao (v:=Value.pointer (some ⟨u.n,0,none⟩)) (bJ (dm of1 (i:Int)) eJ (be U3) aY rfl m85.t rfl rfl (by exact(congrArg cA hFr).trans (c8 u))) ?_
      refine⟨(bg.refl _ _ _),?_⟩
      refine ht (v:=Value.pointer (some ⟨u.n,0,none⟩)) 6 rfl (bg.refl _ _ _) (λw' hw'=>ae rfl) (ht 7 rfl (bg.refl _ _ _) (λw' hw'=>aa dV rfl rfl rfl rfl) ?_)
      refine cj 8 [10] (by kernel_rfl) ⟨ca 8 rfl (by kernel_rfl) rfl ?_,ca 10 rfl (by kernel_rfl) rfl ?_,trivial⟩
      ·
       refine ao (v:=OB_v) (a8 bq rfl bx124.t rfl) ?_
       refine⟨(bg.refl _ _ _),?_⟩
       refine bY 10 rfl ?_
       refine aq (α:=Bd) g147 (is 14) (is 14) (14,0) rfl [((gI ((lA AR (gI ps ↑i)).2) (m:Int)).1,((gI ((lA AR (gI ps ↑i)).2) (m:Int)).2).1,(((gI ((lA AR (gI ps ↑i)).2) (m:Int)).2).2).1,(((gI ((lA AR (gI ps ↑i)).2) (m:Int)).2).2).2)] cM bj (by decide) (by decide) (vs:=[(0,vg [vi ((gI ((lA AR (gI ps ↑i)).2) (m:Int)).1),vi (((gI ((lA AR (gI ps ↑i)).2) (m:Int)).2).1),vi ((((gI ((lA AR (gI ps ↑i)).2) (m:Int)).2).2).1),vi ((((gI ((lA AR (gI ps ↑i)).2) (m:Int)).2).2).2)])]) rfl rfl (.cons rfl .nil) ?_
       intro g394 w395 v396 ch397 o398
       have hs399:bg (inl [10,11]) _ _ _ _:=ch397.n
       refine⟨hs399.same,?_⟩
       refine bY 11 rfl ?_
       refine iJ o_OB.t o398.flat cM bj (by(simp;omega)) ?_
       intro g401 w402 v403 ch404 o405
       have hs406:=hs399.seq (ch404.l rfl)
       refine⟨hs406.same,?_⟩
       refine ht (v:=Value.pointer (some ⟨u.n,0,none⟩)) 12 rfl hs406.same (λw' hw'=>ae rfl) (ht 13 rfl hs406.same (λw' hw'=>aa dV rfl rfl rfl rfl) (bY 14 rfl ?_))
       refine aC (cs':=[vi KB,v403]) bq rfl rfl bx124.t (aL o405.flat) nq (aM o405.flat) rfl ?_
       intro w407 ch408 bx409
       have hs410:=hs406.seq (ch408.l rfl)
       refine⟨hs410.same,?_⟩
       refine ce (by kernel_rfl) ?_
       exact mid (v403,g401) _ _ ⟨bH.t,zs5,zs7,zs11,zs12,zs15,zs83,zs84,zs85,zs114,zs115,zs116,Rps.t,ar_A.t,o6.t,o18.t,m85.t,o_out2.t,pm128.t,o131.t,o405.t,bx409⟩
      ·
       refine aq (α:=Bd) g147 (is 14) (is 14) (14,0) rfl [((gI ((lA AR (gI ps ↑i)).2) (m:Int)).1,((gI ((lA AR (gI ps ↑i)).2) (m:Int)).2).1,(((gI ((lA AR (gI ps ↑i)).2) (m:Int)).2).2).1,(((gI ((lA AR (gI ps ↑i)).2) (m:Int)).2).2).2)] cM bj (by decide) (by decide) (vs:=[(0,vg [vi ((gI ((lA AR (gI ps ↑i)).2) (m:Int)).1),vi (((gI ((lA AR (gI ps ↑i)).2) (m:Int)).2).1),vi ((((gI ((lA AR (gI ps ↑i)).2) (m:Int)).2).2).1),vi ((((gI ((lA AR (gI ps ↑i)).2) (m:Int)).2).2).2)])]) rfl rfl (.cons rfl .nil) ?_
       intro g412 w413 v414 ch415 o416
       have hs417:bg (inl [10,11]) _ _ _ _:=ch415.n
       refine⟨hs417.same,?_⟩
       refine bY 8 rfl ?_
       refine ao (v:=OB_v) (a8 bq rfl bx124.t rfl) ?_
       refine⟨hs417.same,?_⟩
       refine bY 11 rfl ?_
       refine iJ o_OB.t o416.flat cM bj (by(simp;omega)) ?_
       intro g419 w420 v421 ch422 o423
       have hs424:=hs417.seq (ch422.l rfl)
       refine⟨hs424.same,?_⟩
       refine ht (v:=Value.pointer (some ⟨u.n,0,none⟩)) 12 rfl hs424.same (λw' hw'=>ae rfl) (ht 13 rfl hs424.same (λw' hw'=>aa dV rfl rfl rfl rfl) (bY 14 rfl ?_))
       refine aC (cs':=[vi KB,v421]) bq rfl rfl bx124.t (aL o423.flat) nq (aM o423.flat) rfl ?_
       intro w425 ch426 bx427
       have hs428:=hs424.seq (ch426.l rfl)
       refine⟨hs428.same,?_⟩
       refine ce (by kernel_rfl) ?_
       exact mid (v421,g419) _ _ ⟨bH.t,zs5,zs7,zs11,zs12,zs15,zs83,zs84,zs85,zs114,zs115,zs116,Rps.t,ar_A.t,o6.t,o18.t,m85.t,o_out2.t,pm128.t,o131.t,o423.t,bx427⟩
     ·
      refine aq (α:=Bd) g147 (is 14) (is 14) (14,0) rfl [((gI ((lA AR (gI ps ↑i)).2) (m:Int)).1,((gI ((lA AR (gI ps ↑i)).2) (m:Int)).2).1,(((gI ((lA AR (gI ps ↑i)).2) (m:Int)).2).2).1,(((gI ((lA AR (gI ps ↑i)).2) (m:Int)).2).2).2)] cM bj (by decide) (by decide) (vs:=[(0,vg [vi ((gI ((lA AR (gI ps ↑i)).2) (m:Int)).1),vi (((gI ((lA AR (gI ps ↑i)).2) (m:Int)).2).1),vi ((((gI ((lA AR (gI ps ↑i)).2) (m:Int)).2).2).1),vi ((((gI ((lA AR (gI ps ↑i)).2) (m:Int)).2).2).2)])]) rfl rfl (.cons rfl .nil) ?_
      intro g430 w431 v432 ch433 o434
      have hs435:bg (inl [10,11]) _ _ _ _:=ch433.n
      refine⟨hs435.same,?_⟩
      refine bY 5 rfl (ao (v:=Value.pointer (some ⟨u.n,0,none⟩)) (bJ (dm of1 (i:Int)) eJ (be U3) aY rfl m85.t rfl rfl (by exact(congrArg cA hFr).trans (c8 u))) ?_)
      refine⟨hs435.same,?_⟩
      refine ht (v:=Value.pointer (some ⟨u.n,0,none⟩)) 6 rfl hs435.same (λw' hw'=>ae rfl) (ht 7 rfl hs435.same (λw' hw'=>aa dV rfl rfl rfl rfl) (bY 8 rfl ?_))
      refine ao (v:=OB_v) (a8 bq rfl bx124.t rfl) ?_
      refine⟨hs435.same,?_⟩
      refine bY 11 rfl ?_
      refine iJ o_OB.t o434.flat cM bj (by(simp;omega)) ?_
      intro g437 w438 v439 ch440 o441
      have hs442:=hs435.seq (ch440.l rfl)
      refine⟨hs442.same,?_⟩
      refine ht (v:=Value.pointer (some ⟨u.n,0,none⟩)) 12 rfl hs442.same (λw' hw'=>ae rfl) (ht 13 rfl hs442.same (λw' hw'=>aa dV rfl rfl rfl rfl) (bY 14 rfl ?_))
      refine aC (cs':=[vi KB,v439]) bq rfl rfl bx124.t (aL o441.flat) nq (aM o441.flat) rfl ?_
      intro w443 ch444 bx445
      have hs446:=hs442.seq (ch444.l rfl)
      refine⟨hs446.same,?_⟩
      refine ce (by kernel_rfl) ?_
      exact mid (v439,g437) _ _ ⟨bH.t,zs5,zs7,zs11,zs12,zs15,zs83,zs84,zs85,zs114,zs115,zs116,Rps.t,ar_A.t,o6.t,o18.t,m85.t,o_out2.t,pm128.t,o131.t,o441.t,bx445⟩
    ·
     refine ao (v:=Value.pointer (some ⟨u.n,0,none⟩)) (bJ (dm of1 (i:Int)) eJ (be U3) aY rfl m85.t rfl rfl (by exact(congrArg cA hFr).trans (c8 u))) ?_
     refine⟨(bg.refl _ _ _),?_⟩
     refine ht (v:=Value.pointer (some ⟨u.n,0,none⟩)) 6 rfl (bg.refl _ _ _) (λw' hw'=>ae rfl) (ht 7 rfl (bg.refl _ _ _) (λw' hw'=>aa dV rfl rfl rfl rfl) ?_)
     refine cj 2 [8,10] (by kernel_rfl) ⟨ca 2 rfl (by kernel_rfl) rfl ?_,ca 8 rfl (by kernel_rfl) rfl ?_,ca 10 rfl (by kernel_rfl) rfl ?_,trivial⟩
     ·
      refine ao (v:=Value.pointer (some ⟨u.n,0,none⟩)) (bJ (dm of1 (i:Int)) eJ (be U3) aY rfl m85.t rfl rfl (by exact(congrArg cA hFr).trans (c8 u))) ?_
      refine⟨(bg.refl _ _ _),?_⟩
      refine cj 8 [10] (by kernel_rfl) ⟨ca 8 rfl (by kernel_rfl) rfl ?_,ca 10 rfl (by kernel_rfl) rfl ?_,trivial⟩
      ·
       refine ao (v:=OB_v) (a8 bq rfl bx124.t rfl) ?_
       refine⟨(bg.refl _ _ _),?_⟩
       refine bY 10 rfl ?_
       refine aq (α:=Bd) g147 (is 14) (is 14) (14,0) rfl [((gI ((lA AR (gI ps ↑i)).2) (m:Int)).1,((gI ((lA AR (gI ps ↑i)).2) (m:Int)).2).1,(((gI ((lA AR (gI ps ↑i)).2) (m:Int)).2).2).1,(((gI ((lA AR (gI ps ↑i)).2) (m:Int)).2).2).2)] cM bj (by decide) (by decide) (vs:=[(0,vg [vi ((gI ((lA AR (gI ps ↑i)).2) (m:Int)).1),vi (((gI ((lA AR (gI ps ↑i)).2) (m:Int)).2).1),vi ((((gI ((lA AR (gI ps ↑i)).2) (m:Int)).2).2).1),vi ((((gI ((lA AR (gI ps ↑i)).2) (m:Int)).2).2).2)])]) rfl rfl (.cons rfl .nil) ?_
       intro g449 w450 v451 ch452 o453
       have hs454:bg (inl [10,11]) _ _ _ _:=ch452.n
       refine⟨hs454.same,?_⟩
       refine bY 11 rfl ?_
       refine iJ o_OB.t o453.flat cM bj (by(simp;omega)) ?_
       intro g456 w457 v458 ch459 o460
       have hs461:=hs454.seq (ch459.l rfl)
       refine⟨hs461.same,?_⟩
       refine ht (v:=Value.pointer (some ⟨u.n,0,none⟩)) 12 rfl hs461.same (λw' hw'=>ae rfl) (ht 13 rfl hs461.same (λw' hw'=>aa dV rfl rfl rfl rfl) (bY 14 rfl ?_))
       refine aC (cs':=[vi KB,v458]) bq rfl rfl bx124.t (aL o460.flat) nq (aM o460.flat) rfl ?_
       intro w462 ch463 bx464
       have hs465:=hs461.seq (ch463.l rfl)
       refine⟨hs465.same,?_⟩
       refine ce (by kernel_rfl) ?_
       exact mid (v458,g456) _ _ ⟨bH.t,zs5,zs7,zs11,zs12,zs15,zs83,zs84,zs85,zs114,zs115,zs116,Rps.t,ar_A.t,o6.t,o18.t,m85.t,o_out2.t,pm128.t,o131.t,o460.t,bx464⟩
      ·
       refine aq (α:=Bd) g147 (is 14) (is 14) (14,0) rfl [((gI ((lA AR (gI ps ↑i)).2) (m:Int)).1,((gI ((lA AR (gI ps ↑i)).2) (m:Int)).2).1,(((gI ((lA AR (gI ps ↑i)).2) (m:Int)).2).2).1,(((gI ((lA AR (gI ps ↑i)).2) (m:Int)).2).2).2)] cM bj (by decide) (by decide) (vs:=[(0,vg [vi ((gI ((lA AR (gI ps ↑i)).2) (m:Int)).1),vi (((gI ((lA AR (gI ps ↑i)).2) (m:Int)).2).1),vi ((((gI ((lA AR (gI ps ↑i)).2) (m:Int)).2).2).1),vi ((((gI ((lA AR (gI ps ↑i)).2) (m:Int)).2).2).2)])]) rfl rfl (.cons rfl .nil) ?_
       intro g467 w468 v469 ch470 o471
       have hs472:bg (inl [10,11]) _ _ _ _:=ch470.n
       refine⟨hs472.same,?_⟩
       refine bY 8 rfl ?_
       refine ao (v:=OB_v) (a8 bq rfl bx124.t rfl) ?_
       refine⟨hs472.same,?_⟩
       refine bY 11 rfl ?_
       refine iJ o_OB.t o471.flat cM bj (by(simp;omega)) ?_
       intro g474 w475 v476 ch477 o478
       have hs479:=hs472.seq (ch477.l rfl)
       refine⟨hs479.same,?_⟩
       refine ht (v:=Value.pointer (some ⟨u.n,0,none⟩)) 12 rfl hs479.same (λw' hw'=>ae rfl) (ht 13 rfl hs479.same (λw' hw'=>aa dV rfl rfl rfl rfl) (bY 14 rfl ?_))
       refine aC (cs':=[vi KB,v476]) bq rfl rfl bx124.t (aL o478.flat) nq (aM o478.flat) rfl ?_
       intro w480 ch481 bx482
       have hs483:=hs479.seq (ch481.l rfl)
       refine⟨hs483.same,?_⟩
       refine ce (by kernel_rfl) ?_
       exact mid (v476,g474) _ _ ⟨bH.t,zs5,zs7,zs11,zs12,zs15,zs83,zs84,zs85,zs114,zs115,zs116,Rps.t,ar_A.t,o6.t,o18.t,m85.t,o_out2.t,pm128.t,o131.t,o478.t,bx482⟩
     ·
      refine ao (v:=OB_v) (a8 bq rfl bx124.t rfl) ?_
      refine⟨(bg.refl _ _ _),?_⟩
      refine cj 2 [10] (by kernel_rfl) ⟨ca 2 rfl (by kernel_rfl) rfl ?_,ca 10 rfl (by kernel_rfl) rfl ?_,trivial⟩
      ·
       refine ao (v:=Value.pointer (some ⟨u.n,0,none⟩)) (bJ (dm of1 (i:Int)) eJ (be U3) aY rfl m85.t rfl rfl (by exact(congrArg cA hFr).trans (c8 u))) ?_
       refine⟨(bg.refl _ _ _),?_⟩
       refine bY 10 rfl ?_
       refine aq (α:=Bd) g147 (is 14) (is 14) (14,0) rfl [((gI ((lA AR (gI ps ↑i)).2) (m:Int)).1,((gI ((lA AR (gI ps ↑i)).2) (m:Int)).2).1,(((gI ((lA AR (gI ps ↑i)).2) (m:Int)).2).2).1,(((gI ((lA AR (gI ps ↑i)).2) (m:Int)).2).2).2)] cM bj (by decide) (by decide) (vs:=[(0,vg [vi ((gI ((lA AR (gI ps ↑i)).2) (m:Int)).1),vi (((gI ((lA AR (gI ps ↑i)).2) (m:Int)).2).1),vi ((((gI ((lA AR (gI ps ↑i)).2) (m:Int)).2).2).1),vi ((((gI ((lA AR (gI ps ↑i)).2) (m:Int)).2).2).2)])]) rfl rfl (.cons rfl .nil) ?_
       intro g485 w486 v487 ch488 o489
       have hs490:bg (inl [10,11]) _ _ _ _:=ch488.n
       refine⟨hs490.same,?_⟩
       refine bY 11 rfl ?_
       refine iJ o_OB.t o489.flat cM bj (by(simp;omega)) ?_
       intro g492 w493 v494 ch495 o496
       have hs497:=hs490.seq (ch495.l rfl)
       refine⟨hs497.same,?_⟩
       refine ht (v:=Value.pointer (some ⟨u.n,0,none⟩)) 12 rfl hs497.same (λw' hw'=>ae rfl) (ht 13 rfl hs497.same (λw' hw'=>aa dV rfl rfl rfl rfl) (bY 14 rfl ?_))
       refine aC (cs':=[vi KB,v494]) bq rfl rfl bx124.t (aL o496.flat) nq (aM o496.flat) rfl ?_
       intro w498 ch499 bx500
       have hs501:=hs497.seq (ch499.l rfl)
       refine⟨hs501.same,?_⟩
       refine ce (by kernel_rfl) ?_
       exact mid (v494,g492) _ _ ⟨bH.t,zs5,zs7,zs11,zs12,zs15,zs83,zs84,zs85,zs114,zs115,zs116,Rps.t,ar_A.t,o6.t,o18.t,m85.t,o_out2.t,pm128.t,o131.t,o496.t,bx500⟩
      ·
       refine aq (α:=Bd) g147 (is 14) (is 14) (14,0) rfl [((gI ((lA AR (gI ps ↑i)).2) (m:Int)).1,((gI ((lA AR (gI ps ↑i)).2) (m:Int)).2).1,(((gI ((lA AR (gI ps ↑i)).2) (m:Int)).2).2).1,(((gI ((lA AR (gI ps ↑i)).2) (m:Int)).2).2).2)] cM bj (by decide) (by decide) (vs:=[(0,vg [vi ((gI ((lA AR (gI ps ↑i)).2) (m:Int)).1),vi (((gI ((lA AR (gI ps ↑i)).2) (m:Int)).2).1),vi ((((gI ((lA AR (gI ps ↑i)).2) (m:Int)).2).2).1),vi ((((gI ((lA AR (gI ps ↑i)).2) (m:Int)).2).2).2)])]) rfl rfl (.cons rfl .nil) ?_
       intro g503 w504 v505 ch506 o507
       have hs508:bg (inl [10,11]) _ _ _ _:=ch506.n
       refine⟨hs508.same,?_⟩
       refine cj 2 [11] (by kernel_rfl) ⟨ca 2 rfl (by kernel_rfl) rfl ?_,ca 11 rfl (by kernel_rfl) rfl ?_,trivial⟩
       ·
        refine ao (v:=Value.pointer (some ⟨u.n,0,none⟩)) (bJ (dm of1 (i:Int)) eJ (be U3) aY rfl m85.t rfl rfl (by exact(congrArg cA hFr).trans (c8 u))) ?_
        refine⟨hs508.same,?_⟩
        refine bY 11 rfl ?_
        refine iJ o_OB.t o507.flat cM bj (by(simp;omega)) ?_
        intro g510 w511 v512 ch513 o514
        have hs515:=hs508.seq (ch513.l rfl)
        refine⟨hs515.same,?_⟩
        refine ht (v:=Value.pointer (some ⟨u.n,0,none⟩)) 12 rfl hs515.same (λw' hw'=>ae rfl) (ht 13 rfl hs515.same (λw' hw'=>aa dV rfl rfl rfl rfl) (bY 14 rfl ?_))
        refine aC (cs':=[vi KB,v512]) bq rfl rfl bx124.t (aL o514.flat) nq (aM o514.flat) rfl ?_
        intro w516 ch517 bx518
        have hs519:=hs515.seq (ch517.l rfl)
        refine⟨hs519.same,?_⟩
        refine ce (by kernel_rfl) ?_
        exact mid (v512,g510) _ _ ⟨bH.t,zs5,zs7,zs11,zs12,zs15,zs83,zs84,zs85,zs114,zs115,zs116,Rps.t,ar_A.t,o6.t,o18.t,m85.t,o_out2.t,pm128.t,o131.t,o514.t,bx518⟩
       ·
        refine iJ o_OB.t o507.flat cM bj (by(simp;omega)) ?_
        intro g522 w523 v524 ch525 o526
        have hs527:=hs508.seq (ch525.l rfl)
        refine⟨hs527.same,?_⟩
        refine bY 2 rfl (ao (v:=Value.pointer (some ⟨u.n,0,none⟩)) (bJ (dm of1 (i:Int)) eJ (be U3) aY rfl m85.t rfl rfl (by exact(congrArg cA hFr).trans (c8 u))) ?_)
        refine⟨hs527.same,?_⟩
        refine ht (v:=Value.pointer (some ⟨u.n,0,none⟩)) 12 rfl hs527.same (λw' hw'=>ae rfl) (ht 13 rfl hs527.same (λw' hw'=>aa dV rfl rfl rfl rfl) (bY 14 rfl ?_))
        refine aC (cs':=[vi KB,v524]) bq rfl rfl bx124.t (aL o526.flat) nq (aM o526.flat) rfl ?_
        intro w528 ch529 bx530
        have hs531:=hs527.seq (ch529.l rfl)
        refine⟨hs531.same,?_⟩
        refine ce (by kernel_rfl) ?_
        exact mid (v524,g522) _ _ ⟨bH.t,zs5,zs7,zs11,zs12,zs15,zs83,zs84,zs85,zs114,zs115,zs116,Rps.t,ar_A.t,o6.t,o18.t,m85.t,o_out2.t,pm128.t,o131.t,o526.t,bx530⟩
     ·
      refine aq (α:=Bd) g147 (is 14) (is 14) (14,0) rfl [((gI ((lA AR (gI ps ↑i)).2) (m:Int)).1,((gI ((lA AR (gI ps ↑i)).2) (m:Int)).2).1,(((gI ((lA AR (gI ps ↑i)).2) (m:Int)).2).2).1,(((gI ((lA AR (gI ps ↑i)).2) (m:Int)).2).2).2)] cM bj (by decide) (by decide) (vs:=[(0,vg [vi ((gI ((lA AR (gI ps ↑i)).2) (m:Int)).1),vi (((gI ((lA AR (gI ps ↑i)).2) (m:Int)).2).1),vi ((((gI ((lA AR (gI ps ↑i)).2) (m:Int)).2).2).1),vi ((((gI ((lA AR (gI ps ↑i)).2) (m:Int)).2).2).2)])]) rfl rfl (.cons rfl .nil) ?_
      intro g533 w534 v535 ch536 o537
      have hs538:bg (inl [10,11]) _ _ _ _:=ch536.n
      refine⟨hs538.same,?_⟩
      refine cj 2 [8] (by kernel_rfl) ⟨ca 2 rfl (by kernel_rfl) rfl ?_,ca 8 rfl (by kernel_rfl) rfl ?_,trivial⟩
      ·
       refine ao (v:=Value.pointer (some ⟨u.n,0,none⟩)) (bJ (dm of1 (i:Int)) eJ (be U3) aY rfl m85.t rfl rfl (by exact(congrArg cA hFr).trans (c8 u))) ?_
       refine⟨hs538.same,?_⟩
       refine bY 8 rfl ?_
       refine ao (v:=OB_v) (a8 bq rfl bx124.t rfl) ?_
       refine⟨hs538.same,?_⟩
       refine bY 11 rfl ?_
       refine iJ o_OB.t o537.flat cM bj (by(simp;omega)) ?_
       intro g540 w541 v542 ch543 o544
       have hs545:=hs538.seq (ch543.l rfl)
       refine⟨hs545.same,?_⟩
       refine ht (v:=Value.pointer (some ⟨u.n,0,none⟩)) 12 rfl hs545.same (λw' hw'=>ae rfl) (ht 13 rfl hs545.same (λw' hw'=>aa dV rfl rfl rfl rfl) (bY 14 rfl ?_))
       refine aC (cs':=[vi KB,v542]) bq rfl rfl bx124.t (aL o544.flat) nq (aM o544.flat) rfl ?_
       intro w546 ch547 bx548
       have hs549:=hs545.seq (ch547.l rfl)
       refine⟨hs549.same,?_⟩
       refine ce (by kernel_rfl) ?_
       exact mid (v542,g540) _ _ ⟨bH.t,zs5,zs7,zs11,zs12,zs15,zs83,zs84,zs85,zs114,zs115,zs116,Rps.t,ar_A.t,o6.t,o18.t,m85.t,o_out2.t,pm128.t,o131.t,o544.t,bx548⟩
      ·
       refine ao (v:=OB_v) (a8 bq rfl bx124.t rfl) ?_
       refine⟨hs538.same,?_⟩
       refine cj 2 [11] (by kernel_rfl) ⟨ca 2 rfl (by kernel_rfl) rfl ?_,ca 11 rfl (by kernel_rfl) rfl ?_,trivial⟩
       ·
        refine ao (v:=Value.pointer (some ⟨u.n,0,none⟩)) (bJ (dm of1 (i:Int)) eJ (be U3) aY rfl m85.t rfl rfl (by exact(congrArg cA hFr).trans (c8 u))) ?_
        refine⟨hs538.same,?_⟩
        refine bY 11 rfl ?_
        refine iJ o_OB.t o537.flat cM bj (by(simp;omega)) ?_
        intro g552 w553 v554 ch555 o556
        have hs557:=hs538.seq (ch555.l rfl)
        refine⟨hs557.same,?_⟩
        refine ht (v:=Value.pointer (some ⟨u.n,0,none⟩)) 12 rfl hs557.same (λw' hw'=>ae rfl) (ht 13 rfl hs557.same (λw' hw'=>aa dV rfl rfl rfl rfl) (bY 14 rfl ?_))
        refine aC (cs':=[vi KB,v554]) bq rfl rfl bx124.t (aL o556.flat) nq (aM o556.flat) rfl ?_
        intro w558 ch559 bx560
        have hs561:=hs557.seq (ch559.l rfl)
        refine⟨hs561.same,?_⟩
        refine ce (by kernel_rfl) ?_
        exact mid (v554,g552) _ _ ⟨bH.t,zs5,zs7,zs11,zs12,zs15,zs83,zs84,zs85,zs114,zs115,zs116,Rps.t,ar_A.t,o6.t,o18.t,m85.t,o_out2.t,pm128.t,o131.t,o556.t,bx560⟩
       ·
        refine iJ o_OB.t o537.flat cM bj (by(simp;omega)) ?_
        intro g563 w564 v565 ch566 o567
        have hs568:=hs538.seq (ch566.l rfl)
        refine⟨hs568.same,?_⟩
        refine bY 2 rfl (ao (v:=Value.pointer (some ⟨u.n,0,none⟩)) (bJ (dm of1 (i:Int)) eJ (be U3) aY rfl m85.t rfl rfl (by exact(congrArg cA hFr).trans (c8 u))) ?_)
        refine⟨hs568.same,?_⟩
        refine ht (v:=Value.pointer (some ⟨u.n,0,none⟩)) 12 rfl hs568.same (λw' hw'=>ae rfl) (ht 13 rfl hs568.same (λw' hw'=>aa dV rfl rfl rfl rfl) (bY 14 rfl ?_))
        refine aC (cs':=[vi KB,v565]) bq rfl rfl bx124.t (aL o567.flat) nq (aM o567.flat) rfl ?_
        intro w569 ch570 bx571
        have hs572:=hs568.seq (ch570.l rfl)
        refine⟨hs572.same,?_⟩
        refine ce (by kernel_rfl) ?_
        exact mid (v565,g563) _ _ ⟨bH.t,zs5,zs7,zs11,zs12,zs15,zs83,zs84,zs85,zs114,zs115,zs116,Rps.t,ar_A.t,o6.t,o18.t,m85.t,o_out2.t,pm128.t,o131.t,o567.t,bx571⟩
    ·
     refine aq (α:=Bd) g147 (is 14) (is 14) (14,0) rfl [((gI ((lA AR (gI ps ↑i)).2) (m:Int)).1,((gI ((lA AR (gI ps ↑i)).2) (m:Int)).2).1,(((gI ((lA AR (gI ps ↑i)).2) (m:Int)).2).2).1,(((gI ((lA AR (gI ps ↑i)).2) (m:Int)).2).2).2)] cM bj (by decide) (by decide) (vs:=[(0,vg [vi ((gI ((lA AR (gI ps ↑i)).2) (m:Int)).1),vi (((gI ((lA AR (gI ps ↑i)).2) (m:Int)).2).1),vi ((((gI ((lA AR (gI ps ↑i)).2) (m:Int)).2).2).1),vi ((((gI ((lA AR (gI ps ↑i)).2) (m:Int)).2).2).2)])]) rfl rfl (.cons rfl .nil) ?_
     intro g574 w575 v576 ch577 o578
     have hs579:bg (inl [10,11]) _ _ _ _:=ch577.n
     refine⟨hs579.same,?_⟩
     refine cj 2 [5] (by kernel_rfl) ⟨ca 2 rfl (by kernel_rfl) rfl ?_,ca 5 rfl (by kernel_rfl) rfl ?_,trivial⟩
     ·
      refine ao (v:=Value.pointer (some ⟨u.n,0,none⟩)) (bJ (dm of1 (i:Int)) eJ (be U3) aY rfl m85.t rfl rfl (by exact(congrArg cA hFr).trans (c8 u))) ?_
      refine⟨hs579.same,?_⟩
      refine bY 5 rfl (ao (v:=Value.pointer (some ⟨u.n,0,none⟩)) (bJ (dm of1 (i:Int)) eJ (be U3) aY rfl m85.t rfl rfl (by exact(congrArg cA hFr).trans (c8 u))) ?_)
      refine⟨hs579.same,?_⟩
      refine ht (v:=Value.pointer (some ⟨u.n,0,none⟩)) 6 rfl hs579.same (λw' hw'=>ae rfl) (ht 7 rfl hs579.same (λw' hw'=>aa dV rfl rfl rfl rfl) (bY 8 rfl ?_))
      refine ao (v:=OB_v) (a8 bq rfl bx124.t rfl) ?_
      refine⟨hs579.same,?_⟩
      refine bY 11 rfl ?_
      refine iJ o_OB.t o578.flat cM bj (by(simp;omega)) ?_
      intro g582 w583 v584 ch585 o586
      have hs587:=hs579.seq (ch585.l rfl)
      refine⟨hs587.same,?_⟩
      refine ht (v:=Value.pointer (some ⟨u.n,0,none⟩)) 12 rfl hs587.same (λw' hw'=>ae rfl) (ht 13 rfl hs587.same (λw' hw'=>aa dV rfl rfl rfl rfl) (bY 14 rfl ?_))
      refine aC (cs':=[vi KB,v584]) bq rfl rfl bx124.t (aL o586.flat) nq (aM o586.flat) rfl ?_
      intro w588 ch589 bx590
      have hs591:=hs587.seq (ch589.l rfl)
      refine⟨hs591.same,?_⟩
      refine ce (by kernel_rfl) ?_
      exact mid (v584,g582) _ _ ⟨bH.t,zs5,zs7,zs11,zs12,zs15,zs83,zs84,zs85,zs114,zs115,zs116,Rps.t,ar_A.t,o6.t,o18.t,m85.t,o_out2.t,pm128.t,o131.t,o586.t,bx590⟩
     ·
      refine ao (v:=Value.pointer (some ⟨u.n,0,none⟩)) (bJ (dm of1 (i:Int)) eJ (be U3) aY rfl m85.t rfl rfl (by exact(congrArg cA hFr).trans (c8 u))) ?_
      refine⟨hs579.same,?_⟩
      refine ht (v:=Value.pointer (some ⟨u.n,0,none⟩)) 6 rfl hs579.same (λw' hw'=>ae rfl) (ht 7 rfl hs579.same (λw' hw'=>aa dV rfl rfl rfl rfl) ?_)
      refine cj 2 [8] (by kernel_rfl) ⟨ca 2 rfl (by kernel_rfl) rfl ?_,ca 8 rfl (by kernel_rfl) rfl ?_,trivial⟩
      ·
       refine ao (v:=Value.pointer (some ⟨u.n,0,none⟩)) (bJ (dm of1 (i:Int)) eJ (be U3) aY rfl m85.t rfl rfl (by exact(congrArg cA hFr).trans (c8 u))) ?_
       refine⟨hs579.same,?_⟩
       refine bY 8 rfl ?_
       refine ao (v:=OB_v) (a8 bq rfl bx124.t rfl) ?_
       refine⟨hs579.same,?_⟩
       refine bY 11 rfl ?_
       refine iJ o_OB.t o578.flat cM bj (by(simp;omega)) ?_
       intro g595 w596 v597 ch598 o599
       have hs600:=hs579.seq (ch598.l rfl)
       refine⟨hs600.same,?_⟩
       refine ht (v:=Value.pointer (some ⟨u.n,0,none⟩)) 12 rfl hs600.same (λw' hw'=>ae rfl) (ht 13 rfl hs600.same (λw' hw'=>aa dV rfl rfl rfl rfl) (bY 14 rfl ?_))
       refine aC (cs':=[vi KB,v597]) bq rfl rfl bx124.t (aL o599.flat) nq (aM o599.flat) rfl ?_
       intro w601 ch602 bx603
       have hs604:=hs600.seq (ch602.l rfl)
       refine⟨hs604.same,?_⟩
       refine ce (by kernel_rfl) ?_
       exact mid (v597,g595) _ _ ⟨bH.t,zs5,zs7,zs11,zs12,zs15,zs83,zs84,zs85,zs114,zs115,zs116,Rps.t,ar_A.t,o6.t,o18.t,m85.t,o_out2.t,pm128.t,o131.t,o599.t,bx603⟩
      ·
       refine ao (v:=OB_v) (a8 bq rfl bx124.t rfl) ?_
       refine⟨hs579.same,?_⟩
       refine cj 2 [11] (by kernel_rfl) ⟨ca 2 rfl (by kernel_rfl) rfl ?_,ca 11 rfl (by kernel_rfl) rfl ?_,trivial⟩
       ·
        refine ao (v:=Value.pointer (some ⟨u.n,0,none⟩)) (bJ (dm of1 (i:Int)) eJ (be U3) aY rfl m85.t rfl rfl (by exact(congrArg cA hFr).trans (c8 u))) ?_
        refine⟨hs579.same,?_⟩
        refine bY 11 rfl ?_
        refine iJ o_OB.t o578.flat cM bj (by(simp;omega)) ?_
        intro g607 w608 v609 ch610 o611
        have hs612:=hs579.seq (ch610.l rfl)
        refine⟨hs612.same,?_⟩
        refine ht (v:=Value.pointer (some ⟨u.n,0,none⟩)) 12 rfl hs612.same (λw' hw'=>ae rfl) (ht 13 rfl hs612.same (λw' hw'=>aa dV rfl rfl rfl rfl) (bY 14 rfl ?_))
        refine aC (cs':=[vi KB,v609]) bq rfl rfl bx124.t (aL o611.flat) nq (aM o611.flat) rfl ?_
        intro w613 ch614 bx615
        have hs616:=hs612.seq (ch614.l rfl)
        refine⟨hs616.same,?_⟩
        refine ce (by kernel_rfl) ?_
        exact mid (v609,g607) _ _ ⟨bH.t,zs5,zs7,zs11,zs12,zs15,zs83,zs84,zs85,zs114,zs115,zs116,Rps.t,ar_A.t,o6.t,o18.t,m85.t,o_out2.t,pm128.t,o131.t,o611.t,bx615⟩
       ·
        refine iJ o_OB.t o578.flat cM bj (by(simp;omega)) ?_
        intro g618 w619 v620 ch621 o622
        have hs623:=hs579.seq (ch621.l rfl)
        refine⟨hs623.same,?_⟩
        refine bY 2 rfl (ao (v:=Value.pointer (some ⟨u.n,0,none⟩)) (bJ (dm of1 (i:Int)) eJ (be U3) aY rfl m85.t rfl rfl (by exact(congrArg cA hFr).trans (c8 u))) ?_)
        refine⟨hs623.same,?_⟩
        refine ht (v:=Value.pointer (some ⟨u.n,0,none⟩)) 12 rfl hs623.same (λw' hw'=>ae rfl) (ht 13 rfl hs623.same (λw' hw'=>aa dV rfl rfl rfl rfl) (bY 14 rfl ?_))
        refine aC (cs':=[vi KB,v620]) bq rfl rfl bx124.t (aL o622.flat) nq (aM o622.flat) rfl ?_
        intro w624 ch625 bx626
        have hs627:=hs623.seq (ch625.l rfl)
        refine⟨hs627.same,?_⟩
        refine ce (by kernel_rfl) ?_
        exact mid (v620,g618) _ _ ⟨bH.t,zs5,zs7,zs11,zs12,zs15,zs83,zs84,zs85,zs114,zs115,zs116,Rps.t,ar_A.t,o6.t,o18.t,m85.t,o_out2.t,pm128.t,o131.t,o622.t,bx626⟩
   rintro⟨v403,g631⟩ f629 w630 ⟨bH,zs5,zs7,zs11,zs12,zs15,zs83,zs84,zs85,zs114,zs115,zs116,Rps,ar_A,o6,o18,m85,o_out2,pm128,o131,o405,bx409⟩
   refine ak (a6 rfl (lx (aJ (m:=↑m) (n:=1) zs116 rfl (by omega)) (mi ((m:Int)+1) (ab ?_))))
   refine back26 (m+1,v403,(OB++[((gI ((lA AR (gI ps ↑i)).2) (m:Int)).1,((gI ((lA AR (gI ps ↑i)).2) (m:Int)).2).1,(((gI ((lA AR (gI ps ↑i)).2) (m:Int)).2).2).1,(((gI ((lA AR (gI ps ↑i)).2) (m:Int)).2).2).2)]),g631) _ _ ⟨bH,zs5,zs7,zs11,zs12,zs15,zs83,zs84,zs85,zs114,zs115,rfl,Rps,ar_A,o6,o18,m85,o_out2,pm128,bx409,o131,o405,by omega,?_⟩ ?_
   · show(OB++[((gI ((lA AR (gI ps ↑i)).2) (m:Int)).1,((gI ((lA AR (gI ps ↑i)).2) (m:Int)).2).1,(((gI ((lA AR (gI ps ↑i)).2) (m:Int)).2).2).1,(((gI ((lA AR (gI ps ↑i)).2) (m:Int)).2).2).2)])=OB0++iO gone ((lA AR (gI ps ↑i)).2.take (m+1))
     (rw[hOB,List.append_assoc,tH ‹_› (.inr ‹_›)])
   · show Int.toNat (_-_)<Int.toNat (_-_)
     omega
  refine af rfl (df p26) (aF rfl (ak ?_))
  refine a6 rfl (lx (aJ (m:=↑i) (n:=1) zs85 rfl (by omega)) (mi ((i:Int)+1) (ab ?_)))
  obtain⟨g632,ch633,pm634⟩:=dl.close pm128 rfl rfl rfl (u:=u) (by exact fB huo2) bx124 o_OB
  replace pm634:fi g632 4 w134 (pmC.1,List.set pmC.2 (pmC.1.idxOf u) (KB,OB)).1 (pmC.1,List.set pmC.2 (pmC.1.idxOf u) (KB,OB)).2:=pm634
  refine back19 (out2_v,out2,i+1,(pmC.1,List.set pmC.2 (pmC.1.idxOf u) (KB,OB)),F2,g632) _ _ ⟨(bH.a ch633),zs5,zs7,zs11,zs12,zs83,zs84,rfl,(Rps.a ch633),(ar_A.a ch633),(o6.a ch633),(o18.a ch633),pm634,(m85.a ch633),(o_out2.a ch633),by omega,?_⟩ ?_
  · show lR (fJ (ps.map (bt AR)) (JV (ps.map (bt AR)) names) (i+1)) F2 out2 (pmC.1,List.set pmC.2 (pmC.1.idxOf u) (KB,OB))
    (subst hKB;subst hOB0;rw[hOB];exact Dq hJ1 hJ2 hvi htm hG2 hFr huo ‹_›)
  · show Int.toNat (_-_)<Int.toNat (_-_)
    omega
 refine af rfl (df p19) (aF rfl (a7 ?_))
 refine a6 rfl (mz zs12 (ma out_v (ab (az (vs:=[out_v]) Tryz.func43 (.tmp rfl .nil) ?_))))
 exact⟨(fin w0 g88 (λn=>if n=9 then 1 else if n=4 then 2 else 0),out_v,out,pmB),rfl,bH.fresh _,(o_out.glue (γ:=c0) (ren:=(λn=>if n=9 then 1 else if n=4 then 2 else 0)) (k:=1) bH.col rfl rfl),(pm80.glue (γ:=c0) (ren:=(λn=>if n=9 then 1 else if n=4 then 2 else 0)) (k:=2) bH.col rfl rfl),(by exact⟨(htg.val.trans (by rw[show i=(ps.map (bt AR)).length by omega];rfl)),htg.sub,htg.nd⟩)⟩
end TL
