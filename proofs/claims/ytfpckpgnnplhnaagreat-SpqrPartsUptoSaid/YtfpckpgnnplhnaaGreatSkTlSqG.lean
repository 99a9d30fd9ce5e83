import Derived.Test.YtfpckpgnnplhnaaGreatSkTlSqT
import Derived.Test.YtfpckpgnnplhnaaGreatSkTlGenA
import Derived.Test.YtfpckpgnnplhnaaGreatSkTlAli
set_option linter.all false
set_option maxRecDepth 20000
namespace TL
open Go Go.Proofs
theorem kW:Tryz.prog.follows .mixedOrders=true:=by kernel_rfl
theorem vk:Tryz.f44.body.isNone=false:=rfl
theorem xM:(Tryz.f44.name== "runtime.NumGoroutine")=false:=by decide+kernel
theorem gv:Tryz.f70.body.isNone=false:=rfl
theorem gw:(Tryz.f70.name== "runtime.NumGoroutine")=false:=by decide+kernel
set_option maxHeartbeats 8000000 in
theorem oU(w0:World)(ps:List Pp)(ps_v:Value)(hps_v:Ro w0 ps_v ps)(names:Int)(AR:List Pp×List (bY Bd))(hAR:A2 w0 AR.1 AR.2)(hin:∀u∈ps,u∈AR.1)(hnm:0<=names/\names<=100000)(hpl:(ps.length:Int)<=100001)(hok:nY (ps.map (bo AR)) names)(hj:fl (ps.map (bo AR)) (aR (ps.map (bo AR)) names) names names.toNat=some (JV (ps.map (bo AR)) names))(hrt:∀i:Nat,(i:Int)<(ps.map (bo AR)).length->∃a,lp (JV (ps.map (bo AR)) names).1.length (JV (ps.map (bo AR)) names).1 (i:Int)=some a):
    Calls Tryz.prog 43 #[ps_v,vi names] w0 (λee w=>∃xx:aw×Value×List Pp×(List Pp×List (bY Bd)),ee= .returned ((λ(⟨δ,rv0,L,A⟩:aw×Value×List Pp×(List Pp×List (bY Bd)))=>rv0) xx)/\(λ(⟨δ,rv0,L,A⟩:aw×Value×List Pp×(List Pp×List (bY Bd))) (w:World)=>dU w0 δ w/\Ow δ (is 1) (is 1) w rv0 L/\eW δ 2 w A.1 A.2/\AK A L (jy (ps.map (bo AR)) names)) xx w):=by
 refine ap Tryz.func43 rfl nq ?_
 have bH:=b6.start w0
 have Rps:=hps_v.sl
 have ar_A:=hAR.start
 obtain⟨hn0,hn1⟩:=hnm
 have hVl:(ps.map (bo AR)).length=ps.length:=List.length_map ..
 have hHl:=t7 (V:=(ps.map (bo AR))) hn0
 refine a7 (a6 rfl (ma vn (ab (a7 (a6 rfl (mv ps_v ?_))))))
 have len1:=(Rps).small
 refine lx (bp iZ rfl Rps) (lo (dN (α:=Int) (l:=(ps.length:Int)) (cp:=(ps.length:Int)) c0 (is 1) (is 1) (1,0) rfl (0:Int) bF ah rfl rfl rfl (by omega) (by omega) (by omega) (by omega) ?_))
 intro g2 w3 v4 ch5 o6 hcap_
 clear hcap_
 refine ma v4 (ab (a7 (a7 (a6 rfl (mv v4 ?_)))))
 have len7:=(o6.flat).small
 refine lx (bp bF rfl o6.flat) (mi 0 (ab (am ?_)))
 refine aV (σ:=Nat×(List Int)×aw) (λ⟨i0,of0,gq⟩ f w=>b6 w0 gq w/\f 0=ps_v/\f 1=vi names/\f 5=v4/\f 22=vi (List.length (List.replicate (Int.toNat (ps.length:Int)) (0:Int)):Int)/\f 23=vi ↑i0/\Sl gq (is 0) w ps_v ps/\fV gq w AR.1 AR.2/\Ow gq (is 1) (is 1) w v4 of0/\(i0:Int)<=((List.length (List.replicate (Int.toNat (ps.length:Int)) (0:Int)):Int):Int)/\(yo ps.length i0 of0)) (λ⟨i0,of0,gq⟩=>Int.toNat (((List.length (List.replicate (Int.toNat (ps.length:Int)) (0:Int)):Int):Int)-(i0:Int))) (0,(List.replicate (Int.toNat (ps.length:Int)) (0:Int)),g2) ?_ ?_
 · exact⟨bH.cn ch5,rfl,rfl,rfl,rfl,rfl,Rps.cn ch5,ar_A.cn ch5,o6,by omega,by exact yo.start⟩
 clear Rps ar_A o6 bH
 rintro⟨i0,of0,g10⟩ f8 w9 ⟨bH,zs0,zs1,zs5,zs22,zs23,Rps,ar_A,o6,hle_i0,hof⟩ back3
 have hofl:=hof.1
 have hrpl:(List.replicate (Int.toNat (ps.length:Int)) (0:Int)).length=ps.length:=by simp
 refine a7 (a6 rfl (lx (bw (m:=↑i0) (n:=(List.length (List.replicate (Int.toNat (ps.length:Int)) (0:Int)):Int)) zs23 zs22) (ab (a7 ?_))))
 by_cases p3:(i0:Int)<(List.length (List.replicate (Int.toNat (ps.length:Int)) (0:Int)):Int)
 ·
  refine af rfl (dt p3) (ao (a7 (am (a7 (a6 rfl (mz zs23 (ai (i0:Int) (ab (a6 rfl (mz zs5 (mi ↑i0 ?_)))))))))))
  refine mi ↑i0 (lx (ad (v:=v4) (i:=↑i0) bF rfl rfl o6.flat rfl (by omega) (by omega)) (lo (aZ (i:=↑i0) (i0:Int) ah rfl rfl o6 (by omega) (by omega) rfl ?_)))
  intro w11 ch12 bx13
  clear o6
  refine ab (ak (a6 rfl (lx (aS (m:=↑i0) (n:=1) zs23 rfl (by omega)) (mi ((i0:Int)+1) (ab ?_)))))
  refine back3 (i0+1,(List.set of0 (Int.toNat ↑i0) (i0:Int)),g10) _ _ ⟨bH.ce ch12,zs0,zs1,zs5,zs22,rfl,Rps.ce ch12,ar_A.ce ch12,bx13,by omega,?_⟩ ?_
  · show yo ps.length (i0+1) (List.set of0 (Int.toNat ↑i0) (i0:Int))
    exact hof.next (by omega)
  · show Int.toNat (_-_)<Int.toNat (_-_)
    omega
 refine ag rfl (df p3) (aO rfl (a7 ?_))
 have hof0:of0=cz ps.length:=hof.done (by omega)
 refine a6 rfl (mz zs1 (lo (dN (α:=Bool) (l:=names) (cp:=names) g10 (is 2) (is 2) (2,0) rfl false jG dL rfl rfl rfl (by omega) (by omega) (by omega) (by omega) ?_)))
 intro g14 w15 v16 ch17 o18 hcap_
 clear hcap_
 refine ma v16 (ab (a7 (a7 (a6 rfl (mz zs0 (mz zs1 ?_))))))
 replace Rps:=Rps.cn ch17
 replace ar_A:=ar_A.cn ch17
 refine lo (bE (aH (vals:=[ps_v,vi names]) Tryz.func44 vk xM rfl) (fG w15 ps ps_v (Rps).ro names AR (ar_A).ro (by exact hin) (by exact⟨hn0,hn1⟩) (by exact hpl) (by exact hok)) ?_)
 rintro⟨d20,v22⟩ w19 ⟨fr21,o23⟩
 obtain⟨g24,ch25,G24⟩:=i8 g14 fr21 (λn=>if n=1 then 3 else 0)
 replace o23:=o23.gl G24 3
 have len26:=(o23.sl).small
 refine lx (bp gf rfl o23.sl) (mi 0 (ab (am ?_)))
 refine aV (σ:=Nat×(List Int)×(List Bool)×aw) (λ⟨k,of1,gone,gq⟩ f w=>b6 w0 gq w/\f 0=ps_v/\f 5=v4/\f 7=v16/\f 35=v22/\f 36=vi (List.length (aR (ps.map (bo AR)) names):Int)/\f 37=vi ↑k/\Sl gq (is 0) w ps_v ps/\fV gq w AR.1 AR.2/\Ow gq (is 1) (is 1) w v4 of1/\Ow gq (is 2) (is 2) w v16 gone/\dr gq 3 w v22 (aR (ps.map (bo AR)) names)/\(k:Int)<=((List.length (aR (ps.map (bo AR)) names):Int):Int)/\(fl (ps.map (bo AR)) (aR (ps.map (bo AR)) names) names k=some (of1,gone))) (λ⟨k,of1,gone,gq⟩=>Int.toNat (((List.length (aR (ps.map (bo AR)) names):Int):Int)-(k:Int))) (0,of0,(List.replicate (Int.toNat names) false),g24) ?_ ?_
 replace bH:=bH.cn ch17
 · exact⟨bH.cn ch25,zs0,zs5,rfl,rfl,rfl,rfl,Rps.cn ch25,ar_A.cn ch25,(o6.cn ch17).cn ch25,o18.cn ch25,o23,by omega,by(rw[hof0,<-hVl];rfl)⟩
 clear Rps ar_A o6 o18 o23 bH
 rintro⟨k,of1,gone,g29⟩ f27 w28 ⟨bH,zs0,zs5,zs7,zs35,zs36,zs37,Rps,ar_A,o6,o18,o23,hle_k,hjn⟩ back9
 obtain⟨hl1,hl2,hl3⟩:=kS hjn
 simp only at hl1 hl2 hl3
 have hob:=sh hl3 (by omega) (by omega)
 refine a7 (a6 rfl (lx (bw (m:=↑k) (n:=(List.length (aR (ps.map (bo AR)) names):Int)) zs37 zs36) (ab (a7 ?_))))
 by_cases p9:(k:Int)<(List.length (aR (ps.map (bo AR)) names):Int)
 ·
  refine af rfl (dt p9) ?_
  obtain⟨s1,s2,hk1,hk2,hk3⟩:=qo hj (k:=k) (by omega)
  rw[hjn] at hk1
  obtain rfl:=Option.some.inj hk1
  obtain⟨hq0,⟨hq1,hq2⟩,hq3,hq4⟩:=lX hk2
  have hv0:=iO (A:=AR) (ps:=ps) hq1 (by omega)
  have hv1:=iO (A:=AR) (ps:=ps) hq3 (by omega)
  refine ao (a7 (am (a7 (a6 rfl (mz zs37 (lx (ad (v:=v22) (i:=↑k) gf rfl zs35 o23.sl zs37 (by omega) (by omega)) ?_))))))
  obtain⟨v30,cel31,r32⟩:=dv (r:=(k:Int)) o23 (by omega) (by omega)
  refine lx (cH fQ rfl cel31) (ai (k:Int) (ma v30 (ab (a7 (a6 rfl (mz zs0 (mv v30 (lx (ad (v:=v30) (i:=0) bF rfl rfl r32.row_sl rfl (by omega) (by omega)) (lx (av (v:=v30) (i:=0) ah rfl r32.row_sl (by omega) (by omega) (by decide) rfl) (lx (ad (v:=ps_v) (i:=(gI (gI (aR (ps.map (bo AR)) names) (k:Int)) 0)) iZ rfl rfl Rps rfl (by omega) (by omega)) (lx (av (v:=ps_v) (i:=(gI (gI (aR (ps.map (bo AR)) names) (k:Int)) 0)) aW rfl Rps (by omega) (by omega) (by decide) rfl) ?_)))))))))))
  refine lw (Value.pointer (some ⟨(gI ps (gI (gI (aR (ps.map (bo AR)) names) (k:Int)) 0)).n,0,none⟩)) (ae rfl) (lx (aa dR rfl rfl rfl rfl) ?_)
  obtain⟨v33,bx34,o35⟩:=fV.gt (u:=(gI ps (gI (gI (aR (ps.map (bo AR)) names) (k:Int)) 0))) ar_A (j:=(AR.1.idxOf (gI ps (gI (gI (aR (ps.map (bo AR)) names) (k:Int)) 0)))) (by exact fb (hin _ (bC (by omega) (by omega))))
  refine lx (a8 ah rfl bx34 rfl) (ai ((lA AR (gI ps (gI (gI (aR (ps.map (bo AR)) names) (k:Int)) 0))).1) (ab (a7 ?_)))
  clear bx34 o35
  refine a6 rfl (mi ((lA AR (gI ps (gI (gI (aR (ps.map (bo AR)) names) (k:Int)) 0))).1) (lx (dq (m:=(lA AR (gI ps (gI (gI (aR (ps.map (bo AR)) names) (k:Int)) 0))).1) (n:=3) rfl rfl) (mv (vb (!(decide (((lA AR (gI ps (gI (gI (aR (ps.map (bo AR)) names) (k:Int)) 0))).1)=3)))) ?_)))
  by_cases q53:((lA AR (gI ps (gI (gI (aR (ps.map (bo AR)) names) (k:Int)) 0))).1)=3
  ·
   refine aA (wn (congrArg Bool.not (dt q53))) (aA (wn (congrArg Bool.not (dt q53))) (aA (wn (congrArg Bool.not (dt q53))) (aA (wn (congrArg Bool.not (dt q53))) (aA (wn (congrArg Bool.not (dt q53))) (aA (wn (congrArg Bool.not (dt q53))) (aA (wn (congrArg Bool.not (dt q53))) (aA (wn (congrArg Bool.not (dt q53))) (aA (wn (congrArg Bool.not (dt q53))) (aA (wn (congrArg Bool.not (dt q53))) ?_)))))))))
   refine aA (wn (congrArg Bool.not (dt q53))) (lw (vb false) (bt rfl (congrArg Bool.not (dt q53)) rfl) (ab (ag rfl rfl (ao (ak ?_)))))
   clear cel31 r32
   refine a6 rfl (lx (aS (m:=↑k) (n:=1) zs37 rfl (by omega)) (mi ((k:Int)+1) (ab ?_)))
   refine back9 (k+1,of1,gone,g29) _ _ ⟨bH,zs0,zs5,zs7,zs35,zs36,rfl,Rps,ar_A,o6,o18,o23,by omega,?_⟩ ?_
   · show fl (ps.map (bo AR)) (aR (ps.map (bo AR)) names) names (k+1)=some (of1,gone)
     (rw[hk3];exact congrArg some (mn hk2 (λc=>by rw[hv0] at c;exact absurd c.1 (by(intro d;exact d ‹_›)))))
   · show Int.toNat (_-_)<Int.toNat (_-_)
     omega
  refine lv (vi ((lA AR (gI ps (gI (gI (aR (ps.map (bo AR)) names) (k:Int)) 0))).1)) (wy (congrArg Bool.not (df q53))) (aq rfl) (lv (ps_v) (wy (congrArg Bool.not (df q53))) (aq zs0) (lv (v30) (wy (congrArg Bool.not (df q53))) (aq rfl) (lv (Value.pointer (some (aB v30 1 (Int.toNat 1)))) (wy (congrArg Bool.not (df q53))) (ad (α:=Int) (xs:=gI (aR (ps.map (bo AR)) names) (k:Int)) (v:=v30) (i:=1) bF rfl rfl r32.row_sl rfl (by omega) (by omega)) ?_)))
  refine lv (vi (gI (gI (aR (ps.map (bo AR)) names) (k:Int)) 1)) (wy (congrArg Bool.not (df q53))) (av (α:=Int) (xs:=gI (aR (ps.map (bo AR)) names) (k:Int)) (v:=v30) (i:=1) ah rfl r32.row_sl (by omega) (by omega) (by decide) rfl) (lv (Value.pointer (some (aB ps_v 1 (Int.toNat (gI (gI (aR (ps.map (bo AR)) names) (k:Int)) 1))))) (wy (congrArg Bool.not (df q53))) (ad (α:=Pp) (xs:=ps) (v:=ps_v) (i:=(gI (gI (aR (ps.map (bo AR)) names) (k:Int)) 1)) iZ rfl rfl Rps rfl (by omega) (by omega)) ?_)
  refine lv (Value.pointer (some ⟨(gI ps (gI (gI (aR (ps.map (bo AR)) names) (k:Int)) 1)).n,0,none⟩)) (wy (congrArg Bool.not (df q53))) (av (α:=Pp) (xs:=ps) (v:=ps_v) (i:=(gI (gI (aR (ps.map (bo AR)) names) (k:Int)) 1)) aW rfl Rps (by omega) (by omega) (by decide) rfl) (lv (Value.pointer (some ⟨(gI ps (gI (gI (aR (ps.map (bo AR)) names) (k:Int)) 1)).n,0,none⟩)) (wy (congrArg Bool.not (df q53))) (ae rfl) (lv (Value.pointer (some ⟨(gI ps (gI (gI (aR (ps.map (bo AR)) names) (k:Int)) 1)).n,0,none⟩)) (wy (congrArg Bool.not (df q53))) (aa dR rfl rfl rfl rfl) ?_))
  obtain⟨v36,bx37,o38⟩:=fV.gt (u:=(gI ps (gI (gI (aR (ps.map (bo AR)) names) (k:Int)) 1))) ar_A (j:=(AR.1.idxOf (gI ps (gI (gI (aR (ps.map (bo AR)) names) (k:Int)) 1)))) (by exact fb (hin _ (bC (by omega) (by omega))))
  refine lv (vi ((lA AR (gI ps (gI (gI (aR (ps.map (bo AR)) names) (k:Int)) 1))).1)) (wy (congrArg Bool.not (df q53))) (a8 ah rfl bx37 rfl) (lv (vb (decide (((lA AR (gI ps (gI (gI (aR (ps.map (bo AR)) names) (k:Int)) 0))).1)=((lA AR (gI ps (gI (gI (aR (ps.map (bo AR)) names) (k:Int)) 1))).1)))) (wy (congrArg Bool.not (df q53))) (dA (m:=(lA AR (gI ps (gI (gI (aR (ps.map (bo AR)) names) (k:Int)) 0))).1) (n:=(lA AR (gI ps (gI (gI (aR (ps.map (bo AR)) names) (k:Int)) 1))).1) rfl rfl) ?_)
  refine lw (vb (decide (((lA AR (gI ps (gI (gI (aR (ps.map (bo AR)) names) (k:Int)) 0))).1)=((lA AR (gI ps (gI (gI (aR (ps.map (bo AR)) names) (k:Int)) 1))).1)))) (bj rfl (congrArg Bool.not (df q53)) rfl) (ab ?_)
  by_cases p12:((lA AR (gI ps (gI (gI (aR (ps.map (bo AR)) names) (k:Int)) 0))).1)=((lA AR (gI ps (gI (gI (aR (ps.map (bo AR)) names) (k:Int)) 1))).1)
  ·
   refine af rfl (dt p12) (a7 ?_)
   clear bx37 o38
   refine a6 rfl (mz zs7 (mi ↑k (lx (ad (v:=v16) (i:=↑k) jG rfl rfl o18.flat rfl (by omega) (by omega)) (lo (aZ (i:=↑k) true dL rfl rfl o18 (by omega) (by omega) rfl ?_)))))
   intro w39 ch40 bx41
   clear o18 cel31
   refine ab ?_
   have hcc:¬(gI (ps.map (bo AR)) (gI (gI (aR (ps.map (bo AR)) names) (k:Int)) 0)).1=3/\(gI (ps.map (bo AR)) (gI (gI (aR (ps.map (bo AR)) names) (k:Int)) 0)).1=(gI (ps.map (bo AR)) (gI (gI (aR (ps.map (bo AR)) names) (k:Int)) 1)).1:=⟨by rw[hv0];assumption,by rw[hv0,hv1];assumption⟩
   obtain⟨hr1,hr2,⟨hr3,hr4⟩,⟨hr5,hr6⟩,hr7⟩:=nj hk2 hcc
   simp only at hr1 hr2 hr3 hr4 hr5 hr6 hr7
   refine dy (σ:=aw) (λgq f w=>b6 w0 gq w/\f 0=ps_v/\f 5=v4/\f 7=v16/\f 35=v22/\f 36=vi (List.length (aR (ps.map (bo AR)) names):Int)/\f 37=vi ↑k/\Sl gq (is 0) w ps_v ps/\fV gq w AR.1 AR.2/\dr gq 3 w v22 (aR (ps.map (bo AR)) names)/\Ow gq (is 2) (is 2) w v16 (List.set gone (Int.toNat ↑k) true)/\Ow gq (is 1) (is 1) w v4 (List.set of1 (Int.toNat (dg of1 (gI (gI (aR (ps.map (bo AR)) names) (k:Int)) 1))) (dg of1 (gI (gI (aR (ps.map (bo AR)) names) (k:Int)) 0)))) g29 (inl [1]) kW ?_ ?_
   ·
    intro mid
    intro w43 ch42
    refine ht (v:=v4) 0 rfl (aU.refl _ _ _) (λw' hw'=>aq zs5) (ht (v:=v4) 1 rfl (aU.refl _ _ _) (λw' hw'=>aq zs5) (ht (v:=v30) 2 rfl (aU.refl _ _ _) (λw' hw'=>aq rfl) (ht (v:=v4) 6 rfl (aU.refl _ _ _) (λw' hw'=>aq zs5) (ht (v:=v30) 7 rfl (aU.refl _ _ _) (λw' hw'=>aq rfl) ?_))))
    refine bO 3 [8] (by kernel_rfl) ⟨bL 3 rfl (by kernel_rfl) rfl ?_,bL 8 rfl (by kernel_rfl) rfl ?_,trivial⟩
    ·
     replace r32:=(r32.chg ch40 (mD rfl) (mD rfl)).cn ch42
     refine aj (v:=Value.pointer (some (aB v30 1 (Int.toNat 1)))) (ad (α:=Int) (xs:=gI (aR (ps.map (bo AR)) names) (k:Int)) (v:=v30) (i:=1) bF rfl rfl r32.row_sl rfl (by omega) (by omega)) ?_
     refine⟨(aU.refl _ _ _),?_⟩
     refine ht 4 rfl (aU.refl _ _ _) (λw' hw'=>av (v:=v30) (i:=1) ah rfl (r32.row_sl.chg hw' (bI rfl)) (by omega) (by omega) (by decide) rfl) ?_
     refine bO 5 [8] (by kernel_rfl) ⟨bL 5 rfl (by kernel_rfl) rfl ?_,bL 8 rfl (by kernel_rfl) rfl ?_,trivial⟩
     ·
      replace o6:=(o6.ce ch40).cn ch42
      refine bV (v:=vi (dg of1 (gI (gI (aR (ps.map (bo AR)) names) (k:Int)) 1))) (aH (vals:=[v4,vi (gI (gI (aR (ps.map (bo AR)) names) (k:Int)) 1)]) Tryz.func70 gv gw rfl) (fA w43 of1 v4 (o6.flat).ro (gI (gI (aR (ps.map (bo AR)) names) (k:Int)) 1) (by exact hr1) (by exact hob)) ?_
      intro w44 hb45
      replace hb45:=aN hb45 g29
      have hs46:aU (inl [1]) _ _ _ _:=hb45.n
      refine⟨hs46.same,?_⟩
      refine az 8 rfl (by kernel_rfl) rfl (aj (v:=Value.pointer (some (aB v30 1 (Int.toNat 0)))) (ad (α:=Int) (xs:=gI (aR (ps.map (bo AR)) names) (k:Int)) (v:=v30) (i:=0) bF rfl rfl (r32.chg hs46 (o4 rfl) (o4 rfl)).row_sl rfl (by omega) (by omega)) ?_)
      refine⟨hs46.same,?_⟩
      refine ht 9 rfl hs46.same (λw' hw'=>av (v:=v30) (i:=0) ah rfl (r32.row_sl.chg hw' (bI rfl)) (by omega) (by omega) (by decide) rfl) (az 10 rfl (by kernel_rfl) rfl ?_)
      replace o6:=o6.cn hb45
      refine bV (v:=vi (dg of1 (gI (gI (aR (ps.map (bo AR)) names) (k:Int)) 0))) (aH (vals:=[v4,vi (gI (gI (aR (ps.map (bo AR)) names) (k:Int)) 0)]) Tryz.func70 gv gw rfl) (fA w44 of1 v4 (o6.flat).ro (gI (gI (aR (ps.map (bo AR)) names) (k:Int)) 0) (by exact hr2) (by exact hob)) ?_
      intro w47 hb48
      replace hb48:=aN hb48 g29
      have hs49:=hs46.seq (hb48.n)
      refine⟨hs49.same,?_⟩
      refine az 11 rfl (by kernel_rfl) rfl ?_
      replace o6:=o6.cn hb48
      refine aj (v:=Value.pointer (some (aB v4 1 (Int.toNat (dg of1 (gI (gI (aR (ps.map (bo AR)) names) (k:Int)) 1)))))) (ad (α:=Int) (xs:=of1) (v:=v4) (i:=dg of1 (gI (gI (aR (ps.map (bo AR)) names) (k:Int)) 1)) bF rfl rfl o6.flat rfl (by omega) (by omega)) ?_
      refine⟨hs49.same,?_⟩
      refine az 12 rfl (by kernel_rfl) rfl (aZ (i:=dg of1 (gI (gI (aR (ps.map (bo AR)) names) (k:Int)) 1)) (dg of1 (gI (gI (aR (ps.map (bo AR)) names) (k:Int)) 0)) ah rfl rfl o6 (by omega) (by omega) rfl ?_)
      intro w50 ch51 bx52
      clear o6
      have hs53:=hs49.seq (ch51.l rfl)
      refine⟨hs53.same,?_⟩
      refine bP (by kernel_rfl) ?_
      have C54:=cg [1,2] ((ch40.l rfl).seq (ch42.n.seq (hb45.n.seq (hb48.n.seq (ch51.l rfl)))))
      replace Rps:=(Rps.ce ch40).cn ch42
      replace ar_A:=(ar_A.ce ch40).cn ch42
      replace o23:=(o23.ce ch40).cn ch42
      replace bx41:=bx41.cn ch42
      exact mid (g29) _ _ ⟨bH.ca C54,zs0,zs5,zs7,zs35,zs36,zs37,(Rps.ca hs53),(ar_A.ca hs53),(o23.ca hs53),(bx41.ca hs53),bx52⟩
     ·
      refine aj (v:=Value.pointer (some (aB v30 1 (Int.toNat 0)))) (ad (α:=Int) (xs:=gI (aR (ps.map (bo AR)) names) (k:Int)) (v:=v30) (i:=0) bF rfl rfl r32.row_sl rfl (by omega) (by omega)) ?_
      refine⟨(aU.refl _ _ _),?_⟩
      refine ht 9 rfl (aU.refl _ _ _) (λw' hw'=>av (v:=v30) (i:=0) ah rfl (r32.row_sl.chg hw' (bI rfl)) (by omega) (by omega) (by decide) rfl) (az 5 rfl (by kernel_rfl) rfl ?_)
      replace o6:=(o6.ce ch40).cn ch42
      refine bV (v:=vi (dg of1 (gI (gI (aR (ps.map (bo AR)) names) (k:Int)) 1))) (aH (vals:=[v4,vi (gI (gI (aR (ps.map (bo AR)) names) (k:Int)) 1)]) Tryz.func70 gv gw rfl) (fA w43 of1 v4 (o6.flat).ro (gI (gI (aR (ps.map (bo AR)) names) (k:Int)) 1) (by exact hr1) (by exact hob)) ?_
      intro w55 hb56
      replace hb56:=aN hb56 g29
      have hs57:aU (inl [1]) _ _ _ _:=hb56.n
      refine⟨hs57.same,?_⟩
      refine az 10 rfl (by kernel_rfl) rfl ?_
      replace o6:=o6.cn hb56
      refine bV (v:=vi (dg of1 (gI (gI (aR (ps.map (bo AR)) names) (k:Int)) 0))) (aH (vals:=[v4,vi (gI (gI (aR (ps.map (bo AR)) names) (k:Int)) 0)]) Tryz.func70 gv gw rfl) (fA w55 of1 v4 (o6.flat).ro (gI (gI (aR (ps.map (bo AR)) names) (k:Int)) 0) (by exact hr2) (by exact hob)) ?_
      intro w58 hb59
      replace hb59:=aN hb59 g29
      have hs60:=hs57.seq (hb59.n)
      refine⟨hs60.same,?_⟩
      refine az 11 rfl (by kernel_rfl) rfl ?_
      replace o6:=o6.cn hb59
      refine aj (v:=Value.pointer (some (aB v4 1 (Int.toNat (dg of1 (gI (gI (aR (ps.map (bo AR)) names) (k:Int)) 1)))))) (ad (α:=Int) (xs:=of1) (v:=v4) (i:=dg of1 (gI (gI (aR (ps.map (bo AR)) names) (k:Int)) 1)) bF rfl rfl o6.flat rfl (by omega) (by omega)) ?_
      refine⟨hs60.same,?_⟩
      refine az 12 rfl (by kernel_rfl) rfl (aZ (i:=dg of1 (gI (gI (aR (ps.map (bo AR)) names) (k:Int)) 1)) (dg of1 (gI (gI (aR (ps.map (bo AR)) names) (k:Int)) 0)) ah rfl rfl o6 (by omega) (by omega) rfl ?_)
      intro w61 ch62 bx63
      clear o6
      have hs64:=hs60.seq (ch62.l rfl)
      refine⟨hs64.same,?_⟩
      refine bP (by kernel_rfl) ?_
      have C65:=cg [1,2] ((ch40.l rfl).seq (ch42.n.seq (hb56.n.seq (hb59.n.seq (ch62.l rfl)))))
      replace Rps:=(Rps.ce ch40).cn ch42
      replace ar_A:=(ar_A.ce ch40).cn ch42
      replace o23:=(o23.ce ch40).cn ch42
      replace bx41:=bx41.cn ch42
      exact mid (g29) _ _ ⟨bH.ca C65,zs0,zs5,zs7,zs35,zs36,zs37,(Rps.ca hs64),(ar_A.ca hs64),(o23.ca hs64),(bx41.ca hs64),bx63⟩
    ·
     replace r32:=(r32.chg ch40 (mD rfl) (mD rfl)).cn ch42
     refine aj (v:=Value.pointer (some (aB v30 1 (Int.toNat 0)))) (ad (α:=Int) (xs:=gI (aR (ps.map (bo AR)) names) (k:Int)) (v:=v30) (i:=0) bF rfl rfl r32.row_sl rfl (by omega) (by omega)) ?_
     refine⟨(aU.refl _ _ _),?_⟩
     refine ht 9 rfl (aU.refl _ _ _) (λw' hw'=>av (v:=v30) (i:=0) ah rfl (r32.row_sl.chg hw' (bI rfl)) (by omega) (by omega) (by decide) rfl) (az 3 rfl (by kernel_rfl) rfl (aj (v:=Value.pointer (some (aB v30 1 (Int.toNat 1)))) (ad (α:=Int) (xs:=gI (aR (ps.map (bo AR)) names) (k:Int)) (v:=v30) (i:=1) bF rfl rfl r32.row_sl rfl (by omega) (by omega)) ?_))
     refine⟨(aU.refl _ _ _),?_⟩
     refine ht 4 rfl (aU.refl _ _ _) (λw' hw'=>av (v:=v30) (i:=1) ah rfl (r32.row_sl.chg hw' (bI rfl)) (by omega) (by omega) (by decide) rfl) (az 5 rfl (by kernel_rfl) rfl ?_)
     replace o6:=(o6.ce ch40).cn ch42
     refine bV (v:=vi (dg of1 (gI (gI (aR (ps.map (bo AR)) names) (k:Int)) 1))) (aH (vals:=[v4,vi (gI (gI (aR (ps.map (bo AR)) names) (k:Int)) 1)]) Tryz.func70 gv gw rfl) (fA w43 of1 v4 (o6.flat).ro (gI (gI (aR (ps.map (bo AR)) names) (k:Int)) 1) (by exact hr1) (by exact hob)) ?_
     intro w66 hb67
     replace hb67:=aN hb67 g29
     have hs68:aU (inl [1]) _ _ _ _:=hb67.n
     refine⟨hs68.same,?_⟩
     refine az 10 rfl (by kernel_rfl) rfl ?_
     replace o6:=o6.cn hb67
     refine bV (v:=vi (dg of1 (gI (gI (aR (ps.map (bo AR)) names) (k:Int)) 0))) (aH (vals:=[v4,vi (gI (gI (aR (ps.map (bo AR)) names) (k:Int)) 0)]) Tryz.func70 gv gw rfl) (fA w66 of1 v4 (o6.flat).ro (gI (gI (aR (ps.map (bo AR)) names) (k:Int)) 0) (by exact hr2) (by exact hob)) ?_
     intro w69 hb70
     replace hb70:=aN hb70 g29
     have hs71:=hs68.seq (hb70.n)
     refine⟨hs71.same,?_⟩
     refine az 11 rfl (by kernel_rfl) rfl ?_
     replace o6:=o6.cn hb70
     refine aj (v:=Value.pointer (some (aB v4 1 (Int.toNat (dg of1 (gI (gI (aR (ps.map (bo AR)) names) (k:Int)) 1)))))) (ad (α:=Int) (xs:=of1) (v:=v4) (i:=dg of1 (gI (gI (aR (ps.map (bo AR)) names) (k:Int)) 1)) bF rfl rfl o6.flat rfl (by omega) (by omega)) ?_
     refine⟨hs71.same,?_⟩
     refine az 12 rfl (by kernel_rfl) rfl (aZ (i:=dg of1 (gI (gI (aR (ps.map (bo AR)) names) (k:Int)) 1)) (dg of1 (gI (gI (aR (ps.map (bo AR)) names) (k:Int)) 0)) ah rfl rfl o6 (by omega) (by omega) rfl ?_)
     intro w72 ch73 bx74
     clear o6
     have hs75:=hs71.seq (ch73.l rfl)
     refine⟨hs75.same,?_⟩
     refine bP (by kernel_rfl) ?_
     have C76:=cg [1,2] ((ch40.l rfl).seq (ch42.n.seq (hb67.n.seq (hb70.n.seq (ch73.l rfl)))))
     replace Rps:=(Rps.ce ch40).cn ch42
     replace ar_A:=(ar_A.ce ch40).cn ch42
     replace o23:=(o23.ce ch40).cn ch42
     replace bx41:=bx41.cn ch42
     exact mid (g29) _ _ ⟨bH.ca C76,zs0,zs5,zs7,zs35,zs36,zs37,(Rps.ca hs75),(ar_A.ca hs75),(o23.ca hs75),(bx41.ca hs75),bx74⟩
   clear Rps ar_A o6 o23 r32 bx41 bH
   rintro g79 f77 w78 ⟨bH,zs0,zs5,zs7,zs35,zs36,zs37,Rps,ar_A,o23,bx41,bx52⟩
   refine ak (a6 rfl (lx (aS (m:=↑k) (n:=1) zs37 rfl (by omega)) (mi ((k:Int)+1) (ab ?_))))
   refine back9 (k+1,(List.set of1 (Int.toNat (dg of1 (gI (gI (aR (ps.map (bo AR)) names) (k:Int)) 1))) (dg of1 (gI (gI (aR (ps.map (bo AR)) names) (k:Int)) 0))),(List.set gone (Int.toNat ↑k) true),g79) _ _ ⟨bH,zs0,zs5,zs7,zs35,zs36,rfl,Rps,ar_A,bx52,bx41,o23,by omega,?_⟩ ?_
   · show fl (ps.map (bo AR)) (aR (ps.map (bo AR)) names) names (k+1)=some ((List.set of1 (Int.toNat (dg of1 (gI (gI (aR (ps.map (bo AR)) names) (k:Int)) 1))) (dg of1 (gI (gI (aR (ps.map (bo AR)) names) (k:Int)) 0))),(List.set gone (Int.toNat ↑k) true))
     (rw[hk3];exact congrArg some hr7)
   · show Int.toNat (_-_)<Int.toNat (_-_)
     omega
  refine ag rfl (df p12) (ao (ak ?_))
  clear cel31 r32 bx37 o38
  refine a6 rfl (lx (aS (m:=↑k) (n:=1) zs37 rfl (by omega)) (mi ((k:Int)+1) (ab ?_)))
  refine back9 (k+1,of1,gone,g29) _ _ ⟨bH,zs0,zs5,zs7,zs35,zs36,rfl,Rps,ar_A,o6,o18,o23,by omega,?_⟩ ?_
  · show fl (ps.map (bo AR)) (aR (ps.map (bo AR)) names) names (k+1)=some (of1,gone)
    (rw[hk3];exact congrArg some (mn hk2 (λc=>by rw[hv0,hv1] at c;exact absurd c.2 ‹_›)))
  · show Int.toNat (_-_)<Int.toNat (_-_)
    omega
 refine ag rfl (df p9) (aO rfl (a7 ?_))
 clear o23
 have hJ:(of1,gone)=(JV (ps.map (bo AR)) names):=Option.some.inj (hjn.symm.trans (by rw[show k=names.toNat by omega];exact hj))
 have hJ1:of1=(JV (ps.map (bo AR)) names).1:=congrArg Prod.fst hJ
 have hJ2:gone=(JV (ps.map (bo AR)) names).2:=congrArg Prod.snd hJ
 obtain⟨hl1,hl2,hl3⟩:=kS hjn
 simp only at hl1 hl2 hl3
 have hob:=sh hl3 (by omega) (by omega)
 have pm80:eW g29 4 w28 (([],[]):List Pp×List (bY Bd)).1 (([],[]):List Pp×List (bY Bd)).2:=eW.nil
 refine a6 rfl (cN rfl (qL (K:=Int) g29 (is 5) (5,0) rfl ?_))
 intro g81 w82 v83 ch84 m85
 refine ma v83 (ab (a7 (a6 rfl (ma vn (ab (a7 (a7 (a6 rfl (mz zs0 ?_)))))))))
 replace Rps:=Rps.cn ch84
 refine lx (bp iZ rfl Rps) (mi 0 (ab (am ?_)))
 refine aV (σ:=Value×(List Pp)×Nat×(List Pp×List (bY Bd))×(Int->Int)×aw) (λ⟨out_v,out,i,pmB,F,gq⟩ f w=>b6 w0 gq w/\f 5=v4/\f 7=v16/\f 11=v83/\f 12=out_v/\f 83=ps_v/\f 84=vi (ps.length:Int)/\f 85=vi ↑i/\Sl gq (is 0) w ps_v ps/\fV gq w AR.1 AR.2/\Ow gq (is 1) (is 1) w v4 of1/\Ow gq (is 2) (is 2) w v16 gone/\eW gq 4 w pmB.1 pmB.2/\Mq gq (is 5) w v83 F/\Ow gq (is 9) (is 9) w out_v out/\(i:Int)<=((ps.length:Int):Int)/\(kq (ft (ps.map (bo AR)) (JV (ps.map (bo AR)) names) i) F out pmB)) (λ⟨out_v,out,i,pmB,F,gq⟩=>Int.toNat (((ps.length:Int):Int)-(i:Int))) (vn,[],0,(([],[]):List Pp×List (bY Bd)),(λ(_:Int)=>(0:Int)),g81) ?_ ?_
 · exact⟨bH.cn ch84,zs5,zs7,rfl,rfl,rfl,rfl,rfl,Rps,ar_A.cn ch84,o6.cn ch84,o18.cn ch84,pm80.cn ch84,m85,Ow.nil,by omega,by exact kq.start⟩
 clear Rps ar_A o6 o18 pm80 m85 bH
 rintro⟨out_v,out,i,pmB,F,g88⟩ f86 w87 ⟨bH,zs5,zs7,zs11,zs12,zs83,zs84,zs85,Rps,ar_A,o6,o18,pm80,m85,o_out,hle_i,htg⟩ back19
 have hgl:=htg.len
 have hgl2:=rM (V:=(ps.map (bo AR))) (J:=(JV (ps.map (bo AR)) names)) i
 refine a7 (a6 rfl (lx (bw (m:=↑i) (n:=(ps.length:Int)) zs85 zs84) (ab (a7 ?_))))
 by_cases p19:(i:Int)<(ps.length:Int)
 ·
  refine af rfl (dt p19) (ao (a7 (am (a7 ?_))))
  obtain⟨a_,ha_⟩:=hrt i (by omega)
  rw[<-hJ1] at ha_
  obtain⟨hra,hrb⟩:=lW ha_
  have hvi:gI (ps.map (bo AR)) (i:Int)=(lA AR (gI ps ↑i)):=iO (by omega) (by omega)
  obtain⟨hok1,hok2⟩:=hok (gI (ps.map (bo AR)) (i:Int)) (bC (by omega) (by omega))
  rw[hvi] at hok1 hok2
  refine a6 rfl (mz zs85 (lx (ad (v:=ps_v) (i:=↑i) iZ rfl zs83 Rps zs85 (by omega) (by omega)) (lx (av (v:=ps_v) (i:=↑i) aW rfl Rps (by omega) (by omega) (by decide) rfl) (ai (i:Int) (ma (Value.pointer (some ⟨(gI ps ↑i).n,0,none⟩)) (ab (a7 (a6 rfl (mz zs5 (mi ↑i (lo ?_)))))))))))
  refine bV (v:=vi (dg of1 (i:Int))) (aH (vals:=[v4,vi ↑i]) Tryz.func70 gv gw rfl) (fA w87 of1 v4 (o6.flat).ro (i:Int) (by exact hrb) (by exact hob)) ?_
  intro w89 hb90
  replace hb90:=aN hb90 g88
  refine ai (dg of1 (i:Int)) (ab (a7 (a7 ?_)))
  refine lQ [false,false,true] (σ:=Value×(List Pp)×(List Pp×List (bY Bd))×(Int->Int)×aw) (λ⟨out2_v,out2,pmC,F2,gq⟩ f w=>b6 w0 gq w/\f 5=v4/\f 7=v16/\f 11=v83/\f 12=out2_v/\f 14=Value.pointer (some ⟨(gI ps ↑i).n,0,none⟩)/\f 15=vi (dg of1 (i:Int))/\f 83=ps_v/\f 84=vi (ps.length:Int)/\f 85=vi ↑i/\Sl gq (is 0) w ps_v ps/\fV gq w AR.1 AR.2/\Ow gq (is 1) (is 1) w v4 of1/\Ow gq (is 2) (is 2) w v16 gone/\eW gq 4 w pmC.1 pmC.2/\Mq gq (is 5) w v83 F2/\Ow gq (is 9) (is 9) w out2_v out2/\(zQ (ps.map (bo AR)) (JV (ps.map (bo AR)) names) i (dg of1 (i:Int)) (lA AR (gI ps ↑i)).1 F2 out2 pmC)) ?_ ?_
  ·
   intro mid_j1
   refine a6 rfl (mz zs11 (mi (dg of1 (i:Int)) ?_))
   replace m85:=m85.cn hb90
   refine lw ((cw (F (dg of1 (i:Int))))) (bD (dg of1 (i:Int)) eH (be U3) aW rfl m85 rfl rfl rfl) (lw (vb (decide (F (dg of1 (i:Int))=0))) (Ax BP rfl rfl) (ab ?_))
   by_cases p22:F (dg of1 (i:Int))=0
   ·
    refine af rfl (dt p22) (a7 (a6 rfl (mz zs11 (mi (dg of1 (i:Int)) (mv (Value.pointer (some ⟨(gI ps ↑i).n,0,none⟩)) (lw (Value.pointer (some ⟨(gI ps ↑i).n,0,none⟩)) (ae rfl) (lx (aa dR rfl rfl rfl rfl) ?_)))))))
    replace ar_A:=ar_A.cn hb90
    obtain⟨v91,bx92,o93⟩:=fV.gt (u:=(gI ps ↑i)) ar_A (j:=(AR.1.idxOf (gI ps ↑i))) (by exact fb (hin _ (bC (by omega) (by omega))))
    refine lx (a8 ah rfl bx92 rfl) (lw (vg [vi ((lA AR (gI ps ↑i)).1),vn]) (bh (vs:=[(0,vi ((lA AR (gI ps ↑i)).1))]) rfl (by kernel_rfl)) (lo (cq g88 (is 6) (6,0) rfl rfl ?_)))
    intro g97 w94 b96 ch95 bx98
    refine lo ?_
    replace m85:=m85.cn ch95
    refine oh (dg of1 (i:Int)) eH (be U3) rfl m85 rfl rfl rfl p22 ?_
    intro w99 ch100 m101
    clear m85
    replace m101:Mq g97 (is 5) w99 v83 (λq=>if q=(dg of1 (i:Int)) then((b96:Nat):Int)+1 else F q):=m101
    refine ab ?_
    replace bx98:=bx98.ce ch100
    have C105:=cg [5] (hb90.n.seq (ch95.n.seq (ch100.l rfl)))
    replace pm80:=pm80.ca C105
    obtain⟨g102,ch103,pm104⟩:=eW.add pm80 rfl rfl rfl bx98 (Ow.nil (γ:=g97) (J:=is 7) (S:=is 7))
    clear bx98
    replace pm104:eW g102 4 w99 (pmB.1++[(⟨b96⟩:Pp)],pmB.2++[(((lA AR (gI ps ↑i)).1),([]))]).1 (pmB.1++[(⟨b96⟩:Pp)],pmB.2++[(((lA AR (gI ps ↑i)).1),([]))]).2:=pm104
    obtain⟨u,hu⟩:∃u:Pp,u=⟨b96⟩:=⟨_,rfl⟩
    have htm:=htg.new p22 (c:=(lA AR (gI ps ↑i)).1) (b:=⟨b96⟩) (eW.nd ‹_›)
    have hFr:(λq=>if q=dg of1 (i:Int) then((b96:Nat):Int)+1 else F q) (dg of1 (i:Int))=(u.n:Int)+1:=by rw[hu];exact if_pos rfl
    refine a6 rfl (mz zs12 (mz zs11 (mi (dg of1 (i:Int)) ?_)))
    replace m101:=m101.chg ch103 (cd rfl rfl)
    refine lw (vp b96 0) (bD (dg of1 (i:Int)) eH (be U3) aW rfl m101 rfl rfl (by show cw (if _=_ then _ else _)=_;rw[if_pos rfl];exact bZ ⟨b96⟩)) (lo (ar (α:=Pp) g102 (is 8) (is 8) (8,0) rfl [(⟨b96⟩:Pp)] iZ aW (by decide) (by decide) (vs:=[(0,vp b96 0)]) rfl rfl (.cons rfl .nil) ?_))
    intro g106 w107 v108 ch109 o110
    refine lo ?_
    have C111:=cg [5,6,7] (hb90.n.seq (ch95.n.seq ((ch100.l rfl).seq ((ch103.l2 rfl rfl).seq ch109.n))))
    replace o_out:=o_out.ca C111
    refine aK (α:=Pp) (xs:=out) (ys:=([(⟨b96⟩:Pp)])) g106 (J:=is 9) (S:=is 9) (9,0) rfl iZ aW (by decide) rfl rfl rfl o_out o110.flat (by decide) (by(simp;omega)) ?_
    intro g112 w113 v114 ch115 o116
    clear o_out
    refine ma v114 (ab (a7 ?_))
    clear o110
    have C118:=cg [5,6,7,9] (ch95.n.seq ((ch100.l rfl).seq ((ch103.l2 rfl rfl).seq (ch109.n.seq (ch115.l rfl)))))
    have C117:=hb90.n.seq C118
    refine mid_j1 (v114,(out++[(⟨b96⟩:Pp)]),(pmB.1++[(⟨b96⟩:Pp)],pmB.2++[(((lA AR (gI ps ↑i)).1),([]))]),(λq=>if q=(dg of1 (i:Int)) then((b96:Nat):Int)+1 else F q),g112) _ _ ⟨bH.ca C117,zs5,zs7,zs11,rfl,rfl,rfl,zs83,zs84,zs85,Rps.ca C117,ar_A.ca C118,o6.ca C117,o18.ca C117,(pm104.cn ch109).ce ch115,(m101.cn ch109).ce ch115,o116,?_⟩
    show zQ (ps.map (bo AR)) (JV (ps.map (bo AR)) names) i (dg of1 (i:Int)) (lA AR (gI ps ↑i)).1 (λq=>if q=(dg of1 (i:Int)) then((b96:Nat):Int)+1 else F q) (out++[(⟨b96⟩:Pp)]) (pmB.1++[(⟨b96⟩:Pp)],pmB.2++[(((lA AR (gI ps ↑i)).1),([]))])
    exact zQ.new htg p22 htm hFr (by rw[hu];simp)
   obtain⟨u,hFr,huo⟩:=htg.has p22
   have htm:=htg
   refine ag rfl (df p22) (ao (a7 ?_))
   refine mid_j1 (out_v,out,pmB,F,g88) _ _ ⟨bH.cn hb90,zs5,zs7,zs11,zs12,rfl,rfl,zs83,zs84,zs85,Rps.cn hb90,ar_A.cn hb90,o6.cn hb90,o18.cn hb90,pm80.cn hb90,m85,o_out.cn hb90,?_⟩
   show zQ (ps.map (bo AR)) (JV (ps.map (bo AR)) names) i (dg of1 (i:Int)) (lA AR (gI ps ↑i)).1 F out pmB
   exact zQ.old htg hFr huo
  clear Rps ar_A o6 o18 pm80 m85 o_out bH
  rintro⟨out2_v,out2,pmC,F2,g121⟩ f119 w120 ⟨bH,z122_5,z122_7,z122_11,z122_12,z122_14,z122_15,z122_83,z122_84,z122_85,Rps,ar_A,o6,o18,pm80,m85,o_out2,htj⟩
  obtain⟨G2,u,htm,⟨hFr,huo⟩,hG2⟩:=htj
  have huo2:=htm.sub u huo
  obtain⟨g126,v123,ch127,pm128,bx124,o125⟩:=eW.opn 10 11 (u:=u) pm80 (j:=(pmC.1.idxOf u)) (by exact fb huo2)
  obtain⟨KB,hKB⟩:∃q_,q_=(lA pmC u).1:=⟨_,rfl⟩
  rw[<-hKB] at bx124
  obtain⟨OB0,hOB0⟩:∃q_,q_=(lA pmC u).2:=⟨_,rfl⟩
  rw[<-hOB0] at o125
  have hob0:(OB0.length:Int)<=100000*(i:Int):=by rw[hOB0];exact yZ htm huo hG2 hok (by omega)
  refine a6 rfl (mz z122_14 (lw (Value.pointer (some ⟨(gI ps ↑i).n,0,none⟩)) (ae rfl) (lx (aa dR rfl rfl rfl rfl) ?_)))
  replace ar_A:=ar_A.ce ch127
  obtain⟨v129,bx130,o131⟩:=fV.gt (u:=(gI ps ↑i)) ar_A (j:=(AR.1.idxOf (gI ps ↑i))) (by exact fb (hin _ (bC (by omega) (by omega))))
  refine lx (a8 bn rfl bx130 rfl) ?_
  have len132:=(o131).small
  refine lx (bp cJ rfl o131) (mi 0 (ab (am ?_)))
  clear bx130
  refine aV (σ:=Nat×Value×(List Bd)×aw) (λ⟨m,OB_v,OB,gq⟩ f w=>b6 w0 gq w/\f 5=v4/\f 7=v16/\f 11=v83/\f 12=out2_v/\f 15=vi (dg of1 (i:Int))/\f 83=ps_v/\f 84=vi (ps.length:Int)/\f 85=vi ↑i/\f 114=v129/\f 115=vi (List.length ((lA AR (gI ps ↑i)).2):Int)/\f 116=vi ↑m/\Sl gq (is 0) w ps_v ps/\fV gq w AR.1 AR.2/\Ow gq (is 1) (is 1) w v4 of1/\Ow gq (is 2) (is 2) w v16 gone/\Mq gq (is 5) w v83 F2/\Ow gq (is 9) (is 9) w out2_v out2/\d8 gq 4 (pmC.1.idxOf u) w pmC.1 pmC.2/\Bx gq (is 10) w u.n [vi KB,OB_v]/\Sl gq (is 0) w v129 ((lA AR (gI ps ↑i)).2)/\Ow gq (is 11) (is 11) w OB_v OB/\(m:Int)<=((List.length ((lA AR (gI ps ↑i)).2):Int):Int)/\(OB=OB0++ip gone ((lA AR (gI ps ↑i)).2.take m))) (λ⟨m,OB_v,OB,gq⟩=>Int.toNat (((List.length ((lA AR (gI ps ↑i)).2):Int):Int)-(m:Int))) (0,v123,OB0,g126) ?_ ?_
  · exact⟨bH.ce ch127,z122_5,z122_7,z122_11,z122_12,z122_15,z122_83,z122_84,z122_85,rfl,rfl,rfl,Rps.ce ch127,ar_A,o6.ce ch127,o18.ce ch127,m85.ce ch127,o_out2.ce ch127,pm128,bx124,o131,o125,by omega,by simp[ip]⟩
  clear Rps ar_A o6 o18 m85 o_out2 pm128 bx124 o125 o131 bH
  rintro⟨m,OB_v,OB,g135⟩ f133 w134 ⟨bH,zs5,zs7,zs11,zs12,zs15,zs83,zs84,zs85,zs114,zs115,zs116,Rps,ar_A,o6,o18,m85,o_out2,pm128,bx124,o131,o_OB,hle_m,hOB⟩ back26
  have hobl:OB.length<=OB0.length+m:=by rw[hOB,List.length_append];have:=sd (gone:=gone) (l:=(lA AR (gI ps ↑i)).2) (m:=m);omega
  refine a7 (a6 rfl (lx (bw (m:=↑m) (n:=(List.length ((lA AR (gI ps ↑i)).2):Int)) zs116 zs115) (ab (a7 ?_))))
  by_cases p26:(m:Int)<(List.length ((lA AR (gI ps ↑i)).2):Int)
  ·
   refine af rfl (dt p26) ?_
   have hbj:=hok2 (gI (lA AR (gI ps ↑i)).2 (m:Int)) (bC (by omega) ‹_›)
   refine ao (a7 (am (a7 (a6 rfl (lx (ad (v:=v129) (i:=↑m) cJ rfl zs114 o131 zs116 (by omega) (by omega)) (lw (vg [vi ((gI ((lA AR (gI ps ↑i)).2) (m:Int)).1),vi (((gI ((lA AR (gI ps ↑i)).2) (m:Int)).2).1),vi ((((gI ((lA AR (gI ps ↑i)).2) (m:Int)).2).2).1),vi ((((gI ((lA AR (gI ps ↑i)).2) (m:Int)).2).2).2)]) (bJ (v:=v129) (i:=↑m) bf rfl o131 (by omega) (by omega) rfl) (lo (bi g135 (is 12) (12,0) rfl bf ?_))))))))
   intro g139 w136 b138 ch137 bx140
   refine lo (ax (cs':=[vi ((gI ((lA AR (gI ps ↑i)).2) (m:Int)).1),vi (((gI ((lA AR (gI ps ↑i)).2) (m:Int)).2).1),vi ((((gI ((lA AR (gI ps ↑i)).2) (m:Int)).2).2).1),vi ((((gI ((lA AR (gI ps ↑i)).2) (m:Int)).2).2).2)]) bf rfl rfl bx140 rfl nq (AllOne.all (.cons rfl (.cons rfl (.cons rfl (.cons rfl .nil))))) rfl ?_)
   intro w141 ch142 bx143
   clear bx140
   refine ab (a7 (a6 rfl (lx (ay (ds:=[vi ((gI ((lA AR (gI ps ↑i)).2) (m:Int)).1),vi (((gI ((lA AR (gI ps ↑i)).2) (m:Int)).2).1),vi ((((gI ((lA AR (gI ps ↑i)).2) (m:Int)).2).2).1),vi ((((gI ((lA AR (gI ps ↑i)).2) (m:Int)).2).2).2)]) bf rfl bx143 rfl rfl) (lo ?_))))
   refine br (aH (vals:=[vg [vi ((gI ((lA AR (gI ps ↑i)).2) (m:Int)).1),vi (((gI ((lA AR (gI ps ↑i)).2) (m:Int)).2).1),vi ((((gI ((lA AR (gI ps ↑i)).2) (m:Int)).2).2).1),vi ((((gI ((lA AR (gI ps ↑i)).2) (m:Int)).2).2).2)]]) Tryz.func51 pU oT rfl) (ap Tryz.func51 rfl nq (a7 (a6 rfl (cN rfl (cq g139 (is 13) (13,0) rfl rfl ?_)))))
   intro g147 w144 b146 ch145 bx148
   refine ma (vb false) (ab (a7 (a6 rfl (lx (aa iL rfl rfl rfl rfl) (lx (a8 ah rfl bx148 rfl) (lx (eB (m:=(((gI ((lA AR (gI ps ↑i)).2) (m:Int)).2).2).1) (n:=0) rfl rfl) (ma (vb (decide (0<=((((gI ((lA AR (gI ps ↑i)).2) (m:Int)).2).2).1)))) (ab (au (vs:=[vb (decide (0<=((((gI ((lA AR (gI ps ↑i)).2) (m:Int)).2).2).1)))]) Tryz.func51 (.tmp rfl .nil) ?_)))))))))
   refine⟨vb (decide (0<=((((gI ((lA AR (gI ps ↑i)).2) (m:Int)).2).2).1))),rfl,?_⟩
   refine mv (vb (decide (0<=((((gI ((lA AR (gI ps ↑i)).2) (m:Int)).2).2).1)))) ?_
   by_cases q122:0<=((((gI ((lA AR (gI ps ↑i)).2) (m:Int)).2).2).1)
   ·
    refine aA (wn (dt q122)) (aA (wn (dt q122)) (aA (wn (dt q122)) (aA (wn (dt q122)) (aA (wn (dt q122)) (aA (wn (dt q122)) (lw (vb true) (bj rfl (dt q122) rfl) (ab (af rfl rfl ?_))))))))
    clear bx148
    refine dy (σ:=Value×aw) (λ⟨v161,gq⟩ f w=>b6 w0 gq w/\f 5=v4/\f 7=v16/\f 11=v83/\f 12=out2_v/\f 15=vi (dg of1 (i:Int))/\f 83=ps_v/\f 84=vi (ps.length:Int)/\f 85=vi ↑i/\f 114=v129/\f 115=vi (List.length ((lA AR (gI ps ↑i)).2):Int)/\f 116=vi ↑m/\Sl gq (is 0) w ps_v ps/\fV gq w AR.1 AR.2/\Ow gq (is 1) (is 1) w v4 of1/\Ow gq (is 2) (is 2) w v16 gone/\Mq gq (is 5) w v83 F2/\Ow gq (is 9) (is 9) w out2_v out2/\d8 gq 4 (pmC.1.idxOf u) w pmC.1 pmC.2/\Sl gq (is 0) w v129 ((lA AR (gI ps ↑i)).2)/\Ow gq (is 11) (is 11) w v161 (OB++[((gI ((lA AR (gI ps ↑i)).2) (m:Int)).1,((gI ((lA AR (gI ps ↑i)).2) (m:Int)).2).1,(((gI ((lA AR (gI ps ↑i)).2) (m:Int)).2).2).1,(((gI ((lA AR (gI ps ↑i)).2) (m:Int)).2).2).2)])/\Bx gq (is 10) w u.n [vi KB,v161]) g147 (inl [10,11]) kW ?_ ?_
    ·
     intro mid
     intro w150 ch149
     refine ht (v:=v83) 0 rfl (aU.refl _ _ _) (λw' hw'=>aq zs11) (ht (v:=vi (dg of1 (i:Int))) 1 rfl (aU.refl _ _ _) (λw' hw'=>aq zs15) (ht (v:=v83) 3 rfl (aU.refl _ _ _) (λw' hw'=>aq zs11) (ht (v:=vi (dg of1 (i:Int))) 4 rfl (aU.refl _ _ _) (λw' hw'=>aq zs15) ?_)))
     replace bx143:=(bx143.cn ch145).cn ch149
     refine ht 9 rfl (aU.refl _ _ _) (λw' hw'=>ay (ds:=[vi ((gI ((lA AR (gI ps ↑i)).2) (m:Int)).1),vi (((gI ((lA AR (gI ps ↑i)).2) (m:Int)).2).1),vi ((((gI ((lA AR (gI ps ↑i)).2) (m:Int)).2).2).1),vi ((((gI ((lA AR (gI ps ↑i)).2) (m:Int)).2).2).2)]) bf rfl (bx143.chg hw' (bI rfl)) rfl rfl) ?_
     refine bO 2 [5,10] (by kernel_rfl) ⟨bL 2 rfl (by kernel_rfl) rfl ?_,bL 5 rfl (by kernel_rfl) rfl ?_,bL 10 rfl (by kernel_rfl) rfl ?_,trivial⟩
     ·
      have C151:=cg [12] (ch137.n.seq ((ch142.l rfl).seq (ch145.n.seq ch149.n)))
      replace m85:=m85.ca C151
      refine aj (v:=Value.pointer (some ⟨u.n,0,none⟩)) (bD (dg of1 (i:Int)) eH (be U3) aW rfl m85 rfl rfl (by exact(congrArg cw hFr).trans (bZ u))) ?_
      refine⟨(aU.refl _ _ _),?_⟩
      refine bO 5 [10] (by kernel_rfl) ⟨bL 5 rfl (by kernel_rfl) rfl ?_,bL 10 rfl (by kernel_rfl) rfl ?_,trivial⟩
      ·
       refine aj (v:=Value.pointer (some ⟨u.n,0,none⟩)) (bD (dg of1 (i:Int)) eH (be U3) aW rfl m85 rfl rfl (by exact(congrArg cw hFr).trans (bZ u))) ?_
       refine⟨(aU.refl _ _ _),?_⟩
       refine ht (v:=Value.pointer (some ⟨u.n,0,none⟩)) 6 rfl (aU.refl _ _ _) (λw' hw'=>ae rfl) (ht 7 rfl (aU.refl _ _ _) (λw' hw'=>aa dR rfl rfl rfl rfl) ?_)
       refine bO 8 [10] (by kernel_rfl) ⟨bL 8 rfl (by kernel_rfl) rfl ?_,bL 10 rfl (by kernel_rfl) rfl ?_,trivial⟩
       ·
        replace bx124:=bx124.ca C151
        refine aj (v:=OB_v) (a8 bn rfl bx124 rfl) ?_
        refine⟨(aU.refl _ _ _),?_⟩
        refine az 10 rfl (by kernel_rfl) rfl ?_
        refine ar (α:=Bd) g147 (is 14) (is 14) (14,0) rfl [((gI ((lA AR (gI ps ↑i)).2) (m:Int)).1,((gI ((lA AR (gI ps ↑i)).2) (m:Int)).2).1,(((gI ((lA AR (gI ps ↑i)).2) (m:Int)).2).2).1,(((gI ((lA AR (gI ps ↑i)).2) (m:Int)).2).2).2)] cJ bf (by decide) (by decide) (vs:=[(0,vg [vi ((gI ((lA AR (gI ps ↑i)).2) (m:Int)).1),vi (((gI ((lA AR (gI ps ↑i)).2) (m:Int)).2).1),vi ((((gI ((lA AR (gI ps ↑i)).2) (m:Int)).2).2).1),vi ((((gI ((lA AR (gI ps ↑i)).2) (m:Int)).2).2).2)])]) rfl rfl (.cons rfl .nil) ?_
        intro g152 w153 v154 ch155 o156
        have hs157:aU (inl [10,11]) _ _ _ _:=ch155.n
        refine⟨hs157.same,?_⟩
        refine az 11 rfl (by kernel_rfl) rfl ?_
        have C158:=cg [12] (ch137.n.seq ((ch142.l rfl).seq (ch145.n.seq (ch149.n.seq ch155.n))))
        replace o_OB:=o_OB.ca C158
        refine i9 o_OB o156.flat cJ bf (by(simp;omega)) ?_
        intro g159 w160 v161 ch162 o163
        clear o_OB
        have hs164:=hs157.seq (ch162.l rfl)
        refine⟨hs164.same,?_⟩
        refine ht (v:=Value.pointer (some ⟨u.n,0,none⟩)) 12 rfl hs164.same (λw' hw'=>ae rfl) (ht 13 rfl hs164.same (λw' hw'=>aa dR rfl rfl rfl rfl) (az 14 rfl (by kernel_rfl) rfl ?_))
        replace bx124:=(bx124.cn ch155).ce ch162
        refine aC (cs':=[vi KB,v161]) bn rfl rfl bx124 (aP o163.flat) nq (aG o163.flat) rfl ?_
        intro w165 ch166 bx167
        clear bx124
        have hs168:=hs164.seq (ch166.l rfl)
        refine⟨hs168.same,?_⟩
        refine bP (by kernel_rfl) ?_
        have C169:=cg [10,11,12] (ch137.n.seq ((ch142.l rfl).seq (ch145.n.seq (ch149.n.seq (ch155.n.seq ((ch162.l rfl).seq (ch166.l rfl)))))))
        replace Rps:=Rps.ca C151
        replace ar_A:=ar_A.ca C151
        replace o6:=o6.ca C151
        replace o18:=o18.ca C151
        replace o_out2:=o_out2.ca C151
        replace pm128:=pm128.ca C151
        replace o131:=o131.ca C151
        exact mid (v161,g159) _ _ ⟨bH.ca C169,zs5,zs7,zs11,zs12,zs15,zs83,zs84,zs85,zs114,zs115,zs116,(Rps.ca hs168),(ar_A.ca hs168),(o6.ca hs168),(o18.ca hs168),(m85.ca hs168),(o_out2.ca hs168),(pm128.ca hs168),(o131.ca hs168),o163.ce ch166,bx167⟩
       ·
        refine ar (α:=Bd) g147 (is 14) (is 14) (14,0) rfl [((gI ((lA AR (gI ps ↑i)).2) (m:Int)).1,((gI ((lA AR (gI ps ↑i)).2) (m:Int)).2).1,(((gI ((lA AR (gI ps ↑i)).2) (m:Int)).2).2).1,(((gI ((lA AR (gI ps ↑i)).2) (m:Int)).2).2).2)] cJ bf (by decide) (by decide) (vs:=[(0,vg [vi ((gI ((lA AR (gI ps ↑i)).2) (m:Int)).1),vi (((gI ((lA AR (gI ps ↑i)).2) (m:Int)).2).1),vi ((((gI ((lA AR (gI ps ↑i)).2) (m:Int)).2).2).1),vi ((((gI ((lA AR (gI ps ↑i)).2) (m:Int)).2).2).2)])]) rfl rfl (.cons rfl .nil) ?_
        intro g170 w171 v172 ch173 o174
        have hs175:aU (inl [10,11]) _ _ _ _:=ch173.n
        refine⟨hs175.same,?_⟩
        refine az 8 rfl (by kernel_rfl) rfl ?_
        have C176:=cg [12] (ch137.n.seq ((ch142.l rfl).seq (ch145.n.seq (ch149.n.seq ch173.n))))
        replace bx124:=bx124.ca C176
        refine aj (v:=OB_v) (a8 bn rfl bx124 rfl) ?_
        refine⟨hs175.same,?_⟩
        refine az 11 rfl (by kernel_rfl) rfl ?_
        replace o_OB:=o_OB.ca C176
        refine i9 o_OB o174.flat cJ bf (by(simp;omega)) ?_
        intro g177 w178 v179 ch180 o181
        clear o_OB
        have hs182:=hs175.seq (ch180.l rfl)
        refine⟨hs182.same,?_⟩
        refine ht (v:=Value.pointer (some ⟨u.n,0,none⟩)) 12 rfl hs182.same (λw' hw'=>ae rfl) (ht 13 rfl hs182.same (λw' hw'=>aa dR rfl rfl rfl rfl) (az 14 rfl (by kernel_rfl) rfl ?_))
        replace bx124:=bx124.ce ch180
        refine aC (cs':=[vi KB,v179]) bn rfl rfl bx124 (aP o181.flat) nq (aG o181.flat) rfl ?_
        intro w183 ch184 bx185
        clear bx124
        have hs186:=hs182.seq (ch184.l rfl)
        refine⟨hs186.same,?_⟩
        refine bP (by kernel_rfl) ?_
        have C187:=cg [10,11,12] (ch137.n.seq ((ch142.l rfl).seq (ch145.n.seq (ch149.n.seq (ch173.n.seq ((ch180.l rfl).seq (ch184.l rfl)))))))
        replace Rps:=Rps.ca C151
        replace ar_A:=ar_A.ca C151
        replace o6:=o6.ca C151
        replace o18:=o18.ca C151
        replace o_out2:=o_out2.ca C151
        replace pm128:=pm128.ca C151
        replace o131:=o131.ca C151
        exact mid (v179,g177) _ _ ⟨bH.ca C187,zs5,zs7,zs11,zs12,zs15,zs83,zs84,zs85,zs114,zs115,zs116,(Rps.ca hs186),(ar_A.ca hs186),(o6.ca hs186),(o18.ca hs186),(m85.ca hs186),(o_out2.ca hs186),(pm128.ca hs186),(o131.ca hs186),o181.ce ch184,bx185⟩
      ·
       refine ar (α:=Bd) g147 (is 14) (is 14) (14,0) rfl [((gI ((lA AR (gI ps ↑i)).2) (m:Int)).1,((gI ((lA AR (gI ps ↑i)).2) (m:Int)).2).1,(((gI ((lA AR (gI ps ↑i)).2) (m:Int)).2).2).1,(((gI ((lA AR (gI ps ↑i)).2) (m:Int)).2).2).2)] cJ bf (by decide) (by decide) (vs:=[(0,vg [vi ((gI ((lA AR (gI ps ↑i)).2) (m:Int)).1),vi (((gI ((lA AR (gI ps ↑i)).2) (m:Int)).2).1),vi ((((gI ((lA AR (gI ps ↑i)).2) (m:Int)).2).2).1),vi ((((gI ((lA AR (gI ps ↑i)).2) (m:Int)).2).2).2)])]) rfl rfl (.cons rfl .nil) ?_
       intro g188 w189 v190 ch191 o192
       have hs193:aU (inl [10,11]) _ _ _ _:=ch191.n
       refine⟨hs193.same,?_⟩
       refine az 5 rfl (by kernel_rfl) rfl (aj (v:=Value.pointer (some ⟨u.n,0,none⟩)) (bD (dg of1 (i:Int)) eH (be U3) aW rfl (m85.ca hs193) rfl rfl (by exact(congrArg cw hFr).trans (bZ u))) ?_)
       refine⟨hs193.same,?_⟩
       refine ht (v:=Value.pointer (some ⟨u.n,0,none⟩)) 6 rfl hs193.same (λw' hw'=>ae rfl) (ht 7 rfl hs193.same (λw' hw'=>aa dR rfl rfl rfl rfl) (az 8 rfl (by kernel_rfl) rfl ?_))
       have C194:=cg [12] (ch137.n.seq ((ch142.l rfl).seq (ch145.n.seq (ch149.n.seq ch191.n))))
       replace bx124:=bx124.ca C194
       refine aj (v:=OB_v) (a8 bn rfl bx124 rfl) ?_
       refine⟨hs193.same,?_⟩
       refine az 11 rfl (by kernel_rfl) rfl ?_
       replace o_OB:=o_OB.ca C194
       refine i9 o_OB o192.flat cJ bf (by(simp;omega)) ?_
       intro g195 w196 v197 ch198 o199
       clear o_OB
       have hs200:=hs193.seq (ch198.l rfl)
       refine⟨hs200.same,?_⟩
       refine ht (v:=Value.pointer (some ⟨u.n,0,none⟩)) 12 rfl hs200.same (λw' hw'=>ae rfl) (ht 13 rfl hs200.same (λw' hw'=>aa dR rfl rfl rfl rfl) (az 14 rfl (by kernel_rfl) rfl ?_))
       replace bx124:=bx124.ce ch198
       refine aC (cs':=[vi KB,v197]) bn rfl rfl bx124 (aP o199.flat) nq (aG o199.flat) rfl ?_
       intro w201 ch202 bx203
       clear bx124
       have hs204:=hs200.seq (ch202.l rfl)
       refine⟨hs204.same,?_⟩
       refine bP (by kernel_rfl) ?_
       have C205:=cg [10,11,12] (ch137.n.seq ((ch142.l rfl).seq (ch145.n.seq (ch149.n.seq (ch191.n.seq ((ch198.l rfl).seq (ch202.l rfl)))))))
       replace Rps:=Rps.ca C151
       replace ar_A:=ar_A.ca C151
       replace o6:=o6.ca C151
       replace o18:=o18.ca C151
       replace o_out2:=o_out2.ca C151
       replace pm128:=pm128.ca C151
       replace o131:=o131.ca C151
       exact mid (v197,g195) _ _ ⟨bH.ca C205,zs5,zs7,zs11,zs12,zs15,zs83,zs84,zs85,zs114,zs115,zs116,(Rps.ca hs204),(ar_A.ca hs204),(o6.ca hs204),(o18.ca hs204),(m85.ca hs204),(o_out2.ca hs204),(pm128.ca hs204),(o131.ca hs204),o199.ce ch202,bx203⟩
     ·
      have C206:=cg [12] (ch137.n.seq ((ch142.l rfl).seq (ch145.n.seq ch149.n)))
      replace m85:=m85.ca C206
      refine aj (v:=Value.pointer (some ⟨u.n,0,none⟩)) (bD (dg of1 (i:Int)) eH (be U3) aW rfl m85 rfl rfl (by exact(congrArg cw hFr).trans (bZ u))) ?_
      refine⟨(aU.refl _ _ _),?_⟩
      refine ht (v:=Value.pointer (some ⟨u.n,0,none⟩)) 6 rfl (aU.refl _ _ _) (λw' hw'=>ae rfl) (ht 7 rfl (aU.refl _ _ _) (λw' hw'=>aa dR rfl rfl rfl rfl) ?_)
      refine bO 2 [8,10] (by kernel_rfl) ⟨bL 2 rfl (by kernel_rfl) rfl ?_,bL 8 rfl (by kernel_rfl) rfl ?_,bL 10 rfl (by kernel_rfl) rfl ?_,trivial⟩
      ·
       refine aj (v:=Value.pointer (some ⟨u.n,0,none⟩)) (bD (dg of1 (i:Int)) eH (be U3) aW rfl m85 rfl rfl (by exact(congrArg cw hFr).trans (bZ u))) ?_
       refine⟨(aU.refl _ _ _),?_⟩
       refine bO 8 [10] (by kernel_rfl) ⟨bL 8 rfl (by kernel_rfl) rfl ?_,bL 10 rfl (by kernel_rfl) rfl ?_,trivial⟩
       ·
        replace bx124:=bx124.ca C206
        refine aj (v:=OB_v) (a8 bn rfl bx124 rfl) ?_
        refine⟨(aU.refl _ _ _),?_⟩
        refine az 10 rfl (by kernel_rfl) rfl ?_
        refine ar (α:=Bd) g147 (is 14) (is 14) (14,0) rfl [((gI ((lA AR (gI ps ↑i)).2) (m:Int)).1,((gI ((lA AR (gI ps ↑i)).2) (m:Int)).2).1,(((gI ((lA AR (gI ps ↑i)).2) (m:Int)).2).2).1,(((gI ((lA AR (gI ps ↑i)).2) (m:Int)).2).2).2)] cJ bf (by decide) (by decide) (vs:=[(0,vg [vi ((gI ((lA AR (gI ps ↑i)).2) (m:Int)).1),vi (((gI ((lA AR (gI ps ↑i)).2) (m:Int)).2).1),vi ((((gI ((lA AR (gI ps ↑i)).2) (m:Int)).2).2).1),vi ((((gI ((lA AR (gI ps ↑i)).2) (m:Int)).2).2).2)])]) rfl rfl (.cons rfl .nil) ?_
        intro g207 w208 v209 ch210 o211
        have hs212:aU (inl [10,11]) _ _ _ _:=ch210.n
        refine⟨hs212.same,?_⟩
        refine az 11 rfl (by kernel_rfl) rfl ?_
        have C213:=cg [12] (ch137.n.seq ((ch142.l rfl).seq (ch145.n.seq (ch149.n.seq ch210.n))))
        replace o_OB:=o_OB.ca C213
        refine i9 o_OB o211.flat cJ bf (by(simp;omega)) ?_
        intro g214 w215 v216 ch217 o218
        clear o_OB
        have hs219:=hs212.seq (ch217.l rfl)
        refine⟨hs219.same,?_⟩
        refine ht (v:=Value.pointer (some ⟨u.n,0,none⟩)) 12 rfl hs219.same (λw' hw'=>ae rfl) (ht 13 rfl hs219.same (λw' hw'=>aa dR rfl rfl rfl rfl) (az 14 rfl (by kernel_rfl) rfl ?_))
        replace bx124:=(bx124.cn ch210).ce ch217
        refine aC (cs':=[vi KB,v216]) bn rfl rfl bx124 (aP o218.flat) nq (aG o218.flat) rfl ?_
        intro w220 ch221 bx222
        clear bx124
        have hs223:=hs219.seq (ch221.l rfl)
        refine⟨hs223.same,?_⟩
        refine bP (by kernel_rfl) ?_
        have C224:=cg [10,11,12] (ch137.n.seq ((ch142.l rfl).seq (ch145.n.seq (ch149.n.seq (ch210.n.seq ((ch217.l rfl).seq (ch221.l rfl)))))))
        replace Rps:=Rps.ca C206
        replace ar_A:=ar_A.ca C206
        replace o6:=o6.ca C206
        replace o18:=o18.ca C206
        replace o_out2:=o_out2.ca C206
        replace pm128:=pm128.ca C206
        replace o131:=o131.ca C206
        exact mid (v216,g214) _ _ ⟨bH.ca C224,zs5,zs7,zs11,zs12,zs15,zs83,zs84,zs85,zs114,zs115,zs116,(Rps.ca hs223),(ar_A.ca hs223),(o6.ca hs223),(o18.ca hs223),(m85.ca hs223),(o_out2.ca hs223),(pm128.ca hs223),(o131.ca hs223),o218.ce ch221,bx222⟩
       ·
        refine ar (α:=Bd) g147 (is 14) (is 14) (14,0) rfl [((gI ((lA AR (gI ps ↑i)).2) (m:Int)).1,((gI ((lA AR (gI ps ↑i)).2) (m:Int)).2).1,(((gI ((lA AR (gI ps ↑i)).2) (m:Int)).2).2).1,(((gI ((lA AR (gI ps ↑i)).2) (m:Int)).2).2).2)] cJ bf (by decide) (by decide) (vs:=[(0,vg [vi ((gI ((lA AR (gI ps ↑i)).2) (m:Int)).1),vi (((gI ((lA AR (gI ps ↑i)).2) (m:Int)).2).1),vi ((((gI ((lA AR (gI ps ↑i)).2) (m:Int)).2).2).1),vi ((((gI ((lA AR (gI ps ↑i)).2) (m:Int)).2).2).2)])]) rfl rfl (.cons rfl .nil) ?_
        intro g225 w226 v227 ch228 o229
        have hs230:aU (inl [10,11]) _ _ _ _:=ch228.n
        refine⟨hs230.same,?_⟩
        refine az 8 rfl (by kernel_rfl) rfl ?_
        have C231:=cg [12] (ch137.n.seq ((ch142.l rfl).seq (ch145.n.seq (ch149.n.seq ch228.n))))
        replace bx124:=bx124.ca C231
        refine aj (v:=OB_v) (a8 bn rfl bx124 rfl) ?_
        refine⟨hs230.same,?_⟩
        refine az 11 rfl (by kernel_rfl) rfl ?_
        replace o_OB:=o_OB.ca C231
        refine i9 o_OB o229.flat cJ bf (by(simp;omega)) ?_
        intro g232 w233 v234 ch235 o236
        clear o_OB
        have hs237:=hs230.seq (ch235.l rfl)
        refine⟨hs237.same,?_⟩
        refine ht (v:=Value.pointer (some ⟨u.n,0,none⟩)) 12 rfl hs237.same (λw' hw'=>ae rfl) (ht 13 rfl hs237.same (λw' hw'=>aa dR rfl rfl rfl rfl) (az 14 rfl (by kernel_rfl) rfl ?_))
        replace bx124:=bx124.ce ch235
        refine aC (cs':=[vi KB,v234]) bn rfl rfl bx124 (aP o236.flat) nq (aG o236.flat) rfl ?_
        intro w238 ch239 bx240
        clear bx124
        have hs241:=hs237.seq (ch239.l rfl)
        refine⟨hs241.same,?_⟩
        refine bP (by kernel_rfl) ?_
        have C242:=cg [10,11,12] (ch137.n.seq ((ch142.l rfl).seq (ch145.n.seq (ch149.n.seq (ch228.n.seq ((ch235.l rfl).seq (ch239.l rfl)))))))
        replace Rps:=Rps.ca C206
        replace ar_A:=ar_A.ca C206
        replace o6:=o6.ca C206
        replace o18:=o18.ca C206
        replace o_out2:=o_out2.ca C206
        replace pm128:=pm128.ca C206
        replace o131:=o131.ca C206
        exact mid (v234,g232) _ _ ⟨bH.ca C242,zs5,zs7,zs11,zs12,zs15,zs83,zs84,zs85,zs114,zs115,zs116,(Rps.ca hs241),(ar_A.ca hs241),(o6.ca hs241),(o18.ca hs241),(m85.ca hs241),(o_out2.ca hs241),(pm128.ca hs241),(o131.ca hs241),o236.ce ch239,bx240⟩
      ·
       replace bx124:=bx124.ca C206
       refine aj (v:=OB_v) (a8 bn rfl bx124 rfl) ?_
       refine⟨(aU.refl _ _ _),?_⟩
       refine bO 2 [10] (by kernel_rfl) ⟨bL 2 rfl (by kernel_rfl) rfl ?_,bL 10 rfl (by kernel_rfl) rfl ?_,trivial⟩
       ·
        refine aj (v:=Value.pointer (some ⟨u.n,0,none⟩)) (bD (dg of1 (i:Int)) eH (be U3) aW rfl m85 rfl rfl (by exact(congrArg cw hFr).trans (bZ u))) ?_
        refine⟨(aU.refl _ _ _),?_⟩
        refine az 10 rfl (by kernel_rfl) rfl ?_
        refine ar (α:=Bd) g147 (is 14) (is 14) (14,0) rfl [((gI ((lA AR (gI ps ↑i)).2) (m:Int)).1,((gI ((lA AR (gI ps ↑i)).2) (m:Int)).2).1,(((gI ((lA AR (gI ps ↑i)).2) (m:Int)).2).2).1,(((gI ((lA AR (gI ps ↑i)).2) (m:Int)).2).2).2)] cJ bf (by decide) (by decide) (vs:=[(0,vg [vi ((gI ((lA AR (gI ps ↑i)).2) (m:Int)).1),vi (((gI ((lA AR (gI ps ↑i)).2) (m:Int)).2).1),vi ((((gI ((lA AR (gI ps ↑i)).2) (m:Int)).2).2).1),vi ((((gI ((lA AR (gI ps ↑i)).2) (m:Int)).2).2).2)])]) rfl rfl (.cons rfl .nil) ?_
        intro g243 w244 v245 ch246 o247
        have hs248:aU (inl [10,11]) _ _ _ _:=ch246.n
        refine⟨hs248.same,?_⟩
        refine az 11 rfl (by kernel_rfl) rfl ?_
        have C249:=cg [12] (ch137.n.seq ((ch142.l rfl).seq (ch145.n.seq (ch149.n.seq ch246.n))))
        replace o_OB:=o_OB.ca C249
        refine i9 o_OB o247.flat cJ bf (by(simp;omega)) ?_
        intro g250 w251 v252 ch253 o254
        clear o_OB
        have hs255:=hs248.seq (ch253.l rfl)
        refine⟨hs255.same,?_⟩
        refine ht (v:=Value.pointer (some ⟨u.n,0,none⟩)) 12 rfl hs255.same (λw' hw'=>ae rfl) (ht 13 rfl hs255.same (λw' hw'=>aa dR rfl rfl rfl rfl) (az 14 rfl (by kernel_rfl) rfl ?_))
        replace bx124:=(bx124.cn ch246).ce ch253
        refine aC (cs':=[vi KB,v252]) bn rfl rfl bx124 (aP o254.flat) nq (aG o254.flat) rfl ?_
        intro w256 ch257 bx258
        clear bx124
        have hs259:=hs255.seq (ch257.l rfl)
        refine⟨hs259.same,?_⟩
        refine bP (by kernel_rfl) ?_
        have C260:=cg [10,11,12] (ch137.n.seq ((ch142.l rfl).seq (ch145.n.seq (ch149.n.seq (ch246.n.seq ((ch253.l rfl).seq (ch257.l rfl)))))))
        replace Rps:=Rps.ca C206
        replace ar_A:=ar_A.ca C206
        replace o6:=o6.ca C206
        replace o18:=o18.ca C206
        replace o_out2:=o_out2.ca C206
        replace pm128:=pm128.ca C206
        replace o131:=o131.ca C206
        exact mid (v252,g250) _ _ ⟨bH.ca C260,zs5,zs7,zs11,zs12,zs15,zs83,zs84,zs85,zs114,zs115,zs116,(Rps.ca hs259),(ar_A.ca hs259),(o6.ca hs259),(o18.ca hs259),(m85.ca hs259),(o_out2.ca hs259),(pm128.ca hs259),(o131.ca hs259),o254.ce ch257,bx258⟩
       ·
        refine ar (α:=Bd) g147 (is 14) (is 14) (14,0) rfl [((gI ((lA AR (gI ps ↑i)).2) (m:Int)).1,((gI ((lA AR (gI ps ↑i)).2) (m:Int)).2).1,(((gI ((lA AR (gI ps ↑i)).2) (m:Int)).2).2).1,(((gI ((lA AR (gI ps ↑i)).2) (m:Int)).2).2).2)] cJ bf (by decide) (by decide) (vs:=[(0,vg [vi ((gI ((lA AR (gI ps ↑i)).2) (m:Int)).1),vi (((gI ((lA AR (gI ps ↑i)).2) (m:Int)).2).1),vi ((((gI ((lA AR (gI ps ↑i)).2) (m:Int)).2).2).1),vi ((((gI ((lA AR (gI ps ↑i)).2) (m:Int)).2).2).2)])]) rfl rfl (.cons rfl .nil) ?_
        intro g261 w262 v263 ch264 o265
        have hs266:aU (inl [10,11]) _ _ _ _:=ch264.n
        refine⟨hs266.same,?_⟩
        refine bO 2 [11] (by kernel_rfl) ⟨bL 2 rfl (by kernel_rfl) rfl ?_,bL 11 rfl (by kernel_rfl) rfl ?_,trivial⟩
        ·
         refine aj (v:=Value.pointer (some ⟨u.n,0,none⟩)) (bD (dg of1 (i:Int)) eH (be U3) aW rfl (m85.ca hs266) rfl rfl (by exact(congrArg cw hFr).trans (bZ u))) ?_
         refine⟨hs266.same,?_⟩
         refine az 11 rfl (by kernel_rfl) rfl ?_
         have C267:=cg [12] (ch137.n.seq ((ch142.l rfl).seq (ch145.n.seq (ch149.n.seq ch264.n))))
         replace o_OB:=o_OB.ca C267
         refine i9 o_OB o265.flat cJ bf (by(simp;omega)) ?_
         intro g268 w269 v270 ch271 o272
         clear o_OB
         have hs273:=hs266.seq (ch271.l rfl)
         refine⟨hs273.same,?_⟩
         refine ht (v:=Value.pointer (some ⟨u.n,0,none⟩)) 12 rfl hs273.same (λw' hw'=>ae rfl) (ht 13 rfl hs273.same (λw' hw'=>aa dR rfl rfl rfl rfl) (az 14 rfl (by kernel_rfl) rfl ?_))
         replace bx124:=(bx124.cn ch264).ce ch271
         refine aC (cs':=[vi KB,v270]) bn rfl rfl bx124 (aP o272.flat) nq (aG o272.flat) rfl ?_
         intro w274 ch275 bx276
         clear bx124
         have hs277:=hs273.seq (ch275.l rfl)
         refine⟨hs277.same,?_⟩
         refine bP (by kernel_rfl) ?_
         have C278:=cg [10,11,12] (ch137.n.seq ((ch142.l rfl).seq (ch145.n.seq (ch149.n.seq (ch264.n.seq ((ch271.l rfl).seq (ch275.l rfl)))))))
         replace Rps:=Rps.ca C206
         replace ar_A:=ar_A.ca C206
         replace o6:=o6.ca C206
         replace o18:=o18.ca C206
         replace o_out2:=o_out2.ca C206
         replace pm128:=pm128.ca C206
         replace o131:=o131.ca C206
         exact mid (v270,g268) _ _ ⟨bH.ca C278,zs5,zs7,zs11,zs12,zs15,zs83,zs84,zs85,zs114,zs115,zs116,(Rps.ca hs277),(ar_A.ca hs277),(o6.ca hs277),(o18.ca hs277),(m85.ca hs277),(o_out2.ca hs277),(pm128.ca hs277),(o131.ca hs277),o272.ce ch275,bx276⟩
        ·
         have C279:=cg [12] (ch137.n.seq ((ch142.l rfl).seq (ch145.n.seq (ch149.n.seq ch264.n))))
         replace o_OB:=o_OB.ca C279
         refine i9 o_OB o265.flat cJ bf (by(simp;omega)) ?_
         intro g280 w281 v282 ch283 o284
         clear o_OB
         have hs285:=hs266.seq (ch283.l rfl)
         refine⟨hs285.same,?_⟩
         refine az 2 rfl (by kernel_rfl) rfl (aj (v:=Value.pointer (some ⟨u.n,0,none⟩)) (bD (dg of1 (i:Int)) eH (be U3) aW rfl (m85.ca hs285) rfl rfl (by exact(congrArg cw hFr).trans (bZ u))) ?_)
         refine⟨hs285.same,?_⟩
         refine ht (v:=Value.pointer (some ⟨u.n,0,none⟩)) 12 rfl hs285.same (λw' hw'=>ae rfl) (ht 13 rfl hs285.same (λw' hw'=>aa dR rfl rfl rfl rfl) (az 14 rfl (by kernel_rfl) rfl ?_))
         replace bx124:=(bx124.cn ch264).ce ch283
         refine aC (cs':=[vi KB,v282]) bn rfl rfl bx124 (aP o284.flat) nq (aG o284.flat) rfl ?_
         intro w286 ch287 bx288
         clear bx124
         have hs289:=hs285.seq (ch287.l rfl)
         refine⟨hs289.same,?_⟩
         refine bP (by kernel_rfl) ?_
         have C290:=cg [10,11,12] (ch137.n.seq ((ch142.l rfl).seq (ch145.n.seq (ch149.n.seq (ch264.n.seq ((ch283.l rfl).seq (ch287.l rfl)))))))
         replace Rps:=Rps.ca C206
         replace ar_A:=ar_A.ca C206
         replace o6:=o6.ca C206
         replace o18:=o18.ca C206
         replace o_out2:=o_out2.ca C206
         replace pm128:=pm128.ca C206
         replace o131:=o131.ca C206
         exact mid (v282,g280) _ _ ⟨bH.ca C290,zs5,zs7,zs11,zs12,zs15,zs83,zs84,zs85,zs114,zs115,zs116,(Rps.ca hs289),(ar_A.ca hs289),(o6.ca hs289),(o18.ca hs289),(m85.ca hs289),(o_out2.ca hs289),(pm128.ca hs289),(o131.ca hs289),o284.ce ch287,bx288⟩
      ·
       refine ar (α:=Bd) g147 (is 14) (is 14) (14,0) rfl [((gI ((lA AR (gI ps ↑i)).2) (m:Int)).1,((gI ((lA AR (gI ps ↑i)).2) (m:Int)).2).1,(((gI ((lA AR (gI ps ↑i)).2) (m:Int)).2).2).1,(((gI ((lA AR (gI ps ↑i)).2) (m:Int)).2).2).2)] cJ bf (by decide) (by decide) (vs:=[(0,vg [vi ((gI ((lA AR (gI ps ↑i)).2) (m:Int)).1),vi (((gI ((lA AR (gI ps ↑i)).2) (m:Int)).2).1),vi ((((gI ((lA AR (gI ps ↑i)).2) (m:Int)).2).2).1),vi ((((gI ((lA AR (gI ps ↑i)).2) (m:Int)).2).2).2)])]) rfl rfl (.cons rfl .nil) ?_
       intro g291 w292 v293 ch294 o295
       have hs296:aU (inl [10,11]) _ _ _ _:=ch294.n
       refine⟨hs296.same,?_⟩
       refine bO 2 [8] (by kernel_rfl) ⟨bL 2 rfl (by kernel_rfl) rfl ?_,bL 8 rfl (by kernel_rfl) rfl ?_,trivial⟩
       ·
        refine aj (v:=Value.pointer (some ⟨u.n,0,none⟩)) (bD (dg of1 (i:Int)) eH (be U3) aW rfl (m85.ca hs296) rfl rfl (by exact(congrArg cw hFr).trans (bZ u))) ?_
        refine⟨hs296.same,?_⟩
        refine az 8 rfl (by kernel_rfl) rfl ?_
        have C297:=cg [12] (ch137.n.seq ((ch142.l rfl).seq (ch145.n.seq (ch149.n.seq ch294.n))))
        replace bx124:=bx124.ca C297
        refine aj (v:=OB_v) (a8 bn rfl bx124 rfl) ?_
        refine⟨hs296.same,?_⟩
        refine az 11 rfl (by kernel_rfl) rfl ?_
        replace o_OB:=o_OB.ca C297
        refine i9 o_OB o295.flat cJ bf (by(simp;omega)) ?_
        intro g298 w299 v300 ch301 o302
        clear o_OB
        have hs303:=hs296.seq (ch301.l rfl)
        refine⟨hs303.same,?_⟩
        refine ht (v:=Value.pointer (some ⟨u.n,0,none⟩)) 12 rfl hs303.same (λw' hw'=>ae rfl) (ht 13 rfl hs303.same (λw' hw'=>aa dR rfl rfl rfl rfl) (az 14 rfl (by kernel_rfl) rfl ?_))
        replace bx124:=bx124.ce ch301
        refine aC (cs':=[vi KB,v300]) bn rfl rfl bx124 (aP o302.flat) nq (aG o302.flat) rfl ?_
        intro w304 ch305 bx306
        clear bx124
        have hs307:=hs303.seq (ch305.l rfl)
        refine⟨hs307.same,?_⟩
        refine bP (by kernel_rfl) ?_
        have C308:=cg [10,11,12] (ch137.n.seq ((ch142.l rfl).seq (ch145.n.seq (ch149.n.seq (ch294.n.seq ((ch301.l rfl).seq (ch305.l rfl)))))))
        replace Rps:=Rps.ca C206
        replace ar_A:=ar_A.ca C206
        replace o6:=o6.ca C206
        replace o18:=o18.ca C206
        replace o_out2:=o_out2.ca C206
        replace pm128:=pm128.ca C206
        replace o131:=o131.ca C206
        exact mid (v300,g298) _ _ ⟨bH.ca C308,zs5,zs7,zs11,zs12,zs15,zs83,zs84,zs85,zs114,zs115,zs116,(Rps.ca hs307),(ar_A.ca hs307),(o6.ca hs307),(o18.ca hs307),(m85.ca hs307),(o_out2.ca hs307),(pm128.ca hs307),(o131.ca hs307),o302.ce ch305,bx306⟩
       ·
        have C309:=cg [12] (ch137.n.seq ((ch142.l rfl).seq (ch145.n.seq (ch149.n.seq ch294.n))))
        replace bx124:=bx124.ca C309
        refine aj (v:=OB_v) (a8 bn rfl bx124 rfl) ?_
        refine⟨hs296.same,?_⟩
        refine bO 2 [11] (by kernel_rfl) ⟨bL 2 rfl (by kernel_rfl) rfl ?_,bL 11 rfl (by kernel_rfl) rfl ?_,trivial⟩
        ·
         refine aj (v:=Value.pointer (some ⟨u.n,0,none⟩)) (bD (dg of1 (i:Int)) eH (be U3) aW rfl (m85.ca hs296) rfl rfl (by exact(congrArg cw hFr).trans (bZ u))) ?_
         refine⟨hs296.same,?_⟩
         refine az 11 rfl (by kernel_rfl) rfl ?_
         replace o_OB:=o_OB.ca C309
         refine i9 o_OB o295.flat cJ bf (by(simp;omega)) ?_
         intro g310 w311 v312 ch313 o314
         clear o_OB
         have hs315:=hs296.seq (ch313.l rfl)
         refine⟨hs315.same,?_⟩
         refine ht (v:=Value.pointer (some ⟨u.n,0,none⟩)) 12 rfl hs315.same (λw' hw'=>ae rfl) (ht 13 rfl hs315.same (λw' hw'=>aa dR rfl rfl rfl rfl) (az 14 rfl (by kernel_rfl) rfl ?_))
         replace bx124:=bx124.ce ch313
         refine aC (cs':=[vi KB,v312]) bn rfl rfl bx124 (aP o314.flat) nq (aG o314.flat) rfl ?_
         intro w316 ch317 bx318
         clear bx124
         have hs319:=hs315.seq (ch317.l rfl)
         refine⟨hs319.same,?_⟩
         refine bP (by kernel_rfl) ?_
         have C320:=cg [10,11,12] (ch137.n.seq ((ch142.l rfl).seq (ch145.n.seq (ch149.n.seq (ch294.n.seq ((ch313.l rfl).seq (ch317.l rfl)))))))
         replace Rps:=Rps.ca C206
         replace ar_A:=ar_A.ca C206
         replace o6:=o6.ca C206
         replace o18:=o18.ca C206
         replace o_out2:=o_out2.ca C206
         replace pm128:=pm128.ca C206
         replace o131:=o131.ca C206
         exact mid (v312,g310) _ _ ⟨bH.ca C320,zs5,zs7,zs11,zs12,zs15,zs83,zs84,zs85,zs114,zs115,zs116,(Rps.ca hs319),(ar_A.ca hs319),(o6.ca hs319),(o18.ca hs319),(m85.ca hs319),(o_out2.ca hs319),(pm128.ca hs319),(o131.ca hs319),o314.ce ch317,bx318⟩
        ·
         replace o_OB:=o_OB.ca C309
         refine i9 o_OB o295.flat cJ bf (by(simp;omega)) ?_
         intro g321 w322 v323 ch324 o325
         clear o_OB
         have hs326:=hs296.seq (ch324.l rfl)
         refine⟨hs326.same,?_⟩
         refine az 2 rfl (by kernel_rfl) rfl (aj (v:=Value.pointer (some ⟨u.n,0,none⟩)) (bD (dg of1 (i:Int)) eH (be U3) aW rfl (m85.ca hs326) rfl rfl (by exact(congrArg cw hFr).trans (bZ u))) ?_)
         refine⟨hs326.same,?_⟩
         refine ht (v:=Value.pointer (some ⟨u.n,0,none⟩)) 12 rfl hs326.same (λw' hw'=>ae rfl) (ht 13 rfl hs326.same (λw' hw'=>aa dR rfl rfl rfl rfl) (az 14 rfl (by kernel_rfl) rfl ?_))
         replace bx124:=bx124.ce ch324
         refine aC (cs':=[vi KB,v323]) bn rfl rfl bx124 (aP o325.flat) nq (aG o325.flat) rfl ?_
         intro w327 ch328 bx329
         clear bx124
         have hs330:=hs326.seq (ch328.l rfl)
         refine⟨hs330.same,?_⟩
         refine bP (by kernel_rfl) ?_
         have C331:=cg [10,11,12] (ch137.n.seq ((ch142.l rfl).seq (ch145.n.seq (ch149.n.seq (ch294.n.seq ((ch324.l rfl).seq (ch328.l rfl)))))))
         replace Rps:=Rps.ca C206
         replace ar_A:=ar_A.ca C206
         replace o6:=o6.ca C206
         replace o18:=o18.ca C206
         replace o_out2:=o_out2.ca C206
         replace pm128:=pm128.ca C206
         replace o131:=o131.ca C206
         exact mid (v323,g321) _ _ ⟨bH.ca C331,zs5,zs7,zs11,zs12,zs15,zs83,zs84,zs85,zs114,zs115,zs116,(Rps.ca hs330),(ar_A.ca hs330),(o6.ca hs330),(o18.ca hs330),(m85.ca hs330),(o_out2.ca hs330),(pm128.ca hs330),(o131.ca hs330),o325.ce ch328,bx329⟩
     ·
      refine ar (α:=Bd) g147 (is 14) (is 14) (14,0) rfl [((gI ((lA AR (gI ps ↑i)).2) (m:Int)).1,((gI ((lA AR (gI ps ↑i)).2) (m:Int)).2).1,(((gI ((lA AR (gI ps ↑i)).2) (m:Int)).2).2).1,(((gI ((lA AR (gI ps ↑i)).2) (m:Int)).2).2).2)] cJ bf (by decide) (by decide) (vs:=[(0,vg [vi ((gI ((lA AR (gI ps ↑i)).2) (m:Int)).1),vi (((gI ((lA AR (gI ps ↑i)).2) (m:Int)).2).1),vi ((((gI ((lA AR (gI ps ↑i)).2) (m:Int)).2).2).1),vi ((((gI ((lA AR (gI ps ↑i)).2) (m:Int)).2).2).2)])]) rfl rfl (.cons rfl .nil) ?_
      intro g332 w333 v334 ch335 o336
      have hs337:aU (inl [10,11]) _ _ _ _:=ch335.n
      refine⟨hs337.same,?_⟩
      refine bO 2 [5] (by kernel_rfl) ⟨bL 2 rfl (by kernel_rfl) rfl ?_,bL 5 rfl (by kernel_rfl) rfl ?_,trivial⟩
      ·
       have C338:=cg [12] (ch137.n.seq ((ch142.l rfl).seq (ch145.n.seq ch149.n)))
       replace m85:=m85.ca C338
       refine aj (v:=Value.pointer (some ⟨u.n,0,none⟩)) (bD (dg of1 (i:Int)) eH (be U3) aW rfl (m85.ca hs337) rfl rfl (by exact(congrArg cw hFr).trans (bZ u))) ?_
       refine⟨hs337.same,?_⟩
       refine az 5 rfl (by kernel_rfl) rfl (aj (v:=Value.pointer (some ⟨u.n,0,none⟩)) (bD (dg of1 (i:Int)) eH (be U3) aW rfl (m85.ca hs337) rfl rfl (by exact(congrArg cw hFr).trans (bZ u))) ?_)
       refine⟨hs337.same,?_⟩
       refine ht (v:=Value.pointer (some ⟨u.n,0,none⟩)) 6 rfl hs337.same (λw' hw'=>ae rfl) (ht 7 rfl hs337.same (λw' hw'=>aa dR rfl rfl rfl rfl) (az 8 rfl (by kernel_rfl) rfl ?_))
       have C339:=cg [12] (ch137.n.seq ((ch142.l rfl).seq (ch145.n.seq (ch149.n.seq ch335.n))))
       replace bx124:=bx124.ca C339
       refine aj (v:=OB_v) (a8 bn rfl bx124 rfl) ?_
       refine⟨hs337.same,?_⟩
       refine az 11 rfl (by kernel_rfl) rfl ?_
       replace o_OB:=o_OB.ca C339
       refine i9 o_OB o336.flat cJ bf (by(simp;omega)) ?_
       intro g340 w341 v342 ch343 o344
       clear o_OB
       have hs345:=hs337.seq (ch343.l rfl)
       refine⟨hs345.same,?_⟩
       refine ht (v:=Value.pointer (some ⟨u.n,0,none⟩)) 12 rfl hs345.same (λw' hw'=>ae rfl) (ht 13 rfl hs345.same (λw' hw'=>aa dR rfl rfl rfl rfl) (az 14 rfl (by kernel_rfl) rfl ?_))
       replace bx124:=bx124.ce ch343
       refine aC (cs':=[vi KB,v342]) bn rfl rfl bx124 (aP o344.flat) nq (aG o344.flat) rfl ?_
       intro w346 ch347 bx348
       clear bx124
       have hs349:=hs345.seq (ch347.l rfl)
       refine⟨hs349.same,?_⟩
       refine bP (by kernel_rfl) ?_
       have C350:=cg [10,11,12] (ch137.n.seq ((ch142.l rfl).seq (ch145.n.seq (ch149.n.seq (ch335.n.seq ((ch343.l rfl).seq (ch347.l rfl)))))))
       replace Rps:=Rps.ca C338
       replace ar_A:=ar_A.ca C338
       replace o6:=o6.ca C338
       replace o18:=o18.ca C338
       replace o_out2:=o_out2.ca C338
       replace pm128:=pm128.ca C338
       replace o131:=o131.ca C338
       exact mid (v342,g340) _ _ ⟨bH.ca C350,zs5,zs7,zs11,zs12,zs15,zs83,zs84,zs85,zs114,zs115,zs116,(Rps.ca hs349),(ar_A.ca hs349),(o6.ca hs349),(o18.ca hs349),(m85.ca hs349),(o_out2.ca hs349),(pm128.ca hs349),(o131.ca hs349),o344.ce ch347,bx348⟩
      ·
       have C351:=cg [12] (ch137.n.seq ((ch142.l rfl).seq (ch145.n.seq ch149.n)))
       replace m85:=m85.ca C351
       refine aj (v:=Value.pointer (some ⟨u.n,0,none⟩)) (bD (dg of1 (i:Int)) eH (be U3) aW rfl (m85.ca hs337) rfl rfl (by exact(congrArg cw hFr).trans (bZ u))) ?_
       refine⟨hs337.same,?_⟩
       refine ht (v:=Value.pointer (some ⟨u.n,0,none⟩)) 6 rfl hs337.same (λw' hw'=>ae rfl) (ht 7 rfl hs337.same (λw' hw'=>aa dR rfl rfl rfl rfl) ?_)
       refine bO 2 [8] (by kernel_rfl) ⟨bL 2 rfl (by kernel_rfl) rfl ?_,bL 8 rfl (by kernel_rfl) rfl ?_,trivial⟩
       ·
        refine aj (v:=Value.pointer (some ⟨u.n,0,none⟩)) (bD (dg of1 (i:Int)) eH (be U3) aW rfl (m85.ca hs337) rfl rfl (by exact(congrArg cw hFr).trans (bZ u))) ?_
        refine⟨hs337.same,?_⟩
        refine az 8 rfl (by kernel_rfl) rfl ?_
        have C352:=cg [12] (ch137.n.seq ((ch142.l rfl).seq (ch145.n.seq (ch149.n.seq ch335.n))))
        replace bx124:=bx124.ca C352
        refine aj (v:=OB_v) (a8 bn rfl bx124 rfl) ?_
        refine⟨hs337.same,?_⟩
        refine az 11 rfl (by kernel_rfl) rfl ?_
        replace o_OB:=o_OB.ca C352
        refine i9 o_OB o336.flat cJ bf (by(simp;omega)) ?_
        intro g353 w354 v355 ch356 o357
        clear o_OB
        have hs358:=hs337.seq (ch356.l rfl)
        refine⟨hs358.same,?_⟩
        refine ht (v:=Value.pointer (some ⟨u.n,0,none⟩)) 12 rfl hs358.same (λw' hw'=>ae rfl) (ht 13 rfl hs358.same (λw' hw'=>aa dR rfl rfl rfl rfl) (az 14 rfl (by kernel_rfl) rfl ?_))
        replace bx124:=bx124.ce ch356
        refine aC (cs':=[vi KB,v355]) bn rfl rfl bx124 (aP o357.flat) nq (aG o357.flat) rfl ?_
        intro w359 ch360 bx361
        clear bx124
        have hs362:=hs358.seq (ch360.l rfl)
        refine⟨hs362.same,?_⟩
        refine bP (by kernel_rfl) ?_
        have C363:=cg [10,11,12] (ch137.n.seq ((ch142.l rfl).seq (ch145.n.seq (ch149.n.seq (ch335.n.seq ((ch356.l rfl).seq (ch360.l rfl)))))))
        replace Rps:=Rps.ca C351
        replace ar_A:=ar_A.ca C351
        replace o6:=o6.ca C351
        replace o18:=o18.ca C351
        replace o_out2:=o_out2.ca C351
        replace pm128:=pm128.ca C351
        replace o131:=o131.ca C351
        exact mid (v355,g353) _ _ ⟨bH.ca C363,zs5,zs7,zs11,zs12,zs15,zs83,zs84,zs85,zs114,zs115,zs116,(Rps.ca hs362),(ar_A.ca hs362),(o6.ca hs362),(o18.ca hs362),(m85.ca hs362),(o_out2.ca hs362),(pm128.ca hs362),(o131.ca hs362),o357.ce ch360,bx361⟩
       ·
        have C364:=cg [12] (ch137.n.seq ((ch142.l rfl).seq (ch145.n.seq (ch149.n.seq ch335.n))))
        replace bx124:=bx124.ca C364
        refine aj (v:=OB_v) (a8 bn rfl bx124 rfl) ?_
        refine⟨hs337.same,?_⟩
        refine bO 2 [11] (by kernel_rfl) ⟨bL 2 rfl (by kernel_rfl) rfl ?_,bL 11 rfl (by kernel_rfl) rfl ?_,trivial⟩
        ·
         refine aj (v:=Value.pointer (some ⟨u.n,0,none⟩)) (bD (dg of1 (i:Int)) eH (be U3) aW rfl (m85.ca hs337) rfl rfl (by exact(congrArg cw hFr).trans (bZ u))) ?_
         refine⟨hs337.same,?_⟩
         refine az 11 rfl (by kernel_rfl) rfl ?_
         replace o_OB:=o_OB.ca C364
         refine i9 o_OB o336.flat cJ bf (by(simp;omega)) ?_
         intro g365 w366 v367 ch368 o369
         clear o_OB
         have hs370:=hs337.seq (ch368.l rfl)
         refine⟨hs370.same,?_⟩
         refine ht (v:=Value.pointer (some ⟨u.n,0,none⟩)) 12 rfl hs370.same (λw' hw'=>ae rfl) (ht 13 rfl hs370.same (λw' hw'=>aa dR rfl rfl rfl rfl) (az 14 rfl (by kernel_rfl) rfl ?_))
         replace bx124:=bx124.ce ch368
         refine aC (cs':=[vi KB,v367]) bn rfl rfl bx124 (aP o369.flat) nq (aG o369.flat) rfl ?_
         intro w371 ch372 bx373
         clear bx124
         have hs374:=hs370.seq (ch372.l rfl)
         refine⟨hs374.same,?_⟩
         refine bP (by kernel_rfl) ?_
         have C375:=cg [10,11,12] (ch137.n.seq ((ch142.l rfl).seq (ch145.n.seq (ch149.n.seq (ch335.n.seq ((ch368.l rfl).seq (ch372.l rfl)))))))
         replace Rps:=Rps.ca C351
         replace ar_A:=ar_A.ca C351
         replace o6:=o6.ca C351
         replace o18:=o18.ca C351
         replace o_out2:=o_out2.ca C351
         replace pm128:=pm128.ca C351
         replace o131:=o131.ca C351
         exact mid (v367,g365) _ _ ⟨bH.ca C375,zs5,zs7,zs11,zs12,zs15,zs83,zs84,zs85,zs114,zs115,zs116,(Rps.ca hs374),(ar_A.ca hs374),(o6.ca hs374),(o18.ca hs374),(m85.ca hs374),(o_out2.ca hs374),(pm128.ca hs374),(o131.ca hs374),o369.ce ch372,bx373⟩
        ·
         replace o_OB:=o_OB.ca C364
         refine i9 o_OB o336.flat cJ bf (by(simp;omega)) ?_
         intro g376 w377 v378 ch379 o380
         clear o_OB
         have hs381:=hs337.seq (ch379.l rfl)
         refine⟨hs381.same,?_⟩
         refine az 2 rfl (by kernel_rfl) rfl (aj (v:=Value.pointer (some ⟨u.n,0,none⟩)) (bD (dg of1 (i:Int)) eH (be U3) aW rfl (m85.ca hs381) rfl rfl (by exact(congrArg cw hFr).trans (bZ u))) ?_)
         refine⟨hs381.same,?_⟩
         refine ht (v:=Value.pointer (some ⟨u.n,0,none⟩)) 12 rfl hs381.same (λw' hw'=>ae rfl) (ht 13 rfl hs381.same (λw' hw'=>aa dR rfl rfl rfl rfl) (az 14 rfl (by kernel_rfl) rfl ?_))
         replace bx124:=bx124.ce ch379
         refine aC (cs':=[vi KB,v378]) bn rfl rfl bx124 (aP o380.flat) nq (aG o380.flat) rfl ?_
         intro w382 ch383 bx384
         clear bx124
         have hs385:=hs381.seq (ch383.l rfl)
         refine⟨hs385.same,?_⟩
         refine bP (by kernel_rfl) ?_
         have C386:=cg [10,11,12] (ch137.n.seq ((ch142.l rfl).seq (ch145.n.seq (ch149.n.seq (ch335.n.seq ((ch379.l rfl).seq (ch383.l rfl)))))))
         replace Rps:=Rps.ca C351
         replace ar_A:=ar_A.ca C351
         replace o6:=o6.ca C351
         replace o18:=o18.ca C351
         replace o_out2:=o_out2.ca C351
         replace pm128:=pm128.ca C351
         replace o131:=o131.ca C351
         exact mid (v378,g376) _ _ ⟨bH.ca C386,zs5,zs7,zs11,zs12,zs15,zs83,zs84,zs85,zs114,zs115,zs116,(Rps.ca hs385),(ar_A.ca hs385),(o6.ca hs385),(o18.ca hs385),(m85.ca hs385),(o_out2.ca hs385),(pm128.ca hs385),(o131.ca hs385),o380.ce ch383,bx384⟩
    clear Rps ar_A o6 o18 m85 o_out2 pm128 bx124 o131 o_OB bx143 bH
    rintro⟨v161,g389⟩ f387 w388 ⟨bH,zs5,zs7,zs11,zs12,zs15,zs83,zs84,zs85,zs114,zs115,zs116,Rps,ar_A,o6,o18,m85,o_out2,pm128,o131,o163,bx167⟩
    refine ak (a6 rfl (lx (aS (m:=↑m) (n:=1) zs116 rfl (by omega)) (mi ((m:Int)+1) (ab ?_))))
    refine back26 (m+1,v161,(OB++[((gI ((lA AR (gI ps ↑i)).2) (m:Int)).1,((gI ((lA AR (gI ps ↑i)).2) (m:Int)).2).1,(((gI ((lA AR (gI ps ↑i)).2) (m:Int)).2).2).1,(((gI ((lA AR (gI ps ↑i)).2) (m:Int)).2).2).2)]),g389) _ _ ⟨bH,zs5,zs7,zs11,zs12,zs15,zs83,zs84,zs85,zs114,zs115,rfl,Rps,ar_A,o6,o18,m85,o_out2,pm128,bx167,o131,o163,by omega,?_⟩ ?_
    · show(OB++[((gI ((lA AR (gI ps ↑i)).2) (m:Int)).1,((gI ((lA AR (gI ps ↑i)).2) (m:Int)).2).1,(((gI ((lA AR (gI ps ↑i)).2) (m:Int)).2).2).1,(((gI ((lA AR (gI ps ↑i)).2) (m:Int)).2).2).2)])=OB0++ip gone ((lA AR (gI ps ↑i)).2.take (m+1))
      (rw[hOB,List.append_assoc,rV ‹_› (.inl (by omega))])
    · show Int.toNat (_-_)<Int.toNat (_-_)
      omega
   refine lv (v16) (wy (df q122)) (aq zs7) (lv (vp b138 3) (wy (df q122)) (aa iL rfl rfl rfl rfl) ?_)
   replace bx143:=bx143.cn ch145
   refine lv (vi ((((gI ((lA AR (gI ps ↑i)).2) (m:Int)).2).2).2)) (wy (df q122)) (a8 ah rfl bx143 rfl) ?_
   have C390:=cg [12] (ch137.n.seq ((ch142.l rfl).seq ch145.n))
   replace o18:=o18.ca C390
   refine lv (Value.pointer (some (aB v16 1 (Int.toNat ((((gI ((lA AR (gI ps ↑i)).2) (m:Int)).2).2).2))))) (wy (df q122)) (ad (α:=Bool) (xs:=gone) (v:=v16) (i:=(((gI ((lA AR (gI ps ↑i)).2) (m:Int)).2).2).2) jG rfl rfl o18.flat rfl (by(omega)) (by(omega))) (lv (vb (gI gone ((((gI ((lA AR (gI ps ↑i)).2) (m:Int)).2).2).2))) (wy (df q122)) (av (α:=Bool) (xs:=gone) (v:=v16) (i:=(((gI ((lA AR (gI ps ↑i)).2) (m:Int)).2).2).2) dL rfl o18.flat (by(omega)) (by(omega)) (by decide) rfl) ?_)
   refine lv (vb (!(gI gone ((((gI ((lA AR (gI ps ↑i)).2) (m:Int)).2).2).2)))) (wy (df q122)) (eU (b:=(gI gone ((((gI ((lA AR (gI ps ↑i)).2) (m:Int)).2).2).2))) rfl) (lw (vb (!(gI gone ((((gI ((lA AR (gI ps ↑i)).2) (m:Int)).2).2).2)))) (bt rfl (df q122) rfl) (ab ?_))
   by_cases p28:(gI gone ((((gI ((lA AR (gI ps ↑i)).2) (m:Int)).2).2).2))=true
   ·
    refine ag rfl (congrArg Bool.not p28) (ao (ak ?_))
    clear bx143 bx148
    refine a6 rfl (lx (aS (m:=↑m) (n:=1) zs116 rfl (by omega)) (mi ((m:Int)+1) (ab ?_)))
    refine back26 (m+1,OB_v,OB,g147) _ _ ⟨bH.ca C390,zs5,zs7,zs11,zs12,zs15,zs83,zs84,zs85,zs114,zs115,rfl,Rps.ca C390,ar_A.ca C390,o6.ca C390,o18,m85.ca C390,o_out2.ca C390,pm128.ca C390,bx124.ca C390,o131.ca C390,o_OB.ca C390,by omega,?_⟩ ?_
    · show OB=OB0++ip gone ((lA AR (gI ps ↑i)).2.take (m+1))
      (rw[hOB,<-As ‹_› (by omega) ‹_›])
    · show Int.toNat (_-_)<Int.toNat (_-_)
      omega
   refine af rfl (congrArg Bool.not (Bool.eq_false_iff.2 p28)) ?_
   clear bx148
   refine dy (σ:=Value×aw) (λ⟨v403,gq⟩ f w=>b6 w0 gq w/\f 5=v4/\f 7=v16/\f 11=v83/\f 12=out2_v/\f 15=vi (dg of1 (i:Int))/\f 83=ps_v/\f 84=vi (ps.length:Int)/\f 85=vi ↑i/\f 114=v129/\f 115=vi (List.length ((lA AR (gI ps ↑i)).2):Int)/\f 116=vi ↑m/\Sl gq (is 0) w ps_v ps/\fV gq w AR.1 AR.2/\Ow gq (is 1) (is 1) w v4 of1/\Ow gq (is 2) (is 2) w v16 gone/\Mq gq (is 5) w v83 F2/\Ow gq (is 9) (is 9) w out2_v out2/\d8 gq 4 (pmC.1.idxOf u) w pmC.1 pmC.2/\Sl gq (is 0) w v129 ((lA AR (gI ps ↑i)).2)/\Ow gq (is 11) (is 11) w v403 (OB++[((gI ((lA AR (gI ps ↑i)).2) (m:Int)).1,((gI ((lA AR (gI ps ↑i)).2) (m:Int)).2).1,(((gI ((lA AR (gI ps ↑i)).2) (m:Int)).2).2).1,(((gI ((lA AR (gI ps ↑i)).2) (m:Int)).2).2).2)])/\Bx gq (is 10) w u.n [vi KB,v403]) g147 (inl [10,11]) kW ?_ ?_
   ·
    intro mid
    intro w392 ch391
    refine ht (v:=v83) 0 rfl (aU.refl _ _ _) (λw' hw'=>aq zs11) (ht (v:=vi (dg of1 (i:Int))) 1 rfl (aU.refl _ _ _) (λw' hw'=>aq zs15) (ht (v:=v83) 3 rfl (aU.refl _ _ _) (λw' hw'=>aq zs11) (ht (v:=vi (dg of1 (i:Int))) 4 rfl (aU.refl _ _ _) (λw' hw'=>aq zs15) ?_)))
    replace bx143:=bx143.cn ch391
    refine ht 9 rfl (aU.refl _ _ _) (λw' hw'=>ay (ds:=[vi ((gI ((lA AR (gI ps ↑i)).2) (m:Int)).1),vi (((gI ((lA AR (gI ps ↑i)).2) (m:Int)).2).1),vi ((((gI ((lA AR (gI ps ↑i)).2) (m:Int)).2).2).1),vi ((((gI ((lA AR (gI ps ↑i)).2) (m:Int)).2).2).2)]) bf rfl (bx143.chg hw' (bI rfl)) rfl rfl) ?_
    refine bO 2 [5,10] (by kernel_rfl) ⟨bL 2 rfl (by kernel_rfl) rfl ?_,bL 5 rfl (by kernel_rfl) rfl ?_,bL 10 rfl (by kernel_rfl) rfl ?_,trivial⟩
    ·
     have C393:=cg [12] (ch137.n.seq ((ch142.l rfl).seq (ch145.n.seq ch391.n)))
     replace m85:=m85.ca C393
     refine aj (v:=Value.pointer (some ⟨u.n,0,none⟩)) (bD (dg of1 (i:Int)) eH (be U3) aW rfl m85 rfl rfl (by exact(congrArg cw hFr).trans (bZ u))) ?_
     refine⟨(aU.refl _ _ _),?_⟩
     refine bO 5 [10] (by kernel_rfl) ⟨bL 5 rfl (by kernel_rfl) rfl ?_,bL 10 rfl (by kernel_rfl) rfl ?_,trivial⟩
     ·
      refine aj (v:=Value.pointer (some ⟨u.n,0,none⟩)) (bD (dg of1 (i:Int)) eH (be U3) aW rfl m85 rfl rfl (by exact(congrArg cw hFr).trans (bZ u))) ?_
      refine⟨(aU.refl _ _ _),?_⟩
      refine ht (v:=Value.pointer (some ⟨u.n,0,none⟩)) 6 rfl (aU.refl _ _ _) (λw' hw'=>ae rfl) (ht 7 rfl (aU.refl _ _ _) (λw' hw'=>aa dR rfl rfl rfl rfl) ?_)
      refine bO 8 [10] (by kernel_rfl) ⟨bL 8 rfl (by kernel_rfl) rfl ?_,bL 10 rfl (by kernel_rfl) rfl ?_,trivial⟩
      ·
       replace bx124:=bx124.ca C393
       refine aj (v:=OB_v) (a8 bn rfl bx124 rfl) ?_
       refine⟨(aU.refl _ _ _),?_⟩
       refine az 10 rfl (by kernel_rfl) rfl ?_
       refine ar (α:=Bd) g147 (is 14) (is 14) (14,0) rfl [((gI ((lA AR (gI ps ↑i)).2) (m:Int)).1,((gI ((lA AR (gI ps ↑i)).2) (m:Int)).2).1,(((gI ((lA AR (gI ps ↑i)).2) (m:Int)).2).2).1,(((gI ((lA AR (gI ps ↑i)).2) (m:Int)).2).2).2)] cJ bf (by decide) (by decide) (vs:=[(0,vg [vi ((gI ((lA AR (gI ps ↑i)).2) (m:Int)).1),vi (((gI ((lA AR (gI ps ↑i)).2) (m:Int)).2).1),vi ((((gI ((lA AR (gI ps ↑i)).2) (m:Int)).2).2).1),vi ((((gI ((lA AR (gI ps ↑i)).2) (m:Int)).2).2).2)])]) rfl rfl (.cons rfl .nil) ?_
       intro g394 w395 v396 ch397 o398
       have hs399:aU (inl [10,11]) _ _ _ _:=ch397.n
       refine⟨hs399.same,?_⟩
       refine az 11 rfl (by kernel_rfl) rfl ?_
       have C400:=cg [12] (ch137.n.seq ((ch142.l rfl).seq (ch145.n.seq (ch391.n.seq ch397.n))))
       replace o_OB:=o_OB.ca C400
       refine i9 o_OB o398.flat cJ bf (by(simp;omega)) ?_
       intro g401 w402 v403 ch404 o405
       clear o_OB
       have hs406:=hs399.seq (ch404.l rfl)
       refine⟨hs406.same,?_⟩
       refine ht (v:=Value.pointer (some ⟨u.n,0,none⟩)) 12 rfl hs406.same (λw' hw'=>ae rfl) (ht 13 rfl hs406.same (λw' hw'=>aa dR rfl rfl rfl rfl) (az 14 rfl (by kernel_rfl) rfl ?_))
       replace bx124:=(bx124.cn ch397).ce ch404
       refine aC (cs':=[vi KB,v403]) bn rfl rfl bx124 (aP o405.flat) nq (aG o405.flat) rfl ?_
       intro w407 ch408 bx409
       clear bx124
       have hs410:=hs406.seq (ch408.l rfl)
       refine⟨hs410.same,?_⟩
       refine bP (by kernel_rfl) ?_
       have C411:=cg [10,11,12] (ch137.n.seq ((ch142.l rfl).seq (ch145.n.seq (ch391.n.seq (ch397.n.seq ((ch404.l rfl).seq (ch408.l rfl)))))))
       replace Rps:=Rps.ca C393
       replace ar_A:=ar_A.ca C393
       replace o6:=o6.ca C393
       replace o18:=o18.cn ch391
       replace o_out2:=o_out2.ca C393
       replace pm128:=pm128.ca C393
       replace o131:=o131.ca C393
       exact mid (v403,g401) _ _ ⟨bH.ca C411,zs5,zs7,zs11,zs12,zs15,zs83,zs84,zs85,zs114,zs115,zs116,(Rps.ca hs410),(ar_A.ca hs410),(o6.ca hs410),(o18.ca hs410),(m85.ca hs410),(o_out2.ca hs410),(pm128.ca hs410),(o131.ca hs410),o405.ce ch408,bx409⟩
      ·
       refine ar (α:=Bd) g147 (is 14) (is 14) (14,0) rfl [((gI ((lA AR (gI ps ↑i)).2) (m:Int)).1,((gI ((lA AR (gI ps ↑i)).2) (m:Int)).2).1,(((gI ((lA AR (gI ps ↑i)).2) (m:Int)).2).2).1,(((gI ((lA AR (gI ps ↑i)).2) (m:Int)).2).2).2)] cJ bf (by decide) (by decide) (vs:=[(0,vg [vi ((gI ((lA AR (gI ps ↑i)).2) (m:Int)).1),vi (((gI ((lA AR (gI ps ↑i)).2) (m:Int)).2).1),vi ((((gI ((lA AR (gI ps ↑i)).2) (m:Int)).2).2).1),vi ((((gI ((lA AR (gI ps ↑i)).2) (m:Int)).2).2).2)])]) rfl rfl (.cons rfl .nil) ?_
       intro g412 w413 v414 ch415 o416
       have hs417:aU (inl [10,11]) _ _ _ _:=ch415.n
       refine⟨hs417.same,?_⟩
       refine az 8 rfl (by kernel_rfl) rfl ?_
       have C418:=cg [12] (ch137.n.seq ((ch142.l rfl).seq (ch145.n.seq (ch391.n.seq ch415.n))))
       replace bx124:=bx124.ca C418
       refine aj (v:=OB_v) (a8 bn rfl bx124 rfl) ?_
       refine⟨hs417.same,?_⟩
       refine az 11 rfl (by kernel_rfl) rfl ?_
       replace o_OB:=o_OB.ca C418
       refine i9 o_OB o416.flat cJ bf (by(simp;omega)) ?_
       intro g419 w420 v421 ch422 o423
       clear o_OB
       have hs424:=hs417.seq (ch422.l rfl)
       refine⟨hs424.same,?_⟩
       refine ht (v:=Value.pointer (some ⟨u.n,0,none⟩)) 12 rfl hs424.same (λw' hw'=>ae rfl) (ht 13 rfl hs424.same (λw' hw'=>aa dR rfl rfl rfl rfl) (az 14 rfl (by kernel_rfl) rfl ?_))
       replace bx124:=bx124.ce ch422
       refine aC (cs':=[vi KB,v421]) bn rfl rfl bx124 (aP o423.flat) nq (aG o423.flat) rfl ?_
       intro w425 ch426 bx427
       clear bx124
       have hs428:=hs424.seq (ch426.l rfl)
       refine⟨hs428.same,?_⟩
       refine bP (by kernel_rfl) ?_
       have C429:=cg [10,11,12] (ch137.n.seq ((ch142.l rfl).seq (ch145.n.seq (ch391.n.seq (ch415.n.seq ((ch422.l rfl).seq (ch426.l rfl)))))))
       replace Rps:=Rps.ca C393
       replace ar_A:=ar_A.ca C393
       replace o6:=o6.ca C393
       replace o18:=o18.cn ch391
       replace o_out2:=o_out2.ca C393
       replace pm128:=pm128.ca C393
       replace o131:=o131.ca C393
       exact mid (v421,g419) _ _ ⟨bH.ca C429,zs5,zs7,zs11,zs12,zs15,zs83,zs84,zs85,zs114,zs115,zs116,(Rps.ca hs428),(ar_A.ca hs428),(o6.ca hs428),(o18.ca hs428),(m85.ca hs428),(o_out2.ca hs428),(pm128.ca hs428),(o131.ca hs428),o423.ce ch426,bx427⟩
     ·
      refine ar (α:=Bd) g147 (is 14) (is 14) (14,0) rfl [((gI ((lA AR (gI ps ↑i)).2) (m:Int)).1,((gI ((lA AR (gI ps ↑i)).2) (m:Int)).2).1,(((gI ((lA AR (gI ps ↑i)).2) (m:Int)).2).2).1,(((gI ((lA AR (gI ps ↑i)).2) (m:Int)).2).2).2)] cJ bf (by decide) (by decide) (vs:=[(0,vg [vi ((gI ((lA AR (gI ps ↑i)).2) (m:Int)).1),vi (((gI ((lA AR (gI ps ↑i)).2) (m:Int)).2).1),vi ((((gI ((lA AR (gI ps ↑i)).2) (m:Int)).2).2).1),vi ((((gI ((lA AR (gI ps ↑i)).2) (m:Int)).2).2).2)])]) rfl rfl (.cons rfl .nil) ?_
      intro g430 w431 v432 ch433 o434
      have hs435:aU (inl [10,11]) _ _ _ _:=ch433.n
      refine⟨hs435.same,?_⟩
      refine az 5 rfl (by kernel_rfl) rfl (aj (v:=Value.pointer (some ⟨u.n,0,none⟩)) (bD (dg of1 (i:Int)) eH (be U3) aW rfl (m85.ca hs435) rfl rfl (by exact(congrArg cw hFr).trans (bZ u))) ?_)
      refine⟨hs435.same,?_⟩
      refine ht (v:=Value.pointer (some ⟨u.n,0,none⟩)) 6 rfl hs435.same (λw' hw'=>ae rfl) (ht 7 rfl hs435.same (λw' hw'=>aa dR rfl rfl rfl rfl) (az 8 rfl (by kernel_rfl) rfl ?_))
      have C436:=cg [12] (ch137.n.seq ((ch142.l rfl).seq (ch145.n.seq (ch391.n.seq ch433.n))))
      replace bx124:=bx124.ca C436
      refine aj (v:=OB_v) (a8 bn rfl bx124 rfl) ?_
      refine⟨hs435.same,?_⟩
      refine az 11 rfl (by kernel_rfl) rfl ?_
      replace o_OB:=o_OB.ca C436
      refine i9 o_OB o434.flat cJ bf (by(simp;omega)) ?_
      intro g437 w438 v439 ch440 o441
      clear o_OB
      have hs442:=hs435.seq (ch440.l rfl)
      refine⟨hs442.same,?_⟩
      refine ht (v:=Value.pointer (some ⟨u.n,0,none⟩)) 12 rfl hs442.same (λw' hw'=>ae rfl) (ht 13 rfl hs442.same (λw' hw'=>aa dR rfl rfl rfl rfl) (az 14 rfl (by kernel_rfl) rfl ?_))
      replace bx124:=bx124.ce ch440
      refine aC (cs':=[vi KB,v439]) bn rfl rfl bx124 (aP o441.flat) nq (aG o441.flat) rfl ?_
      intro w443 ch444 bx445
      clear bx124
      have hs446:=hs442.seq (ch444.l rfl)
      refine⟨hs446.same,?_⟩
      refine bP (by kernel_rfl) ?_
      have C447:=cg [10,11,12] (ch137.n.seq ((ch142.l rfl).seq (ch145.n.seq (ch391.n.seq (ch433.n.seq ((ch440.l rfl).seq (ch444.l rfl)))))))
      replace Rps:=Rps.ca C393
      replace ar_A:=ar_A.ca C393
      replace o6:=o6.ca C393
      replace o18:=o18.cn ch391
      replace o_out2:=o_out2.ca C393
      replace pm128:=pm128.ca C393
      replace o131:=o131.ca C393
      exact mid (v439,g437) _ _ ⟨bH.ca C447,zs5,zs7,zs11,zs12,zs15,zs83,zs84,zs85,zs114,zs115,zs116,(Rps.ca hs446),(ar_A.ca hs446),(o6.ca hs446),(o18.ca hs446),(m85.ca hs446),(o_out2.ca hs446),(pm128.ca hs446),(o131.ca hs446),o441.ce ch444,bx445⟩
    ·
     have C448:=cg [12] (ch137.n.seq ((ch142.l rfl).seq (ch145.n.seq ch391.n)))
     replace m85:=m85.ca C448
     refine aj (v:=Value.pointer (some ⟨u.n,0,none⟩)) (bD (dg of1 (i:Int)) eH (be U3) aW rfl m85 rfl rfl (by exact(congrArg cw hFr).trans (bZ u))) ?_
     refine⟨(aU.refl _ _ _),?_⟩
     refine ht (v:=Value.pointer (some ⟨u.n,0,none⟩)) 6 rfl (aU.refl _ _ _) (λw' hw'=>ae rfl) (ht 7 rfl (aU.refl _ _ _) (λw' hw'=>aa dR rfl rfl rfl rfl) ?_)
     refine bO 2 [8,10] (by kernel_rfl) ⟨bL 2 rfl (by kernel_rfl) rfl ?_,bL 8 rfl (by kernel_rfl) rfl ?_,bL 10 rfl (by kernel_rfl) rfl ?_,trivial⟩
     ·
      refine aj (v:=Value.pointer (some ⟨u.n,0,none⟩)) (bD (dg of1 (i:Int)) eH (be U3) aW rfl m85 rfl rfl (by exact(congrArg cw hFr).trans (bZ u))) ?_
      refine⟨(aU.refl _ _ _),?_⟩
      refine bO 8 [10] (by kernel_rfl) ⟨bL 8 rfl (by kernel_rfl) rfl ?_,bL 10 rfl (by kernel_rfl) rfl ?_,trivial⟩
      ·
       replace bx124:=bx124.ca C448
       refine aj (v:=OB_v) (a8 bn rfl bx124 rfl) ?_
       refine⟨(aU.refl _ _ _),?_⟩
       refine az 10 rfl (by kernel_rfl) rfl ?_
       refine ar (α:=Bd) g147 (is 14) (is 14) (14,0) rfl [((gI ((lA AR (gI ps ↑i)).2) (m:Int)).1,((gI ((lA AR (gI ps ↑i)).2) (m:Int)).2).1,(((gI ((lA AR (gI ps ↑i)).2) (m:Int)).2).2).1,(((gI ((lA AR (gI ps ↑i)).2) (m:Int)).2).2).2)] cJ bf (by decide) (by decide) (vs:=[(0,vg [vi ((gI ((lA AR (gI ps ↑i)).2) (m:Int)).1),vi (((gI ((lA AR (gI ps ↑i)).2) (m:Int)).2).1),vi ((((gI ((lA AR (gI ps ↑i)).2) (m:Int)).2).2).1),vi ((((gI ((lA AR (gI ps ↑i)).2) (m:Int)).2).2).2)])]) rfl rfl (.cons rfl .nil) ?_
       intro g449 w450 v451 ch452 o453
       have hs454:aU (inl [10,11]) _ _ _ _:=ch452.n
       refine⟨hs454.same,?_⟩
       refine az 11 rfl (by kernel_rfl) rfl ?_
       have C455:=cg [12] (ch137.n.seq ((ch142.l rfl).seq (ch145.n.seq (ch391.n.seq ch452.n))))
       replace o_OB:=o_OB.ca C455
       refine i9 o_OB o453.flat cJ bf (by(simp;omega)) ?_
       intro g456 w457 v458 ch459 o460
       clear o_OB
       have hs461:=hs454.seq (ch459.l rfl)
       refine⟨hs461.same,?_⟩
       refine ht (v:=Value.pointer (some ⟨u.n,0,none⟩)) 12 rfl hs461.same (λw' hw'=>ae rfl) (ht 13 rfl hs461.same (λw' hw'=>aa dR rfl rfl rfl rfl) (az 14 rfl (by kernel_rfl) rfl ?_))
       replace bx124:=(bx124.cn ch452).ce ch459
       refine aC (cs':=[vi KB,v458]) bn rfl rfl bx124 (aP o460.flat) nq (aG o460.flat) rfl ?_
       intro w462 ch463 bx464
       clear bx124
       have hs465:=hs461.seq (ch463.l rfl)
       refine⟨hs465.same,?_⟩
       refine bP (by kernel_rfl) ?_
       have C466:=cg [10,11,12] (ch137.n.seq ((ch142.l rfl).seq (ch145.n.seq (ch391.n.seq (ch452.n.seq ((ch459.l rfl).seq (ch463.l rfl)))))))
       replace Rps:=Rps.ca C448
       replace ar_A:=ar_A.ca C448
       replace o6:=o6.ca C448
       replace o18:=o18.cn ch391
       replace o_out2:=o_out2.ca C448
       replace pm128:=pm128.ca C448
       replace o131:=o131.ca C448
       exact mid (v458,g456) _ _ ⟨bH.ca C466,zs5,zs7,zs11,zs12,zs15,zs83,zs84,zs85,zs114,zs115,zs116,(Rps.ca hs465),(ar_A.ca hs465),(o6.ca hs465),(o18.ca hs465),(m85.ca hs465),(o_out2.ca hs465),(pm128.ca hs465),(o131.ca hs465),o460.ce ch463,bx464⟩
      ·
       refine ar (α:=Bd) g147 (is 14) (is 14) (14,0) rfl [((gI ((lA AR (gI ps ↑i)).2) (m:Int)).1,((gI ((lA AR (gI ps ↑i)).2) (m:Int)).2).1,(((gI ((lA AR (gI ps ↑i)).2) (m:Int)).2).2).1,(((gI ((lA AR (gI ps ↑i)).2) (m:Int)).2).2).2)] cJ bf (by decide) (by decide) (vs:=[(0,vg [vi ((gI ((lA AR (gI ps ↑i)).2) (m:Int)).1),vi (((gI ((lA AR (gI ps ↑i)).2) (m:Int)).2).1),vi ((((gI ((lA AR (gI ps ↑i)).2) (m:Int)).2).2).1),vi ((((gI ((lA AR (gI ps ↑i)).2) (m:Int)).2).2).2)])]) rfl rfl (.cons rfl .nil) ?_
       intro g467 w468 v469 ch470 o471
       have hs472:aU (inl [10,11]) _ _ _ _:=ch470.n
       refine⟨hs472.same,?_⟩
       refine az 8 rfl (by kernel_rfl) rfl ?_
       have C473:=cg [12] (ch137.n.seq ((ch142.l rfl).seq (ch145.n.seq (ch391.n.seq ch470.n))))
       replace bx124:=bx124.ca C473
       refine aj (v:=OB_v) (a8 bn rfl bx124 rfl) ?_
       refine⟨hs472.same,?_⟩
       refine az 11 rfl (by kernel_rfl) rfl ?_
       replace o_OB:=o_OB.ca C473
       refine i9 o_OB o471.flat cJ bf (by(simp;omega)) ?_
       intro g474 w475 v476 ch477 o478
       clear o_OB
       have hs479:=hs472.seq (ch477.l rfl)
       refine⟨hs479.same,?_⟩
       refine ht (v:=Value.pointer (some ⟨u.n,0,none⟩)) 12 rfl hs479.same (λw' hw'=>ae rfl) (ht 13 rfl hs479.same (λw' hw'=>aa dR rfl rfl rfl rfl) (az 14 rfl (by kernel_rfl) rfl ?_))
       replace bx124:=bx124.ce ch477
       refine aC (cs':=[vi KB,v476]) bn rfl rfl bx124 (aP o478.flat) nq (aG o478.flat) rfl ?_
       intro w480 ch481 bx482
       clear bx124
       have hs483:=hs479.seq (ch481.l rfl)
       refine⟨hs483.same,?_⟩
       refine bP (by kernel_rfl) ?_
       have C484:=cg [10,11,12] (ch137.n.seq ((ch142.l rfl).seq (ch145.n.seq (ch391.n.seq (ch470.n.seq ((ch477.l rfl).seq (ch481.l rfl)))))))
       replace Rps:=Rps.ca C448
       replace ar_A:=ar_A.ca C448
       replace o6:=o6.ca C448
       replace o18:=o18.cn ch391
       replace o_out2:=o_out2.ca C448
       replace pm128:=pm128.ca C448
       replace o131:=o131.ca C448
       exact mid (v476,g474) _ _ ⟨bH.ca C484,zs5,zs7,zs11,zs12,zs15,zs83,zs84,zs85,zs114,zs115,zs116,(Rps.ca hs483),(ar_A.ca hs483),(o6.ca hs483),(o18.ca hs483),(m85.ca hs483),(o_out2.ca hs483),(pm128.ca hs483),(o131.ca hs483),o478.ce ch481,bx482⟩
     ·
      replace bx124:=bx124.ca C448
      refine aj (v:=OB_v) (a8 bn rfl bx124 rfl) ?_
      refine⟨(aU.refl _ _ _),?_⟩
      refine bO 2 [10] (by kernel_rfl) ⟨bL 2 rfl (by kernel_rfl) rfl ?_,bL 10 rfl (by kernel_rfl) rfl ?_,trivial⟩
      ·
       refine aj (v:=Value.pointer (some ⟨u.n,0,none⟩)) (bD (dg of1 (i:Int)) eH (be U3) aW rfl m85 rfl rfl (by exact(congrArg cw hFr).trans (bZ u))) ?_
       refine⟨(aU.refl _ _ _),?_⟩
       refine az 10 rfl (by kernel_rfl) rfl ?_
       refine ar (α:=Bd) g147 (is 14) (is 14) (14,0) rfl [((gI ((lA AR (gI ps ↑i)).2) (m:Int)).1,((gI ((lA AR (gI ps ↑i)).2) (m:Int)).2).1,(((gI ((lA AR (gI ps ↑i)).2) (m:Int)).2).2).1,(((gI ((lA AR (gI ps ↑i)).2) (m:Int)).2).2).2)] cJ bf (by decide) (by decide) (vs:=[(0,vg [vi ((gI ((lA AR (gI ps ↑i)).2) (m:Int)).1),vi (((gI ((lA AR (gI ps ↑i)).2) (m:Int)).2).1),vi ((((gI ((lA AR (gI ps ↑i)).2) (m:Int)).2).2).1),vi ((((gI ((lA AR (gI ps ↑i)).2) (m:Int)).2).2).2)])]) rfl rfl (.cons rfl .nil) ?_
       intro g485 w486 v487 ch488 o489
       have hs490:aU (inl [10,11]) _ _ _ _:=ch488.n
       refine⟨hs490.same,?_⟩
       refine az 11 rfl (by kernel_rfl) rfl ?_
       have C491:=cg [12] (ch137.n.seq ((ch142.l rfl).seq (ch145.n.seq (ch391.n.seq ch488.n))))
       replace o_OB:=o_OB.ca C491
       refine i9 o_OB o489.flat cJ bf (by(simp;omega)) ?_
       intro g492 w493 v494 ch495 o496
       clear o_OB
       have hs497:=hs490.seq (ch495.l rfl)
       refine⟨hs497.same,?_⟩
       refine ht (v:=Value.pointer (some ⟨u.n,0,none⟩)) 12 rfl hs497.same (λw' hw'=>ae rfl) (ht 13 rfl hs497.same (λw' hw'=>aa dR rfl rfl rfl rfl) (az 14 rfl (by kernel_rfl) rfl ?_))
       replace bx124:=(bx124.cn ch488).ce ch495
       refine aC (cs':=[vi KB,v494]) bn rfl rfl bx124 (aP o496.flat) nq (aG o496.flat) rfl ?_
       intro w498 ch499 bx500
       clear bx124
       have hs501:=hs497.seq (ch499.l rfl)
       refine⟨hs501.same,?_⟩
       refine bP (by kernel_rfl) ?_
       have C502:=cg [10,11,12] (ch137.n.seq ((ch142.l rfl).seq (ch145.n.seq (ch391.n.seq (ch488.n.seq ((ch495.l rfl).seq (ch499.l rfl)))))))
       replace Rps:=Rps.ca C448
       replace ar_A:=ar_A.ca C448
       replace o6:=o6.ca C448
       replace o18:=o18.cn ch391
       replace o_out2:=o_out2.ca C448
       replace pm128:=pm128.ca C448
       replace o131:=o131.ca C448
       exact mid (v494,g492) _ _ ⟨bH.ca C502,zs5,zs7,zs11,zs12,zs15,zs83,zs84,zs85,zs114,zs115,zs116,(Rps.ca hs501),(ar_A.ca hs501),(o6.ca hs501),(o18.ca hs501),(m85.ca hs501),(o_out2.ca hs501),(pm128.ca hs501),(o131.ca hs501),o496.ce ch499,bx500⟩
      ·
       refine ar (α:=Bd) g147 (is 14) (is 14) (14,0) rfl [((gI ((lA AR (gI ps ↑i)).2) (m:Int)).1,((gI ((lA AR (gI ps ↑i)).2) (m:Int)).2).1,(((gI ((lA AR (gI ps ↑i)).2) (m:Int)).2).2).1,(((gI ((lA AR (gI ps ↑i)).2) (m:Int)).2).2).2)] cJ bf (by decide) (by decide) (vs:=[(0,vg [vi ((gI ((lA AR (gI ps ↑i)).2) (m:Int)).1),vi (((gI ((lA AR (gI ps ↑i)).2) (m:Int)).2).1),vi ((((gI ((lA AR (gI ps ↑i)).2) (m:Int)).2).2).1),vi ((((gI ((lA AR (gI ps ↑i)).2) (m:Int)).2).2).2)])]) rfl rfl (.cons rfl .nil) ?_
       intro g503 w504 v505 ch506 o507
       have hs508:aU (inl [10,11]) _ _ _ _:=ch506.n
       refine⟨hs508.same,?_⟩
       refine bO 2 [11] (by kernel_rfl) ⟨bL 2 rfl (by kernel_rfl) rfl ?_,bL 11 rfl (by kernel_rfl) rfl ?_,trivial⟩
       ·
        refine aj (v:=Value.pointer (some ⟨u.n,0,none⟩)) (bD (dg of1 (i:Int)) eH (be U3) aW rfl (m85.ca hs508) rfl rfl (by exact(congrArg cw hFr).trans (bZ u))) ?_
        refine⟨hs508.same,?_⟩
        refine az 11 rfl (by kernel_rfl) rfl ?_
        have C509:=cg [12] (ch137.n.seq ((ch142.l rfl).seq (ch145.n.seq (ch391.n.seq ch506.n))))
        replace o_OB:=o_OB.ca C509
        refine i9 o_OB o507.flat cJ bf (by(simp;omega)) ?_
        intro g510 w511 v512 ch513 o514
        clear o_OB
        have hs515:=hs508.seq (ch513.l rfl)
        refine⟨hs515.same,?_⟩
        refine ht (v:=Value.pointer (some ⟨u.n,0,none⟩)) 12 rfl hs515.same (λw' hw'=>ae rfl) (ht 13 rfl hs515.same (λw' hw'=>aa dR rfl rfl rfl rfl) (az 14 rfl (by kernel_rfl) rfl ?_))
        replace bx124:=(bx124.cn ch506).ce ch513
        refine aC (cs':=[vi KB,v512]) bn rfl rfl bx124 (aP o514.flat) nq (aG o514.flat) rfl ?_
        intro w516 ch517 bx518
        clear bx124
        have hs519:=hs515.seq (ch517.l rfl)
        refine⟨hs519.same,?_⟩
        refine bP (by kernel_rfl) ?_
        have C520:=cg [10,11,12] (ch137.n.seq ((ch142.l rfl).seq (ch145.n.seq (ch391.n.seq (ch506.n.seq ((ch513.l rfl).seq (ch517.l rfl)))))))
        replace Rps:=Rps.ca C448
        replace ar_A:=ar_A.ca C448
        replace o6:=o6.ca C448
        replace o18:=o18.cn ch391
        replace o_out2:=o_out2.ca C448
        replace pm128:=pm128.ca C448
        replace o131:=o131.ca C448
        exact mid (v512,g510) _ _ ⟨bH.ca C520,zs5,zs7,zs11,zs12,zs15,zs83,zs84,zs85,zs114,zs115,zs116,(Rps.ca hs519),(ar_A.ca hs519),(o6.ca hs519),(o18.ca hs519),(m85.ca hs519),(o_out2.ca hs519),(pm128.ca hs519),(o131.ca hs519),o514.ce ch517,bx518⟩
       ·
        have C521:=cg [12] (ch137.n.seq ((ch142.l rfl).seq (ch145.n.seq (ch391.n.seq ch506.n))))
        replace o_OB:=o_OB.ca C521
        refine i9 o_OB o507.flat cJ bf (by(simp;omega)) ?_
        intro g522 w523 v524 ch525 o526
        clear o_OB
        have hs527:=hs508.seq (ch525.l rfl)
        refine⟨hs527.same,?_⟩
        refine az 2 rfl (by kernel_rfl) rfl (aj (v:=Value.pointer (some ⟨u.n,0,none⟩)) (bD (dg of1 (i:Int)) eH (be U3) aW rfl (m85.ca hs527) rfl rfl (by exact(congrArg cw hFr).trans (bZ u))) ?_)
        refine⟨hs527.same,?_⟩
        refine ht (v:=Value.pointer (some ⟨u.n,0,none⟩)) 12 rfl hs527.same (λw' hw'=>ae rfl) (ht 13 rfl hs527.same (λw' hw'=>aa dR rfl rfl rfl rfl) (az 14 rfl (by kernel_rfl) rfl ?_))
        replace bx124:=(bx124.cn ch506).ce ch525
        refine aC (cs':=[vi KB,v524]) bn rfl rfl bx124 (aP o526.flat) nq (aG o526.flat) rfl ?_
        intro w528 ch529 bx530
        clear bx124
        have hs531:=hs527.seq (ch529.l rfl)
        refine⟨hs531.same,?_⟩
        refine bP (by kernel_rfl) ?_
        have C532:=cg [10,11,12] (ch137.n.seq ((ch142.l rfl).seq (ch145.n.seq (ch391.n.seq (ch506.n.seq ((ch525.l rfl).seq (ch529.l rfl)))))))
        replace Rps:=Rps.ca C448
        replace ar_A:=ar_A.ca C448
        replace o6:=o6.ca C448
        replace o18:=o18.cn ch391
        replace o_out2:=o_out2.ca C448
        replace pm128:=pm128.ca C448
        replace o131:=o131.ca C448
        exact mid (v524,g522) _ _ ⟨bH.ca C532,zs5,zs7,zs11,zs12,zs15,zs83,zs84,zs85,zs114,zs115,zs116,(Rps.ca hs531),(ar_A.ca hs531),(o6.ca hs531),(o18.ca hs531),(m85.ca hs531),(o_out2.ca hs531),(pm128.ca hs531),(o131.ca hs531),o526.ce ch529,bx530⟩
     ·
      refine ar (α:=Bd) g147 (is 14) (is 14) (14,0) rfl [((gI ((lA AR (gI ps ↑i)).2) (m:Int)).1,((gI ((lA AR (gI ps ↑i)).2) (m:Int)).2).1,(((gI ((lA AR (gI ps ↑i)).2) (m:Int)).2).2).1,(((gI ((lA AR (gI ps ↑i)).2) (m:Int)).2).2).2)] cJ bf (by decide) (by decide) (vs:=[(0,vg [vi ((gI ((lA AR (gI ps ↑i)).2) (m:Int)).1),vi (((gI ((lA AR (gI ps ↑i)).2) (m:Int)).2).1),vi ((((gI ((lA AR (gI ps ↑i)).2) (m:Int)).2).2).1),vi ((((gI ((lA AR (gI ps ↑i)).2) (m:Int)).2).2).2)])]) rfl rfl (.cons rfl .nil) ?_
      intro g533 w534 v535 ch536 o537
      have hs538:aU (inl [10,11]) _ _ _ _:=ch536.n
      refine⟨hs538.same,?_⟩
      refine bO 2 [8] (by kernel_rfl) ⟨bL 2 rfl (by kernel_rfl) rfl ?_,bL 8 rfl (by kernel_rfl) rfl ?_,trivial⟩
      ·
       refine aj (v:=Value.pointer (some ⟨u.n,0,none⟩)) (bD (dg of1 (i:Int)) eH (be U3) aW rfl (m85.ca hs538) rfl rfl (by exact(congrArg cw hFr).trans (bZ u))) ?_
       refine⟨hs538.same,?_⟩
       refine az 8 rfl (by kernel_rfl) rfl ?_
       have C539:=cg [12] (ch137.n.seq ((ch142.l rfl).seq (ch145.n.seq (ch391.n.seq ch536.n))))
       replace bx124:=bx124.ca C539
       refine aj (v:=OB_v) (a8 bn rfl bx124 rfl) ?_
       refine⟨hs538.same,?_⟩
       refine az 11 rfl (by kernel_rfl) rfl ?_
       replace o_OB:=o_OB.ca C539
       refine i9 o_OB o537.flat cJ bf (by(simp;omega)) ?_
       intro g540 w541 v542 ch543 o544
       clear o_OB
       have hs545:=hs538.seq (ch543.l rfl)
       refine⟨hs545.same,?_⟩
       refine ht (v:=Value.pointer (some ⟨u.n,0,none⟩)) 12 rfl hs545.same (λw' hw'=>ae rfl) (ht 13 rfl hs545.same (λw' hw'=>aa dR rfl rfl rfl rfl) (az 14 rfl (by kernel_rfl) rfl ?_))
       replace bx124:=bx124.ce ch543
       refine aC (cs':=[vi KB,v542]) bn rfl rfl bx124 (aP o544.flat) nq (aG o544.flat) rfl ?_
       intro w546 ch547 bx548
       clear bx124
       have hs549:=hs545.seq (ch547.l rfl)
       refine⟨hs549.same,?_⟩
       refine bP (by kernel_rfl) ?_
       have C550:=cg [10,11,12] (ch137.n.seq ((ch142.l rfl).seq (ch145.n.seq (ch391.n.seq (ch536.n.seq ((ch543.l rfl).seq (ch547.l rfl)))))))
       replace Rps:=Rps.ca C448
       replace ar_A:=ar_A.ca C448
       replace o6:=o6.ca C448
       replace o18:=o18.cn ch391
       replace o_out2:=o_out2.ca C448
       replace pm128:=pm128.ca C448
       replace o131:=o131.ca C448
       exact mid (v542,g540) _ _ ⟨bH.ca C550,zs5,zs7,zs11,zs12,zs15,zs83,zs84,zs85,zs114,zs115,zs116,(Rps.ca hs549),(ar_A.ca hs549),(o6.ca hs549),(o18.ca hs549),(m85.ca hs549),(o_out2.ca hs549),(pm128.ca hs549),(o131.ca hs549),o544.ce ch547,bx548⟩
      ·
       have C551:=cg [12] (ch137.n.seq ((ch142.l rfl).seq (ch145.n.seq (ch391.n.seq ch536.n))))
       replace bx124:=bx124.ca C551
       refine aj (v:=OB_v) (a8 bn rfl bx124 rfl) ?_
       refine⟨hs538.same,?_⟩
       refine bO 2 [11] (by kernel_rfl) ⟨bL 2 rfl (by kernel_rfl) rfl ?_,bL 11 rfl (by kernel_rfl) rfl ?_,trivial⟩
       ·
        refine aj (v:=Value.pointer (some ⟨u.n,0,none⟩)) (bD (dg of1 (i:Int)) eH (be U3) aW rfl (m85.ca hs538) rfl rfl (by exact(congrArg cw hFr).trans (bZ u))) ?_
        refine⟨hs538.same,?_⟩
        refine az 11 rfl (by kernel_rfl) rfl ?_
        replace o_OB:=o_OB.ca C551
        refine i9 o_OB o537.flat cJ bf (by(simp;omega)) ?_
        intro g552 w553 v554 ch555 o556
        clear o_OB
        have hs557:=hs538.seq (ch555.l rfl)
        refine⟨hs557.same,?_⟩
        refine ht (v:=Value.pointer (some ⟨u.n,0,none⟩)) 12 rfl hs557.same (λw' hw'=>ae rfl) (ht 13 rfl hs557.same (λw' hw'=>aa dR rfl rfl rfl rfl) (az 14 rfl (by kernel_rfl) rfl ?_))
        replace bx124:=bx124.ce ch555
        refine aC (cs':=[vi KB,v554]) bn rfl rfl bx124 (aP o556.flat) nq (aG o556.flat) rfl ?_
        intro w558 ch559 bx560
        clear bx124
        have hs561:=hs557.seq (ch559.l rfl)
        refine⟨hs561.same,?_⟩
        refine bP (by kernel_rfl) ?_
        have C562:=cg [10,11,12] (ch137.n.seq ((ch142.l rfl).seq (ch145.n.seq (ch391.n.seq (ch536.n.seq ((ch555.l rfl).seq (ch559.l rfl)))))))
        replace Rps:=Rps.ca C448
        replace ar_A:=ar_A.ca C448
        replace o6:=o6.ca C448
        replace o18:=o18.cn ch391
        replace o_out2:=o_out2.ca C448
        replace pm128:=pm128.ca C448
        replace o131:=o131.ca C448
        exact mid (v554,g552) _ _ ⟨bH.ca C562,zs5,zs7,zs11,zs12,zs15,zs83,zs84,zs85,zs114,zs115,zs116,(Rps.ca hs561),(ar_A.ca hs561),(o6.ca hs561),(o18.ca hs561),(m85.ca hs561),(o_out2.ca hs561),(pm128.ca hs561),(o131.ca hs561),o556.ce ch559,bx560⟩
       ·
        replace o_OB:=o_OB.ca C551
        refine i9 o_OB o537.flat cJ bf (by(simp;omega)) ?_
        intro g563 w564 v565 ch566 o567
        clear o_OB
        have hs568:=hs538.seq (ch566.l rfl)
        refine⟨hs568.same,?_⟩
        refine az 2 rfl (by kernel_rfl) rfl (aj (v:=Value.pointer (some ⟨u.n,0,none⟩)) (bD (dg of1 (i:Int)) eH (be U3) aW rfl (m85.ca hs568) rfl rfl (by exact(congrArg cw hFr).trans (bZ u))) ?_)
        refine⟨hs568.same,?_⟩
        refine ht (v:=Value.pointer (some ⟨u.n,0,none⟩)) 12 rfl hs568.same (λw' hw'=>ae rfl) (ht 13 rfl hs568.same (λw' hw'=>aa dR rfl rfl rfl rfl) (az 14 rfl (by kernel_rfl) rfl ?_))
        replace bx124:=bx124.ce ch566
        refine aC (cs':=[vi KB,v565]) bn rfl rfl bx124 (aP o567.flat) nq (aG o567.flat) rfl ?_
        intro w569 ch570 bx571
        clear bx124
        have hs572:=hs568.seq (ch570.l rfl)
        refine⟨hs572.same,?_⟩
        refine bP (by kernel_rfl) ?_
        have C573:=cg [10,11,12] (ch137.n.seq ((ch142.l rfl).seq (ch145.n.seq (ch391.n.seq (ch536.n.seq ((ch566.l rfl).seq (ch570.l rfl)))))))
        replace Rps:=Rps.ca C448
        replace ar_A:=ar_A.ca C448
        replace o6:=o6.ca C448
        replace o18:=o18.cn ch391
        replace o_out2:=o_out2.ca C448
        replace pm128:=pm128.ca C448
        replace o131:=o131.ca C448
        exact mid (v565,g563) _ _ ⟨bH.ca C573,zs5,zs7,zs11,zs12,zs15,zs83,zs84,zs85,zs114,zs115,zs116,(Rps.ca hs572),(ar_A.ca hs572),(o6.ca hs572),(o18.ca hs572),(m85.ca hs572),(o_out2.ca hs572),(pm128.ca hs572),(o131.ca hs572),o567.ce ch570,bx571⟩
    ·
     refine ar (α:=Bd) g147 (is 14) (is 14) (14,0) rfl [((gI ((lA AR (gI ps ↑i)).2) (m:Int)).1,((gI ((lA AR (gI ps ↑i)).2) (m:Int)).2).1,(((gI ((lA AR (gI ps ↑i)).2) (m:Int)).2).2).1,(((gI ((lA AR (gI ps ↑i)).2) (m:Int)).2).2).2)] cJ bf (by decide) (by decide) (vs:=[(0,vg [vi ((gI ((lA AR (gI ps ↑i)).2) (m:Int)).1),vi (((gI ((lA AR (gI ps ↑i)).2) (m:Int)).2).1),vi ((((gI ((lA AR (gI ps ↑i)).2) (m:Int)).2).2).1),vi ((((gI ((lA AR (gI ps ↑i)).2) (m:Int)).2).2).2)])]) rfl rfl (.cons rfl .nil) ?_
     intro g574 w575 v576 ch577 o578
     have hs579:aU (inl [10,11]) _ _ _ _:=ch577.n
     refine⟨hs579.same,?_⟩
     refine bO 2 [5] (by kernel_rfl) ⟨bL 2 rfl (by kernel_rfl) rfl ?_,bL 5 rfl (by kernel_rfl) rfl ?_,trivial⟩
     ·
      have C580:=cg [12] (ch137.n.seq ((ch142.l rfl).seq (ch145.n.seq ch391.n)))
      replace m85:=m85.ca C580
      refine aj (v:=Value.pointer (some ⟨u.n,0,none⟩)) (bD (dg of1 (i:Int)) eH (be U3) aW rfl (m85.ca hs579) rfl rfl (by exact(congrArg cw hFr).trans (bZ u))) ?_
      refine⟨hs579.same,?_⟩
      refine az 5 rfl (by kernel_rfl) rfl (aj (v:=Value.pointer (some ⟨u.n,0,none⟩)) (bD (dg of1 (i:Int)) eH (be U3) aW rfl (m85.ca hs579) rfl rfl (by exact(congrArg cw hFr).trans (bZ u))) ?_)
      refine⟨hs579.same,?_⟩
      refine ht (v:=Value.pointer (some ⟨u.n,0,none⟩)) 6 rfl hs579.same (λw' hw'=>ae rfl) (ht 7 rfl hs579.same (λw' hw'=>aa dR rfl rfl rfl rfl) (az 8 rfl (by kernel_rfl) rfl ?_))
      have C581:=cg [12] (ch137.n.seq ((ch142.l rfl).seq (ch145.n.seq (ch391.n.seq ch577.n))))
      replace bx124:=bx124.ca C581
      refine aj (v:=OB_v) (a8 bn rfl bx124 rfl) ?_
      refine⟨hs579.same,?_⟩
      refine az 11 rfl (by kernel_rfl) rfl ?_
      replace o_OB:=o_OB.ca C581
      refine i9 o_OB o578.flat cJ bf (by(simp;omega)) ?_
      intro g582 w583 v584 ch585 o586
      clear o_OB
      have hs587:=hs579.seq (ch585.l rfl)
      refine⟨hs587.same,?_⟩
      refine ht (v:=Value.pointer (some ⟨u.n,0,none⟩)) 12 rfl hs587.same (λw' hw'=>ae rfl) (ht 13 rfl hs587.same (λw' hw'=>aa dR rfl rfl rfl rfl) (az 14 rfl (by kernel_rfl) rfl ?_))
      replace bx124:=bx124.ce ch585
      refine aC (cs':=[vi KB,v584]) bn rfl rfl bx124 (aP o586.flat) nq (aG o586.flat) rfl ?_
      intro w588 ch589 bx590
      clear bx124
      have hs591:=hs587.seq (ch589.l rfl)
      refine⟨hs591.same,?_⟩
      refine bP (by kernel_rfl) ?_
      have C592:=cg [10,11,12] (ch137.n.seq ((ch142.l rfl).seq (ch145.n.seq (ch391.n.seq (ch577.n.seq ((ch585.l rfl).seq (ch589.l rfl)))))))
      replace Rps:=Rps.ca C580
      replace ar_A:=ar_A.ca C580
      replace o6:=o6.ca C580
      replace o18:=o18.cn ch391
      replace o_out2:=o_out2.ca C580
      replace pm128:=pm128.ca C580
      replace o131:=o131.ca C580
      exact mid (v584,g582) _ _ ⟨bH.ca C592,zs5,zs7,zs11,zs12,zs15,zs83,zs84,zs85,zs114,zs115,zs116,(Rps.ca hs591),(ar_A.ca hs591),(o6.ca hs591),(o18.ca hs591),(m85.ca hs591),(o_out2.ca hs591),(pm128.ca hs591),(o131.ca hs591),o586.ce ch589,bx590⟩
     ·
      have C593:=cg [12] (ch137.n.seq ((ch142.l rfl).seq (ch145.n.seq ch391.n)))
      replace m85:=m85.ca C593
      refine aj (v:=Value.pointer (some ⟨u.n,0,none⟩)) (bD (dg of1 (i:Int)) eH (be U3) aW rfl (m85.ca hs579) rfl rfl (by exact(congrArg cw hFr).trans (bZ u))) ?_
      refine⟨hs579.same,?_⟩
      refine ht (v:=Value.pointer (some ⟨u.n,0,none⟩)) 6 rfl hs579.same (λw' hw'=>ae rfl) (ht 7 rfl hs579.same (λw' hw'=>aa dR rfl rfl rfl rfl) ?_)
      refine bO 2 [8] (by kernel_rfl) ⟨bL 2 rfl (by kernel_rfl) rfl ?_,bL 8 rfl (by kernel_rfl) rfl ?_,trivial⟩
      ·
       refine aj (v:=Value.pointer (some ⟨u.n,0,none⟩)) (bD (dg of1 (i:Int)) eH (be U3) aW rfl (m85.ca hs579) rfl rfl (by exact(congrArg cw hFr).trans (bZ u))) ?_
       refine⟨hs579.same,?_⟩
       refine az 8 rfl (by kernel_rfl) rfl ?_
       have C594:=cg [12] (ch137.n.seq ((ch142.l rfl).seq (ch145.n.seq (ch391.n.seq ch577.n))))
       replace bx124:=bx124.ca C594
       refine aj (v:=OB_v) (a8 bn rfl bx124 rfl) ?_
       refine⟨hs579.same,?_⟩
       refine az 11 rfl (by kernel_rfl) rfl ?_
       replace o_OB:=o_OB.ca C594
       refine i9 o_OB o578.flat cJ bf (by(simp;omega)) ?_
       intro g595 w596 v597 ch598 o599
       clear o_OB
       have hs600:=hs579.seq (ch598.l rfl)
       refine⟨hs600.same,?_⟩
       refine ht (v:=Value.pointer (some ⟨u.n,0,none⟩)) 12 rfl hs600.same (λw' hw'=>ae rfl) (ht 13 rfl hs600.same (λw' hw'=>aa dR rfl rfl rfl rfl) (az 14 rfl (by kernel_rfl) rfl ?_))
       replace bx124:=bx124.ce ch598
       refine aC (cs':=[vi KB,v597]) bn rfl rfl bx124 (aP o599.flat) nq (aG o599.flat) rfl ?_
       intro w601 ch602 bx603
       clear bx124
       have hs604:=hs600.seq (ch602.l rfl)
       refine⟨hs604.same,?_⟩
       refine bP (by kernel_rfl) ?_
       have C605:=cg [10,11,12] (ch137.n.seq ((ch142.l rfl).seq (ch145.n.seq (ch391.n.seq (ch577.n.seq ((ch598.l rfl).seq (ch602.l rfl)))))))
       replace Rps:=Rps.ca C593
       replace ar_A:=ar_A.ca C593
       replace o6:=o6.ca C593
       replace o18:=o18.cn ch391
       replace o_out2:=o_out2.ca C593
       replace pm128:=pm128.ca C593
       replace o131:=o131.ca C593
       exact mid (v597,g595) _ _ ⟨bH.ca C605,zs5,zs7,zs11,zs12,zs15,zs83,zs84,zs85,zs114,zs115,zs116,(Rps.ca hs604),(ar_A.ca hs604),(o6.ca hs604),(o18.ca hs604),(m85.ca hs604),(o_out2.ca hs604),(pm128.ca hs604),(o131.ca hs604),o599.ce ch602,bx603⟩
      ·
       have C606:=cg [12] (ch137.n.seq ((ch142.l rfl).seq (ch145.n.seq (ch391.n.seq ch577.n))))
       replace bx124:=bx124.ca C606
       refine aj (v:=OB_v) (a8 bn rfl bx124 rfl) ?_
       refine⟨hs579.same,?_⟩
       refine bO 2 [11] (by kernel_rfl) ⟨bL 2 rfl (by kernel_rfl) rfl ?_,bL 11 rfl (by kernel_rfl) rfl ?_,trivial⟩
       ·
        refine aj (v:=Value.pointer (some ⟨u.n,0,none⟩)) (bD (dg of1 (i:Int)) eH (be U3) aW rfl (m85.ca hs579) rfl rfl (by exact(congrArg cw hFr).trans (bZ u))) ?_
        refine⟨hs579.same,?_⟩
        refine az 11 rfl (by kernel_rfl) rfl ?_
        replace o_OB:=o_OB.ca C606
        refine i9 o_OB o578.flat cJ bf (by(simp;omega)) ?_
        intro g607 w608 v609 ch610 o611
        clear o_OB
        have hs612:=hs579.seq (ch610.l rfl)
        refine⟨hs612.same,?_⟩
        refine ht (v:=Value.pointer (some ⟨u.n,0,none⟩)) 12 rfl hs612.same (λw' hw'=>ae rfl) (ht 13 rfl hs612.same (λw' hw'=>aa dR rfl rfl rfl rfl) (az 14 rfl (by kernel_rfl) rfl ?_))
        replace bx124:=bx124.ce ch610
        refine aC (cs':=[vi KB,v609]) bn rfl rfl bx124 (aP o611.flat) nq (aG o611.flat) rfl ?_
        intro w613 ch614 bx615
        clear bx124
        have hs616:=hs612.seq (ch614.l rfl)
        refine⟨hs616.same,?_⟩
        refine bP (by kernel_rfl) ?_
        have C617:=cg [10,11,12] (ch137.n.seq ((ch142.l rfl).seq (ch145.n.seq (ch391.n.seq (ch577.n.seq ((ch610.l rfl).seq (ch614.l rfl)))))))
        replace Rps:=Rps.ca C593
        replace ar_A:=ar_A.ca C593
        replace o6:=o6.ca C593
        replace o18:=o18.cn ch391
        replace o_out2:=o_out2.ca C593
        replace pm128:=pm128.ca C593
        replace o131:=o131.ca C593
        exact mid (v609,g607) _ _ ⟨bH.ca C617,zs5,zs7,zs11,zs12,zs15,zs83,zs84,zs85,zs114,zs115,zs116,(Rps.ca hs616),(ar_A.ca hs616),(o6.ca hs616),(o18.ca hs616),(m85.ca hs616),(o_out2.ca hs616),(pm128.ca hs616),(o131.ca hs616),o611.ce ch614,bx615⟩
       ·
        replace o_OB:=o_OB.ca C606
        refine i9 o_OB o578.flat cJ bf (by(simp;omega)) ?_
        intro g618 w619 v620 ch621 o622
        clear o_OB
        have hs623:=hs579.seq (ch621.l rfl)
        refine⟨hs623.same,?_⟩
        refine az 2 rfl (by kernel_rfl) rfl (aj (v:=Value.pointer (some ⟨u.n,0,none⟩)) (bD (dg of1 (i:Int)) eH (be U3) aW rfl (m85.ca hs623) rfl rfl (by exact(congrArg cw hFr).trans (bZ u))) ?_)
        refine⟨hs623.same,?_⟩
        refine ht (v:=Value.pointer (some ⟨u.n,0,none⟩)) 12 rfl hs623.same (λw' hw'=>ae rfl) (ht 13 rfl hs623.same (λw' hw'=>aa dR rfl rfl rfl rfl) (az 14 rfl (by kernel_rfl) rfl ?_))
        replace bx124:=bx124.ce ch621
        refine aC (cs':=[vi KB,v620]) bn rfl rfl bx124 (aP o622.flat) nq (aG o622.flat) rfl ?_
        intro w624 ch625 bx626
        clear bx124
        have hs627:=hs623.seq (ch625.l rfl)
        refine⟨hs627.same,?_⟩
        refine bP (by kernel_rfl) ?_
        have C628:=cg [10,11,12] (ch137.n.seq ((ch142.l rfl).seq (ch145.n.seq (ch391.n.seq (ch577.n.seq ((ch621.l rfl).seq (ch625.l rfl)))))))
        replace Rps:=Rps.ca C593
        replace ar_A:=ar_A.ca C593
        replace o6:=o6.ca C593
        replace o18:=o18.cn ch391
        replace o_out2:=o_out2.ca C593
        replace pm128:=pm128.ca C593
        replace o131:=o131.ca C593
        exact mid (v620,g618) _ _ ⟨bH.ca C628,zs5,zs7,zs11,zs12,zs15,zs83,zs84,zs85,zs114,zs115,zs116,(Rps.ca hs627),(ar_A.ca hs627),(o6.ca hs627),(o18.ca hs627),(m85.ca hs627),(o_out2.ca hs627),(pm128.ca hs627),(o131.ca hs627),o622.ce ch625,bx626⟩
   clear Rps ar_A o6 o18 m85 o_out2 pm128 bx124 o131 o_OB bx143 bH
   rintro⟨v403,g631⟩ f629 w630 ⟨bH,zs5,zs7,zs11,zs12,zs15,zs83,zs84,zs85,zs114,zs115,zs116,Rps,ar_A,o6,o18,m85,o_out2,pm128,o131,o405,bx409⟩
   refine ak (a6 rfl (lx (aS (m:=↑m) (n:=1) zs116 rfl (by omega)) (mi ((m:Int)+1) (ab ?_))))
   refine back26 (m+1,v403,(OB++[((gI ((lA AR (gI ps ↑i)).2) (m:Int)).1,((gI ((lA AR (gI ps ↑i)).2) (m:Int)).2).1,(((gI ((lA AR (gI ps ↑i)).2) (m:Int)).2).2).1,(((gI ((lA AR (gI ps ↑i)).2) (m:Int)).2).2).2)]),g631) _ _ ⟨bH,zs5,zs7,zs11,zs12,zs15,zs83,zs84,zs85,zs114,zs115,rfl,Rps,ar_A,o6,o18,m85,o_out2,pm128,bx409,o131,o405,by omega,?_⟩ ?_
   · show(OB++[((gI ((lA AR (gI ps ↑i)).2) (m:Int)).1,((gI ((lA AR (gI ps ↑i)).2) (m:Int)).2).1,(((gI ((lA AR (gI ps ↑i)).2) (m:Int)).2).2).1,(((gI ((lA AR (gI ps ↑i)).2) (m:Int)).2).2).2)])=OB0++ip gone ((lA AR (gI ps ↑i)).2.take (m+1))
     (rw[hOB,List.append_assoc,rV ‹_› (.inr ‹_›)])
   · show Int.toNat (_-_)<Int.toNat (_-_)
     omega
  refine ag rfl (df p26) (aO rfl (ak ?_))
  clear o131
  refine a6 rfl (lx (aS (m:=↑i) (n:=1) zs85 rfl (by omega)) (mi ((i:Int)+1) (ab ?_)))
  obtain⟨g632,ch633,pm634⟩:=d8.close pm128 rfl rfl rfl (u:=u) (by exact fb huo2) bx124 o_OB
  clear bx124 o_OB
  replace pm634:eW g632 4 w134 (pmC.1,List.set pmC.2 (pmC.1.idxOf u) (KB,OB)).1 (pmC.1,List.set pmC.2 (pmC.1.idxOf u) (KB,OB)).2:=pm634
  refine back19 (out2_v,out2,i+1,(pmC.1,List.set pmC.2 (pmC.1.idxOf u) (KB,OB)),F2,g632) _ _ ⟨bH.chg ch633 (cd rfl rfl),zs5,zs7,zs11,zs12,zs83,zs84,rfl,Rps.chg ch633 (cd rfl rfl),ar_A.chg ch633 (cd rfl rfl),o6.chg ch633 (cd rfl rfl) (cd rfl rfl),o18.chg ch633 (cd rfl rfl) (cd rfl rfl),pm634,m85.chg ch633 (cd rfl rfl),o_out2.chg ch633 (cd rfl rfl) (cd rfl rfl),by omega,?_⟩ ?_
  · show kq (ft (ps.map (bo AR)) (JV (ps.map (bo AR)) names) (i+1)) F2 out2 (pmC.1,List.set pmC.2 (pmC.1.idxOf u) (KB,OB))
    (subst hKB;subst hOB0;rw[hOB];exact Au hJ1 hJ2 hvi htm hG2 hFr huo ‹_›)
  · show Int.toNat (_-_)<Int.toNat (_-_)
    omega
 refine ag rfl (df p19) (aO rfl (a7 ?_))
 clear o6 o18 m85
 refine a6 rfl (mz zs12 (ma out_v (ab (au (vs:=[out_v]) Tryz.func43 (.tmp rfl .nil) ?_))))
 exact⟨(fin w0 g88 (λn=>if n=9 then 1 else if n=4 then 2 else 0),out_v,out,pmB),rfl,bH.fresh _,(o_out.glue (γ:=c0) (ren:=(λn=>if n=9 then 1 else if n=4 then 2 else 0)) (k:=1) bH.col rfl rfl),(pm80.glue (γ:=c0) (ren:=(λn=>if n=9 then 1 else if n=4 then 2 else 0)) (k:=2) bH.col rfl rfl),(by exact⟨(htg.val.trans (by rw[show i=(ps.map (bo AR)).length by omega];rfl)),htg.sub,htg.nd⟩)⟩
end TL
