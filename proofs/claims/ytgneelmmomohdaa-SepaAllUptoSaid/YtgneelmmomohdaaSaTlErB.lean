import Derived.Test.YtgneelmmomohdaaSaTlP5
import Derived.Test.YtgneelmmomohdaaSaTlGmA
import Derived.Test.YtgneelmmomohdaaSaTlGenA
import Derived.Test.YtgneelmmomohdaaSaTlErA
import Derived.Test.YtgneelmmomohdaaProg
import Derived.Test.YtgneelmmomohdaaSaTlAli
set_option linter.all false
set_option maxRecDepth 20000
namespace TL
open Go Go.Proofs
theorem kM:Try.prog.follows .mixedOrders=true:=by kernel_rfl
theorem jC:Tp Try.prog 68 true 3 56 (.agg #[.slice none 0 0,.slice none 0 0,.int .i64 0]):=Tp.of (by kernel_rfl)
theorem um:Try.f42.body.isNone=false:=rfl
theorem u6:(Try.f42.name== "runtime.NumGoroutine")=false:=by decide+kernel
theorem Aa:Try.f66.body.isNone=false:=rfl
theorem AV:(Try.f66.name== "runtime.NumGoroutine")=false:=by decide+kernel
set_option maxHeartbeats 8000000 in
theorem sS(w0:World)(g:(Int)×(List Pt))(g_v:Value)(hg_v:Ro w0 g_v g.2)(hm:aX g):
    Calls Try.prog 44 #[vg [vi g.1,g_v]] w0 (λee w=>∃xx:aG×Value×Value,ee= .returned ((λ⟨δ,rv0,rv1⟩=>vg [rv0,rv1,vi (((c7 g).2).2)]) xx)/\(λ(⟨δ,rv0,rv1⟩:aG×Value×Value) (w:World)=>eB w0 δ w/\Ow δ (is 1) (is 1) w rv0 ((c7 g).1)/\Ow δ (is 2) (is 2) w rv1 (((c7 g).2).1)) xx w):=by
 refine av Try.func44 rfl nq ?_
 have bH:=bn.start w0
 have Rg:=hg_v.sl
 have hm0:=hm
 obtain⟨hm1,hm2,hm3,hm4⟩:=hm0
 have hfl:=pu g hm1
 refine aa (a8 rfl (cB rfl (cr c0 (is 1) (1,0) rfl rfl ?_)))
 intro g4 w1 b3 ch2 bx5
 replace bx5:Bx g4 (is 1) w1 b3 [vi g.1,g_v]:=bx5
 refine lo (bP g4 (is 2) (2,0) rfl jC ?_)
 intro g9 w6 b8 ch7 bx10
 replace bx10:Bx g9 (is 2) w6 b8 [vn,vn,vi 0]:=bx10
 refine ab (aa (a8 rfl (lx (af cW rfl rfl rfl rfl) ?_)))
 replace bx5:=bx5.cn ch7
 refine lx (ae bG rfl bx5 rfl) ?_
 replace Rg:=(Rg.cn ch2).cn ch7
 have len11:=(Rg).small
 refine lx (bq dc rfl Rg) (ai (g.2.length:Int) (ab (aa (a8 rfl (mi (g.2.length:Int) (lo (dL (α:=Int) (l:=(g.2.length:Int)) (cp:=(g.2.length:Int)) g9 (is 3) (is 3) (3,0) rfl (0:Int) bv aj rfl rfl rfl (by omega) (by omega) (by omega) (by omega) ?_)))))))
 intro g12 w13 v14 ch15 o16 hcap_
 clear hcap_
 refine ma v14 (ab (aa (aa (a8 rfl (ai 0 (ab (ao ?_)))))))
 refine aY (σ:=Nat×(List Int)×aG) (λ⟨i,of0,gq⟩ f w=>bn w0 gq w/\f 1=vp b3 0/\f 2=vp b8 0/\f 3=vi (g.2.length:Int)/\f 4=v14/\f 5=vi ↑i/\Sl gq (is 0) w g_v g.2/\Bx gq (is 1) w b3 [vi g.1,g_v]/\Bx gq (is 2) w b8 [vn,vn,vi 0]/\Ow gq (is 3) (is 3) w v14 of0/\(i:Int)<=((g.2.length:Int):Int)/\(zl (g.2.length:Int) of0 i)) (λ⟨i,of0,gq⟩=>Int.toNat (((g.2.length:Int):Int)-(i:Int))) (0,(List.replicate (Int.toNat (g.2.length:Int)) (0:Int)),g12) ?_ ?_
 have C17:=cg [] (ch2.n.seq (ch7.n.seq ch15.n))
 · exact⟨bH.ca C17,rfl,rfl,rfl,rfl,rfl,Rg.cn ch15,bx5.cn ch15,bx10.cn ch15,o16,by omega,by exact zl.start (by omega)⟩
 clear Rg bx5 bx10 o16 bH
 rintro⟨i,of0,g20⟩ f18 w19 ⟨bH,zs1,zs2,zs3,zs4,zs5,Rg,bx5,bx10,o16,hle_i,hio⟩ back4
 have hil:=hio.lo
 refine aa (aa (a8 rfl (mz zs5 (mz zs3 (lx (bm (m:=↑i) (n:=(g.2.length:Int)) rfl rfl) (ab ?_))))))
 by_cases p4:(i:Int)<(g.2.length:Int)
 ·
  refine ah rfl (dt p4) (aq (aa (ao (a8 rfl (mz zs4 (mz zs5 (mz zs5 (lx (ad (v:=v14) (i:=↑i) bv rfl rfl o16.flat rfl (by omega) (by omega)) (lo ?_)))))))))
  refine aQ (i:=↑i) (i:Int) aj rfl rfl o16 (by omega) (by omega) rfl ?_
  intro w21 ch22 bx23
  clear o16
  refine ab (am (a8 rfl (mz zs5 (lx (aI (m:=↑i) (n:=1) rfl rfl (by omega)) (ai ((i:Int)+1) (ab ?_))))))
  refine back4 (i+1,(List.set of0 (Int.toNat ↑i) (i:Int)),g20) _ _ ⟨bH.ce ch22,zs1,zs2,zs3,zs4,rfl,Rg.ce ch22,bx5.ce ch22,bx10.ce ch22,bx23,by omega,?_⟩ ?_
  · show zl (g.2.length:Int) (List.set of0 (Int.toNat ↑i) (i:Int)) (i+1)
    exact hio.next (by omega)
  · show Int.toNat (((g.2.length:Int):Int)-((i+1):Int))<Int.toNat (((g.2.length:Int):Int)-(i:Int))
    omega
 refine ag rfl (df p4) (aH rfl (aa (a8 rfl (lx (aB (ds:=[vi g.1,g_v]) aK zs1 bx5 rfl rfl) (lo (bQ (aN (vals:=[vg [vi g.1,g_v]]) Try.func64 uO un rfl) (rF w19 g g_v (Rg).ro (by exact hm)) ?_))))))
 rintro⟨d25,v27⟩ w24 ⟨fr26,o28⟩
 obtain⟨g29,ch30,G29⟩:=ia g20 fr26 (λn=>if n=1 then 4 else 0)
 replace o28:=o28.gl G29 4
 refine ma v27 (ab (aa (aa (a8 rfl (ai 0 (ab (ao ?_)))))))
 refine aY (σ:=Nat×(List Int)×aG) (λ⟨v,of1,gq⟩ f w=>bn w0 gq w/\f 1=vp b3 0/\f 2=vp b8 0/\f 3=vi (g.2.length:Int)/\f 4=v14/\f 6=v27/\f 7=vi ↑v/\Sl gq (is 0) w g_v g.2/\Bx gq (is 1) w b3 [vi g.1,g_v]/\Bx gq (is 2) w b8 [vn,vn,vi 0]/\Ow gq (is 3) (is 3) w v14 of1/\cY gq 4 w v27 (ar g)/\(v:Int)<=(g.1:Int)/\(vY g of1 v)) (λ⟨v,of1,gq⟩=>Int.toNat ((g.1:Int)-(v:Int))) (0,of0,g29) ?_ ?_
 · exact⟨bH.cn ch30,zs1,zs2,zs3,zs4,rfl,rfl,Rg.cn ch30,bx5.cn ch30,bx10.cn ch30,o16.cn ch30,o28,by omega,by exact hio.done (by omega)⟩
 clear Rg bx5 bx10 o16 o28 bH
 rintro⟨v,of1,g33⟩ f31 w32 ⟨bH,zs1,zs2,zs3,zs4,zs6,zs7,Rg,bx5,bx10,o16,o28,hle_v,hdc⟩ back9
 have hol1:=hdc.le.lo
 refine aa (aa (a8 rfl (mz zs7 (lx (af cW rfl rfl zs1 rfl) (lx (ae aj rfl bx5 rfl) (lx (bm (m:=↑v) (n:=g.1) rfl rfl) (ab ?_)))))))
 by_cases p9:(v:Int)<g.1
 ·
  refine ah rfl (dt p9) (aq (aa (ao (aa (a8 rfl (lx (af cW rfl rfl zs1 rfl) (lx (ae aj rfl bx5 rfl) (lo (dL (α:=Bool) (l:=g.1) (cp:=g.1) g33 (is 5) (is 5) (5,0) rfl false gj cO rfl rfl rfl (by omega) (by omega) (by omega) (by omega) ?_)))))))))
  intro g34 w35 v36 ch37 o38 hcap_
  clear hcap_
  refine ma v36 (ab (aa (a8 rfl (mv v36 (mz zs7 (lx (ad (v:=v36) (i:=↑v) gj rfl rfl o38.flat rfl (by omega) (by(simp only[List.length_set,List.length_append,List.length_cons,List.length_nil,List.length_replicate,List.length_map,List.length_take,List.length_drop];omega))) (lo (aQ (i:=↑v) true cO rfl rfl o38 (by omega) (by(simp only[List.length_set,List.length_append,List.length_cons,List.length_nil,List.length_replicate,List.length_map,List.length_take,List.length_drop];omega)) rfl ?_))))))))
  intro w39 ch40 bx41
  clear o38
  refine ab (aa (a8 rfl ?_))
  replace bx5:=(bx5.cn ch37).ce ch40
  refine lx (aB (ds:=[vi g.1,g_v]) aK zs1 bx5 rfl rfl) (mv v36 ?_)
  replace Rg:=(Rg.cn ch37).ce ch40
  refine lo (bQ (aN (vals:=[vg [vi g.1,g_v],v36,vn]) Try.func42 um u6 rfl) (iK w39 g g_v (Rg).ro (List.set (List.replicate (Int.toNat g.1) false) (Int.toNat ↑v) true) v36 (bx41.flat).ro ([]) vn (Sl.nil (γ:=c0) (S:=any)) (by exact hm) (by exact λ_=>by rw[List.length_set,List.length_replicate];omega) (by exact λh=>absurd h (by decide))) ?_)
  rintro⟨d43,v45⟩ w42 ⟨fr44,o46⟩
  obtain⟨g47,ch48,G47⟩:=ia g34 fr44 (λn=>if n=1 then 6 else 0)
  replace o46:=o46.gl G47 6
  refine mv (vt [v45,vi ((aU g (List.set (List.replicate (Int.toNat g.1) false) (Int.toNat ↑v) true) ([])).2)]) (lx (aJ rfl rfl) (lx (aJ rfl rfl) (ma v45 (ai ((aU g (List.set (List.replicate (Int.toNat g.1) false) (Int.toNat ↑v) true) ([])).2) (ab (aa ?_))))))
  clear bx41
  refine a8 rfl (lx (af cW rfl rfl zs1 rfl) ?_)
  replace bx5:=bx5.cn ch48
  refine lx (ae aj rfl bx5 rfl) (lo (dL (α:=Int) (l:=g.1) (cp:=g.1) g47 (is 7) (is 7) (7,0) rfl (0:Int) bv aj rfl rfl rfl (by omega) (by omega) (by omega) (by omega) ?_))
  intro g49 w50 v51 ch52 o53 hcap_
  clear hcap_
  refine ma v51 (ab (aa (a8 rfl (ai 0 (ab (ao ?_))))))
  refine aY (σ:=Nat×(List Int)×(List Int)×aG) (λ⟨k,fi,of2,gq⟩ f w=>bn w0 gq w/\f 1=vp b3 0/\f 2=vp b8 0/\f 3=vi (g.2.length:Int)/\f 4=v14/\f 6=v27/\f 7=vi ↑v/\f 9=v45/\f 11=v51/\f 12=vi ↑k/\Sl gq (is 0) w g_v g.2/\Bx gq (is 1) w b3 [vi g.1,g_v]/\Bx gq (is 2) w b8 [vn,vn,vi 0]/\Ow gq (is 3) (is 3) w v14 of2/\cY gq 4 w v27 (ar g)/\Ow gq (is 6) (is 6) w v45 ((aU g (List.set (List.replicate (Int.toNat g.1) false) (Int.toNat ↑v) true) ([])).1)/\Ow gq (is 7) (is 7) w v51 fi/\(k:Int)<=((List.length (gI (ar g) (v:Int)):Int):Int)/\(pz g of1 (v:Int) (aU g (List.set (List.replicate (Int.toNat g.1) false) (Int.toNat ↑v) true) []).1 fi of2 k)) (λ⟨k,fi,of2,gq⟩=>Int.toNat (((List.length (gI (ar g) (v:Int)):Int):Int)-(k:Int))) (0,(List.replicate (Int.toNat g.1) (0:Int)),of1,g49) ?_ ?_
  have C54:=cg [5] (ch37.n.seq ((ch40.l rfl).seq (ch48.n.seq ch52.n)))
  · exact⟨bH.ca C54,zs1,zs2,zs3,zs4,zs6,zs7,rfl,rfl,rfl,(Rg.cn ch48).cn ch52,bx5.cn ch52,bx10.ca C54,o16.ca C54,o28.ca C54,o46.cn ch52,o53,by omega,by exact pz.start hm (by omega) (by omega) rfl hdc.le⟩
  clear Rg bx5 bx10 o16 o28 o46 o53 bH
  rintro⟨k,fi,of2,g57⟩ f55 w56 ⟨bH,zs1,zs2,zs3,zs4,zs6,zs7,zs9,zs11,zs12,Rg,bx5,bx10,o16,o28,o46,o53,hle_k,hrd⟩ back16
  have hfl2:=hrd.fl
  have hol2:=hrd.le.lo
  have hfg:=fE (g:=g) (v:=(v:Int)) (by omega) (by omega)
  refine aa (aa ?_)
  have hcl:(((aU g (List.set (List.replicate (Int.toNat g.1) false) (Int.toNat ↑v) true) []).1).length:Int)=g.1:=(gR hm).1
  refine a8 rfl (mz zs12 (mz zs6 (mz zs7 (lx (ad (v:=v27) (i:=↑v) dd rfl rfl o28.sl rfl (by omega) (by omega)) ?_))))
  obtain⟨v58,cel59,r60⟩:=bR (r:=(v:Int)) o28 (by omega) (by omega)
  refine lx (bF bN rfl cel59) ?_
  have len61:=(r60.row_sl).small
  refine lx (bq bv rfl r60.row_sl) (lx (bm (m:=↑k) (n:=(List.length (gI (ar g) (v:Int)):Int)) rfl rfl) (ab ?_))
  by_cases p16:(k:Int)<(List.length (gI (ar g) (v:Int)):Int)
  ·
   refine ah rfl (dt p16) ?_
   have hkl:(k:Int)<(bO g (v:Int)).length:=by rw[<-hfg];assumption
   obtain⟨_,⟨hr1,hr2⟩,_⟩:=sP hkl
   rw[<-hfg] at hr1 hr2
   obtain⟨hto1,hto2⟩:=eV hm hr1 hr2
   refine aq (aa (ao (aa ?_)))
   clear cel59 r60
   refine a8 rfl (mz zs6 (mz zs7 (lx (ad (v:=v27) (i:=↑v) dd rfl rfl o28.sl rfl (by omega) (by omega)) ?_)))
   obtain⟨v62,cel63,r64⟩:=bR (r:=(v:Int)) o28 (by omega) (by omega)
   refine lx (bF bN rfl cel63) (mz zs12 (lx (ad (v:=v62) (i:=↑k) bv rfl rfl r64.row_sl rfl (by omega) (by omega)) (lx (az (v:=v62) (i:=↑k) aj rfl r64.row_sl (by omega) (by omega) (by decide) rfl) (lx (gS (m:=(gI (gI (ar g) (v:Int)) (k:Int))) (n:=2) rfl rfl (by omega) (by omega) (by omega)) (ai ((gI (gI (ar g) (v:Int)) (k:Int))/2) (ab (aa ?_)))))))
   clear cel63 r64
   refine dl g57 rfl kM (by kernel_rfl) ?_
   intro w66 ch65
   replace bx5:=bx5.cn ch65
   refine qx (λw' hw'=>aB (ds:=[vi g.1,g_v]) aK zs1 (bx5.bel hw') rfl rfl) (qz zs6 (qz zs7 ?_))
   replace o28:=o28.cn ch65
   refine qx (λw' hw'=>ad (v:=v27) (i:=↑v) dd rfl rfl (o28.sl.bel hw') rfl (by omega) (by omega)) ?_
   obtain⟨v67,cel68,r69⟩:=bR (r:=(v:Int)) o28 (by omega) (by omega)
   refine qx (λw' hw'=>bF bN rfl (eS cel68 hw')) (qz zs12 (qx (λw' hw'=>ad (v:=v67) (i:=↑k) bv rfl rfl (r69.row_sl.bel hw') rfl (by omega) (by omega)) (qx (λw' hw'=>az (v:=v67) (i:=↑k) aj rfl (r69.row_sl.bel hw') (by omega) (by omega) (by decide) rfl) ?_)))
   replace Rg:=Rg.cn ch65
   refine kW (v:=vi (bg g (gI (gI (ar g) (v:Int)) (k:Int)))) rfl (λw' hw'=>aN (vals:=[vg [vi g.1,g_v],vi (gI (gI (ar g) (v:Int)) (k:Int))]) Try.func65 tN u9 rfl) (λw' hw'=>(x8 w' g g_v ((Rg.bel hw')).ro (gI (gI (ar g) (v:Int)) (k:Int)) (by omega) (by omega)).mono λe w2 h2=>⟨h2.1,hw'.trans (h2.2.mono hw'.size)⟩) (qv (vi (bg g (gI (gI (ar g) (v:Int)) (k:Int)))) (λw' hw'=>cE rfl) (f4 ?_))
   intro w70 hc71
   replace hc71:=aS hc71 g57
   refine aa (aa ?_)
   clear cel68 r69
   refine a8 rfl (mi (bg g (gI (gI (ar g) (v:Int)) (k:Int))) (mz zs7 (lx (cZ (m:=bg g (gI (gI (ar g) (v:Int)) (k:Int))) (n:=↑v) rfl rfl) (ab ?_))))
   by_cases p20:(bg g (gI (gI (ar g) (v:Int)) (k:Int)))=(v:Int)
   ·
    refine ah rfl (dt p20) (aH rfl (a8 rfl (mz zs12 (lx (aI (m:=↑k) (n:=1) rfl rfl (by omega)) (ai ((k:Int)+1) (ab ?_))))))
    replace bH:=bH.cn ch65
    refine back16 (k+1,fi,of2,g57) _ _ ⟨bH.cn hc71,zs1,zs2,zs3,zs4,zs6,zs7,zs9,zs11,rfl,Rg.cn hc71,bx5.cn hc71,(bx10.cn ch65).cn hc71,(o16.cn ch65).cn hc71,o28.cn hc71,(o46.cn ch65).cn hc71,(o53.cn ch65).cn hc71,by omega,?_⟩ ?_
    · show pz g of1 (v:Int) (aU g (List.set (List.replicate (Int.toNat g.1) false) (Int.toNat ↑v) true) []).1 fi of2 (k+1)
      (rw[hfg] at*;exact hrd.loop hkl ‹_›)
    · show Int.toNat (((List.length (gI (ar g) (v:Int)):Int):Int)-((k+1):Int))<Int.toNat (((List.length (gI (ar g) (v:Int)):Int):Int)-(k:Int))
      omega
   refine ag rfl (df p20) (aq (aa (aa ?_)))
   obtain⟨hcb0,hcb1⟩:=hrd.cb hm hto1 hto2 (show¬_ from by assumption)
   obtain⟨hfb0,hfb1⟩:=hrd.fb _ hcb0 hcb1
   refine a8 rfl (mz zs11 (mz zs9 (mi (bg g (gI (gI (ar g) (v:Int)) (k:Int))) ?_)))
   replace o46:=(o46.cn ch65).cn hc71
   refine lx (ad (v:=v45) (i:=bg g (gI (gI (ar g) (v:Int)) (k:Int))) bv rfl rfl o46.flat rfl (by omega) (by omega)) (lx (az (v:=v45) (i:=bg g (gI (gI (ar g) (v:Int)) (k:Int))) aj rfl o46.flat (by omega) (by omega) (by decide) rfl) ?_)
   replace o53:=(o53.cn ch65).cn hc71
   refine lx (ad (v:=v51) (i:=(gI ((aU g (List.set (List.replicate (Int.toNat g.1) false) (Int.toNat ↑v) true) ([])).1) (bg g (gI (gI (ar g) (v:Int)) (k:Int))))) bv rfl rfl o53.flat rfl (by omega) (by omega)) (lx (az (v:=v51) (i:=(gI ((aU g (List.set (List.replicate (Int.toNat g.1) false) (Int.toNat ↑v) true) ([])).1) (bg g (gI (gI (ar g) (v:Int)) (k:Int))))) aj rfl o53.flat (by omega) (by omega) (by decide) rfl) (lx (cZ (m:=(gI fi (gI ((aU g (List.set (List.replicate (Int.toNat g.1) false) (Int.toNat ↑v) true) ([])).1) (bg g (gI (gI (ar g) (v:Int)) (k:Int)))))) (n:=0) rfl rfl) (ab ?_)))
   by_cases p21:(gI fi (gI ((aU g (List.set (List.replicate (Int.toNat g.1) false) (Int.toNat ↑v) true) ([])).1) (bg g (gI (gI (ar g) (v:Int)) (k:Int)))))=0
   ·
    refine ah rfl (dt p21) (aa (a8 rfl (mz zs11 (mz zs9 (mi (bg g (gI (gI (ar g) (v:Int)) (k:Int))) (lx (ad (v:=v45) (i:=bg g (gI (gI (ar g) (v:Int)) (k:Int))) bv rfl rfl o46.flat rfl (by omega) (by omega)) (lx (az (v:=v45) (i:=bg g (gI (gI (ar g) (v:Int)) (k:Int))) aj rfl o46.flat (by omega) (by omega) (by decide) rfl) (mi ((gI (gI (ar g) (v:Int)) (k:Int))/2) (lx (aI (m:=(gI (gI (ar g) (v:Int)) (k:Int))/2) (n:=1) rfl rfl (by omega)) (lx (ad (v:=v51) (i:=(gI ((aU g (List.set (List.replicate (Int.toNat g.1) false) (Int.toNat ↑v) true) ([])).1) (bg g (gI (gI (ar g) (v:Int)) (k:Int))))) bv rfl rfl o53.flat rfl (by omega) (by omega)) ?_))))))))))
    refine lo (aQ (i:=(gI ((aU g (List.set (List.replicate (Int.toNat g.1) false) (Int.toNat ↑v) true) ([])).1) (bg g (gI (gI (ar g) (v:Int)) (k:Int))))) (((gI (gI (ar g) (v:Int)) (k:Int))/2)+1) aj rfl rfl o53 (by omega) (by omega) rfl ?_)
    intro w72 ch73 bx74
    clear o53
    refine ab (aH rfl (a8 rfl (mz zs12 (lx (aI (m:=↑k) (n:=1) rfl rfl (by omega)) (ai ((k:Int)+1) (ab ?_))))))
    have C75:=cg [7] (ch65.n.seq (hc71.n.seq (ch73.l rfl)))
    refine back16 (k+1,(List.set fi (Int.toNat (gI ((aU g (List.set (List.replicate (Int.toNat g.1) false) (Int.toNat ↑v) true) ([])).1) (bg g (gI (gI (ar g) (v:Int)) (k:Int))))) (((gI (gI (ar g) (v:Int)) (k:Int))/2)+1)),of2,g57) _ _ ⟨bH.ca C75,zs1,zs2,zs3,zs4,zs6,zs7,zs9,zs11,rfl,(Rg.cn hc71).ce ch73,(bx5.cn hc71).ce ch73,bx10.ca C75,o16.ca C75,(o28.cn hc71).ce ch73,o46.ce ch73,bx74,by omega,?_⟩ ?_
    · show pz g of1 (v:Int) (aU g (List.set (List.replicate (Int.toNat g.1) false) (Int.toNat ↑v) true) []).1 (List.set fi (Int.toNat (gI ((aU g (List.set (List.replicate (Int.toNat g.1) false) (Int.toNat ↑v) true) ([])).1) (bg g (gI (gI (ar g) (v:Int)) (k:Int))))) (((gI (gI (ar g) (v:Int)) (k:Int))/2)+1)) of2 (k+1)
      (rw[hfg] at*;exact hrd.first hm hkl ‹_› ‹_›)
    · show Int.toNat (((List.length (gI (ar g) (v:Int)):Int):Int)-((k+1):Int))<Int.toNat (((List.length (gI (ar g) (v:Int)):Int):Int)-(k:Int))
      omega
   refine ag rfl (df p21) (aq (a8 rfl (mz zs4 (mz zs11 (mz zs9 (mi (bg g (gI (gI (ar g) (v:Int)) (k:Int))) (lx (ad (v:=v45) (i:=bg g (gI (gI (ar g) (v:Int)) (k:Int))) bv rfl rfl o46.flat rfl (by omega) (by omega)) (lx (az (v:=v45) (i:=bg g (gI (gI (ar g) (v:Int)) (k:Int))) aj rfl o46.flat (by omega) (by omega) (by decide) rfl) (lx (ad (v:=v51) (i:=(gI ((aU g (List.set (List.replicate (Int.toNat g.1) false) (Int.toNat ↑v) true) ([])).1) (bg g (gI (gI (ar g) (v:Int)) (k:Int))))) bv rfl rfl o53.flat rfl (by omega) (by omega)) ?_)))))))))
   refine lx (az (v:=v51) (i:=(gI ((aU g (List.set (List.replicate (Int.toNat g.1) false) (Int.toNat ↑v) true) ([])).1) (bg g (gI (gI (ar g) (v:Int)) (k:Int))))) aj rfl o53.flat (by omega) (by omega) (by decide) rfl) (lx (dA (m:=(gI fi (gI ((aU g (List.set (List.replicate (Int.toNat g.1) false) (Int.toNat ↑v) true) ([])).1) (bg g (gI (gI (ar g) (v:Int)) (k:Int)))))) (n:=1) rfl rfl (by omega)) (mi ((gI (gI (ar g) (v:Int)) (k:Int))/2) (lo (bL (aN (vals:=[v14,vi ((gI fi (gI ((aU g (List.set (List.replicate (Int.toNat g.1) false) (Int.toNat ↑v) true) ([])).1) (bg g (gI (gI (ar g) (v:Int)) (k:Int)))))-1),vi ((gI (gI (ar g) (v:Int)) (k:Int))/2)]) Try.func66 Aa AV rfl) (av Try.func66 rfl nq ?_)))))
   replace o16:=(o16.cn ch65).cn hc71
   refine aa (dl g57 rfl kM (by kernel_rfl) ?_)
   intro w77 ch76
   refine qm v14 (qm (vi ((gI fi (gI ((aU g (List.set (List.replicate (Int.toNat g.1) false) (Int.toNat ↑v) true) ([])).1) (bg g (gI (gI (ar g) (v:Int)) (k:Int)))))-1)) ?_)
   replace o16:=o16.cn ch76
   refine qx (λw' hw'=>ad (v:=v14) (i:=(gI fi (gI ((aU g (List.set (List.replicate (Int.toNat g.1) false) (Int.toNat ↑v) true) ([])).1) (bg g (gI (gI (ar g) (v:Int)) (k:Int)))))-1) bv rfl rfl (o16.flat.bel hw') rfl (by omega) (by omega)) (qx (λw' hw'=>az (v:=v14) (i:=(gI fi (gI ((aU g (List.set (List.replicate (Int.toNat g.1) false) (Int.toNat ↑v) true) ([])).1) (bg g (gI (gI (ar g) (v:Int)) (k:Int)))))-1) aj rfl (o16.flat.bel hw') (by omega) (by omega) (by decide) rfl) (qm v14 (qm (vi ((gI (gI (ar g) (v:Int)) (k:Int))/2)) (qx (λw' hw'=>ad (v:=v14) (i:=(gI (gI (ar g) (v:Int)) (k:Int))/2) bv rfl rfl (o16.flat.bel hw') rfl (by omega) (by omega)) ?_))))
   refine qx (λw' hw'=>az (v:=v14) (i:=(gI (gI (ar g) (v:Int)) (k:Int))/2) aj rfl (o16.flat.bel hw') (by omega) (by omega) (by decide) rfl) (qv (vi (min (gI of2 ((gI fi (gI ((aU g (List.set (List.replicate (Int.toNat g.1) false) (Int.toNat ↑v) true) ([])).1) (bg g (gI (gI (ar g) (v:Int)) (k:Int)))))-1)) (gI of2 ((gI (gI (ar g) (v:Int)) (k:Int))/2)))) (λw' hw'=>nf rfl rfl) (qm v14 (qm (vi ((gI fi (gI ((aU g (List.set (List.replicate (Int.toNat g.1) false) (Int.toNat ↑v) true) ([])).1) (bg g (gI (gI (ar g) (v:Int)) (k:Int)))))-1)) ?_)))
   refine qx (λw' hw'=>ad (v:=v14) (i:=(gI fi (gI ((aU g (List.set (List.replicate (Int.toNat g.1) false) (Int.toNat ↑v) true) ([])).1) (bg g (gI (gI (ar g) (v:Int)) (k:Int)))))-1) bv rfl rfl (o16.flat.bel hw') rfl (by omega) (by omega)) (qx (λw' hw'=>az (v:=v14) (i:=(gI fi (gI ((aU g (List.set (List.replicate (Int.toNat g.1) false) (Int.toNat ↑v) true) ([])).1) (bg g (gI (gI (ar g) (v:Int)) (k:Int)))))-1) aj rfl (o16.flat.bel hw') (by omega) (by omega) (by decide) rfl) (qm v14 (qm (vi ((gI (gI (ar g) (v:Int)) (k:Int))/2)) (qx (λw' hw'=>ad (v:=v14) (i:=(gI (gI (ar g) (v:Int)) (k:Int))/2) bv rfl rfl (o16.flat.bel hw') rfl (by omega) (by omega)) ?_))))
   refine qx (λw' hw'=>az (v:=v14) (i:=(gI (gI (ar g) (v:Int)) (k:Int))/2) aj rfl (o16.flat.bel hw') (by omega) (by omega) (by decide) rfl) (qv (vi (max (gI of2 ((gI fi (gI ((aU g (List.set (List.replicate (Int.toNat g.1) false) (Int.toNat ↑v) true) ([])).1) (bg g (gI (gI (ar g) (v:Int)) (k:Int)))))-1)) (gI of2 ((gI (gI (ar g) (v:Int)) (k:Int))/2)))) (λw' hw'=>rR rfl rfl) (qv (vi (min (gI of2 ((gI fi (gI ((aU g (List.set (List.replicate (Int.toNat g.1) false) (Int.toNat ↑v) true) ([])).1) (bg g (gI (gI (ar g) (v:Int)) (k:Int)))))-1)) (gI of2 ((gI (gI (ar g) (v:Int)) (k:Int))/2)))) (λw' hw'=>cE rfl) ?_))
   refine qv (vi (max (gI of2 ((gI fi (gI ((aU g (List.set (List.replicate (Int.toNat g.1) false) (Int.toNat ↑v) true) ([])).1) (bg g (gI (gI (ar g) (v:Int)) (k:Int)))))-1)) (gI of2 ((gI (gI (ar g) (v:Int)) (k:Int))/2)))) (λw' hw'=>cE rfl) (f4 ?_)
   intro w78 hc79
   replace hc79:=aS hc79 g57
   refine aa (a8 rfl (ai 0 (ab (ao ?_))))
   refine aY (σ:=Nat×(List Int)×aG) (λ⟨i_c1,of_c1,gq⟩ f w=>bn w0 gq w/\f 0=v14/\f 6=vi (min (gI of2 ((gI fi (gI ((aU g (List.set (List.replicate (Int.toNat g.1) false) (Int.toNat ↑v) true) ([])).1) (bg g (gI (gI (ar g) (v:Int)) (k:Int)))))-1)) (gI of2 ((gI (gI (ar g) (v:Int)) (k:Int))/2)))/\f 7=vi (max (gI of2 ((gI fi (gI ((aU g (List.set (List.replicate (Int.toNat g.1) false) (Int.toNat ↑v) true) ([])).1) (bg g (gI (gI (ar g) (v:Int)) (k:Int)))))-1)) (gI of2 ((gI (gI (ar g) (v:Int)) (k:Int))/2)))/\f 8=vi ↑i_c1/\Sl gq (is 0) w g_v g.2/\Bx gq (is 1) w b3 [vi g.1,g_v]/\Bx gq (is 2) w b8 [vn,vn,vi 0]/\Ow gq (is 3) (is 3) w v14 of_c1/\cY gq 4 w v27 (ar g)/\Ow gq (is 6) (is 6) w v45 ((aU g (List.set (List.replicate (Int.toNat g.1) false) (Int.toNat ↑v) true) ([])).1)/\Ow gq (is 7) (is 7) w v51 fi/\(sk of2 ((gI fi (gI ((aU g (List.set (List.replicate (Int.toNat g.1) false) (Int.toNat ↑v) true) ([])).1) (bg g (gI (gI (ar g) (v:Int)) (k:Int)))))-1) ((gI (gI (ar g) (v:Int)) (k:Int))/2) of_c1 i_c1)) (λ⟨i_c1,of_c1,gq⟩=>Int.toNat ((of2.length:Int)-(i_c1:Int))) (0,of2,g57) ?_ ?_
   have C81:=cg [] (hc71.n.seq (ch76.n.seq hc79.n))
   have C80:=ch65.n.seq C81
   · exact⟨bH.ca C80,rfl,rfl,rfl,rfl,Rg.ca C81,bx5.ca C81,bx10.ca C80,o16.cn hc79,o28.ca C81,(o46.cn ch76).cn hc79,(o53.cn ch76).cn hc79,by exact sk.start⟩
   clear Rg bx5 bx10 o16 o28 o46 o53 bH
   rintro⟨i_c1,of_c1,g84⟩ f82 w83 ⟨bH,zs0_c1,zs6_c1,zs7_c1,zs8_c1,Rg,bx5,bx10,o16,o28,o46,o53,hjo_c1⟩ back2_c1
   have hjl_c1:=hjo_c1.lo
   refine aa (aa (a8 rfl (mz zs8_c1 (mz zs0_c1 ?_))))
   have len85:=(o16.flat).small
   refine lx (bq bv rfl o16.flat) (lx (bm (m:=↑i_c1) (n:=(of_c1.length:Int)) rfl rfl) (ab ?_))
   by_cases p2_c1:(i_c1:Int)<(of_c1.length:Int)
   ·
    refine ah rfl (dt p2_c1) (aq (aa (ao (aa (a8 rfl (mz zs0_c1 (mz zs8_c1 (lx (ad (v:=v14) (i:=↑i_c1) bv rfl rfl o16.flat rfl (by omega) (by omega)) (lx (az (v:=v14) (i:=↑i_c1) aj rfl o16.flat (by omega) (by omega) (by decide) rfl) (mz zs7_c1 ?_))))))))))
    refine lx (cZ (m:=(gI of_c1 ↑i_c1)) (n:=max (gI of2 ((gI fi (gI ((aU g (List.set (List.replicate (Int.toNat g.1) false) (Int.toNat ↑v) true) ([])).1) (bg g (gI (gI (ar g) (v:Int)) (k:Int)))))-1)) (gI of2 ((gI (gI (ar g) (v:Int)) (k:Int))/2))) rfl rfl) (ab ?_)
    by_cases p4_c1:(gI of_c1 ↑i_c1)=(max (gI of2 ((gI fi (gI ((aU g (List.set (List.replicate (Int.toNat g.1) false) (Int.toNat ↑v) true) ([])).1) (bg g (gI (gI (ar g) (v:Int)) (k:Int)))))-1)) (gI of2 ((gI (gI (ar g) (v:Int)) (k:Int))/2)))
    ·
     refine ah rfl (dt p4_c1) (a8 rfl (mz zs0_c1 (mz zs8_c1 (mz zs6_c1 (lx (ad (v:=v14) (i:=↑i_c1) bv rfl rfl o16.flat rfl (by omega) (by omega)) (lo (aQ (i:=↑i_c1) (min (gI of2 ((gI fi (gI ((aU g (List.set (List.replicate (Int.toNat g.1) false) (Int.toNat ↑v) true) ([])).1) (bg g (gI (gI (ar g) (v:Int)) (k:Int)))))-1)) (gI of2 ((gI (gI (ar g) (v:Int)) (k:Int))/2))) aj rfl rfl o16 (by omega) (by omega) rfl ?_)))))))
     intro w86 ch87 bx88
     clear o16
     refine ab (am (a8 rfl (mz zs8_c1 (lx (aI (m:=↑i_c1) (n:=1) rfl rfl (by omega)) (ai ((i_c1:Int)+1) (ab ?_))))))
     refine back2_c1 (i_c1+1,(List.set of_c1 (Int.toNat ↑i_c1) (min (gI of2 ((gI fi (gI ((aU g (List.set (List.replicate (Int.toNat g.1) false) (Int.toNat ↑v) true) ([])).1) (bg g (gI (gI (ar g) (v:Int)) (k:Int)))))-1)) (gI of2 ((gI (gI (ar g) (v:Int)) (k:Int))/2)))),g84) _ _ ⟨bH.ce ch87,zs0_c1,zs6_c1,zs7_c1,rfl,Rg.ce ch87,bx5.ce ch87,bx10.ce ch87,bx88,o28.ce ch87,o46.ce ch87,o53.ce ch87,?_⟩ ?_
     · show sk of2 ((gI fi (gI ((aU g (List.set (List.replicate (Int.toNat g.1) false) (Int.toNat ↑v) true) ([])).1) (bg g (gI (gI (ar g) (v:Int)) (k:Int)))))-1) ((gI (gI (ar g) (v:Int)) (k:Int))/2) (List.set of_c1 (Int.toNat ↑i_c1) (min (gI of2 ((gI fi (gI ((aU g (List.set (List.replicate (Int.toNat g.1) false) (Int.toNat ↑v) true) ([])).1) (bg g (gI (gI (ar g) (v:Int)) (k:Int)))))-1)) (gI of2 ((gI (gI (ar g) (v:Int)) (k:Int))/2)))) (i_c1+1)
       exact hjo_c1.yes (by omega) ‹_›
     · show Int.toNat ((of2.length:Int)-((i_c1+1):Int))<Int.toNat ((of2.length:Int)-(i_c1:Int))
       omega
    refine ag rfl (df p4_c1) (aq (am (a8 rfl (mz zs8_c1 (lx (aI (m:=↑i_c1) (n:=1) rfl rfl (by omega)) (ai ((i_c1:Int)+1) (ab ?_)))))))
    refine back2_c1 (i_c1+1,of_c1,g84) _ _ ⟨bH,zs0_c1,zs6_c1,zs7_c1,rfl,Rg,bx5,bx10,o16,o28,o46,o53,?_⟩ ?_
    · show sk of2 ((gI fi (gI ((aU g (List.set (List.replicate (Int.toNat g.1) false) (Int.toNat ↑v) true) ([])).1) (bg g (gI (gI (ar g) (v:Int)) (k:Int)))))-1) ((gI (gI (ar g) (v:Int)) (k:Int))/2) of_c1 (i_c1+1)
      exact hjo_c1.no (by omega) ‹_›
    · show Int.toNat ((of2.length:Int)-((i_c1+1):Int))<Int.toNat ((of2.length:Int)-(i_c1:Int))
      omega
   refine ag rfl (df p2_c1) (aH rfl (cM (vs:=[]) Try.func66 .nil ?_))
   refine⟨vt [],rfl,?_⟩
   refine ab (am (a8 rfl (mz zs12 (lx (aI (m:=↑k) (n:=1) rfl rfl (by omega)) (ai ((k:Int)+1) (ab ?_))))))
   refine back16 (k+1,fi,of_c1,g84) _ _ ⟨bH,zs1,zs2,zs3,zs4,zs6,zs7,zs9,zs11,rfl,Rg,bx5,bx10,o16,o28,o46,o53,by omega,?_⟩ ?_
   · show pz g of1 (v:Int) (aU g (List.set (List.replicate (Int.toNat g.1) false) (Int.toNat ↑v) true) []).1 fi of_c1 (k+1)
     (rw[hfg] at*;exact hrd.join hm hkl ‹_› ‹_› (hjo_c1.done ‹_›))
   · show Int.toNat (((List.length (gI (ar g) (v:Int)):Int):Int)-((k+1):Int))<Int.toNat (((List.length (gI (ar g) (v:Int)):Int):Int)-(k:Int))
     omega
  refine ag rfl (df p16) (aH rfl (am ?_))
  clear o46 o53 cel59 r60
  refine a8 rfl (mz zs7 (lx (aI (m:=↑v) (n:=1) rfl rfl (by omega)) (ai ((v:Int)+1) (ab ?_))))
  refine back9 (v+1,of2,g57) _ _ ⟨bH,zs1,zs2,zs3,zs4,zs6,rfl,Rg,bx5,bx10,o16,o28,by omega,?_⟩ ?_
  · show vY g of2 (v+1)
    exact hdc.next hm (by rw[hfg] at*;exact hrd) (by rw[<-hfg];assumption)
  · show Int.toNat ((g.1:Int)-((v+1):Int))<Int.toNat ((g.1:Int)-(v:Int))
    omega
 refine ag rfl (df p9) (aH rfl (aa (a8 rfl (mz zs3 (lo (dL (α:=Int) (l:=(g.2.length:Int)) (cp:=(g.2.length:Int)) g33 (is 8) (is 8) (8,0) rfl (0:Int) bv aj rfl rfl rfl (by omega) (by omega) (by omega) (by omega) ?_))))))
 intro g89 w90 v91 ch92 o93 hcap_
 clear hcap_
 refine lw (vg [v91,vn,vi 0]) (bS (vs:=[(0,v91)]) rfl (by rw[Sl.form o93.flat];kernel_rfl)) (lo (bP g89 (is 9) (9,0) rfl jC ?_))
 intro g97 w94 b96 ch95 bx98
 replace bx98:Bx g97 (is 9) w94 b96 [vn,vn,vi 0]:=bx98
 refine lo ?_
 replace o93:=o93.cn ch95
 refine aT (cs':=[v91,vn,vi 0]) jC rfl rfl bx98 rfl nq (AllOne.all (.cons (bK o93.flat) (.cons rfl (.cons rfl .nil)))) rfl ?_
 intro w99 ch100 bx101
 clear bx98
 refine ab (aa (a8 rfl (mz zs3 (lo (dL (α:=Int) (l:=(g.2.length:Int)) (cp:=(g.2.length:Int)) g97 (is 10) (is 10) (10,0) rfl (0:Int) bv aj rfl rfl rfl (by omega) (by omega) (by omega) (by omega) ?_)))))
 intro g102 w103 v104 ch105 o106 hcap_
 clear hcap_
 refine ma v104 (ab (aa (aa (a8 rfl (ai 0 (ab (ao ?_)))))))
 refine aY (σ:=Int×Nat×(List Int)×aG) (λ⟨ct,i3,nu,gq⟩ f w=>bn w0 gq w/\f 1=vp b3 0/\f 2=vp b8 0/\f 3=vi (g.2.length:Int)/\f 4=v14/\f 6=v27/\f 15=vp b96 0/\f 16=v104/\f 17=vi ↑i3/\Sl gq (is 0) w g_v g.2/\Bx gq (is 1) w b3 [vi g.1,g_v]/\Bx gq (is 2) w b8 [vn,vn,vi 0]/\Ow gq (is 3) (is 3) w v14 of1/\cY gq 4 w v27 (ar g)/\Ow gq (is 8) (is 8) w v91 (List.replicate (Int.toNat (g.2.length:Int)) (0:Int))/\Bx gq (is 9) w b96 [v91,vn,vi ct]/\Ow gq (is 10) (is 10) w v104 nu/\(i3:Int)<=((g.2.length:Int):Int)/\(sM of1 nu ct i3)) (λ⟨ct,i3,nu,gq⟩=>Int.toNat (((g.2.length:Int):Int)-(i3:Int))) (0,0,(List.replicate (Int.toNat (g.2.length:Int)) (0:Int)),g102) ?_ ?_
 have C107:=cg [9] (ch92.n.seq (ch95.n.seq ((ch100.l rfl).seq ch105.n)))
 · exact⟨bH.ca C107,zs1,zs2,zs3,zs4,zs6,rfl,rfl,rfl,Rg.ca C107,bx5.ca C107,bx10.ca C107,o16.ca C107,o28.ca C107,(o93.ce ch100).cn ch105,bx101.cn ch105,o106,by omega,by exact sM.start hol1⟩
 clear Rg bx5 bx10 o16 o28 o93 bx101 o106 bH
 rintro⟨ct,i3,nu,g110⟩ f108 w109 ⟨bH,zs1,zs2,zs3,zs4,zs6,zs15,zs16,zs17,Rg,bx5,bx10,o16,o28,o93,bx101,o106,hle_i3,hnu⟩ back27
 have hnl:=hnu.lo
 obtain⟨hct0,hct1⟩:=hnu.cb
 refine aa (aa (a8 rfl (mz zs17 (mz zs3 (lx (bm (m:=↑i3) (n:=(g.2.length:Int)) rfl rfl) (ab ?_))))))
 by_cases p27:(i3:Int)<(g.2.length:Int)
 ·
  refine ah rfl (dt p27) (aq (aa (ao (aa (a8 rfl (mz zs4 (mz zs17 (lx (ad (v:=v14) (i:=↑i3) bv rfl rfl o16.flat rfl (by omega) (by omega)) (lx (az (v:=v14) (i:=↑i3) aj rfl o16.flat (by omega) (by omega) (by decide) rfl) (mz zs17 ?_))))))))))
  refine lx (cZ (m:=(gI of1 ↑i3)) (n:=↑i3) rfl rfl) (ab ?_)
  by_cases p29:(gI of1 ↑i3)=(i3:Int)
  ·
   refine ah rfl (dt p29) (aa (a8 rfl (mz zs16 (mz zs17 (lx (af jV rfl rfl zs15 rfl) (lx (ae aj rfl bx101 rfl) (lx (ad (v:=v104) (i:=↑i3) bv rfl rfl o106.flat rfl (by omega) (by omega)) (lo (aQ (i:=↑i3) ct aj rfl rfl o106 (by omega) (by omega) rfl ?_)))))))))
   intro w111 ch112 bx113
   clear o106
   refine ab (a8 rfl (lx (af jV rfl rfl zs15 rfl) ?_))
   replace bx101:=bx101.ce ch112
   refine lx (ae aj rfl bx101 rfl) (lx (aI (m:=ct) (n:=1) rfl rfl (by omega)) (lx (af jV rfl rfl zs15 rfl) (lo (aT (cs':=[v91,vn,vi (ct+1)]) aj rfl rfl bx101 rfl nq (AllOne.all (.cons rfl .nil)) rfl ?_))))
   intro w114 ch115 bx116
   clear bx101
   refine ab (am (a8 rfl (mz zs17 (lx (aI (m:=↑i3) (n:=1) rfl rfl (by omega)) (ai ((i3:Int)+1) (ab ?_))))))
   replace bH:=bH.ce ch112
   refine back27 (ct+1,i3+1,(List.set nu (Int.toNat ↑i3) ct),g110) _ _ ⟨bH.ce ch115,zs1,zs2,zs3,zs4,zs6,zs15,zs16,rfl,(Rg.ce ch112).ce ch115,(bx5.ce ch112).ce ch115,(bx10.ce ch112).ce ch115,(o16.ce ch112).ce ch115,(o28.ce ch112).ce ch115,(o93.ce ch112).ce ch115,bx116,bx113.ce ch115,by omega,?_⟩ ?_
   · show sM of1 (List.set nu (Int.toNat ↑i3) ct) (ct+1) (i3+1)
     exact hnu.yes (by omega) ‹_›
   · show Int.toNat (((g.2.length:Int):Int)-((i3+1):Int))<Int.toNat (((g.2.length:Int):Int)-(i3:Int))
     omega
  refine ag rfl (df p29) (aq (am (a8 rfl (mz zs17 (lx (aI (m:=↑i3) (n:=1) rfl rfl (by omega)) (ai ((i3:Int)+1) (ab ?_)))))))
  refine back27 (ct,i3+1,nu,g110) _ _ ⟨bH,zs1,zs2,zs3,zs4,zs6,zs15,zs16,rfl,Rg,bx5,bx10,o16,o28,o93,bx101,o106,by omega,?_⟩ ?_
  · show sM of1 nu ct (i3+1)
    exact hnu.no ‹_›
  · show Int.toNat (((g.2.length:Int):Int)-((i3+1):Int))<Int.toNat (((g.2.length:Int):Int)-(i3:Int))
    omega
 refine ag rfl (df p27) (aH rfl (aa (aa (a8 rfl (ai 0 (ab (ao ?_)))))))
 refine aY (σ:=Nat×(List Int)×aG) (λ⟨i4,bo,gq⟩ f w=>bn w0 gq w/\f 1=vp b3 0/\f 2=vp b8 0/\f 3=vi (g.2.length:Int)/\f 4=v14/\f 6=v27/\f 15=vp b96 0/\f 16=v104/\f 18=vi ↑i4/\Sl gq (is 0) w g_v g.2/\Bx gq (is 1) w b3 [vi g.1,g_v]/\Bx gq (is 2) w b8 [vn,vn,vi 0]/\Ow gq (is 3) (is 3) w v14 of1/\cY gq 4 w v27 (ar g)/\Ow gq (is 8) (is 8) w v91 bo/\Bx gq (is 9) w b96 [v91,vn,vi ct]/\Ow gq (is 10) (is 10) w v104 nu/\(i4:Int)<=((g.2.length:Int):Int)/\(Ax of1 nu bo i4)) (λ⟨i4,bo,gq⟩=>Int.toNat (((g.2.length:Int):Int)-(i4:Int))) (0,(List.replicate (Int.toNat (g.2.length:Int)) (0:Int)),g110) ?_ ?_
 · exact⟨bH,zs1,zs2,zs3,zs4,zs6,zs15,zs16,rfl,Rg,bx5,bx10,o16,o28,o93,bx101,o106,by omega,by exact Ax.start hol1⟩
 clear Rg bx5 bx10 o16 o28 o93 bx101 o106 bH
 rintro⟨i4,bo,g119⟩ f117 w118 ⟨bH,zs1,zs2,zs3,zs4,zs6,zs15,zs16,zs18,Rg,bx5,bx10,o16,o28,o93,bx101,o106,hle_i4,hbo⟩ back33
 have hbl:=hbo.lo
 refine aa (aa (a8 rfl (mz zs18 (mz zs3 (lx (bm (m:=↑i4) (n:=(g.2.length:Int)) rfl rfl) (ab ?_))))))
 by_cases p33:(i4:Int)<(g.2.length:Int)
 ·
  refine ah rfl (dt p33) ?_
  obtain⟨hob0,hob1⟩:=hdc.le.ob (i4:Int) (by omega) (by omega)
  refine aq (aa (ao (bV g119 [0,1,2,3,4,5,6,7,8,9,10] kM ?_)))
  intro w121 ch120
  refine xp 0 rfl (λw=>af jV rfl rfl zs15 rfl) ?_
  replace bx101:=bx101.cn ch120
  refine xv 1 [0,2,3,4,5,6,7,8,9] rfl (ae bN rfl bx101 rfl) (xp (v:=vi ↑i4) 2 rfl (λw=>au zs18) (xp (v:=v104) 3 rfl (λw=>au zs16) (xp (v:=v14) 4 rfl (λw=>au zs4) (xp (v:=vi ↑i4) 5 rfl (λw=>au zs18) ?_))))
  replace o16:=o16.cn ch120
  refine xv 6 [5,4,3,2,1,0] rfl (ad (v:=v14) (i:=↑i4) bv rfl rfl o16.flat rfl (by omega) (by omega)) (xv 7 [6,5,4,3,2,1,0] rfl (az (v:=v14) (i:=↑i4) aj rfl o16.flat (by omega) (by omega) (by decide) rfl) ?_)
  replace o106:=o106.cn ch120
  refine xv 8 [7,6,5,4,3,2,1,0] rfl (ad (v:=v104) (i:=(gI of1 ↑i4)) bv rfl rfl o106.flat rfl (by omega) (by omega)) (xv 9 [8,7,6,5,4,3,2,1,0] rfl (az (v:=v104) (i:=(gI of1 ↑i4)) aj rfl o106.flat (by omega) (by omega) (by decide) rfl) ?_)
  replace o93:=o93.cn ch120
  refine xv 10 [9,8,7,6,5,4,3,2,1,0] rfl (ad (v:=v91) (i:=↑i4) bv rfl rfl o93.flat rfl (by omega) (by omega)) (bB 11 rfl (by kernel_rfl) rfl (aQ (i:=↑i4) (gI nu (gI of1 ↑i4)) aj rfl rfl o93 (by omega) (by omega) rfl ?_))
  intro w122 ch123 bx124
  clear o93
  refine cA (by kernel_rfl) (am (a8 rfl (mz zs18 (lx (aI (m:=↑i4) (n:=1) rfl rfl (by omega)) (ai ((i4:Int)+1) (ab ?_))))))
  replace bH:=bH.cn ch120
  refine back33 (i4+1,(List.set bo (Int.toNat ↑i4) (gI nu (gI of1 ↑i4))),g119) _ _ ⟨bH.ce ch123,zs1,zs2,zs3,zs4,zs6,zs15,zs16,rfl,(Rg.cn ch120).ce ch123,(bx5.cn ch120).ce ch123,(bx10.cn ch120).ce ch123,o16.ce ch123,(o28.cn ch120).ce ch123,bx124,bx101.ce ch123,o106.ce ch123,by omega,?_⟩ ?_
  · show Ax of1 nu (List.set bo (Int.toNat ↑i4) (gI nu (gI of1 ↑i4))) (i4+1)
    exact hbo.next (by omega)
  · show Int.toNat (((g.2.length:Int):Int)-((i4+1):Int))<Int.toNat (((g.2.length:Int):Int)-(i4:Int))
    omega
 refine ag rfl (df p33) (aH rfl (aa (aa ?_)))
 clear o16 o106
 obtain⟨hboe,hcte⟩:=Cq hm hdc (by omega) hnu (by omega) hbo (by omega)
 refine a8 rfl (ai 0 (ab (ao ?_)))
 refine aY (σ:=Value×(List Int)×Nat×aG) (λ⟨cu_v,cu,wv,gq⟩ f w=>bn w0 gq w/\f 1=vp b3 0/\f 2=vp b8 0/\f 6=v27/\f 15=vp b96 0/\f 19=vi ↑wv/\Sl gq (is 0) w g_v g.2/\Bx gq (is 1) w b3 [vi g.1,g_v]/\Bx gq (is 2) w b8 [vn,vn,vi 0]/\cY gq 4 w v27 (ar g)/\Ow gq (is 8) (is 8) w v91 bo/\Bx gq (is 9) w b96 [v91,cu_v,vi ct]/\Ow gq (is 12) (is 12) w cu_v cu/\(wv:Int)<=(g.1:Int)/\(cu=(bp wv).filter λv=>gI (hG g) v)) (λ⟨cu_v,cu,wv,gq⟩=>Int.toNat ((g.1:Int)-(wv:Int))) (vn,[],0,g119) ?_ ?_
 · exact⟨bH,zs1,zs2,zs6,zs15,rfl,Rg,bx5,bx10,o28,o93,bx101,Ow.nil,by omega,by rfl⟩
 clear Rg bx5 bx10 o28 o93 bx101 bH
 rintro⟨cu_v,cu,wv,g127⟩ f125 w126 ⟨bH,zs1,zs2,zs6,zs15,zs19,Rg,bx5,bx10,o28,o93,bx101,o_cu,hle_wv,hcu⟩ back37
 have hcul:=qX hcu
 refine aa (aa (a8 rfl (mz zs19 (lx (af cW rfl rfl zs1 rfl) (lx (ae aj rfl bx5 rfl) (lx (bm (m:=↑wv) (n:=g.1) rfl rfl) (ab ?_)))))))
 by_cases p37:(wv:Int)<g.1
 ·
  refine ah rfl (dt p37) (aq (aa (ao (aa (a8 rfl (ai 1 (ab (ao ?_))))))))
  refine aY (σ:=Int×aG) (λ⟨j,gq⟩ f w=>bn w0 gq w/\f 1=vp b3 0/\f 2=vp b8 0/\f 6=v27/\f 15=vp b96 0/\f 19=vi ↑wv/\f 20=vi j/\Sl gq (is 0) w g_v g.2/\Bx gq (is 1) w b3 [vi g.1,g_v]/\Bx gq (is 2) w b8 [vn,vn,vi 0]/\cY gq 4 w v27 (ar g)/\Ow gq (is 8) (is 8) w v91 bo/\Bx gq (is 9) w b96 [v91,cu_v,vi ct]/\Ow gq (is 12) (is 12) w cu_v cu/\(gZ g bo (wv:Int) j)) (λ⟨j,gq⟩=>Int.toNat (((bO g (wv:Int)).length:Int)-j)) (1,g127) ?_ ?_
  · exact⟨bH,zs1,zs2,zs6,zs15,zs19,rfl,Rg,bx5,bx10,o28,o93,bx101,o_cu,by exact gZ.start⟩
  clear Rg bx5 bx10 o28 o93 bx101 o_cu bH
  rintro⟨j,g130⟩ f128 w129 ⟨bH,zs1,zs2,zs6,zs15,zs19,zs20,Rg,bx5,bx10,o28,o93,bx101,o_cu,hsc⟩ back40
  have hj1:=hsc.1
  have hfw:=fE (g:=g) (v:=(wv:Int)) (by omega) (by omega)
  refine aa (aa (a8 rfl (mz zs20 (mz zs6 (mz zs19 (lx (ad (v:=v27) (i:=↑wv) dd rfl rfl o28.sl rfl (by omega) (by omega)) ?_))))))
  obtain⟨v131,cel132,r133⟩:=bR (r:=(wv:Int)) o28 (by omega) (by omega)
  refine lx (bF bN rfl cel132) ?_
  have len134:=(r133.row_sl).small
  refine lx (bq bv rfl r133.row_sl) (lx (bm (m:=j) (n:=(List.length (gI (ar g) (wv:Int)):Int)) rfl rfl) (ab ?_))
  by_cases p40:j<(List.length (gI (ar g) (wv:Int)):Int)
  ·
   refine ah rfl (dt p40) ?_
   have hjl:j<((bO g (wv:Int)).length:Int):=by rw[<-hfw];assumption
   obtain⟨⟨hj2,hj3⟩,_⟩:=cQ (br (xs:=bO g (wv:Int)) (i:=j) (by omega) hjl)
   obtain⟨⟨hj4,hj5⟩,_⟩:=cQ (br (xs:=bO g (wv:Int)) (i:=0) (by omega) (by omega))
   rw[<-hfw] at hj2 hj3 hj4 hj5
   refine aq (aa (ao (aa ?_)))
   clear cel132 r133
   refine dl g130 rfl kM (by kernel_rfl) ?_
   intro w136 ch135
   refine qx (λw' hw'=>af jV rfl rfl zs15 rfl) ?_
   replace bx101:=bx101.cn ch135
   refine qx (λw' hw'=>ae bN rfl (bx101.bel hw') rfl) (qz zs6 (qz zs19 ?_))
   replace o28:=o28.cn ch135
   refine qx (λw' hw'=>ad (v:=v27) (i:=↑wv) dd rfl rfl (o28.sl.bel hw') rfl (by omega) (by omega)) ?_
   obtain⟨v137,cel138,r139⟩:=bR (r:=(wv:Int)) o28 (by omega) (by omega)
   refine qx (λw' hw'=>bF bN rfl (eS cel138 hw')) (qz zs20 (qx (λw' hw'=>ad (v:=v137) (i:=j) bv rfl rfl (r139.row_sl.bel hw') rfl (by omega) (by omega)) (qx (λw' hw'=>az (v:=v137) (i:=j) aj rfl (r139.row_sl.bel hw') (by omega) (by omega) (by decide) rfl) (qx (λw' hw'=>gS (m:=(gI (gI (ar g) (wv:Int)) j)) (n:=2) rfl rfl (by omega) (by omega) (by omega)) ?_))))
   replace o93:=o93.cn ch135
   refine qx (λw' hw'=>ad (v:=v91) (i:=(gI (gI (ar g) (wv:Int)) j)/2) bv rfl rfl (o93.flat.bel hw') rfl (by omega) (by omega)) (qx (λw' hw'=>az (v:=v91) (i:=(gI (gI (ar g) (wv:Int)) j)/2) aj rfl (o93.flat.bel hw') (by omega) (by omega) (by decide) rfl) (qx (λw' hw'=>af jV rfl rfl zs15 rfl) (qx (λw' hw'=>ae bN rfl (bx101.bel hw') rfl) (qz zs6 (qz zs19 (qx (λw' hw'=>ad (v:=v27) (i:=↑wv) dd rfl rfl (o28.sl.bel hw') rfl (by omega) (by omega)) ?_))))))
   obtain⟨v140,cel141,r142⟩:=bR (r:=(wv:Int)) o28 (by omega) (by omega)
   refine qx (λw' hw'=>bF bN rfl (eS cel141 hw')) (qx (λw' hw'=>ad (v:=v140) (i:=0) bv rfl rfl (r142.row_sl.bel hw') rfl (by omega) (by omega)) (qx (λw' hw'=>az (v:=v140) (i:=0) aj rfl (r142.row_sl.bel hw') (by omega) (by omega) (by decide) rfl) (qx (λw' hw'=>gS (m:=(gI (gI (ar g) (wv:Int)) 0)) (n:=2) rfl rfl (by omega) (by omega) (by omega)) (qx (λw' hw'=>ad (v:=v91) (i:=(gI (gI (ar g) (wv:Int)) 0)/2) bv rfl rfl (o93.flat.bel hw') rfl (by omega) (by omega)) (qx (λw' hw'=>az (v:=v91) (i:=(gI (gI (ar g) (wv:Int)) 0)/2) aj rfl (o93.flat.bel hw') (by omega) (by omega) (by decide) rfl) (qx (λw' hw'=>cK (m:=(gI bo ((gI (gI (ar g) (wv:Int)) j)/2))) (n:=(gI bo ((gI (gI (ar g) (wv:Int)) 0)/2))) rfl rfl) (f4 ?_)))))))
   intro w143 hc144
   replace hc144:=aS hc144 g130
   by_cases p42:(gI bo ((gI (gI (ar g) (wv:Int)) j)/2))=(gI bo ((gI (gI (ar g) (wv:Int)) 0)/2))
   ·
    refine ag rfl (congrArg Bool.not (dt p42)) (aq (am ?_))
    clear cel138 r139 cel141 r142
    refine a8 rfl (mz zs20 (lx (aI (m:=j) (n:=1) rfl rfl (by omega)) (ai (j+1) (ab ?_))))
    replace bH:=bH.cn ch135
    refine back40 (j+1,g130) _ _ ⟨bH.cn hc144,zs1,zs2,zs6,zs15,zs19,rfl,(Rg.cn ch135).cn hc144,(bx5.cn ch135).cn hc144,(bx10.cn ch135).cn hc144,o28.cn hc144,o93.cn hc144,bx101.cn hc144,(o_cu.cn ch135).cn hc144,?_⟩ ?_
    · show gZ g bo (wv:Int) (j+1)
      (rw[hfw] at*;exact hsc.next ‹_›)
    · show Int.toNat (((bO g (wv:Int)).length:Int)-(j+1))<Int.toNat (((bO g (wv:Int)).length:Int)-j)
      omega
   refine ah rfl (congrArg Bool.not (df p42)) (aa ?_)
   clear cel138 r139 cel141 r142
   refine a8 rfl (lx (af jV rfl rfl zs15 rfl) ?_)
   replace bx101:=bx101.cn hc144
   refine lx (ae bN rfl bx101 rfl) (mz zs19 (lo (aC (α:=Int) g130 (is 11) (is 11) (11,0) rfl [(wv:Int)] bv aj (by decide) (by decide) (vs:=[(0,vi ↑wv)]) rfl rfl (.cons rfl .nil) ?_)))
   intro g145 w146 v147 ch148 o149
   refine lo ?_
   have C150:=cg [] (ch135.n.seq (hc144.n.seq ch148.n))
   replace o_cu:=o_cu.ca C150
   refine bf (α:=Int) (xs:=cu) (ys:=([(wv:Int)])) g145 (J:=is 12) (S:=is 12) (12,0) rfl bv aj (by decide) rfl rfl rfl o_cu o149.flat (by decide) (by(simp;omega)) ?_
   intro g151 w152 v153 ch154 o155
   clear o_cu
   refine lx (af jV rfl rfl zs15 rfl) (lo ?_)
   replace bx101:=(bx101.cn ch148).ce ch154
   refine c8 (cs':=[v91,v153,vi ct]) bN rfl rfl bx101 (c5 o155.flat) nq (bK o155.flat) rfl ?_
   intro w156 ch157 bx158
   clear bx101
   refine ab (aH rfl (am ?_))
   clear o149
   refine a8 rfl (mz zs19 (lx (aI (m:=↑wv) (n:=1) rfl rfl (by omega)) (ai ((wv:Int)+1) (ab ?_))))
   have C160:=cg [9,12] (hc144.n.seq (ch148.n.seq ((ch154.l rfl).seq (ch157.l rfl))))
   have C159:=ch135.n.seq C160
   refine back37 (v153,(cu++[(wv:Int)]),wv+1,g151) _ _ ⟨bH.ca C159,zs1,zs2,zs6,zs15,rfl,Rg.ca C159,bx5.ca C159,bx10.ca C159,o28.ca C160,o93.ca C160,bx158,o155.ce ch157,by omega,?_⟩ ?_
   · show(cu++[(wv:Int)])=(bp (wv+1)).filter λv=>gI (hG g) v
     (rw[hfw] at*;exact gZ.yes hm hboe hcu (by omega) hsc ‹_› ‹_›)
   · show Int.toNat ((g.1:Int)-((wv+1):Int))<Int.toNat ((g.1:Int)-(wv:Int))
     omega
  refine ag rfl (df p40) (aH rfl (am ?_))
  clear cel132 r133
  refine a8 rfl (mz zs19 (lx (aI (m:=↑wv) (n:=1) rfl rfl (by omega)) (ai ((wv:Int)+1) (ab ?_))))
  refine back37 (cu_v,cu,wv+1,g130) _ _ ⟨bH,zs1,zs2,zs6,zs15,rfl,Rg,bx5,bx10,o28,o93,bx101,o_cu,by omega,?_⟩ ?_
  · show cu=(bp (wv+1)).filter λv=>gI (hG g) v
    (rw[hfw] at*;exact gZ.no hm hboe hcu (by omega) hsc ‹_›)
  · show Int.toNat ((g.1:Int)-((wv+1):Int))<Int.toNat ((g.1:Int)-(wv:Int))
    omega
 refine ag rfl (df p37) (aH rfl (aa ?_))
 clear bx5 o28
 refine a8 rfl (lx (aB (ds:=[v91,cu_v,vi ct]) jC zs15 bx101 rfl rfl) (lo (aT (cs':=[v91,cu_v,vi ct]) jC zs2 rfl bx10 rfl nq (AllOne.all (.cons (bK o93.flat) (.cons (bK o_cu.flat) (.cons rfl .nil)))) rfl ?_)))
 intro w161 ch162 bx163
 clear bx10
 refine ab (aD (vs:=[vg [v91,cu_v,vi ct]]) Try.func44 (.cell zs2 (cF (ds:=[v91,cu_v,vi ct]) jC bx163 rfl rfl) .nil) ?_)
 replace bH:=bH.ce ch162
 replace o93:=o93.ce ch162
 replace o_cu:=o_cu.ce ch162
 have e0:((bo,cu,ct):(List Int)×(List Int)×(Int))=(c7 g):=by
   (rw[hboe,hcte,AT hcu (by omega)];rfl)
 exact⟨(fin w0 g127 (λn=>if n=8 then 1 else if n=12 then 2 else 0),v91,cu_v),(congrArg (a₁:=(bo,cu,ct)) (λ(z0:(List Int)×(List Int)×(Int))=>Ending.returned (vg [v91,cu_v,vi z0.2.2])) e0),bH.fresh _,((congrArg (λ(z:(List Int)×(List Int)×(Int))=>z.1) e0)▸(o93.glue (γ:=c0) (ren:=(λn=>if n=8 then 1 else if n=12 then 2 else 0)) (k:=1) bH.col rfl rfl)),((congrArg (λ(z:(List Int)×(List Int)×(Int))=>z.2.1) e0)▸(o_cu.glue (γ:=c0) (ren:=(λn=>if n=8 then 1 else if n=12 then 2 else 0)) (k:=2) bH.col rfl rfl))⟩
end TL
