import Derived.Test.YtfpckpgnnplhnaaGreatSwTlSqF
import Derived.Test.YtfpckpgnnplhnaaGreatSwTlSqI
import Derived.Test.YtfpckpgnnplhnaaGreatSwTlSqT
import Derived.Test.YtfpckpgnnplhnaaGreatSwTlGmA
import Derived.Test.YtfpckpgnnplhnaaGreatSwTlGenA
import Derived.Test.YtfpckpgnnplhnaaGreatSwTlAli
set_option linter.all false
set_option maxRecDepth 20000
namespace TL
open Go Go.Proofs
theorem up:Tryz.prog.follows .mixedOrders=true:=by kernel_rfl
theorem jt:Tryz.f44.body.isNone=false:=rfl
theorem jD:(Tryz.f44.name== "runtime.NumGoroutine")=false:=by decide+kernel
theorem zj:Tryz.f45.body.isNone=false:=rfl
theorem vY:(Tryz.f45.name== "runtime.NumGoroutine")=false:=by decide+kernel
theorem wJ:Tryz.f46.body.isNone=false:=rfl
theorem wK:(Tryz.f46.name== "runtime.NumGoroutine")=false:=by decide+kernel
theorem B1:Tryz.f47.body.isNone=false:=rfl
theorem xj:(Tryz.f47.name== "runtime.NumGoroutine")=false:=by decide+kernel
theorem xN:Tryz.f48.body.isNone=false:=rfl
theorem yP:(Tryz.f48.name== "runtime.NumGoroutine")=false:=by decide+kernel
theorem xw:Tryz.f50.body.isNone=false:=rfl
theorem wb:(Tryz.f50.name== "runtime.NumGoroutine")=false:=by decide+kernel
theorem xk:Tryz.f71.body.isNone=false:=rfl
theorem zZ:(Tryz.f71.name== "runtime.NumGoroutine")=false:=by decide+kernel
set_option maxHeartbeats 4000000 in
theorem rB(w0:World)(ps:List Pp)(ps_v:Value)(hps_v:Ro w0 ps_v ps)(names:Int)(AR:List Pp×List (ch Bd))(hAR:CU w0 AR.1 AR.2)(hin:∀u∈ps,u∈AR.1)(hno:ru (ps.map (bt AR)) names):
    Calls Tryz.prog 38 #[ps_v,vi names] w0 (λee w=>∃xx:ax×Value,ee= .returned ((λ⟨δ,rv0⟩=>rv0) xx)/\(λ(⟨δ,rv0⟩:ax×Value) (w:World)=>dz w0 δ w/\kI δ 1 w rv0 (qh (ps.map (bt AR)) names)) xx w):=by
 refine ah Tryz.func38 rfl nq ?_
 have bH:=aW.start w0
 have Rps:=hps_v.sl
 have ar_A:=hAR.start
 have hVl:(ps.map (bt AR)).length=ps.length:=List.length_map ..
 obtain⟨hnm0,hnm1⟩:=hno.nm
 have hpl:=hno.vl
 rw[hVl] at hpl
 obtain⟨hf0,hf1⟩:=hno.fst
 rw[hVl] at hf1
 refine a7 (a6 rfl (ma vn (ab (a7 ?_))))
 refine dw (σ:=Nat×Value×Value×Value×ax) (λ⟨b22,v5,v11,v16,gq⟩ f w=>aW w0 gq w/\f 0=ps_v/\f 5=vp b22 0/\Sl gq (is 0) w ps_v ps/\gC gq w AR.1 AR.2/\dr gq 2 w v5 (aQ (ps.map (bt AR)) names)/\Ow gq (is 3) (is 3) w v11 (List.replicate (Int.toNat (ps.length:Int)) (0:Int))/\Md gq (is 5) w v16 ((λ_=>0,[]):(Pt->Int)×List Pt).1 ((λ_=>0,[]):(Pt->Int)×List Pt).2/\Bx gq (is 7) w b22 [ps_v,v5,v11,vn,v16]) c0 [0,1,2,4,5,8,10] up ?_ ?_
 ·
  intro mid
  intro w2 ch1
  refine xp (v:=ps_v) 0 rfl (λw=>ar rfl) (xp (v:=ps_v) 1 rfl (λw=>ar rfl) (xp (v:=vi names) 2 rfl (λw=>ar rfl) (xp (v:=ps_v) 4 rfl (λw=>ar rfl) ?_)))
  have len3:=(Rps).small
  refine xp 5 rfl (λw=>bG jH rfl Rps.t) ?_
  refine j0 3 [6,7] (by kernel_rfl) ⟨fU 3 rfl (by kernel_rfl) rfl ?_,fU 6 rfl (by kernel_rfl) rfl ?_,fU 7 rfl (by kernel_rfl) rfl ?_,trivial⟩
  ·
   refine bB (aB (vals:=[ps_v,vi names]) Tryz.func44 jt jD rfl) (fN w2 ps ps_v Rps.t.ro names AR ar_A.t.ro (by exact hin) (by exact⟨hnm0,hnm1⟩) (by exact hpl) (by exact hno.ok)) ?_
   rintro⟨d5,v7⟩ w4 ⟨fr6,o8⟩
   obtain⟨g9,ch10,G9⟩:=hU c0 fr6 (λn=>if n=1 then 2 else 0)
   replace o8:=o8.gl G9 2
   refine de 6 7 rfl rfl (by kernel_rfl) rfl rfl ?_ ?_
   ·
    refine dF (α:=Int) (l:=(ps.length:Int)) (cp:=(ps.length:Int)) g9 (is 3) (is 3) (3,0) rfl (0:Int) bF ap rfl rfl rfl (by omega) (by omega) (by omega) (by omega) ?_
    intro g11 w12 v13 ch14 o15 hcap_
    refine cE 7 rfl (ep (K:=Pt) g11 (is 5) (5,0) rfl ?_)
    intro g16 w17 v18 ch19 m20
    refine xp (v:=vg [ps_v,v7,v13,vn,v18]) 8 rfl (λw=>bn (vs:=[(0,ps_v),(1,v7),(2,v13),(4,v18)]) rfl (by rw[Sl.form Rps.t,Sl.form o15.t.flat,Sl.form o8.t.sl,Md.form m20];kernel_rfl)) (cE 9 rfl (bU g16 (is 7) (7,0) rfl rfl ?_))
    intro g25 w22 b24 ch23 bx26
    refine xp (v:=vp b24 0) 10 rfl (λw=>bK rfl) (bV (by kernel_rfl) ?_)
    have C28:=cg [] (ch10.o (ch14.o (ch19.o ch23.n)))
    have C27:=ch1.n.seq C28
    exact mid (b24,v7,v13,v18,g25) _ _ ⟨bH.t,rfl,rfl,Rps.t,ar_A.t,o8.t,o15.t,m20.t,bx26⟩
   ·
    refine ep (K:=Pt) g9 (is 5) (5,0) rfl ?_
    intro g29 w30 v31 ch32 m33
    refine cE 6 rfl (dF (α:=Int) (l:=(ps.length:Int)) (cp:=(ps.length:Int)) g29 (is 3) (is 3) (3,0) rfl (0:Int) bF ap rfl rfl rfl (by omega) (by omega) (by omega) (by omega) ?_)
    intro g34 w35 v36 ch37 o38 hcap_
    refine xp (v:=vg [ps_v,v7,v36,vn,v31]) 8 rfl (λw=>bn (vs:=[(0,ps_v),(1,v7),(2,v36),(4,v31)]) rfl (by rw[Sl.form Rps.t,Sl.form o38.flat,Sl.form o8.t.sl,Md.form m33.t];kernel_rfl)) (cE 9 rfl (bU g34 (is 7) (7,0) rfl rfl ?_))
    intro g43 w40 b42 ch41 bx44
    refine xp (v:=vp b42 0) 10 rfl (λw=>bK rfl) (bV (by kernel_rfl) ?_)
    have C46:=cg [] (ch10.o (ch32.o (ch37.o ch41.n)))
    have C45:=ch1.n.seq C46
    exact mid (b42,v7,v36,v31,g43) _ _ ⟨bH.t,rfl,rfl,Rps.t,ar_A.t,o8.t,o38.t,m33.t,bx44⟩
  ·
   refine dF (α:=Int) (l:=(ps.length:Int)) (cp:=(ps.length:Int)) c0 (is 3) (is 3) (3,0) rfl (0:Int) bF ap rfl rfl rfl (by omega) (by omega) (by omega) (by omega) ?_
   intro g47 w48 v49 ch50 o51 hcap_
   refine de 3 7 rfl rfl (by kernel_rfl) rfl rfl ?_ ?_
   ·
    refine bB (aB (vals:=[ps_v,vi names]) Tryz.func44 jt jD rfl) (fN w48 ps ps_v Rps.t.ro names AR ar_A.t.ro (by exact hin) (by exact⟨hnm0,hnm1⟩) (by exact hpl) (by exact hno.ok)) ?_
    rintro⟨d53,v55⟩ w52 ⟨fr54,o56⟩
    obtain⟨g57,ch58,G57⟩:=hU g47 fr54 (λn=>if n=1 then 2 else 0)
    replace o56:=o56.gl G57 2
    refine cE 7 rfl (ep (K:=Pt) g57 (is 5) (5,0) rfl ?_)
    intro g59 w60 v61 ch62 m63
    refine xp (v:=vg [ps_v,v55,v49,vn,v61]) 8 rfl (λw=>bn (vs:=[(0,ps_v),(1,v55),(2,v49),(4,v61)]) rfl (by rw[Sl.form Rps.t,Sl.form o51.t.flat,Sl.form o56.t.sl,Md.form m63];kernel_rfl)) (cE 9 rfl (bU g59 (is 7) (7,0) rfl rfl ?_))
    intro g67 w64 b66 ch65 bx68
    refine xp (v:=vp b66 0) 10 rfl (λw=>bK rfl) (bV (by kernel_rfl) ?_)
    have C70:=cg [] (ch58.o (ch62.o ch65.n))
    have C69:=ch1.n.seq (ch50.n.seq C70)
    exact mid (b66,v55,v49,v61,g67) _ _ ⟨bH.t,rfl,rfl,Rps.t,ar_A.t,o56.t,o51.t,m63.t,bx68⟩
   ·
    refine ep (K:=Pt) g47 (is 5) (5,0) rfl ?_
    intro g71 w72 v73 ch74 m75
    refine cE 3 rfl (bB (aB (vals:=[ps_v,vi names]) Tryz.func44 jt jD rfl) (fN w72 ps ps_v Rps.t.ro names AR ar_A.t.ro (by exact hin) (by exact⟨hnm0,hnm1⟩) (by exact hpl) (by exact hno.ok)) ?_)
    rintro⟨d78,v80⟩ w77 ⟨fr79,o81⟩
    obtain⟨g82,ch83,G82⟩:=hU g71 fr79 (λn=>if n=1 then 2 else 0)
    replace o81:=o81.gl G82 2
    refine xp (v:=vg [ps_v,v80,v49,vn,v73]) 8 rfl (λw=>bn (vs:=[(0,ps_v),(1,v80),(2,v49),(4,v73)]) rfl (by rw[Sl.form Rps.t,Sl.form o51.t.flat,Sl.form o81.sl,Md.form m75.t];kernel_rfl)) (cE 9 rfl (bU g82 (is 7) (7,0) rfl rfl ?_))
    intro g87 w84 b86 ch85 bx88
    refine xp (v:=vp b86 0) 10 rfl (λw=>bK rfl) (bV (by kernel_rfl) ?_)
    exact mid (b86,v80,v49,v73,g87) _ _ ⟨bH.t,rfl,rfl,Rps.t,ar_A.t,o81.t,o51.t,m75.t,bx88⟩
  ·
   refine ep (K:=Pt) c0 (is 5) (5,0) rfl ?_
   intro g90 w91 v92 ch93 m94
   refine de 3 6 rfl rfl (by kernel_rfl) rfl rfl ?_ ?_
   ·
    refine bB (aB (vals:=[ps_v,vi names]) Tryz.func44 jt jD rfl) (fN w91 ps ps_v Rps.t.ro names AR ar_A.t.ro (by exact hin) (by exact⟨hnm0,hnm1⟩) (by exact hpl) (by exact hno.ok)) ?_
    rintro⟨d96,v98⟩ w95 ⟨fr97,o99⟩
    obtain⟨g100,ch101,G100⟩:=hU g90 fr97 (λn=>if n=1 then 2 else 0)
    replace o99:=o99.gl G100 2
    refine cE 6 rfl (dF (α:=Int) (l:=(ps.length:Int)) (cp:=(ps.length:Int)) g100 (is 3) (is 3) (3,0) rfl (0:Int) bF ap rfl rfl rfl (by omega) (by omega) (by omega) (by omega) ?_)
    intro g102 w103 v104 ch105 o106 hcap_
    refine xp (v:=vg [ps_v,v98,v104,vn,v92]) 8 rfl (λw=>bn (vs:=[(0,ps_v),(1,v98),(2,v104),(4,v92)]) rfl (by rw[Sl.form Rps.t,Sl.form o106.flat,Sl.form o99.t.sl,Md.form m94.t];kernel_rfl)) (cE 9 rfl (bU g102 (is 7) (7,0) rfl rfl ?_))
    intro g110 w107 b109 ch108 bx111
    refine xp (v:=vp b109 0) 10 rfl (λw=>bK rfl) (bV (by kernel_rfl) ?_)
    have C113:=cg [] (ch101.o (ch105.o ch108.n))
    have C112:=ch1.n.seq (ch93.n.seq C113)
    exact mid (b109,v98,v104,v92,g110) _ _ ⟨bH.t,rfl,rfl,Rps.t,ar_A.t,o99.t,o106.t,m94.t,bx111⟩
   ·
    refine dF (α:=Int) (l:=(ps.length:Int)) (cp:=(ps.length:Int)) g90 (is 3) (is 3) (3,0) rfl (0:Int) bF ap rfl rfl rfl (by omega) (by omega) (by omega) (by omega) ?_
    intro g114 w115 v116 ch117 o118 hcap_
    refine cE 3 rfl (bB (aB (vals:=[ps_v,vi names]) Tryz.func44 jt jD rfl) (fN w115 ps ps_v Rps.t.ro names AR ar_A.t.ro (by exact hin) (by exact⟨hnm0,hnm1⟩) (by exact hpl) (by exact hno.ok)) ?_)
    rintro⟨d121,v123⟩ w120 ⟨fr122,o124⟩
    obtain⟨g125,ch126,G125⟩:=hU g114 fr122 (λn=>if n=1 then 2 else 0)
    replace o124:=o124.gl G125 2
    refine xp (v:=vg [ps_v,v123,v116,vn,v92]) 8 rfl (λw=>bn (vs:=[(0,ps_v),(1,v123),(2,v116),(4,v92)]) rfl (by rw[Sl.form Rps.t,Sl.form o118.t.flat,Sl.form o124.sl,Md.form m94.t];kernel_rfl)) (cE 9 rfl (bU g125 (is 7) (7,0) rfl rfl ?_))
    intro g130 w127 b129 ch128 bx131
    refine xp (v:=vp b129 0) 10 rfl (λw=>bK rfl) (bV (by kernel_rfl) ?_)
    exact mid (b129,v123,v116,v92,g130) _ _ ⟨bH.t,rfl,rfl,Rps.t,ar_A.t,o124.t,o118.t,m94.t,bx131⟩
 rintro⟨b22,v5,v11,v16,g135⟩ f133 w134 ⟨bH,zs0,zs5,Rps,ar_A,o6,o13,m18,bx24⟩
 refine a7 (a6 rfl (mz zs0 (lo (aV (aB (vals:=[ps_v,Value.func (.func 46) #[] #[]]) Tryz.func45 zj vY rfl) (ah Tryz.func45 rfl nq (a7 (a6 rfl (ai 0 (ab (a7 (a7 (a6 rfl (mv ps_v ?_)))))))))))))
 have len136:=(Rps).small
 refine lx (bG jH rfl Rps) (mi 0 (ab (aj ?_)))
 refine aR (σ:=Nat×ax) (λ⟨kx_c1,gq⟩ f w=>aW w0 gq w/\f 0=ps_v/\f 1=Value.func (.func 46) #[] #[]/\f 7=vi (ps.length:Int)/\f 8=vi ↑kx_c1/\Sl gq (is 0) w ps_v ps/\gC gq w AR.1 AR.2/\dr gq 2 w v5 (aQ (ps.map (bt AR)) names)/\Ow gq (is 3) (is 3) w v11 (List.replicate (Int.toNat (ps.length:Int)) (0:Int))/\Md gq (is 5) w v16 ((λ_=>0,[]):(Pt->Int)×List Pt).1 ((λ_=>0,[]):(Pt->Int)×List Pt).2/\Bx gq (is 7) w b22 [ps_v,v5,v11,vn,v16]/\(kx_c1:Int)<=((ps.length:Int):Int)/\(∀j:Nat,j<kx_c1->¬∃b∈(gI (ps.map (bt AR)) (j:Int)).2,b.2.2.1=0)) (λ⟨kx_c1,gq⟩=>Int.toNat (((ps.length:Int):Int)-(kx_c1:Int))) (0,g135) ?_ ?_
 · exact⟨bH,rfl,rfl,rfl,rfl,Rps,ar_A,o6,o13,m18,bx24,by omega,by exact λj hj=>by omega⟩
 rintro⟨kx_c1,g139⟩ f137 w138 ⟨bH,zs0_c1,zs1_c1,zs7_c1,zs8_c1,Rps,ar_A,o6,o13,m18,bx24,hle_kx_c1,hix_c1⟩ back2_c1
 refine a7 (a6 rfl (lx (br (m:=↑kx_c1) (n:=(ps.length:Int)) zs8_c1 zs7_c1) (ab (a7 ?_))))
 by_cases p2_c1:(kx_c1:Int)<(ps.length:Int)
 ·
  refine ag rfl (dt p2_c1) (am (a7 (aj (a7 (a6 rfl (mz zs8_c1 (ai (kx_c1:Int) (ab (a7 (a6 rfl (mz zs1_c1 (mz zs0_c1 ?_))))))))))))
  refine mi ↑kx_c1 (lx (ad (v:=ps_v) (i:=↑kx_c1) jH rfl rfl Rps rfl (by omega) (by omega)) (lx (aw (v:=ps_v) (i:=↑kx_c1) lf rfl Rps (by omega) (by omega) (by decide) rfl) (lo (aV (pz (fid:=46) (vals:=[Value.pointer (some ⟨(gI ps ↑kx_c1).n,0,none⟩)]) rfl Tryz.func46 wJ wK rfl) (ah Tryz.func46 rfl nq (a7 (a6 rfl (ma (vb false) (ab (a7 (a6 rfl (mv (Value.pointer (some ⟨(gI ps ↑kx_c1).n,0,none⟩)) ?_))))))))))))
  refine lw (Value.pointer (some ⟨(gI ps ↑kx_c1).n,0,none⟩)) (ae rfl) (lx (aa dV rfl rfl rfl rfl) ?_)
  obtain⟨v140,bx141,o142⟩:=gC.gt (u:=(gI ps ↑kx_c1)) ar_A (j:=(AR.1.idxOf (gI ps ↑kx_c1))) (by exact fB (hin _ (bz (by omega) (by omega))))
  refine lx (a8 iG rfl bx141 rfl) (lo (aV (aB (vals:=[v140,Value.func (.func 48) #[] #[]]) Tryz.func47 B1 xj rfl) (ah Tryz.func47 rfl nq (a7 (a6 rfl (ma (vb false) (ab (a7 (a6 rfl (mv v140 (mv (Value.func (.func 48) #[] #[]) (lo ?_))))))))))))
  refine aV (aB (vals:=[v140,Value.func (.func 48) #[] #[]]) Tryz.func71 xk zZ rfl) (ah Tryz.func71 rfl nq (a7 (a6 rfl (ai 0 (ab (a7 (a7 (a6 rfl (mv v140 ?_)))))))))
  have len143:=(o142).small
  refine lx (bG cM rfl o142) (mi 0 (ab (aj ?_)))
  refine aR (σ:=Nat×ax) (λ⟨ky_c4,gq⟩ f w=>aW w0 gq w/\f 0=v140/\f 1=Value.func (.func 48) #[] #[]/\f 7=vi (List.length ((gI AR.2 (((AR.1.idxOf (gI ps ↑kx_c1)):Nat):Int)).2):Int)/\f 8=vi ↑ky_c4/\Sl gq (is 0) w ps_v ps/\gC gq w AR.1 AR.2/\dr gq 2 w v5 (aQ (ps.map (bt AR)) names)/\Ow gq (is 3) (is 3) w v11 (List.replicate (Int.toNat (ps.length:Int)) (0:Int))/\Md gq (is 5) w v16 ((λ_=>0,[]):(Pt->Int)×List Pt).1 ((λ_=>0,[]):(Pt->Int)×List Pt).2/\Bx gq (is 7) w b22 [ps_v,v5,v11,vn,v16]/\Bx gq (is 0) w (gI ps ↑kx_c1).n [vi ((gI AR.2 (((AR.1.idxOf (gI ps ↑kx_c1)):Nat):Int)).1),v140]/\Sl gq (is 0) w v140 ((gI AR.2 (((AR.1.idxOf (gI ps ↑kx_c1)):Nat):Int)).2)/\(ky_c4:Int)<=((List.length ((gI AR.2 (((AR.1.idxOf (gI ps ↑kx_c1)):Nat):Int)).2):Int):Int)/\(∀j:Nat,j<ky_c4->¬(gI ((gI AR.2 (((AR.1.idxOf (gI ps ↑kx_c1)):Nat):Int)).2) (j:Int)).2.2.1=0)) (λ⟨ky_c4,gq⟩=>Int.toNat (((List.length ((gI AR.2 (((AR.1.idxOf (gI ps ↑kx_c1)):Nat):Int)).2):Int):Int)-(ky_c4:Int))) (0,g139) ?_ ?_
  · exact⟨bH,rfl,rfl,rfl,rfl,Rps,ar_A,o6,o13,m18,bx24,bx141,o142,by omega,by exact λj hj=>by omega⟩
  rintro⟨ky_c4,g146⟩ f144 w145 ⟨bH,zs0_c4,zs1_c4,zs7_c4,zs8_c4,Rps,ar_A,o6,o13,m18,bx24,bx141,o142,hle_ky_c4,hiy_c4⟩ back2_c4
  refine a7 (a6 rfl (lx (br (m:=↑ky_c4) (n:=(List.length ((gI AR.2 (((AR.1.idxOf (gI ps ↑kx_c1)):Nat):Int)).2):Int)) zs8_c4 zs7_c4) (ab (a7 ?_))))
  by_cases p2_c4:(ky_c4:Int)<(List.length ((gI AR.2 (((AR.1.idxOf (gI ps ↑kx_c1)):Nat):Int)).2):Int)
  ·
   refine ag rfl (dt p2_c4) (am (a7 (aj (a7 (a6 rfl (mz zs8_c4 (ai (ky_c4:Int) (ab (a7 (a6 rfl (mz zs1_c4 (mz zs0_c4 ?_))))))))))))
   refine mi ↑ky_c4 (lx (ad (v:=v140) (i:=↑ky_c4) cM rfl rfl o142 rfl (by omega) (by omega)) (lw (vg [vi ((gI ((gI AR.2 (((AR.1.idxOf (gI ps ↑kx_c1)):Nat):Int)).2) (ky_c4:Int)).1),vi (((gI ((gI AR.2 (((AR.1.idxOf (gI ps ↑kx_c1)):Nat):Int)).2) (ky_c4:Int)).2).1),vi ((((gI ((gI AR.2 (((AR.1.idxOf (gI ps ↑kx_c1)):Nat):Int)).2) (ky_c4:Int)).2).2).1),vi ((((gI ((gI AR.2 (((AR.1.idxOf (gI ps ↑kx_c1)):Nat):Int)).2) (ky_c4:Int)).2).2).2)]) (bW (v:=v140) (i:=↑ky_c4) dZ rfl o142 (by omega) (by omega) rfl) (lo ?_)))
   refine aV (pz (fid:=48) (vals:=[vg [vi ((gI ((gI AR.2 (((AR.1.idxOf (gI ps ↑kx_c1)):Nat):Int)).2) (ky_c4:Int)).1),vi (((gI ((gI AR.2 (((AR.1.idxOf (gI ps ↑kx_c1)):Nat):Int)).2) (ky_c4:Int)).2).1),vi ((((gI ((gI AR.2 (((AR.1.idxOf (gI ps ↑kx_c1)):Nat):Int)).2) (ky_c4:Int)).2).2).1),vi ((((gI ((gI AR.2 (((AR.1.idxOf (gI ps ↑kx_c1)):Nat):Int)).2) (ky_c4:Int)).2).2).2)]]) rfl Tryz.func48 xN yP rfl) (ah Tryz.func48 rfl nq (a7 (a6 rfl (cy rfl (bU g146 (is 8) (8,0) rfl rfl ?_)))))
   intro g150 w147 b149 ch148 bx151
   refine ma (vb false) (ab (a7 (a6 rfl (lx (aa jg rfl rfl rfl rfl) (lx (a8 ap rfl bx151 rfl) (lx (dd (m:=(((gI ((gI AR.2 (((AR.1.idxOf (gI ps ↑kx_c1)):Nat):Int)).2) (ky_c4:Int)).2).2).1) (n:=0) rfl rfl) (ma (vb (decide (((((gI ((gI AR.2 (((AR.1.idxOf (gI ps ↑kx_c1)):Nat):Int)).2) (ky_c4:Int)).2).2).1)=0))) (ab (az (vs:=[vb (decide (((((gI ((gI AR.2 (((AR.1.idxOf (gI ps ↑kx_c1)):Nat):Int)).2) (ky_c4:Int)).2).2).1)=0))]) Tryz.func48 (.tmp rfl .nil) ?_)))))))))
   refine⟨vb (decide (((((gI ((gI AR.2 (((AR.1.idxOf (gI ps ↑kx_c1)):Nat):Int)).2) (ky_c4:Int)).2).2).1)=0)),rfl,?_⟩
   refine ab ?_
   by_cases p4_c4:((((gI ((gI AR.2 (((AR.1.idxOf (gI ps ↑kx_c1)):Nat):Int)).2) (ky_c4:Int)).2).2).1)=0
   ·
    refine ag rfl (dt p4_c4) (a7 ?_)
    refine a6 rfl (mi ↑ky_c4 (ai (ky_c4:Int) (ab (az (vs:=[vi ↑ky_c4]) Tryz.func71 (.tmp rfl .nil) ?_))))
    refine⟨vi ↑ky_c4,rfl,?_⟩
    refine lx (eL (m:=↑ky_c4) (n:=0) rfl rfl) (ma (vb (decide (0<=(ky_c4:Int)))) (ab (az (vs:=[vb (decide (0<=(ky_c4:Int)))]) Tryz.func47 (.tmp rfl .nil) ?_)))
    refine⟨vb (decide (0<=(ky_c4:Int))),rfl,?_⟩
    refine ma (vb (decide (0<=(ky_c4:Int)))) (ab (az (vs:=[vb (decide (0<=(ky_c4:Int)))]) Tryz.func46 (.tmp rfl .nil) ?_))
    refine⟨vb (decide (0<=(ky_c4:Int))),rfl,?_⟩
    refine ab ?_
    have p4_c1:0<=(ky_c4:Int):=by omega
    refine ag rfl (dt p4_c1) (a7 ?_)
    refine a6 rfl (mi ↑kx_c1 (ai (kx_c1:Int) (ab (az (vs:=[vi ↑kx_c1]) Tryz.func45 (.tmp rfl .nil) ?_))))
    refine⟨vi ↑kx_c1,rfl,?_⟩
    refine ai (kx_c1:Int) (ab (a7 ?_))
    have hfk:=Dx hix_c1 (by rw[hVl];exact p2_c1) (De (jf (by omega) (by omega)) p2_c4 p4_c4)
    refine a6 rfl (mz zs5 (mi ↑kx_c1 (lo ?_)))
    refine bB (aB (vals:=[vp b22 0,vi ↑kx_c1,vi (-1)]) Tryz.func49 qF s6 rfl) (CA ((ps.map (bt AR)).length+1) w147 g150 b22 ps_v ps Rps.t v5 (aQ (ps.map (bt AR)) names) o6.t v11 (List.replicate (Int.toNat (ps.length:Int)) (0:Int)) o13.t vn [] (Ow.nil) v16 ((λ_=>0,[]):(Pt->Int)×List Pt) m18.t bx24.t AR ar_A.t (kx_c1:Int) (-1) ((ps.map (bt AR)).length+1) (ik (ps.map (bt AR)) names) (by exact hin) (by exact hpl) (by exact mu.start) (by simp) (by(have:=hno.ol;simp;omega)) (by(rw[<-hfk];exact hno.or_))) ?_
    rintro⟨g153,nu2,od2_v,od2,mp2⟩ w152 ⟨ch154,o156,o157,o158,bx159,hq155⟩
    obtain⟨⟨hr1,hr2⟩,hr3⟩:=hq155
    replace hr1:nu2=(ii (List.replicate (ps.map (bt AR)).length 0) 0 (ik (ps.map (bt AR)) names)):=by rw[hr1,Int.toNat_natCast,hVl];rfl
    replace hr2:od2=ik (ps.map (bt AR)) names:=by rw[hr2];rfl
    refine ab (a7 (a6 rfl (ma vn (ab (a7 (a7 (a6 rfl (mz zs5 (lw (vp b22 0) (ae rfl) (lx (aa sa rfl rfl rfl rfl) (lx (a8 fz rfl bx159 rfl) ?_)))))))))))
    have len160:=(o157.flat).small
    refine lx (bG bF rfl o157.flat) (mi 0 (ab (aj ?_)))
    refine aR (σ:=Value×(List ((Int)×(List Int)×(List Bd)))×Nat×ax) (λ⟨l_v,l,k,gq⟩ f w=>aW w0 gq w/\f 5=vp b22 0/\f 7=l_v/\f 28=od2_v/\f 29=vi (od2.length:Int)/\f 30=vi ↑k/\Sl gq (is 0) w ps_v ps/\gC gq w AR.1 AR.2/\dr gq 2 w v5 (aQ (ps.map (bt AR)) names)/\Ow gq (is 3) (is 3) w v11 nu2/\Ow gq (is 4) (is 4) w od2_v od2/\Md gq (is 5) w v16 mp2.1 mp2.2/\Bx gq (is 7) w b22 [ps_v,v5,v11,od2_v,v16]/\kI gq 12 w l_v l/\(k:Int)<=((od2.length:Int):Int)/\(l=((ik (ps.map (bt AR)) names).take k).map (jy (ps.map (bt AR)) (aQ (ps.map (bt AR)) names) (ii (List.replicate (ps.map (bt AR)).length 0) 0 (ik (ps.map (bt AR)) names))))) (λ⟨l_v,l,k,gq⟩=>Int.toNat (((od2.length:Int):Int)-(k:Int))) (vn,[],0,g153) ?_ ?_
    · exact⟨bH.t,zs5,rfl,rfl,rfl,rfl,Rps.t,ar_A.t,o6.t,o156,o157,o158,bx159,kI.nil,by omega,by rfl⟩
    rintro⟨l_v,l,k,g163⟩ f161 w162 ⟨bH,zs5,zs7,zs28,zs29,zs30,Rps,ar_A,o6,o156,o157,o158,bx159,o_l,hle_k,hl⟩ back6
    have hll:l.length<=k:=by rw[hl,List.length_map,List.length_take];omega
    refine a7 (a6 rfl (lx (br (m:=↑k) (n:=(od2.length:Int)) zs30 zs29) (ab (a7 ?_))))
    by_cases p6:(k:Int)<(od2.length:Int)
    ·
     refine ag rfl (dt p6) (am (a7 (aj (a7 (a6 rfl (lx (ad (v:=od2_v) (i:=↑k) bF rfl zs28 o157.flat zs30 (by omega) (by omega)) (lx (aw (v:=od2_v) (i:=↑k) ap rfl o157.flat (by omega) (by omega) (by decide) rfl) (ai (gI od2 ↑k) (ab ?_)))))))))
     have hoi:=hno.oi (gI od2 ↑k) (by rw[<-hr2];exact bz (by omega) p6)
     rw[<-hr1] at hoi
     rw[hVl] at hoi
     obtain⟨⟨hoi0,hoi1⟩,hoi2⟩:=hoi
     refine a6 rfl (mz zs7 (mz zs5 (mi (gI od2 ↑k) (lo (bB (aB (vals:=[vp b22 0,vi (gI od2 ↑k)]) Tryz.func50 xw wb rfl) (yp w162 b22 ps_v ps (Rps).ro v5 (aQ (ps.map (bt AR)) names) (o6.sl).ro v11 nu2 (o156.flat).ro od2_v v16 (jF (bx159)) (gI od2 ↑k) AR (ar_A).ro (by exact hin) (by exact hpl) (by exact hoi0) (by omega) (by exact hoi2)) ?_)))))
     rintro⟨d165,v167,v169⟩ w164 ⟨fr166,o168,o170⟩
     obtain⟨g171,ch172,G171⟩:=hU g163 fr166 (λn=>if n=1 then 9 else if n=2 then 10 else 0)
     replace o168:=o168.gl G171 9
     replace o170:=o170.gl G171 10
     refine lo ?_
     obtain⟨c173,hv174⟩:=pk (u:=v167) (aM o168.flat)
     obtain⟨c175,hv176⟩:=pk (u:=v169) (aM o170.flat)
     refine aq (α:=Int×Vc×Vc) g171 (is 11) (is 11) (11,0) rfl [(((jy (ps.map (bt AR)) (aQ (ps.map (bt AR)) names) nu2 (gI od2 ↑k)).1),c173,c175)] CT ea (by decide) (by decide) (vs:=[(0,vg [vi ((jy (ps.map (bt AR)) (aQ (ps.map (bt AR)) names) nu2 (gI od2 ↑k)).1),v167,v169])]) rfl rfl (.cons (by rw[<-hv174,<-hv176];rfl) .nil) ?_
     intro g177 w178 v179 ch180 o181
     refine lo ?_
     refine pG hv174 hv176 (xs:=l) (k:=12) (γ:=g177) CT ea rfl rfl rfl o_l.t (o181.flat) o168.t o170.t rfl rfl (by decide) (by omega) ?_
     intro g182 w183 v184 ch185 o186
     replace ch185:=ch185.ll (L':=[9,10,12]) rfl
     refine ma v184 (ab (ak ?_))
     refine a6 rfl (lx (aJ (m:=↑k) (n:=1) zs30 rfl (by omega)) (mi ((k:Int)+1) (ab ?_)))
     refine back6 (v184,(l++[(((jy (ps.map (bt AR)) (aQ (ps.map (bt AR)) names) nu2 (gI od2 ↑k)).1),((jy (ps.map (bt AR)) (aQ (ps.map (bt AR)) names) nu2 (gI od2 ↑k)).2).1,((jy (ps.map (bt AR)) (aQ (ps.map (bt AR)) names) nu2 (gI od2 ↑k)).2).2)]),k+1,g182) _ _ ⟨bH.t,zs5,rfl,zs28,zs29,rfl,Rps.t,ar_A.t,o6.t,o156.t,o157.t,o158.t,bx159.t,o186,by omega,?_⟩ ?_
     · show(l++[(((jy (ps.map (bt AR)) (aQ (ps.map (bt AR)) names) nu2 (gI od2 ↑k)).1),((jy (ps.map (bt AR)) (aQ (ps.map (bt AR)) names) nu2 (gI od2 ↑k)).2).1,((jy (ps.map (bt AR)) (aQ (ps.map (bt AR)) names) nu2 (gI od2 ↑k)).2).2)])=((ik (ps.map (bt AR)) names).take (k+1)).map (jy (ps.map (bt AR)) (aQ (ps.map (bt AR)) names) (ii (List.replicate (ps.map (bt AR)).length 0) 0 (ik (ps.map (bt AR)) names)))
       (rw[<-hr1,<-hr2] at hl ⊢;exact xB hl ‹_›)
     · show Int.toNat (_-_)<Int.toNat (_-_)
       omega
    refine af rfl (df p6) (aF rfl (a7 ?_))
    refine a6 rfl (mz zs7 (ma l_v (ab (az (vs:=[l_v]) Tryz.func38 (.tmp rfl .nil) ?_))))
    have e0:(l:List ((Int)×(List Int)×(List Bd)))=(qh (ps.map (bt AR)) names):=by
      exact AO hl (by rw[<-hr2];assumption)
    exact⟨(fin w0 g163 (λn=>if n=12 then 1 else 0),l_v),(congrArg (a₁:=l) (λ(z0:List ((Int)×(List Int)×(List Bd)))=>Ending.returned (l_v)) e0),bH.fresh _,(e0▸(o_l.t.glue (γ:=c0) (ren:=(λn=>if n=12 then 1 else 0)) (k:=1) bH.col rfl rfl))⟩
   refine af rfl (df p4_c4) (am (ak ?_))
   refine a6 rfl (lx (aJ (m:=↑ky_c4) (n:=1) zs8_c4 rfl (by omega)) (mi ((ky_c4:Int)+1) (ab ?_)))
   refine back2_c4 (ky_c4+1,g150) _ _ ⟨bH.t,zs0_c4,zs1_c4,zs7_c4,rfl,Rps.t,ar_A.t,o6.t,o13.t,m18.t,bx24.t,bx141.t,o142.t,by omega,?_⟩ ?_
   · show∀j:Nat,j<(ky_c4+1)->¬(gI ((gI AR.2 (((AR.1.idxOf (gI ps ↑kx_c1)):Nat):Int)).2) (j:Int)).2.2.1=0
     intro j hj
     by_cases e0:j=ky_c4
     · subst e0;assumption
     · exact hiy_c4 j (by omega)
   · show Int.toNat (_-_)<Int.toNat (_-_)
     omega
  refine af rfl (df p2_c4) (aF rfl (a7 (a6 rfl (ai (-1) (ab (az (vs:=[vi (-1)]) Tryz.func71 (.tmp rfl .nil) ?_))))))
  refine⟨vi (-1),rfl,?_⟩
  refine lx (eL (m:= -1) (n:=0) rfl rfl) (ma (vb false) (ab (az (vs:=[vb false]) Tryz.func47 (.tmp rfl .nil) ?_)))
  refine⟨vb false,rfl,?_⟩
  refine ma (vb false) (ab (az (vs:=[vb false]) Tryz.func46 (.tmp rfl .nil) ?_))
  refine⟨vb false,rfl,?_⟩
  refine ab (af rfl rfl (am (ak ?_)))
  refine a6 rfl (lx (aJ (m:=↑kx_c1) (n:=1) zs8_c1 rfl (by omega)) (mi ((kx_c1:Int)+1) (ab ?_)))
  refine back2_c1 (kx_c1+1,g146) _ _ ⟨bH,zs0_c1,zs1_c1,zs7_c1,rfl,Rps,ar_A,o6,o13.t,m18.t,bx24.t,by omega,?_⟩ ?_
  · show∀j:Nat,j<(kx_c1+1)->¬∃b∈(gI (ps.map (bt AR)) (j:Int)).2,b.2.2.1=0
    intro j hj
    by_cases e0:j=kx_c1
    · rw[e0];exact EH (jf (by omega) (by omega)) hiy_c4 ‹_›
    · exact hix_c1 j (by omega)
  · show Int.toNat (_-_)<Int.toNat (_-_)
    omega
 exact(Dm (λj hj=>hix_c1 j (by rw[hVl] at hj;omega)) hno.fst.2).elim
end TL
