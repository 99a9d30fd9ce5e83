import Derived.Test.YtfpckpgnnplhnaaGreatSkTlSqF
import Derived.Test.YtfpckpgnnplhnaaGreatSkTlSqI
import Derived.Test.YtfpckpgnnplhnaaGreatSkTlSqT
import Derived.Test.YtfpckpgnnplhnaaGreatSkTlGmA
import Derived.Test.YtfpckpgnnplhnaaGreatSkTlGenA
import Derived.Test.YtfpckpgnnplhnaaGreatSkTlAli
set_option linter.all false
set_option maxRecDepth 20000
namespace TL
open Go Go.Proofs
theorem tL:Tryz.prog.follows .mixedOrders=true:=by kernel_rfl
theorem iK:Tryz.f44.body.isNone=false:=rfl
theorem iV:(Tryz.f44.name== "runtime.NumGoroutine")=false:=by decide+kernel
theorem xr:Tryz.f45.body.isNone=false:=rfl
theorem vL:(Tryz.f45.name== "runtime.NumGoroutine")=false:=by decide+kernel
theorem xN:Tryz.f46.body.isNone=false:=rfl
theorem wb:(Tryz.f46.name== "runtime.NumGoroutine")=false:=by decide+kernel
theorem vv:Tryz.f47.body.isNone=false:=rfl
theorem x8:(Tryz.f47.name== "runtime.NumGoroutine")=false:=by decide+kernel
theorem uA:Tryz.f48.body.isNone=false:=rfl
theorem xU:(Tryz.f48.name== "runtime.NumGoroutine")=false:=by decide+kernel
theorem wR:Tryz.f50.body.isNone=false:=rfl
theorem wC:(Tryz.f50.name== "runtime.NumGoroutine")=false:=by decide+kernel
theorem wk:Tryz.f71.body.isNone=false:=rfl
theorem vY:(Tryz.f71.name== "runtime.NumGoroutine")=false:=by decide+kernel
set_option maxHeartbeats 4000000 in
theorem pB(w0:World)(ps:List Pp)(ps_v:Value)(hps_v:Ro w0 ps_v ps)(names:Int)(AR:List Pp×List (bY Bd))(hAR:A2 w0 AR.1 AR.2)(hin:∀u∈ps,u∈AR.1)(hno:pR (ps.map (bo AR)) names):
    Calls Tryz.prog 38 #[ps_v,vi names] w0 (λee w=>∃xx:aw×Value,ee= .returned ((λ⟨δ,rv0⟩=>rv0) xx)/\(λ(⟨δ,rv0⟩:aw×Value) (w:World)=>dU w0 δ w/\iB δ 1 w rv0 (sC (ps.map (bo AR)) names)) xx w):=by
 refine ap Tryz.func38 rfl nq ?_
 have bH:=b6.start w0
 have Rps:=hps_v.sl
 have ar_A:=hAR.start
 have hVl:(ps.map (bo AR)).length=ps.length:=List.length_map ..
 obtain⟨hnm0,hnm1⟩:=hno.nm
 have hpl:=hno.vl
 rw[hVl] at hpl
 obtain⟨hf0,hf1⟩:=hno.fst
 rw[hVl] at hf1
 refine a7 (a6 rfl (ma vn (ab (a7 ?_))))
 refine dl (σ:=Nat×Value×Value×Value×aw) (λ⟨b22,v5,v11,v16,gq⟩ f w=>b6 w0 gq w/\f 0=ps_v/\f 5=vp b22 0/\Sl gq (is 0) w ps_v ps/\fV gq w AR.1 AR.2/\dr gq 2 w v5 (aR (ps.map (bo AR)) names)/\Ow gq (is 3) (is 3) w v11 (List.replicate (Int.toNat (ps.length:Int)) (0:Int))/\Md gq (is 5) w v16 ((λ_=>0,[]):(Pt->Int)×List Pt).1 ((λ_=>0,[]):(Pt->Int)×List Pt).2/\Bx gq (is 7) w b22 [ps_v,v5,v11,vn,v16]) c0 [0,1,2,4,5,8,10] tL ?_ ?_
 ·
  intro mid
  intro w2 ch1
  refine xp (v:=ps_v) 0 rfl (λw=>aq rfl) (xp (v:=ps_v) 1 rfl (λw=>aq rfl) (xp (v:=vi names) 2 rfl (λw=>aq rfl) (xp (v:=ps_v) 4 rfl (λw=>aq rfl) ?_)))
  replace Rps:=Rps.cn ch1
  have len3:=(Rps).small
  refine xp 5 rfl (λw=>bp iZ rfl Rps) ?_
  refine iy 3 [6,7] (by kernel_rfl) ⟨fy 3 rfl (by kernel_rfl) rfl ?_,fy 6 rfl (by kernel_rfl) rfl ?_,fy 7 rfl (by kernel_rfl) rfl ?_,trivial⟩
  ·
   replace ar_A:=ar_A.cn ch1
   refine bE (aH (vals:=[ps_v,vi names]) Tryz.func44 iK iV rfl) (fG w2 ps ps_v (Rps).ro names AR (ar_A).ro (by exact hin) (by exact⟨hnm0,hnm1⟩) (by exact hpl) (by exact hno.ok)) ?_
   rintro⟨d5,v7⟩ w4 ⟨fr6,o8⟩
   obtain⟨g9,ch10,G9⟩:=i8 c0 fr6 (λn=>if n=1 then 2 else 0)
   replace o8:=o8.gl G9 2
   refine dD 6 7 rfl rfl (by kernel_rfl) rfl rfl ?_ ?_
   ·
    refine dN (α:=Int) (l:=(ps.length:Int)) (cp:=(ps.length:Int)) g9 (is 3) (is 3) (3,0) rfl (0:Int) bF ah rfl rfl rfl (by omega) (by omega) (by omega) (by omega) ?_
    intro g11 w12 v13 ch14 o15 hcap_
    clear hcap_
    refine b9 7 rfl (by kernel_rfl) rfl (eA (K:=Pt) g11 (is 5) (5,0) rfl ?_)
    intro g16 w17 v18 ch19 m20
    have C21:=cg [] (ch10.n.seq (ch14.n.seq ch19.n))
    replace Rps:=Rps.ca C21
    replace o15:=o15.cn ch19
    replace o8:=(o8.cn ch14).cn ch19
    refine xp (v:=vg [ps_v,v7,v13,vn,v18]) 8 rfl (λw=>bh (vs:=[(0,ps_v),(1,v7),(2,v13),(4,v18)]) rfl (by rw[Sl.form Rps,Sl.form o15.flat,Sl.form o8.sl,Md.form m20];kernel_rfl)) (b9 9 rfl (by kernel_rfl) rfl (cq g16 (is 7) (7,0) rfl rfl ?_))
    intro g25 w22 b24 ch23 bx26
    refine xp (v:=vp b24 0) 10 rfl (λw=>bm rfl) (bS (by kernel_rfl) ?_)
    have C28:=cg [] (ch10.n.seq (ch14.n.seq (ch19.n.seq ch23.n)))
    have C27:=ch1.n.seq C28
    exact mid (b24,v7,v13,v18,g25) _ _ ⟨bH.ca C27,rfl,rfl,Rps.cn ch23,ar_A.ca C28,o8.cn ch23,o15.cn ch23,m20.cn ch23,bx26⟩
   ·
    refine eA (K:=Pt) g9 (is 5) (5,0) rfl ?_
    intro g29 w30 v31 ch32 m33
    refine b9 6 rfl (by kernel_rfl) rfl (dN (α:=Int) (l:=(ps.length:Int)) (cp:=(ps.length:Int)) g29 (is 3) (is 3) (3,0) rfl (0:Int) bF ah rfl rfl rfl (by omega) (by omega) (by omega) (by omega) ?_)
    intro g34 w35 v36 ch37 o38 hcap_
    clear hcap_
    have C39:=cg [] (ch10.n.seq (ch32.n.seq ch37.n))
    replace Rps:=Rps.ca C39
    replace o8:=(o8.cn ch32).cn ch37
    replace m33:=m33.cn ch37
    refine xp (v:=vg [ps_v,v7,v36,vn,v31]) 8 rfl (λw=>bh (vs:=[(0,ps_v),(1,v7),(2,v36),(4,v31)]) rfl (by rw[Sl.form Rps,Sl.form o38.flat,Sl.form o8.sl,Md.form m33];kernel_rfl)) (b9 9 rfl (by kernel_rfl) rfl (cq g34 (is 7) (7,0) rfl rfl ?_))
    intro g43 w40 b42 ch41 bx44
    refine xp (v:=vp b42 0) 10 rfl (λw=>bm rfl) (bS (by kernel_rfl) ?_)
    have C46:=cg [] (ch10.n.seq (ch32.n.seq (ch37.n.seq ch41.n)))
    have C45:=ch1.n.seq C46
    exact mid (b42,v7,v36,v31,g43) _ _ ⟨bH.ca C45,rfl,rfl,Rps.cn ch41,ar_A.ca C46,o8.cn ch41,o38.cn ch41,m33.cn ch41,bx44⟩
  ·
   refine dN (α:=Int) (l:=(ps.length:Int)) (cp:=(ps.length:Int)) c0 (is 3) (is 3) (3,0) rfl (0:Int) bF ah rfl rfl rfl (by omega) (by omega) (by omega) (by omega) ?_
   intro g47 w48 v49 ch50 o51 hcap_
   clear hcap_
   refine dD 3 7 rfl rfl (by kernel_rfl) rfl rfl ?_ ?_
   ·
    replace Rps:=Rps.cn ch50
    replace ar_A:=(ar_A.cn ch1).cn ch50
    refine bE (aH (vals:=[ps_v,vi names]) Tryz.func44 iK iV rfl) (fG w48 ps ps_v (Rps).ro names AR (ar_A).ro (by exact hin) (by exact⟨hnm0,hnm1⟩) (by exact hpl) (by exact hno.ok)) ?_
    rintro⟨d53,v55⟩ w52 ⟨fr54,o56⟩
    obtain⟨g57,ch58,G57⟩:=i8 g47 fr54 (λn=>if n=1 then 2 else 0)
    replace o56:=o56.gl G57 2
    refine b9 7 rfl (by kernel_rfl) rfl (eA (K:=Pt) g57 (is 5) (5,0) rfl ?_)
    intro g59 w60 v61 ch62 m63
    replace Rps:=(Rps.cn ch58).cn ch62
    replace o51:=(o51.cn ch58).cn ch62
    replace o56:=o56.cn ch62
    refine xp (v:=vg [ps_v,v55,v49,vn,v61]) 8 rfl (λw=>bh (vs:=[(0,ps_v),(1,v55),(2,v49),(4,v61)]) rfl (by rw[Sl.form Rps,Sl.form o51.flat,Sl.form o56.sl,Md.form m63];kernel_rfl)) (b9 9 rfl (by kernel_rfl) rfl (cq g59 (is 7) (7,0) rfl rfl ?_))
    intro g67 w64 b66 ch65 bx68
    refine xp (v:=vp b66 0) 10 rfl (λw=>bm rfl) (bS (by kernel_rfl) ?_)
    have C70:=cg [] (ch58.n.seq (ch62.n.seq ch65.n))
    have C69:=ch1.n.seq (ch50.n.seq C70)
    exact mid (b66,v55,v49,v61,g67) _ _ ⟨bH.ca C69,rfl,rfl,Rps.cn ch65,ar_A.ca C70,o56.cn ch65,o51.cn ch65,m63.cn ch65,bx68⟩
   ·
    refine eA (K:=Pt) g47 (is 5) (5,0) rfl ?_
    intro g71 w72 v73 ch74 m75
    replace Rps:=(Rps.cn ch50).cn ch74
    have C76:=cg [] (ch1.n.seq (ch50.n.seq ch74.n))
    replace ar_A:=ar_A.ca C76
    refine b9 3 rfl (by kernel_rfl) rfl (bE (aH (vals:=[ps_v,vi names]) Tryz.func44 iK iV rfl) (fG w72 ps ps_v (Rps).ro names AR (ar_A).ro (by exact hin) (by exact⟨hnm0,hnm1⟩) (by exact hpl) (by exact hno.ok)) ?_)
    rintro⟨d78,v80⟩ w77 ⟨fr79,o81⟩
    obtain⟨g82,ch83,G82⟩:=i8 g71 fr79 (λn=>if n=1 then 2 else 0)
    replace o81:=o81.gl G82 2
    replace Rps:=Rps.cn ch83
    replace o51:=(o51.cn ch74).cn ch83
    replace m75:=m75.cn ch83
    refine xp (v:=vg [ps_v,v80,v49,vn,v73]) 8 rfl (λw=>bh (vs:=[(0,ps_v),(1,v80),(2,v49),(4,v73)]) rfl (by rw[Sl.form Rps,Sl.form o51.flat,Sl.form o81.sl,Md.form m75];kernel_rfl)) (b9 9 rfl (by kernel_rfl) rfl (cq g82 (is 7) (7,0) rfl rfl ?_))
    intro g87 w84 b86 ch85 bx88
    refine xp (v:=vp b86 0) 10 rfl (λw=>bm rfl) (bS (by kernel_rfl) ?_)
    have C89:=cg [] (ch1.n.seq (ch50.n.seq (ch74.n.seq (ch83.n.seq ch85.n))))
    exact mid (b86,v80,v49,v73,g87) _ _ ⟨bH.ca C89,rfl,rfl,Rps.cn ch85,(ar_A.cn ch83).cn ch85,o81.cn ch85,o51.cn ch85,m75.cn ch85,bx88⟩
  ·
   refine eA (K:=Pt) c0 (is 5) (5,0) rfl ?_
   intro g90 w91 v92 ch93 m94
   refine dD 3 6 rfl rfl (by kernel_rfl) rfl rfl ?_ ?_
   ·
    replace Rps:=Rps.cn ch93
    replace ar_A:=(ar_A.cn ch1).cn ch93
    refine bE (aH (vals:=[ps_v,vi names]) Tryz.func44 iK iV rfl) (fG w91 ps ps_v (Rps).ro names AR (ar_A).ro (by exact hin) (by exact⟨hnm0,hnm1⟩) (by exact hpl) (by exact hno.ok)) ?_
    rintro⟨d96,v98⟩ w95 ⟨fr97,o99⟩
    obtain⟨g100,ch101,G100⟩:=i8 g90 fr97 (λn=>if n=1 then 2 else 0)
    replace o99:=o99.gl G100 2
    refine b9 6 rfl (by kernel_rfl) rfl (dN (α:=Int) (l:=(ps.length:Int)) (cp:=(ps.length:Int)) g100 (is 3) (is 3) (3,0) rfl (0:Int) bF ah rfl rfl rfl (by omega) (by omega) (by omega) (by omega) ?_)
    intro g102 w103 v104 ch105 o106 hcap_
    clear hcap_
    replace Rps:=(Rps.cn ch101).cn ch105
    replace o99:=o99.cn ch105
    replace m94:=(m94.cn ch101).cn ch105
    refine xp (v:=vg [ps_v,v98,v104,vn,v92]) 8 rfl (λw=>bh (vs:=[(0,ps_v),(1,v98),(2,v104),(4,v92)]) rfl (by rw[Sl.form Rps,Sl.form o106.flat,Sl.form o99.sl,Md.form m94];kernel_rfl)) (b9 9 rfl (by kernel_rfl) rfl (cq g102 (is 7) (7,0) rfl rfl ?_))
    intro g110 w107 b109 ch108 bx111
    refine xp (v:=vp b109 0) 10 rfl (λw=>bm rfl) (bS (by kernel_rfl) ?_)
    have C113:=cg [] (ch101.n.seq (ch105.n.seq ch108.n))
    have C112:=ch1.n.seq (ch93.n.seq C113)
    exact mid (b109,v98,v104,v92,g110) _ _ ⟨bH.ca C112,rfl,rfl,Rps.cn ch108,ar_A.ca C113,o99.cn ch108,o106.cn ch108,m94.cn ch108,bx111⟩
   ·
    refine dN (α:=Int) (l:=(ps.length:Int)) (cp:=(ps.length:Int)) g90 (is 3) (is 3) (3,0) rfl (0:Int) bF ah rfl rfl rfl (by omega) (by omega) (by omega) (by omega) ?_
    intro g114 w115 v116 ch117 o118 hcap_
    clear hcap_
    replace Rps:=(Rps.cn ch93).cn ch117
    have C119:=cg [] (ch1.n.seq (ch93.n.seq ch117.n))
    replace ar_A:=ar_A.ca C119
    refine b9 3 rfl (by kernel_rfl) rfl (bE (aH (vals:=[ps_v,vi names]) Tryz.func44 iK iV rfl) (fG w115 ps ps_v (Rps).ro names AR (ar_A).ro (by exact hin) (by exact⟨hnm0,hnm1⟩) (by exact hpl) (by exact hno.ok)) ?_)
    rintro⟨d121,v123⟩ w120 ⟨fr122,o124⟩
    obtain⟨g125,ch126,G125⟩:=i8 g114 fr122 (λn=>if n=1 then 2 else 0)
    replace o124:=o124.gl G125 2
    replace Rps:=Rps.cn ch126
    replace o118:=o118.cn ch126
    replace m94:=(m94.cn ch117).cn ch126
    refine xp (v:=vg [ps_v,v123,v116,vn,v92]) 8 rfl (λw=>bh (vs:=[(0,ps_v),(1,v123),(2,v116),(4,v92)]) rfl (by rw[Sl.form Rps,Sl.form o118.flat,Sl.form o124.sl,Md.form m94];kernel_rfl)) (b9 9 rfl (by kernel_rfl) rfl (cq g125 (is 7) (7,0) rfl rfl ?_))
    intro g130 w127 b129 ch128 bx131
    refine xp (v:=vp b129 0) 10 rfl (λw=>bm rfl) (bS (by kernel_rfl) ?_)
    have C132:=cg [] (ch1.n.seq (ch93.n.seq (ch117.n.seq (ch126.n.seq ch128.n))))
    exact mid (b129,v123,v116,v92,g130) _ _ ⟨bH.ca C132,rfl,rfl,Rps.cn ch128,(ar_A.cn ch126).cn ch128,o124.cn ch128,o118.cn ch128,m94.cn ch128,bx131⟩
 clear Rps ar_A bH
 rintro⟨b22,v5,v11,v16,g135⟩ f133 w134 ⟨bH,zs0,zs5,Rps,ar_A,o6,o13,m18,bx24⟩
 refine a7 (a6 rfl (mz zs0 (lo (br (aH (vals:=[ps_v,Value.func (.func 46) #[] #[]]) Tryz.func45 xr vL rfl) (ap Tryz.func45 rfl nq (a7 (a6 rfl (ai 0 (ab (a7 (a7 (a6 rfl (mv ps_v ?_)))))))))))))
 have len136:=(Rps).small
 refine lx (bp iZ rfl Rps) (mi 0 (ab (am ?_)))
 refine aV (σ:=Nat×aw) (λ⟨kx_c1,gq⟩ f w=>b6 w0 gq w/\f 0=ps_v/\f 1=Value.func (.func 46) #[] #[]/\f 7=vi (ps.length:Int)/\f 8=vi ↑kx_c1/\Sl gq (is 0) w ps_v ps/\fV gq w AR.1 AR.2/\dr gq 2 w v5 (aR (ps.map (bo AR)) names)/\Ow gq (is 3) (is 3) w v11 (List.replicate (Int.toNat (ps.length:Int)) (0:Int))/\Md gq (is 5) w v16 ((λ_=>0,[]):(Pt->Int)×List Pt).1 ((λ_=>0,[]):(Pt->Int)×List Pt).2/\Bx gq (is 7) w b22 [ps_v,v5,v11,vn,v16]/\(kx_c1:Int)<=((ps.length:Int):Int)/\(∀j:Nat,j<kx_c1->¬∃b∈(gI (ps.map (bo AR)) (j:Int)).2,b.2.2.1=0)) (λ⟨kx_c1,gq⟩=>Int.toNat (((ps.length:Int):Int)-(kx_c1:Int))) (0,g135) ?_ ?_
 · exact⟨bH,rfl,rfl,rfl,rfl,Rps,ar_A,o6,o13,m18,bx24,by omega,by exact λj hj=>by omega⟩
 clear Rps ar_A o6 o13 m18 bx24 bH
 rintro⟨kx_c1,g139⟩ f137 w138 ⟨bH,zs0_c1,zs1_c1,zs7_c1,zs8_c1,Rps,ar_A,o6,o13,m18,bx24,hle_kx_c1,hix_c1⟩ back2_c1
 refine a7 (a6 rfl (lx (bw (m:=↑kx_c1) (n:=(ps.length:Int)) zs8_c1 zs7_c1) (ab (a7 ?_))))
 by_cases p2_c1:(kx_c1:Int)<(ps.length:Int)
 ·
  refine af rfl (dt p2_c1) (ao (a7 (am (a7 (a6 rfl (mz zs8_c1 (ai (kx_c1:Int) (ab (a7 (a6 rfl (mz zs1_c1 (mz zs0_c1 ?_))))))))))))
  refine mi ↑kx_c1 (lx (ad (v:=ps_v) (i:=↑kx_c1) iZ rfl rfl Rps rfl (by omega) (by omega)) (lx (av (v:=ps_v) (i:=↑kx_c1) kh rfl Rps (by omega) (by omega) (by decide) rfl) (lo (br (ot (fid:=46) (vals:=[Value.pointer (some ⟨(gI ps ↑kx_c1).n,0,none⟩)]) rfl Tryz.func46 xN wb rfl) (ap Tryz.func46 rfl nq (a7 (a6 rfl (ma (vb false) (ab (a7 (a6 rfl (mv (Value.pointer (some ⟨(gI ps ↑kx_c1).n,0,none⟩)) ?_))))))))))))
  refine lw (Value.pointer (some ⟨(gI ps ↑kx_c1).n,0,none⟩)) (ae rfl) (lx (aa dR rfl rfl rfl rfl) ?_)
  obtain⟨v140,bx141,o142⟩:=fV.gt (u:=(gI ps ↑kx_c1)) ar_A (j:=(AR.1.idxOf (gI ps ↑kx_c1))) (by exact fb (hin _ (bC (by omega) (by omega))))
  refine lx (a8 hX rfl bx141 rfl) (lo (br (aH (vals:=[v140,Value.func (.func 48) #[] #[]]) Tryz.func47 vv x8 rfl) (ap Tryz.func47 rfl nq (a7 (a6 rfl (ma (vb false) (ab (a7 (a6 rfl (mv v140 (mv (Value.func (.func 48) #[] #[]) (lo ?_))))))))))))
  refine br (aH (vals:=[v140,Value.func (.func 48) #[] #[]]) Tryz.func71 wk vY rfl) (ap Tryz.func71 rfl nq (a7 (a6 rfl (ai 0 (ab (a7 (a7 (a6 rfl (mv v140 ?_)))))))))
  have len143:=(o142).small
  refine lx (bp cJ rfl o142) (mi 0 (ab (am ?_)))
  refine aV (σ:=Nat×aw) (λ⟨ky_c4,gq⟩ f w=>b6 w0 gq w/\f 0=v140/\f 1=Value.func (.func 48) #[] #[]/\f 7=vi (List.length ((gI AR.2 (((AR.1.idxOf (gI ps ↑kx_c1)):Nat):Int)).2):Int)/\f 8=vi ↑ky_c4/\Sl gq (is 0) w ps_v ps/\fV gq w AR.1 AR.2/\dr gq 2 w v5 (aR (ps.map (bo AR)) names)/\Ow gq (is 3) (is 3) w v11 (List.replicate (Int.toNat (ps.length:Int)) (0:Int))/\Md gq (is 5) w v16 ((λ_=>0,[]):(Pt->Int)×List Pt).1 ((λ_=>0,[]):(Pt->Int)×List Pt).2/\Bx gq (is 7) w b22 [ps_v,v5,v11,vn,v16]/\Bx gq (is 0) w (gI ps ↑kx_c1).n [vi ((gI AR.2 (((AR.1.idxOf (gI ps ↑kx_c1)):Nat):Int)).1),v140]/\Sl gq (is 0) w v140 ((gI AR.2 (((AR.1.idxOf (gI ps ↑kx_c1)):Nat):Int)).2)/\(ky_c4:Int)<=((List.length ((gI AR.2 (((AR.1.idxOf (gI ps ↑kx_c1)):Nat):Int)).2):Int):Int)/\(∀j:Nat,j<ky_c4->¬(gI ((gI AR.2 (((AR.1.idxOf (gI ps ↑kx_c1)):Nat):Int)).2) (j:Int)).2.2.1=0)) (λ⟨ky_c4,gq⟩=>Int.toNat (((List.length ((gI AR.2 (((AR.1.idxOf (gI ps ↑kx_c1)):Nat):Int)).2):Int):Int)-(ky_c4:Int))) (0,g139) ?_ ?_
  · exact⟨bH,rfl,rfl,rfl,rfl,Rps,ar_A,o6,o13,m18,bx24,bx141,o142,by omega,by exact λj hj=>by omega⟩
  clear Rps ar_A o6 o13 m18 bx24 bx141 o142 bH
  rintro⟨ky_c4,g146⟩ f144 w145 ⟨bH,zs0_c4,zs1_c4,zs7_c4,zs8_c4,Rps,ar_A,o6,o13,m18,bx24,bx141,o142,hle_ky_c4,hiy_c4⟩ back2_c4
  refine a7 (a6 rfl (lx (bw (m:=↑ky_c4) (n:=(List.length ((gI AR.2 (((AR.1.idxOf (gI ps ↑kx_c1)):Nat):Int)).2):Int)) zs8_c4 zs7_c4) (ab (a7 ?_))))
  by_cases p2_c4:(ky_c4:Int)<(List.length ((gI AR.2 (((AR.1.idxOf (gI ps ↑kx_c1)):Nat):Int)).2):Int)
  ·
   refine af rfl (dt p2_c4) (ao (a7 (am (a7 (a6 rfl (mz zs8_c4 (ai (ky_c4:Int) (ab (a7 (a6 rfl (mz zs1_c4 (mz zs0_c4 ?_))))))))))))
   refine mi ↑ky_c4 (lx (ad (v:=v140) (i:=↑ky_c4) cJ rfl rfl o142 rfl (by omega) (by omega)) (lw (vg [vi ((gI ((gI AR.2 (((AR.1.idxOf (gI ps ↑kx_c1)):Nat):Int)).2) (ky_c4:Int)).1),vi (((gI ((gI AR.2 (((AR.1.idxOf (gI ps ↑kx_c1)):Nat):Int)).2) (ky_c4:Int)).2).1),vi ((((gI ((gI AR.2 (((AR.1.idxOf (gI ps ↑kx_c1)):Nat):Int)).2) (ky_c4:Int)).2).2).1),vi ((((gI ((gI AR.2 (((AR.1.idxOf (gI ps ↑kx_c1)):Nat):Int)).2) (ky_c4:Int)).2).2).2)]) (bJ (v:=v140) (i:=↑ky_c4) dZ rfl o142 (by omega) (by omega) rfl) (lo ?_)))
   refine br (ot (fid:=48) (vals:=[vg [vi ((gI ((gI AR.2 (((AR.1.idxOf (gI ps ↑kx_c1)):Nat):Int)).2) (ky_c4:Int)).1),vi (((gI ((gI AR.2 (((AR.1.idxOf (gI ps ↑kx_c1)):Nat):Int)).2) (ky_c4:Int)).2).1),vi ((((gI ((gI AR.2 (((AR.1.idxOf (gI ps ↑kx_c1)):Nat):Int)).2) (ky_c4:Int)).2).2).1),vi ((((gI ((gI AR.2 (((AR.1.idxOf (gI ps ↑kx_c1)):Nat):Int)).2) (ky_c4:Int)).2).2).2)]]) rfl Tryz.func48 uA xU rfl) (ap Tryz.func48 rfl nq (a7 (a6 rfl (cN rfl (cq g146 (is 8) (8,0) rfl rfl ?_)))))
   intro g150 w147 b149 ch148 bx151
   refine ma (vb false) (ab (a7 (a6 rfl (lx (aa iL rfl rfl rfl rfl) (lx (a8 ah rfl bx151 rfl) (lx (dA (m:=(((gI ((gI AR.2 (((AR.1.idxOf (gI ps ↑kx_c1)):Nat):Int)).2) (ky_c4:Int)).2).2).1) (n:=0) rfl rfl) (ma (vb (decide (((((gI ((gI AR.2 (((AR.1.idxOf (gI ps ↑kx_c1)):Nat):Int)).2) (ky_c4:Int)).2).2).1)=0))) (ab (au (vs:=[vb (decide (((((gI ((gI AR.2 (((AR.1.idxOf (gI ps ↑kx_c1)):Nat):Int)).2) (ky_c4:Int)).2).2).1)=0))]) Tryz.func48 (.tmp rfl .nil) ?_)))))))))
   refine⟨vb (decide (((((gI ((gI AR.2 (((AR.1.idxOf (gI ps ↑kx_c1)):Nat):Int)).2) (ky_c4:Int)).2).2).1)=0)),rfl,?_⟩
   refine ab ?_
   by_cases p4_c4:((((gI ((gI AR.2 (((AR.1.idxOf (gI ps ↑kx_c1)):Nat):Int)).2) (ky_c4:Int)).2).2).1)=0
   ·
    refine af rfl (dt p4_c4) (a7 ?_)
    clear bx151
    refine a6 rfl (mi ↑ky_c4 (ai (ky_c4:Int) (ab (au (vs:=[vi ↑ky_c4]) Tryz.func71 (.tmp rfl .nil) ?_))))
    refine⟨vi ↑ky_c4,rfl,?_⟩
    refine lx (eB (m:=↑ky_c4) (n:=0) rfl rfl) (ma (vb (decide (0<=(ky_c4:Int)))) (ab (au (vs:=[vb (decide (0<=(ky_c4:Int)))]) Tryz.func47 (.tmp rfl .nil) ?_)))
    refine⟨vb (decide (0<=(ky_c4:Int))),rfl,?_⟩
    refine ma (vb (decide (0<=(ky_c4:Int)))) (ab (au (vs:=[vb (decide (0<=(ky_c4:Int)))]) Tryz.func46 (.tmp rfl .nil) ?_))
    refine⟨vb (decide (0<=(ky_c4:Int))),rfl,?_⟩
    refine ab ?_
    have p4_c1:0<=(ky_c4:Int):=by omega
    refine af rfl (dt p4_c1) (a7 ?_)
    clear bx141 o142
    refine a6 rfl (mi ↑kx_c1 (ai (kx_c1:Int) (ab (au (vs:=[vi ↑kx_c1]) Tryz.func45 (.tmp rfl .nil) ?_))))
    refine⟨vi ↑kx_c1,rfl,?_⟩
    refine ai (kx_c1:Int) (ab (a7 ?_))
    have hfk:=AH hix_c1 (by rw[hVl];exact p2_c1) (Ak (iO (by omega) (by omega)) p2_c4 p4_c4)
    refine a6 rfl (mz zs5 (mi ↑kx_c1 (lo ?_)))
    replace Rps:=Rps.cn ch148
    replace o6:=o6.cn ch148
    replace o13:=o13.cn ch148
    replace m18:=m18.cn ch148
    replace bx24:=bx24.cn ch148
    replace ar_A:=ar_A.cn ch148
    refine bE (aH (vals:=[vp b22 0,vi ↑kx_c1,vi (-1)]) Tryz.func49 qc pD rfl) (z8 ((ps.map (bo AR)).length+1) w147 g150 b22 ps_v ps Rps v5 (aR (ps.map (bo AR)) names) o6 v11 (List.replicate (Int.toNat (ps.length:Int)) (0:Int)) o13 vn [] (Ow.nil) v16 ((λ_=>0,[]):(Pt->Int)×List Pt) m18 bx24 AR ar_A (kx_c1:Int) (-1) ((ps.map (bo AR)).length+1) (je (ps.map (bo AR)) names) (by exact hin) (by exact hpl) (by exact lm.start) (by simp) (by(have:=hno.ol;simp;omega)) (by(rw[<-hfk];exact hno.or_))) ?_
    rintro⟨g153,nu2,od2_v,od2,mp2⟩ w152 ⟨ch154,o156,o157,o158,bx159,hq155⟩
    clear o13 m18 bx24
    obtain⟨⟨hr1,hr2⟩,hr3⟩:=hq155
    replace hr1:nu2=(gM (List.replicate (ps.map (bo AR)).length 0) 0 (je (ps.map (bo AR)) names)):=by rw[hr1,Int.toNat_natCast,hVl];rfl
    replace hr2:od2=je (ps.map (bo AR)) names:=by rw[hr2];rfl
    refine ab (a7 (a6 rfl (ma vn (ab (a7 (a7 (a6 rfl (mz zs5 (lw (vp b22 0) (ae rfl) (lx (aa qD rfl rfl rfl rfl) (lx (a8 fq rfl bx159 rfl) ?_)))))))))))
    have len160:=(o157.flat).small
    refine lx (bp bF rfl o157.flat) (mi 0 (ab (am ?_)))
    refine aV (σ:=Value×(List ((Int)×(List Int)×(List Bd)))×Nat×aw) (λ⟨l_v,l,k,gq⟩ f w=>b6 w0 gq w/\f 5=vp b22 0/\f 7=l_v/\f 28=od2_v/\f 29=vi (od2.length:Int)/\f 30=vi ↑k/\Sl gq (is 0) w ps_v ps/\fV gq w AR.1 AR.2/\dr gq 2 w v5 (aR (ps.map (bo AR)) names)/\Ow gq (is 3) (is 3) w v11 nu2/\Ow gq (is 4) (is 4) w od2_v od2/\Md gq (is 5) w v16 mp2.1 mp2.2/\Bx gq (is 7) w b22 [ps_v,v5,v11,od2_v,v16]/\iB gq 12 w l_v l/\(k:Int)<=((od2.length:Int):Int)/\(l=((je (ps.map (bo AR)) names).take k).map (iU (ps.map (bo AR)) (aR (ps.map (bo AR)) names) (gM (List.replicate (ps.map (bo AR)).length 0) 0 (je (ps.map (bo AR)) names))))) (λ⟨l_v,l,k,gq⟩=>Int.toNat (((od2.length:Int):Int)-(k:Int))) (vn,[],0,g153) ?_ ?_
    replace bH:=bH.cn ch148
    · exact⟨bH.ca ch154,zs5,rfl,rfl,rfl,rfl,Rps.ca ch154,ar_A.ca ch154,o6.ca ch154,o156,o157,o158,bx159,iB.nil,by omega,by rfl⟩
    clear Rps ar_A o6 o156 o157 o158 bx159 bH
    rintro⟨l_v,l,k,g163⟩ f161 w162 ⟨bH,zs5,zs7,zs28,zs29,zs30,Rps,ar_A,o6,o156,o157,o158,bx159,o_l,hle_k,hl⟩ back6
    have hll:l.length<=k:=by rw[hl,List.length_map,List.length_take];omega
    refine a7 (a6 rfl (lx (bw (m:=↑k) (n:=(od2.length:Int)) zs30 zs29) (ab (a7 ?_))))
    by_cases p6:(k:Int)<(od2.length:Int)
    ·
     refine af rfl (dt p6) (ao (a7 (am (a7 (a6 rfl (lx (ad (v:=od2_v) (i:=↑k) bF rfl zs28 o157.flat zs30 (by omega) (by omega)) (lx (av (v:=od2_v) (i:=↑k) ah rfl o157.flat (by omega) (by omega) (by decide) rfl) (ai (gI od2 ↑k) (ab ?_)))))))))
     have hoi:=hno.oi (gI od2 ↑k) (by rw[<-hr2];exact bC (by omega) p6)
     rw[<-hr1] at hoi
     rw[hVl] at hoi
     obtain⟨⟨hoi0,hoi1⟩,hoi2⟩:=hoi
     refine a6 rfl (mz zs7 (mz zs5 (mi (gI od2 ↑k) (lo (bE (aH (vals:=[vp b22 0,vi (gI od2 ↑k)]) Tryz.func50 wR wC rfl) (xa w162 b22 ps_v ps (Rps).ro v5 (aR (ps.map (bo AR)) names) (o6.sl).ro v11 nu2 (o156.flat).ro od2_v v16 (iR (bx159)) (gI od2 ↑k) AR (ar_A).ro (by exact hin) (by exact hpl) (by exact hoi0) (by omega) (by exact hoi2)) ?_)))))
     rintro⟨d165,v167,v169⟩ w164 ⟨fr166,o168,o170⟩
     obtain⟨g171,ch172,G171⟩:=i8 g163 fr166 (λn=>if n=1 then 9 else if n=2 then 10 else 0)
     replace o168:=o168.gl G171 9
     replace o170:=o170.gl G171 10
     refine lo ?_
     obtain⟨c173,hv174⟩:=dc (u:=v167) (aG o168.flat)
     obtain⟨c175,hv176⟩:=dc (u:=v169) (aG o170.flat)
     refine ar (α:=Int×Vc×Vc) g171 (is 11) (is 11) (11,0) rfl [(((iU (ps.map (bo AR)) (aR (ps.map (bo AR)) names) nu2 (gI od2 ↑k)).1),c173,c175)] eb dY (by decide) (by decide) (vs:=[(0,vg [vi ((iU (ps.map (bo AR)) (aR (ps.map (bo AR)) names) nu2 (gI od2 ↑k)).1),v167,v169])]) rfl rfl (.cons (by rw[<-hv174,<-hv176];rfl) .nil) ?_
     intro g177 w178 v179 ch180 o181
     refine lo ?_
     replace o_l:=(o_l.cn ch172).cn ch180
     replace o168:=o168.cn ch180
     replace o170:=o170.cn ch180
     refine ch hv174 hv176 (xs:=l) (k:=12) (γ:=g177) eb dY rfl rfl rfl o_l (o181.flat) o168 o170 rfl rfl (by decide) (by omega) ?_
     intro g182 w183 v184 ch185 o186
     replace ch185:=ch185.ll (L':=[9,10,12]) rfl
     clear o_l o168 o170
     refine ma v184 (ab (ak ?_))
     clear o181
     refine a6 rfl (lx (aS (m:=↑k) (n:=1) zs30 rfl (by omega)) (mi ((k:Int)+1) (ab ?_)))
     have C187:=cg [9,10,12] (ch172.n.seq (ch180.n.seq (ch185.ll rfl)))
     refine back6 (v184,(l++[(((iU (ps.map (bo AR)) (aR (ps.map (bo AR)) names) nu2 (gI od2 ↑k)).1),((iU (ps.map (bo AR)) (aR (ps.map (bo AR)) names) nu2 (gI od2 ↑k)).2).1,((iU (ps.map (bo AR)) (aR (ps.map (bo AR)) names) nu2 (gI od2 ↑k)).2).2)]),k+1,g182) _ _ ⟨bH.ca C187,zs5,rfl,zs28,zs29,rfl,Rps.ca C187,ar_A.ca C187,o6.ca C187,o156.ca C187,o157.ca C187,o158.ca C187,bx159.ca C187,o186,by omega,?_⟩ ?_
     · show(l++[(((iU (ps.map (bo AR)) (aR (ps.map (bo AR)) names) nu2 (gI od2 ↑k)).1),((iU (ps.map (bo AR)) (aR (ps.map (bo AR)) names) nu2 (gI od2 ↑k)).2).1,((iU (ps.map (bo AR)) (aR (ps.map (bo AR)) names) nu2 (gI od2 ↑k)).2).2)])=((je (ps.map (bo AR)) names).take (k+1)).map (iU (ps.map (bo AR)) (aR (ps.map (bo AR)) names) (gM (List.replicate (ps.map (bo AR)).length 0) 0 (je (ps.map (bo AR)) names)))
       (rw[<-hr1,<-hr2] at hl ⊢;exact vQ hl ‹_›)
     · show Int.toNat (_-_)<Int.toNat (_-_)
       omega
    refine ag rfl (df p6) (aO rfl (a7 ?_))
    clear o6 o156 o157 o158 bx159
    refine a6 rfl (mz zs7 (ma l_v (ab (au (vs:=[l_v]) Tryz.func38 (.tmp rfl .nil) ?_))))
    have e0:(l:List ((Int)×(List Int)×(List Bd)))=(sC (ps.map (bo AR)) names):=by
      exact uM hl (by rw[<-hr2];assumption)
    exact⟨(fin w0 g163 (λn=>if n=12 then 1 else 0),l_v),(congrArg (a₁:=l) (λ(z0:List ((Int)×(List Int)×(List Bd)))=>Ending.returned (l_v)) e0),bH.fresh _,(e0▸(o_l.glue (γ:=c0) (ren:=(λn=>if n=12 then 1 else 0)) (k:=1) bH.col rfl rfl))⟩
   refine ag rfl (df p4_c4) (ao (ak ?_))
   clear bx151
   refine a6 rfl (lx (aS (m:=↑ky_c4) (n:=1) zs8_c4 rfl (by omega)) (mi ((ky_c4:Int)+1) (ab ?_)))
   refine back2_c4 (ky_c4+1,g150) _ _ ⟨bH.cn ch148,zs0_c4,zs1_c4,zs7_c4,rfl,Rps.cn ch148,ar_A.cn ch148,o6.cn ch148,o13.cn ch148,m18.cn ch148,bx24.cn ch148,bx141.cn ch148,o142.cn ch148,by omega,?_⟩ ?_
   · show∀j:Nat,j<(ky_c4+1)->¬(gI ((gI AR.2 (((AR.1.idxOf (gI ps ↑kx_c1)):Nat):Int)).2) (j:Int)).2.2.1=0
     intro j hj
     by_cases e0:j=ky_c4
     · subst e0;assumption
     · exact hiy_c4 j (by omega)
   · show Int.toNat (_-_)<Int.toNat (_-_)
     omega
  refine ag rfl (df p2_c4) (aO rfl (a7 (a6 rfl (ai (-1) (ab (au (vs:=[vi (-1)]) Tryz.func71 (.tmp rfl .nil) ?_))))))
  refine⟨vi (-1),rfl,?_⟩
  refine lx (eB (m:= -1) (n:=0) rfl rfl) (ma (vb false) (ab (au (vs:=[vb false]) Tryz.func47 (.tmp rfl .nil) ?_)))
  refine⟨vb false,rfl,?_⟩
  refine ma (vb false) (ab (au (vs:=[vb false]) Tryz.func46 (.tmp rfl .nil) ?_))
  refine⟨vb false,rfl,?_⟩
  refine ab (ag rfl rfl (ao (ak ?_)))
  clear bx141 o142
  refine a6 rfl (lx (aS (m:=↑kx_c1) (n:=1) zs8_c1 rfl (by omega)) (mi ((kx_c1:Int)+1) (ab ?_)))
  refine back2_c1 (kx_c1+1,g146) _ _ ⟨bH,zs0_c1,zs1_c1,zs7_c1,rfl,Rps,ar_A,o6,o13,m18,bx24,by omega,?_⟩ ?_
  · show∀j:Nat,j<(kx_c1+1)->¬∃b∈(gI (ps.map (bo AR)) (j:Int)).2,b.2.2.1=0
    intro j hj
    by_cases e0:j=kx_c1
    · rw[e0];exact Bp (iO (by omega) (by omega)) hiy_c4 ‹_›
    · exact hix_c1 j (by omega)
  · show Int.toNat (_-_)<Int.toNat (_-_)
    omega
 exact(AT (λj hj=>hix_c1 j (by rw[hVl] at hj;omega)) hno.fst.2).elim
end TL
