import Derived.Test.YtgneelmmomohdaaSqTlP4
import Derived.Test.YtgneelmmomohdaaSqTlSpA
import Derived.Test.YtgneelmmomohdaaSqTlGenA
import Derived.Test.YtgneelmmomohdaaProg
import Derived.Test.YtgneelmmomohdaaSqTlAli
set_option linter.all false
set_option maxRecDepth 20000
namespace TL
open Go Go.Proofs
theorem vE:Try.f56.body.isNone=false:=rfl
theorem vI:(Try.f56.name== "runtime.NumGoroutine")=false:=by decide+kernel
set_option maxHeartbeats 8000000 in
theorem kI(w0:World)(g:(Int)×(List Pt))(g_v:Value)(hg_v:Ro w0 g_v g.2)(u:Int)(v:Int)(hm:b7 g):
    Calls Try.prog 32 #[vg [vi g.1,g_v],vi u,vi v] w0 (λee w=>∃xx:aL×Value,ee= .returned ((λ⟨δ,rv0⟩=>rv0) xx)/\(λ(⟨δ,rv0⟩:aL×Value) (w:World)=>eX w0 δ w/\dJ δ 1 w rv0 (d8 g u v)) xx w):=by
 refine ar Try.func32 rfl nq ?_
 have bH:=bq.start w0
 have Rg:=hg_v.sl
 have hm0:=hm
 obtain⟨hm1,hm2,hm3,hm4⟩:=hm0
 refine aa (a8 rfl (cF rfl (cA c0 (is 1) (1,0) rfl rfl ?_)))
 intro g4 w1 b3 ch2 bx5
 replace bx5:Bx g4 (is 1) w1 b3 [vi g.1,g_v]:=bx5
 refine ma vn (ad (aa (a8 rfl (lx (af d4 rfl rfl rfl rfl) (lx (ae ak rfl bx5 rfl) (lw (vg [vi g.1,vn]) (bC (vs:=[(0,vi g.1)]) rfl (by kernel_rfl)) (lo (bz g4 (is 2) (2,0) rfl aK ?_))))))))
 intro g9 w6 b8 ch7 bx10
 replace bx10:Bx g9 (is 2) w6 b8 [vi 0,vn]:=bx10
 refine lo (aF (cs':=[vi g.1,vn]) aK rfl rfl bx10 rfl nq (AllOne.all (.cons rfl (.cons rfl .nil))) rfl ?_)
 intro w11 ch12 bx13
 clear bx10
 refine ad (aa (aa (a8 rfl (lx (af d4 rfl rfl rfl rfl) ?_))))
 replace bx5:=(bx5.cn ch7).ce ch12
 refine lx (ae bu rfl bx5 rfl) ?_
 have C14:=cg [2] (ch2.n.seq (ch7.n.seq (ch12.l rfl)))
 replace Rg:=Rg.ca C14
 have len15:=(Rg).small
 refine lx (bJ dg rfl Rg) (mi 0 (ad (ao ?_)))
 refine b9 (σ:=Nat×Value×(List Pt)×aL) (λ⟨k,ie_v,ie,gq⟩ f w=>bq w0 gq w/\f 1=vi u/\f 2=vi v/\f 3=vp b3 0/\f 7=vp b8 0/\f 24=g_v/\f 25=vi (g.2.length:Int)/\f 26=vi ↑k/\Sl gq (is 0) w g_v g.2/\Bx gq (is 1) w b3 [vi g.1,g_v]/\Bx gq (is 2) w b8 [vi g.1,ie_v]/\Ow gq (is 5) (is 5) w ie_v ie/\(k:Int)<=((g.2.length:Int):Int)/\(ie=ia g u v k)) (λ⟨k,ie_v,ie,gq⟩=>Int.toNat (((g.2.length:Int):Int)-(k:Int))) (0,vn,[],g9) ?_ ?_
 · exact⟨bH.ca C14,rfl,rfl,rfl,rfl,rfl,rfl,rfl,Rg,bx5,bx13,Ow.nil,by omega,by rfl⟩
 clear Rg bx5 bx13 bH
 rintro⟨k,ie_v,ie,g18⟩ f16 w17 ⟨bH,zs1,zs2,zs3,zs7,zs24,zs25,zs26,Rg,bx5,bx13,o_ie,hle_k,hie⟩ back3
 have hiel:ie.length<=k:=by rw[hie];exact oL
 refine aa (a8 rfl (lx (bg (m:=↑k) (n:=(g.2.length:Int)) zs26 zs25) (ad (aa ?_))))
 by_cases p3:(k:Int)<(g.2.length:Int)
 ·
  refine aj rfl (dt p3) (ap (aa (ao (aa (a8 rfl (lx (ag (v:=g_v) (i:=↑k) dg rfl zs24 Rg zs26 (by omega) (by omega)) (lw (vg [vi ((gI g.2 ↑k).1),vi ((gI g.2 ↑k).2)]) (cv (v:=g_v) (i:=↑k) aW rfl Rg (by omega) (by omega) rfl) (lo (bz g18 (is 3) (3,0) rfl aW ?_)))))))))
  intro g22 w19 b21 ch20 bx23
  replace bx23:Bx g22 (is 3) w19 b21 [vi 0,vi 0]:=bx23
  refine lo (aF (cs':=[vi ((gI g.2 ↑k).1),vi ((gI g.2 ↑k).2)]) aW rfl rfl bx23 rfl nq (AllOne.all (.cons rfl (.cons rfl .nil))) rfl ?_)
  intro w24 ch25 bx26
  clear bx23
  refine ad (aa (a8 rfl (lx (aA da rfl rfl rfl (by decide) (by decide) rfl) (lx (ae ak rfl bx26 rfl) (mz zs1 (lx (dv (m:=(gI g.2 ↑k).1) (n:=u) rfl rfl) (mv (vb (!(decide (((gI g.2 ↑k).1)=u)))) ?_)))))))
  by_cases q34:((gI g.2 ↑k).1)=u
  ·
   refine az (wn (congrArg Bool.not (dt q34))) (az (wn (congrArg Bool.not (dt q34))) (az (wn (congrArg Bool.not (dt q34))) (az (wn (congrArg Bool.not (dt q34))) (lw (vb false) (aS rfl (congrArg Bool.not (dt q34)) rfl) (mv (vb false) (az (wn rfl) (az (wn rfl) (az (wn rfl) (az (wn rfl) (lw (vb false) (aS rfl rfl rfl) (mv (vb false) (az (wn rfl) (az (wn rfl) (az (wn rfl) (az (wn rfl) ?_)))))))))))))))
   refine lw (vb false) (aS rfl rfl rfl) (ad (ah rfl rfl (ap (am ?_))))
   clear bx26
   refine a8 rfl (lx (aJ (m:=↑k) (n:=1) zs26 rfl (by omega)) (mi ((k:Int)+1) (ad ?_)))
   replace bH:=bH.cn ch20
   refine back3 (k+1,ie_v,ie,g22) _ _ ⟨bH.ce ch25,zs1,zs2,zs3,zs7,zs24,zs25,rfl,(Rg.cn ch20).ce ch25,(bx5.cn ch20).ce ch25,(bx13.cn ch20).ce ch25,(o_ie.cn ch20).ce ch25,by omega,?_⟩ ?_
   · show ie=ia g u v (k+1)
     (rw[hie];exact l7 ‹_› (by unfold mK;simp only[decide_eq_true_eq];omega))
   · show Int.toNat (((g.2.length:Int):Int)-((k+1):Int))<Int.toNat (((g.2.length:Int):Int)-(k:Int))
     omega
  refine lv (vp b21 0) (wy (congrArg Bool.not (df q34))) (aA da rfl rfl rfl (by decide) (by decide) rfl) (lv (vi ((gI g.2 ↑k).1)) (wy (congrArg Bool.not (df q34))) (ae ak rfl bx26 rfl) (lv (vi v) (wy (congrArg Bool.not (df q34))) (av zs2) (lv (vb (!(decide (((gI g.2 ↑k).1)=v)))) (wy (congrArg Bool.not (df q34))) (dv (m:=(gI g.2 ↑k).1) (n:=v) rfl rfl) (lw (vb (!(decide (((gI g.2 ↑k).1)=v)))) (aV rfl (congrArg Bool.not (df q34)) rfl) (mv (vb (!(decide (((gI g.2 ↑k).1)=v)))) ?_)))))
  by_cases q40:((gI g.2 ↑k).1)=v
  ·
   refine az (wn (congrArg Bool.not (dt q40))) (az (wn (congrArg Bool.not (dt q40))) (az (wn (congrArg Bool.not (dt q40))) (az (wn (congrArg Bool.not (dt q40))) (lw (vb false) (aS rfl (congrArg Bool.not (dt q40)) rfl) (mv (vb false) (az (wn rfl) (az (wn rfl) (az (wn rfl) (az (wn rfl) (lw (vb false) (aS rfl rfl rfl) (ad (ah rfl rfl ?_))))))))))))
   refine ap (am ?_)
   clear bx26
   refine a8 rfl (lx (aJ (m:=↑k) (n:=1) zs26 rfl (by omega)) (mi ((k:Int)+1) (ad ?_)))
   replace bH:=bH.cn ch20
   refine back3 (k+1,ie_v,ie,g22) _ _ ⟨bH.ce ch25,zs1,zs2,zs3,zs7,zs24,zs25,rfl,(Rg.cn ch20).ce ch25,(bx5.cn ch20).ce ch25,(bx13.cn ch20).ce ch25,(o_ie.cn ch20).ce ch25,by omega,?_⟩ ?_
   · show ie=ia g u v (k+1)
     (rw[hie];exact l7 ‹_› (by unfold mK;simp only[decide_eq_true_eq];omega))
   · show Int.toNat (((g.2.length:Int):Int)-((k+1):Int))<Int.toNat (((g.2.length:Int):Int)-(k:Int))
     omega
  refine lv (vp b21 1) (wy (congrArg Bool.not (df q40))) (aA da rfl rfl rfl (by decide) (by decide) rfl) (lv (vi ((gI g.2 ↑k).2)) (wy (congrArg Bool.not (df q40))) (ae ak rfl bx26 rfl) (lv (vi u) (wy (congrArg Bool.not (df q40))) (av zs1) (lv (vb (!(decide (((gI g.2 ↑k).2)=u)))) (wy (congrArg Bool.not (df q40))) (dv (m:=(gI g.2 ↑k).2) (n:=u) rfl rfl) (lw (vb (!(decide (((gI g.2 ↑k).2)=u)))) (aV rfl (congrArg Bool.not (df q40)) rfl) (mv (vb (!(decide (((gI g.2 ↑k).2)=u)))) ?_)))))
  by_cases q46:((gI g.2 ↑k).2)=u
  ·
   refine az (wn (congrArg Bool.not (dt q46))) (az (wn (congrArg Bool.not (dt q46))) (az (wn (congrArg Bool.not (dt q46))) (az (wn (congrArg Bool.not (dt q46))) (lw (vb false) (aS rfl (congrArg Bool.not (dt q46)) rfl) (ad (ah rfl rfl (ap (am ?_))))))))
   clear bx26
   refine a8 rfl (lx (aJ (m:=↑k) (n:=1) zs26 rfl (by omega)) (mi ((k:Int)+1) (ad ?_)))
   replace bH:=bH.cn ch20
   refine back3 (k+1,ie_v,ie,g22) _ _ ⟨bH.ce ch25,zs1,zs2,zs3,zs7,zs24,zs25,rfl,(Rg.cn ch20).ce ch25,(bx5.cn ch20).ce ch25,(bx13.cn ch20).ce ch25,(o_ie.cn ch20).ce ch25,by omega,?_⟩ ?_
   · show ie=ia g u v (k+1)
     (rw[hie];exact l7 ‹_› (by unfold mK;simp only[decide_eq_true_eq];omega))
   · show Int.toNat (((g.2.length:Int):Int)-((k+1):Int))<Int.toNat (((g.2.length:Int):Int)-(k:Int))
     omega
  refine lv (vp b21 1) (wy (congrArg Bool.not (df q46))) (aA da rfl rfl rfl (by decide) (by decide) rfl) (lv (vi ((gI g.2 ↑k).2)) (wy (congrArg Bool.not (df q46))) (ae ak rfl bx26 rfl) (lv (vi v) (wy (congrArg Bool.not (df q46))) (av zs2) (lv (vb (!(decide (((gI g.2 ↑k).2)=v)))) (wy (congrArg Bool.not (df q46))) (dv (m:=(gI g.2 ↑k).2) (n:=v) rfl rfl) (lw (vb (!(decide (((gI g.2 ↑k).2)=v)))) (aV rfl (congrArg Bool.not (df q46)) rfl) (ad ?_)))))
  by_cases p5:((gI g.2 ↑k).2)=v
  ·
   refine ah rfl (congrArg Bool.not (dt p5)) (ap (am ?_))
   clear bx26
   refine a8 rfl (lx (aJ (m:=↑k) (n:=1) zs26 rfl (by omega)) (mi ((k:Int)+1) (ad ?_)))
   replace bH:=bH.cn ch20
   refine back3 (k+1,ie_v,ie,g22) _ _ ⟨bH.ce ch25,zs1,zs2,zs3,zs7,zs24,zs25,rfl,(Rg.cn ch20).ce ch25,(bx5.cn ch20).ce ch25,(bx13.cn ch20).ce ch25,(o_ie.cn ch20).ce ch25,by omega,?_⟩ ?_
   · show ie=ia g u v (k+1)
     (rw[hie];exact l7 ‹_› (by unfold mK;simp only[decide_eq_true_eq];omega))
   · show Int.toNat (((g.2.length:Int):Int)-((k+1):Int))<Int.toNat (((g.2.length:Int):Int)-(k:Int))
     omega
  refine aj rfl (congrArg Bool.not (df p5)) (a8 rfl (lx (af d4 rfl rfl zs7 rfl) ?_))
  replace bx13:=(bx13.cn ch20).ce ch25
  refine lx (ae bu rfl bx13 rfl) (lx (aB (ds:=[vi ((gI g.2 ↑k).1),vi ((gI g.2 ↑k).2)]) aW rfl bx26 rfl rfl) (lo (aC (α:=Pt) g22 (is 4) (is 4) (4,0) rfl [(gI g.2 ↑k)] dg aW (by decide) (by decide) (vs:=[(0,vg [vi ((gI g.2 ↑k).1),vi ((gI g.2 ↑k).2)])]) rfl rfl (.cons rfl .nil) ?_)))
  intro g27 w28 v29 ch30 o31
  refine lo ?_
  have C32:=cg [3] (ch20.n.seq ((ch25.l rfl).seq ch30.n))
  replace o_ie:=o_ie.ca C32
  refine br (α:=Pt) (xs:=ie) (ys:=([(gI g.2 ↑k)])) g27 (J:=is 5) (S:=is 5) (5,0) rfl dg aW (by decide) rfl rfl rfl o_ie o31.flat (by decide) (by(simp;omega)) ?_
  intro g33 w34 v35 ch36 o37
  clear o_ie
  refine lx (af d4 rfl rfl zs7 rfl) (lo ?_)
  replace bx13:=(bx13.cn ch30).ce ch36
  refine bQ (cs':=[vi g.1,v35]) bu rfl rfl bx13 (bN o37.flat) nq (bm o37.flat) rfl ?_
  intro w38 ch39 bx40
  clear bx13
  refine ad (am ?_)
  clear bx26 o31
  refine a8 rfl (lx (aJ (m:=↑k) (n:=1) zs26 rfl (by omega)) (mi ((k:Int)+1) (ad ?_)))
  have C41:=cg [2,3,5] (ch20.n.seq ((ch25.l rfl).seq (ch30.n.seq ((ch36.l rfl).seq (ch39.l rfl)))))
  refine back3 (k+1,v35,(ie++[(gI g.2 ↑k)]),g33) _ _ ⟨bH.ca C41,zs1,zs2,zs3,zs7,zs24,zs25,rfl,Rg.ca C41,bx5.ca C41,bx40,o37.ce ch39,by omega,?_⟩ ?_
  · show(ie++[(gI g.2 ↑k)])=ia g u v (k+1)
    (rw[hie];exact ve ‹_› (by unfold mK;simp only[decide_eq_true_eq];omega))
  · show Int.toNat (((g.2.length:Int):Int)-((k+1):Int))<Int.toNat (((g.2.length:Int):Int)-(k:Int))
    omega
 refine ah rfl (df p3) (aM rfl (aa (a8 rfl (lx (aB (ds:=[vi g.1,ie_v]) aK zs7 bx13 rfl rfl) (lo (cd (aQ (vals:=[vg [vi g.1,ie_v]]) Try.func56 vE vI rfl) (pH w17 (g.1,ie) ie_v (o_ie.flat).ro) ?_))))))
 rintro⟨d43,v45⟩ w42 ⟨fr44,o46⟩
 obtain⟨g47,ch48,G47⟩:=jK g18 fr44 (λn=>if n=1 then 6 else 0)
 replace o46:=o46.gl G47 6
 refine mv (vt [v45,vi ((aH (g.1,ie)).2.1),vi ((aH (g.1,ie)).2.2)]) (lx (aG rfl rfl) (lx (aG rfl rfl) (lx (aG rfl rfl) (ma v45 (ai ((aH (g.1,ie)).2.1) (ai ((aH (g.1,ie)).2.2) (ad (aa ?_))))))))
 clear bx13 o_ie
 have hie2:(g.1,ie)=ko g u v:=by rw[hie];exact uQ ‹_›
 have hpl:(((aH (g.1,ie)).1).length:Int)=g.1:=by rw[hie2];exact pP (pc hm)
 refine a8 rfl (ma vn (ad (aa (a8 rfl (cF rfl (jd (K:=Int) g47 (is 7) (7,0) rfl ?_))))))
 intro g49 w50 v51 ch52 m53
 refine ma v51 (ad (aa (aa (a8 rfl (lx (af d4 rfl rfl zs3 rfl) ?_)))))
 replace bx5:=(bx5.cn ch48).cn ch52
 refine lx (ae bu rfl bx5 rfl) ?_
 replace Rg:=(Rg.cn ch48).cn ch52
 refine lx (bJ dg rfl Rg) (mi 0 (ad (ao ?_)))
 clear bx5
 refine b9 (σ:=Value×iN×Nat×((Int->Int)×List Int)×aL) (λ⟨l_v,l,e,mp,gq⟩ f w=>bq w0 gq w/\f 1=vi u/\f 2=vi v/\f 10=v45/\f 13=l_v/\f 14=v51/\f 67=g_v/\f 68=vi (g.2.length:Int)/\f 69=vi ↑e/\Sl gq (is 0) w g_v g.2/\Ow gq (is 6) (is 6) w v45 ((aH (g.1,ie)).1)/\Md gq (is 7) w v51 mp.1 mp.2/\dJ gq 11 w l_v l/\(e:Int)<=((g.2.length:Int):Int)/\(i6 (aH (g.1,ie)).1 g u v e l mp)) (λ⟨l_v,l,e,mp,gq⟩=>Int.toNat (((g.2.length:Int):Int)-(e:Int))) (vn,[],0,((λ_=>0,[]):(Int->Int)×List (Int)),g49) ?_ ?_
 replace bH:=bH.cn ch48
 · exact⟨bH.cn ch52,zs1,zs2,rfl,rfl,rfl,rfl,rfl,rfl,Rg,o46.cn ch52,m53,dJ.nil,by omega,by exact i6.start⟩
 clear Rg o46 m53 bH
 rintro⟨l_v,l,e,mp,g56⟩ f54 w55 ⟨bH,zs1,zs2,zs10,zs13,zs14,zs67,zs68,zs69,Rg,o46,m53,o_l,hle_e,hcl⟩ back12
 have hcl1:=hcl.len
 refine aa (a8 rfl (lx (bg (m:=↑e) (n:=(g.2.length:Int)) zs69 zs68) (ad (aa ?_))))
 by_cases p12:(e:Int)<(g.2.length:Int)
 ·
  refine aj rfl (dt p12) ?_
  obtain⟨⟨he1,he2⟩,he3,he4⟩:=hm4 _ (bv (xs:=g.2) (i:=↑e) (by omega) ‹_›)
  refine ap (aa (ao (aa (a8 rfl (mz zs69 (lx (ag (v:=g_v) (i:=↑e) dg rfl zs67 Rg zs69 (by omega) (by omega)) (lw (vg [vi ((gI g.2 ↑e).1),vi ((gI g.2 ↑e).2)]) (cv (v:=g_v) (i:=↑e) aW rfl Rg (by omega) (by omega) rfl) (lo (bz g56 (is 8) (8,0) rfl aW ?_)))))))))
  intro g60 w57 b59 ch58 bx61
  replace bx61:Bx g60 (is 8) w57 b59 [vi 0,vi 0]:=bx61
  refine ai (e:Int) (lo (aF (cs':=[vi ((gI g.2 ↑e).1),vi ((gI g.2 ↑e).2)]) aW rfl rfl bx61 rfl nq (AllOne.all (.cons rfl (.cons rfl .nil))) rfl ?_))
  intro w62 ch63 bx64
  clear bx61
  refine ad (aa (a8 rfl (lx (aA da rfl rfl rfl (by decide) (by decide) rfl) (lx (ae ak rfl bx64 rfl) (ai ((gI g.2 ↑e).1) (ad (aa (aa (a8 rfl (mi ((gI g.2 ↑e).1) (mz zs1 (lx (cK (m:=(gI g.2 ↑e).1) (n:=u) rfl rfl) (mv (vb (decide (((gI g.2 ↑e).1)=u))) ?_)))))))))))))
  by_cases q79:((gI g.2 ↑e).1)=u
  ·
   refine az (wn (dt q79)) (az (wn (dt q79)) (az (wn (dt q79)) (lw (vb true) (aV rfl (dt q79) rfl) (ad (aj rfl rfl (a8 rfl (lx (aA da rfl rfl rfl (by decide) (by decide) rfl) (lx (ae ak rfl bx64 rfl) (ai ((gI g.2 ↑e).2) ?_)))))))))
   refine ad (aa (aa (a8 rfl (lx (aA da rfl rfl rfl (by decide) (by decide) rfl) (lx (ae ak rfl bx64 rfl) (lx (aA da rfl rfl rfl (by decide) (by decide) rfl) (lx (ae ak rfl bx64 rfl) (lx (cK (m:=(gI g.2 ↑e).1) (n:=(gI g.2 ↑e).2) rfl rfl) (mv (vb (decide (((gI g.2 ↑e).1)=((gI g.2 ↑e).2)))) ?_)))))))))
   by_cases q91:((gI g.2 ↑e).1)=((gI g.2 ↑e).2)
   ·
    refine az (wn (dt q91)) (az (wn (dt q91)) (az (wn (dt q91)) (lw (vb true) (aV rfl (dt q91) rfl) (mv (vb true) (az (wn rfl) (az (wn rfl) (az (wn rfl) (lw (vb true) (aV rfl rfl rfl) (ad (aj rfl rfl (aa ?_)))))))))))
    clear bx64
    refine a8 rfl (mz zs13 (mi ↑e (lo (aC (α:=Int) g60 (is 9) (is 9) (9,0) rfl [(e:Int)] bD ak (by decide) (by decide) (vs:=[(0,vi ↑e)]) rfl rfl (.cons rfl .nil) ?_))))
    intro g65 w66 v67 ch68 o69
    refine lo ?_
    obtain⟨c70,hv71⟩:=iY (u:=v67) (bm o69.flat)
    refine aC (α:=Vc) g65 (is 10) (is 10) (10,0) rfl [c70] dU aZ (by decide) (by decide) (vs:=[(0,v67)]) rfl rfl (.cons (gB hv71 (bN o69.flat)) .nil) ?_
    intro g72 w73 v74 ch75 o76
    refine lo ?_
    have C77:=cg [8] (ch58.n.seq ((ch63.l rfl).seq (ch68.n.seq ch75.n)))
    replace o_l:=o_l.ca C77
    replace o69:=o69.cn ch75
    refine dH hv71 (α:=Int) (xss:=l) (i:=11) (γ:=g72) dU aZ rfl rfl rfl o_l (o76.flat) o69 rfl (by decide) (by omega) ?_
    intro g78 w79 v80 ch81 o82 r83
    clear o_l o69
    refine ma v80 (ad (aM rfl ?_))
    clear o76 r83
    refine a8 rfl (lx (aJ (m:=↑e) (n:=1) zs69 rfl (by omega)) (mi ((e:Int)+1) (ad ?_)))
    have C84:=cg [8,9,11] (ch58.n.seq ((ch63.l rfl).seq (ch68.n.seq (ch75.n.seq (ch81.lx rfl rfl)))))
    refine back12 (v80,(l++[[(e:Int)]]),e+1,mp,g78) _ _ ⟨bH.ca C84,zs1,zs2,zs10,rfl,zs14,zs67,zs68,rfl,Rg.ca C84,o46.ca C84,m53.ca C84,o82,by omega,?_⟩ ?_
    · show i6 (aH (g.1,ie)).1 g u v (e+1) (l++[[(e:Int)]]) mp
      exact hcl.alone' (by exact j2 _ (.inl ‹_›)) (by omega)
    · show Int.toNat (((g.2.length:Int):Int)-((e+1):Int))<Int.toNat (((g.2.length:Int):Int)-(e:Int))
      omega
   refine lv (vi ((gI g.2 ↑e).2)) (wy (df q91)) (av rfl) (lv (vi u) (wy (df q91)) (av zs1) (lv (vb (decide (((gI g.2 ↑e).2)=u))) (wy (df q91)) (cK (m:=(gI g.2 ↑e).2) (n:=u) rfl rfl) (lw (vb (decide (((gI g.2 ↑e).2)=u))) (aS rfl (df q91) rfl) (mv (vb (decide (((gI g.2 ↑e).2)=u))) ?_))))
   by_cases q96:((gI g.2 ↑e).2)=u
   ·
    refine az (wn (dt q96)) (az (wn (dt q96)) (az (wn (dt q96)) (lw (vb true) (aV rfl (dt q96) rfl) (ad (aj rfl rfl (aa ?_))))))
    clear bx64
    refine a8 rfl (mz zs13 (mi ↑e (lo (aC (α:=Int) g60 (is 9) (is 9) (9,0) rfl [(e:Int)] bD ak (by decide) (by decide) (vs:=[(0,vi ↑e)]) rfl rfl (.cons rfl .nil) ?_))))
    intro g85 w86 v87 ch88 o89
    refine lo ?_
    obtain⟨c90,hv91⟩:=iY (u:=v87) (bm o89.flat)
    refine aC (α:=Vc) g85 (is 10) (is 10) (10,0) rfl [c90] dU aZ (by decide) (by decide) (vs:=[(0,v87)]) rfl rfl (.cons (gB hv91 (bN o89.flat)) .nil) ?_
    intro g92 w93 v94 ch95 o96
    refine lo ?_
    have C97:=cg [8] (ch58.n.seq ((ch63.l rfl).seq (ch88.n.seq ch95.n)))
    replace o_l:=o_l.ca C97
    replace o89:=o89.cn ch95
    refine dH hv91 (α:=Int) (xss:=l) (i:=11) (γ:=g92) dU aZ rfl rfl rfl o_l (o96.flat) o89 rfl (by decide) (by omega) ?_
    intro g98 w99 v100 ch101 o102 r103
    clear o_l o89
    refine ma v100 (ad (aM rfl ?_))
    clear o96 r103
    refine a8 rfl (lx (aJ (m:=↑e) (n:=1) zs69 rfl (by omega)) (mi ((e:Int)+1) (ad ?_)))
    have C104:=cg [8,9,11] (ch58.n.seq ((ch63.l rfl).seq (ch88.n.seq (ch95.n.seq (ch101.lx rfl rfl)))))
    refine back12 (v100,(l++[[(e:Int)]]),e+1,mp,g98) _ _ ⟨bH.ca C104,zs1,zs2,zs10,rfl,zs14,zs67,zs68,rfl,Rg.ca C104,o46.ca C104,m53.ca C104,o102,by omega,?_⟩ ?_
    · show i6 (aH (g.1,ie)).1 g u v (e+1) (l++[[(e:Int)]]) mp
      exact hcl.alone' (by exact j2 _ (.inl ‹_›)) (by omega)
    · show Int.toNat (((g.2.length:Int):Int)-((e+1):Int))<Int.toNat (((g.2.length:Int):Int)-(e:Int))
      omega
   refine lv (vi ((gI g.2 ↑e).2)) (wy (df q96)) (av rfl) (lv (vi v) (wy (df q96)) (av zs2) (lv (vb (decide (((gI g.2 ↑e).2)=v))) (wy (df q96)) (cK (m:=(gI g.2 ↑e).2) (n:=v) rfl rfl) (lw (vb (decide (((gI g.2 ↑e).2)=v))) (aS rfl (df q96) rfl) (ad ?_))))
   by_cases p17:((gI g.2 ↑e).2)=v
   ·
    refine aj rfl (dt p17) (aa ?_)
    clear bx64
    refine a8 rfl (mz zs13 (mi ↑e (lo (aC (α:=Int) g60 (is 9) (is 9) (9,0) rfl [(e:Int)] bD ak (by decide) (by decide) (vs:=[(0,vi ↑e)]) rfl rfl (.cons rfl .nil) ?_))))
    intro g105 w106 v107 ch108 o109
    refine lo ?_
    obtain⟨c110,hv111⟩:=iY (u:=v107) (bm o109.flat)
    refine aC (α:=Vc) g105 (is 10) (is 10) (10,0) rfl [c110] dU aZ (by decide) (by decide) (vs:=[(0,v107)]) rfl rfl (.cons (gB hv111 (bN o109.flat)) .nil) ?_
    intro g112 w113 v114 ch115 o116
    refine lo ?_
    have C117:=cg [8] (ch58.n.seq ((ch63.l rfl).seq (ch108.n.seq ch115.n)))
    replace o_l:=o_l.ca C117
    replace o109:=o109.cn ch115
    refine dH hv111 (α:=Int) (xss:=l) (i:=11) (γ:=g112) dU aZ rfl rfl rfl o_l (o116.flat) o109 rfl (by decide) (by omega) ?_
    intro g118 w119 v120 ch121 o122 r123
    clear o_l o109
    refine ma v120 (ad (aM rfl ?_))
    clear o116 r123
    refine a8 rfl (lx (aJ (m:=↑e) (n:=1) zs69 rfl (by omega)) (mi ((e:Int)+1) (ad ?_)))
    have C124:=cg [8,9,11] (ch58.n.seq ((ch63.l rfl).seq (ch108.n.seq (ch115.n.seq (ch121.lx rfl rfl)))))
    refine back12 (v120,(l++[[(e:Int)]]),e+1,mp,g118) _ _ ⟨bH.ca C124,zs1,zs2,zs10,rfl,zs14,zs67,zs68,rfl,Rg.ca C124,o46.ca C124,m53.ca C124,o122,by omega,?_⟩ ?_
    · show i6 (aH (g.1,ie)).1 g u v (e+1) (l++[[(e:Int)]]) mp
      exact hcl.alone' (by exact j2 _ (.inl ‹_›)) (by omega)
    · show Int.toNat (((g.2.length:Int):Int)-((e+1):Int))<Int.toNat (((g.2.length:Int):Int)-(e:Int))
      omega
   refine ah rfl (df p17) (ap (aa ?_))
   clear bx64
   refine a8 rfl (mz zs14 (mz zs10 (mi ((gI g.2 ↑e).2) ?_)))
   replace o46:=(o46.cn ch58).ce ch63
   refine lx (ag (v:=v45) (i:=(gI g.2 ↑e).2) bD rfl rfl o46.flat rfl (by omega) (by omega)) (lx (aw (v:=v45) (i:=(gI g.2 ↑e).2) ak rfl o46.flat (by omega) (by omega) (by decide) rfl) ?_)
   replace m53:=(m53.cn ch58).ce ch63
   refine lw (vt [vi (mp.1 (gI ((aH (g.1,ie)).1) ((gI g.2 ↑e).2))),vb (decide ((gI ((aH (g.1,ie)).1) ((gI g.2 ↑e).2))∈mp.2))]) (gv (gI ((aH (g.1,ie)).1) ((gI g.2 ↑e).2)) t8 (dS U3) ak rfl m53 rfl rfl) (mv (vt [vi (mp.1 (gI ((aH (g.1,ie)).1) ((gI g.2 ↑e).2))),vb (decide ((gI ((aH (g.1,ie)).1) ((gI g.2 ↑e).2))∈mp.2))]) (lx (aG rfl rfl) (lx (aG rfl rfl) (ai (mp.1 (gI ((aH (g.1,ie)).1) ((gI g.2 ↑e).2))) (ma (vb (decide ((gI ((aH (g.1,ie)).1) ((gI g.2 ↑e).2))∈mp.2))) (ad (aa (aa (a8 rfl (mv (vb (decide ((gI ((aH (g.1,ie)).1) ((gI g.2 ↑e).2))∈mp.2))) ?_))))))))))
   refine lx (eF (b:=decide ((gI ((aH (g.1,ie)).1) ((gI g.2 ↑e).2))∈mp.2)) rfl) (ad ?_)
   by_cases p20:(gI ((aH (g.1,ie)).1) ((gI g.2 ↑e).2))∈mp.2
   ·
    have hrk:=hcl.rg _ ‹_›
    have hrl:=hcl.sm _ (bv (xs:=l) hrk.1 hrk.2)
    obtain⟨hrk0,hrk1⟩:=hrk
    refine ah rfl (congrArg Bool.not (dt p20)) (ap (a8 rfl (mz zs13 (mi (mp.1 (gI ((aH (g.1,ie)).1) ((gI g.2 ↑e).2))) (mz zs13 (mi (mp.1 (gI ((aH (g.1,ie)).1) ((gI g.2 ↑e).2))) ?_))))))
    replace o_l:=(o_l.cn ch58).ce ch63
    refine lx (ag (v:=l_v) (i:=mp.1 (gI ((aH (g.1,ie)).1) ((gI g.2 ↑e).2))) dU rfl rfl o_l.sl rfl (by omega) (by omega)) ?_
    obtain⟨v125,cel126,r127⟩:=c8 (r:=mp.1 (gI ((aH (g.1,ie)).1) ((gI g.2 ↑e).2))) o_l (by omega) (by omega)
    refine lx (bU aZ rfl cel126) (mi ↑e (lo (aC (α:=Int) g60 (is 12) (is 12) (12,0) rfl [(e:Int)] bD ak (by decide) (by decide) (vs:=[(0,vi ↑e)]) rfl rfl (.cons rfl .nil) ?_)))
    intro g128 w129 v130 ch131 o132
    refine lo ?_
    replace o_l:=o_l.cn ch131
    replace r127:=r127.cn ch131
    refine br (α:=Int) (xs:=(gI l (mp.1 (gI ((aH (g.1,ie)).1) ((gI g.2 ↑e).2))))) (ys:=([(e:Int)])) g128 (J:=row 11 (Int.toNat (mp.1 (gI ((aH (g.1,ie)).1) ((gI g.2 ↑e).2)))+1)) (S:=row 11 (Int.toNat (mp.1 (gI ((aH (g.1,ie)).1) ((gI g.2 ↑e).2)))+1)) (11,Int.toNat (mp.1 (gI ((aH (g.1,ie)).1) ((gI g.2 ↑e).2)))+1) rfl bD ak (by decide) rfl rfl rfl r127 o132.flat (by decide) (by(simp only[List.length_cons,List.length_nil];omega)) ?_
    intro g133 w134 v135 ch136 o137
    have o138:=o_l.rowchg ch136
    clear o_l cel126 r127
    obtain⟨us139,hl140,r141⟩:=o138.vc
    try simp only[List.length_set,List.length_append,List.length_cons,List.length_nil] at hl140
    refine lx (ag (v:=l_v) (i:=mp.1 (gI ((aH (g.1,ie)).1) ((gI g.2 ↑e).2))) dU rfl rfl r141 rfl (by omega) (by omega)) (lo (bX (r:=mp.1 (gI ((aH (g.1,ie)).1) ((gI g.2 ↑e).2))) aZ rfl rfl o138 o137 (by omega) (by omega) ?_))
    intro w145 ch146 o147
    clear o138 o137
    refine ad (am ?_)
    clear o132
    refine a8 rfl (lx (aJ (m:=↑e) (n:=1) zs69 rfl (by omega)) (mi ((e:Int)+1) (ad ?_)))
    have C148:=cg [8,11] (ch58.n.seq ((ch63.l rfl).seq (ch131.n.seq ((ch136.lr rfl).seq (ch146.l rfl)))))
    have C149:=cg [11] (ch131.n.seq ((ch136.lr rfl).seq (ch146.l rfl)))
    refine back12 (l_v,(List.set l (Int.toNat (mp.1 (gI ((aH (g.1,ie)).1) ((gI g.2 ↑e).2)))) (gI l (mp.1 (gI ((aH (g.1,ie)).1) ((gI g.2 ↑e).2)))++[(e:Int)])),e+1,mp,g133) _ _ ⟨bH.ca C148,zs1,zs2,zs10,zs13,zs14,zs67,zs68,rfl,Rg.ca C148,o46.ca C149,m53.ca C149,o147,by omega,?_⟩ ?_
    · show i6 (aH (g.1,ie)).1 g u v (e+1) (List.set l (Int.toNat (mp.1 (gI ((aH (g.1,ie)).1) ((gI g.2 ↑e).2)))) (gI l (mp.1 (gI ((aH (g.1,ie)).1) ((gI g.2 ↑e).2)))++[(e:Int)])) mp
      exact hcl.old' (by exact j2 _ (.inl ‹_›)) (by omega) ‹_› rfl
    · show Int.toNat (((g.2.length:Int):Int)-((e+1):Int))<Int.toNat (((g.2.length:Int):Int)-(e:Int))
      omega
   have hnl:((gI (l++[[]]) (l.length:Int)).length:Int)=0:=by simp[gI]
   have hnl2:(((l++[[]]:iN).length:Nat):Int)=(l.length:Int)+1:=by simp
   refine aj rfl (congrArg Bool.not (df p20)) (aa (a8 rfl (mz zs13 ?_)))
   replace o_l:=(o_l.cn ch58).ce ch63
   have len150:=(o_l.sl).small
   refine lx (bJ dU rfl o_l.sl) (ai (l.length:Int) (ad (aa (a8 rfl (mz zs14 (mz zs10 (mi ((gI g.2 ↑e).2) (lx (ag (v:=v45) (i:=(gI g.2 ↑e).2) bD rfl rfl o46.flat rfl (by omega) (by omega)) (lx (aw (v:=v45) (i:=(gI g.2 ↑e).2) ak rfl o46.flat (by omega) (by omega) (by decide) rfl) (mi (l.length:Int) (lo ?_)))))))))))
   refine fS (m:=(l.length:Int)) (gI ((aH (g.1,ie)).1) ((gI g.2 ↑e).2)) t8 (dS U3) rfl m53 rfl rfl rfl ?_
   intro w151 ch152 m153
   clear m53
   refine ad (a8 rfl (mz zs13 (lo ?_)))
   obtain⟨c154,hv155⟩:=iY (u:=vn) rfl
   refine aC (α:=Vc) g60 (is 14) (is 14) (14,0) rfl [c154] dU aZ (by decide) (by decide) (vs:=[(0,vn)]) rfl rfl (.cons (gB hv155 rfl) .nil) ?_
   intro g156 w157 v158 ch159 o160
   refine lo ?_
   replace o_l:=(o_l.ce ch152).cn ch159
   refine fL hv155 (α:=Int) (xss:=l) (i:=11) (γ:=g156) dU aZ rfl rfl rfl o_l (o160.flat) (by decide) (by omega) ?_
   intro g161 w162 v163 ch164 o165
   clear o_l
   refine ma v163 (ad ?_)
   clear o160
   refine a8 rfl (mv v163 (mi (l.length:Int) (mv v163 (mi (l.length:Int) (lx (ag (v:=v163) (i:=(l.length:Int)) dU rfl rfl o165.sl rfl (by omega) (by omega)) ?_)))))
   obtain⟨v166,cel167,r168⟩:=c8 (r:=(l.length:Int)) o165 (by omega) (by omega)
   refine lx (bU aZ rfl cel167) (mi ↑e (lo (aC (α:=Int) g161 (is 12) (is 12) (12,0) rfl [(e:Int)] bD ak (by decide) (by decide) (vs:=[(0,vi ↑e)]) rfl rfl (.cons rfl .nil) ?_)))
   intro g169 w170 v171 ch172 o173
   refine lo ?_
   replace o165:=o165.cn ch172
   replace r168:=r168.cn ch172
   refine br (α:=Int) (xs:=(gI (l++[[]]) (l.length:Int))) (ys:=([(e:Int)])) g169 (J:=row 11 (Int.toNat (l.length:Int)+1)) (S:=row 11 (Int.toNat (l.length:Int)+1)) (11,Int.toNat (l.length:Int)+1) rfl bD ak (by decide) rfl rfl rfl r168 o173.flat (by decide) (by(simp only[List.length_cons,List.length_nil];omega)) ?_
   intro g174 w175 v176 ch177 o178
   have o179:=o165.rowchg ch177
   clear o165 cel167 r168
   obtain⟨us180,hl181,r182⟩:=o179.vc
   try simp only[List.length_set,List.length_append,List.length_cons,List.length_nil] at hl181
   refine lx (ag (v:=v163) (i:=(l.length:Int)) dU rfl rfl r182 rfl (by omega) (by omega)) (lo (bX (r:=(l.length:Int)) aZ rfl rfl o179 o178 (by omega) (by omega) ?_))
   intro w186 ch187 o188
   clear o179 o178
   refine ad (am ?_)
   clear o173
   refine a8 rfl (lx (aJ (m:=↑e) (n:=1) zs69 rfl (by omega)) (mi ((e:Int)+1) (ad ?_)))
   have C189:=cg [7,8,11] (ch58.n.seq ((ch63.l rfl).seq ((ch152.l rfl).seq (ch159.n.seq ((ch164.l rfl).seq (ch172.n.seq ((ch177.lr rfl).seq (ch187.l rfl))))))))
   have C190:=cg [7,11] ((ch152.l rfl).seq (ch159.n.seq ((ch164.l rfl).seq (ch172.n.seq ((ch177.lr rfl).seq (ch187.l rfl))))))
   have C191:=cg [11] (ch159.n.seq ((ch164.l rfl).seq (ch172.n.seq ((ch177.lr rfl).seq (ch187.l rfl)))))
   refine back12 (v163,(List.set (l++[[]]) (Int.toNat (l.length:Int)) (gI (l++[[]]) (l.length:Int)++[(e:Int)])),e+1,((λq=>if q=(gI ((aH (g.1,ie)).1) ((gI g.2 ↑e).2)) then(l.length:Int) else mp.1 q),if(gI ((aH (g.1,ie)).1) ((gI g.2 ↑e).2))∈mp.2 then mp.2 else mp.2++[(gI ((aH (g.1,ie)).1) ((gI g.2 ↑e).2))]),g174) _ _ ⟨bH.ca C189,zs1,zs2,zs10,rfl,zs14,zs67,zs68,rfl,Rg.ca C189,o46.ca C190,m153.ca C191,o188,by omega,?_⟩ ?_
   · show i6 (aH (g.1,ie)).1 g u v (e+1) (List.set (l++[[]]) (Int.toNat (l.length:Int)) (gI (l++[[]]) (l.length:Int)++[(e:Int)])) ((λq=>if q=(gI ((aH (g.1,ie)).1) ((gI g.2 ↑e).2)) then(l.length:Int) else mp.1 q),if(gI ((aH (g.1,ie)).1) ((gI g.2 ↑e).2))∈mp.2 then mp.2 else mp.2++[(gI ((aH (g.1,ie)).1) ((gI g.2 ↑e).2))])
     exact hcl.new' (by exact j2 _ (.inl ‹_›)) (by omega) ‹_› rfl rfl
   · show Int.toNat (((g.2.length:Int):Int)-((e+1):Int))<Int.toNat (((g.2.length:Int):Int)-(e:Int))
     omega
  refine lv (vi ((gI g.2 ↑e).1)) (wy (df q79)) (av rfl) (lv (vi v) (wy (df q79)) (av zs2) (lv (vb (decide (((gI g.2 ↑e).1)=v))) (wy (df q79)) (cK (m:=(gI g.2 ↑e).1) (n:=v) rfl rfl) (lw (vb (decide (((gI g.2 ↑e).1)=v))) (aS rfl (df q79) rfl) (ad ?_))))
  by_cases p15:((gI g.2 ↑e).1)=v
  ·
   refine aj rfl (dt p15) (a8 rfl (lx (aA da rfl rfl rfl (by decide) (by decide) rfl) (lx (ae ak rfl bx64 rfl) (ai ((gI g.2 ↑e).2) (ad (aa (aa (a8 rfl (lx (aA da rfl rfl rfl (by decide) (by decide) rfl) (lx (ae ak rfl bx64 rfl) (lx (aA da rfl rfl rfl (by decide) (by decide) rfl) (lx (ae ak rfl bx64 rfl) ?_))))))))))))
   refine lx (cK (m:=(gI g.2 ↑e).1) (n:=(gI g.2 ↑e).2) rfl rfl) (mv (vb (decide (((gI g.2 ↑e).1)=((gI g.2 ↑e).2)))) ?_)
   by_cases q91:((gI g.2 ↑e).1)=((gI g.2 ↑e).2)
   ·
    refine az (wn (dt q91)) (az (wn (dt q91)) (az (wn (dt q91)) (lw (vb true) (aV rfl (dt q91) rfl) (mv (vb true) (az (wn rfl) (az (wn rfl) (az (wn rfl) (lw (vb true) (aV rfl rfl rfl) (ad (aj rfl rfl (aa ?_)))))))))))
    clear bx64
    refine a8 rfl (mz zs13 (mi ↑e (lo (aC (α:=Int) g60 (is 9) (is 9) (9,0) rfl [(e:Int)] bD ak (by decide) (by decide) (vs:=[(0,vi ↑e)]) rfl rfl (.cons rfl .nil) ?_))))
    intro g192 w193 v194 ch195 o196
    refine lo ?_
    obtain⟨c197,hv198⟩:=iY (u:=v194) (bm o196.flat)
    refine aC (α:=Vc) g192 (is 10) (is 10) (10,0) rfl [c197] dU aZ (by decide) (by decide) (vs:=[(0,v194)]) rfl rfl (.cons (gB hv198 (bN o196.flat)) .nil) ?_
    intro g199 w200 v201 ch202 o203
    refine lo ?_
    have C204:=cg [8] (ch58.n.seq ((ch63.l rfl).seq (ch195.n.seq ch202.n)))
    replace o_l:=o_l.ca C204
    replace o196:=o196.cn ch202
    refine dH hv198 (α:=Int) (xss:=l) (i:=11) (γ:=g199) dU aZ rfl rfl rfl o_l (o203.flat) o196 rfl (by decide) (by omega) ?_
    intro g205 w206 v207 ch208 o209 r210
    clear o_l o196
    refine ma v207 (ad (aM rfl ?_))
    clear o203 r210
    refine a8 rfl (lx (aJ (m:=↑e) (n:=1) zs69 rfl (by omega)) (mi ((e:Int)+1) (ad ?_)))
    have C211:=cg [8,9,11] (ch58.n.seq ((ch63.l rfl).seq (ch195.n.seq (ch202.n.seq (ch208.lx rfl rfl)))))
    refine back12 (v207,(l++[[(e:Int)]]),e+1,mp,g205) _ _ ⟨bH.ca C211,zs1,zs2,zs10,rfl,zs14,zs67,zs68,rfl,Rg.ca C211,o46.ca C211,m53.ca C211,o209,by omega,?_⟩ ?_
    · show i6 (aH (g.1,ie)).1 g u v (e+1) (l++[[(e:Int)]]) mp
      exact hcl.alone' (by exact j2 _ (.inr ‹_›)) (by omega)
    · show Int.toNat (((g.2.length:Int):Int)-((e+1):Int))<Int.toNat (((g.2.length:Int):Int)-(e:Int))
      omega
   refine lv (vi ((gI g.2 ↑e).2)) (wy (df q91)) (av rfl) (lv (vi u) (wy (df q91)) (av zs1) (lv (vb (decide (((gI g.2 ↑e).2)=u))) (wy (df q91)) (cK (m:=(gI g.2 ↑e).2) (n:=u) rfl rfl) (lw (vb (decide (((gI g.2 ↑e).2)=u))) (aS rfl (df q91) rfl) (mv (vb (decide (((gI g.2 ↑e).2)=u))) ?_))))
   by_cases q96:((gI g.2 ↑e).2)=u
   ·
    refine az (wn (dt q96)) (az (wn (dt q96)) (az (wn (dt q96)) (lw (vb true) (aV rfl (dt q96) rfl) (ad (aj rfl rfl (aa ?_))))))
    clear bx64
    refine a8 rfl (mz zs13 (mi ↑e (lo (aC (α:=Int) g60 (is 9) (is 9) (9,0) rfl [(e:Int)] bD ak (by decide) (by decide) (vs:=[(0,vi ↑e)]) rfl rfl (.cons rfl .nil) ?_))))
    intro g212 w213 v214 ch215 o216
    refine lo ?_
    obtain⟨c217,hv218⟩:=iY (u:=v214) (bm o216.flat)
    refine aC (α:=Vc) g212 (is 10) (is 10) (10,0) rfl [c217] dU aZ (by decide) (by decide) (vs:=[(0,v214)]) rfl rfl (.cons (gB hv218 (bN o216.flat)) .nil) ?_
    intro g219 w220 v221 ch222 o223
    refine lo ?_
    have C224:=cg [8] (ch58.n.seq ((ch63.l rfl).seq (ch215.n.seq ch222.n)))
    replace o_l:=o_l.ca C224
    replace o216:=o216.cn ch222
    refine dH hv218 (α:=Int) (xss:=l) (i:=11) (γ:=g219) dU aZ rfl rfl rfl o_l (o223.flat) o216 rfl (by decide) (by omega) ?_
    intro g225 w226 v227 ch228 o229 r230
    clear o_l o216
    refine ma v227 (ad (aM rfl ?_))
    clear o223 r230
    refine a8 rfl (lx (aJ (m:=↑e) (n:=1) zs69 rfl (by omega)) (mi ((e:Int)+1) (ad ?_)))
    have C231:=cg [8,9,11] (ch58.n.seq ((ch63.l rfl).seq (ch215.n.seq (ch222.n.seq (ch228.lx rfl rfl)))))
    refine back12 (v227,(l++[[(e:Int)]]),e+1,mp,g225) _ _ ⟨bH.ca C231,zs1,zs2,zs10,rfl,zs14,zs67,zs68,rfl,Rg.ca C231,o46.ca C231,m53.ca C231,o229,by omega,?_⟩ ?_
    · show i6 (aH (g.1,ie)).1 g u v (e+1) (l++[[(e:Int)]]) mp
      exact hcl.alone' (by exact j2 _ (.inr ‹_›)) (by omega)
    · show Int.toNat (((g.2.length:Int):Int)-((e+1):Int))<Int.toNat (((g.2.length:Int):Int)-(e:Int))
      omega
   refine lv (vi ((gI g.2 ↑e).2)) (wy (df q96)) (av rfl) (lv (vi v) (wy (df q96)) (av zs2) (lv (vb (decide (((gI g.2 ↑e).2)=v))) (wy (df q96)) (cK (m:=(gI g.2 ↑e).2) (n:=v) rfl rfl) (lw (vb (decide (((gI g.2 ↑e).2)=v))) (aS rfl (df q96) rfl) (ad ?_))))
   by_cases p17:((gI g.2 ↑e).2)=v
   ·
    refine aj rfl (dt p17) (aa ?_)
    clear bx64
    refine a8 rfl (mz zs13 (mi ↑e (lo (aC (α:=Int) g60 (is 9) (is 9) (9,0) rfl [(e:Int)] bD ak (by decide) (by decide) (vs:=[(0,vi ↑e)]) rfl rfl (.cons rfl .nil) ?_))))
    intro g232 w233 v234 ch235 o236
    refine lo ?_
    obtain⟨c237,hv238⟩:=iY (u:=v234) (bm o236.flat)
    refine aC (α:=Vc) g232 (is 10) (is 10) (10,0) rfl [c237] dU aZ (by decide) (by decide) (vs:=[(0,v234)]) rfl rfl (.cons (gB hv238 (bN o236.flat)) .nil) ?_
    intro g239 w240 v241 ch242 o243
    refine lo ?_
    have C244:=cg [8] (ch58.n.seq ((ch63.l rfl).seq (ch235.n.seq ch242.n)))
    replace o_l:=o_l.ca C244
    replace o236:=o236.cn ch242
    refine dH hv238 (α:=Int) (xss:=l) (i:=11) (γ:=g239) dU aZ rfl rfl rfl o_l (o243.flat) o236 rfl (by decide) (by omega) ?_
    intro g245 w246 v247 ch248 o249 r250
    clear o_l o236
    refine ma v247 (ad (aM rfl ?_))
    clear o243 r250
    refine a8 rfl (lx (aJ (m:=↑e) (n:=1) zs69 rfl (by omega)) (mi ((e:Int)+1) (ad ?_)))
    have C251:=cg [8,9,11] (ch58.n.seq ((ch63.l rfl).seq (ch235.n.seq (ch242.n.seq (ch248.lx rfl rfl)))))
    refine back12 (v247,(l++[[(e:Int)]]),e+1,mp,g245) _ _ ⟨bH.ca C251,zs1,zs2,zs10,rfl,zs14,zs67,zs68,rfl,Rg.ca C251,o46.ca C251,m53.ca C251,o249,by omega,?_⟩ ?_
    · show i6 (aH (g.1,ie)).1 g u v (e+1) (l++[[(e:Int)]]) mp
      exact hcl.alone' (by exact j2 _ (.inr ‹_›)) (by omega)
    · show Int.toNat (((g.2.length:Int):Int)-((e+1):Int))<Int.toNat (((g.2.length:Int):Int)-(e:Int))
      omega
   refine ah rfl (df p17) (ap (aa ?_))
   clear bx64
   refine a8 rfl (mz zs14 (mz zs10 (mi ((gI g.2 ↑e).2) ?_)))
   replace o46:=(o46.cn ch58).ce ch63
   refine lx (ag (v:=v45) (i:=(gI g.2 ↑e).2) bD rfl rfl o46.flat rfl (by omega) (by omega)) (lx (aw (v:=v45) (i:=(gI g.2 ↑e).2) ak rfl o46.flat (by omega) (by omega) (by decide) rfl) ?_)
   replace m53:=(m53.cn ch58).ce ch63
   refine lw (vt [vi (mp.1 (gI ((aH (g.1,ie)).1) ((gI g.2 ↑e).2))),vb (decide ((gI ((aH (g.1,ie)).1) ((gI g.2 ↑e).2))∈mp.2))]) (gv (gI ((aH (g.1,ie)).1) ((gI g.2 ↑e).2)) t8 (dS U3) ak rfl m53 rfl rfl) (mv (vt [vi (mp.1 (gI ((aH (g.1,ie)).1) ((gI g.2 ↑e).2))),vb (decide ((gI ((aH (g.1,ie)).1) ((gI g.2 ↑e).2))∈mp.2))]) (lx (aG rfl rfl) (lx (aG rfl rfl) (ai (mp.1 (gI ((aH (g.1,ie)).1) ((gI g.2 ↑e).2))) (ma (vb (decide ((gI ((aH (g.1,ie)).1) ((gI g.2 ↑e).2))∈mp.2))) (ad (aa (aa (a8 rfl (mv (vb (decide ((gI ((aH (g.1,ie)).1) ((gI g.2 ↑e).2))∈mp.2))) ?_))))))))))
   refine lx (eF (b:=decide ((gI ((aH (g.1,ie)).1) ((gI g.2 ↑e).2))∈mp.2)) rfl) (ad ?_)
   by_cases p20:(gI ((aH (g.1,ie)).1) ((gI g.2 ↑e).2))∈mp.2
   ·
    have hrk:=hcl.rg _ ‹_›
    have hrl:=hcl.sm _ (bv (xs:=l) hrk.1 hrk.2)
    obtain⟨hrk0,hrk1⟩:=hrk
    refine ah rfl (congrArg Bool.not (dt p20)) (ap (a8 rfl (mz zs13 (mi (mp.1 (gI ((aH (g.1,ie)).1) ((gI g.2 ↑e).2))) (mz zs13 (mi (mp.1 (gI ((aH (g.1,ie)).1) ((gI g.2 ↑e).2))) ?_))))))
    replace o_l:=(o_l.cn ch58).ce ch63
    refine lx (ag (v:=l_v) (i:=mp.1 (gI ((aH (g.1,ie)).1) ((gI g.2 ↑e).2))) dU rfl rfl o_l.sl rfl (by omega) (by omega)) ?_
    obtain⟨v252,cel253,r254⟩:=c8 (r:=mp.1 (gI ((aH (g.1,ie)).1) ((gI g.2 ↑e).2))) o_l (by omega) (by omega)
    refine lx (bU aZ rfl cel253) (mi ↑e (lo (aC (α:=Int) g60 (is 12) (is 12) (12,0) rfl [(e:Int)] bD ak (by decide) (by decide) (vs:=[(0,vi ↑e)]) rfl rfl (.cons rfl .nil) ?_)))
    intro g255 w256 v257 ch258 o259
    refine lo ?_
    replace o_l:=o_l.cn ch258
    replace r254:=r254.cn ch258
    refine br (α:=Int) (xs:=(gI l (mp.1 (gI ((aH (g.1,ie)).1) ((gI g.2 ↑e).2))))) (ys:=([(e:Int)])) g255 (J:=row 11 (Int.toNat (mp.1 (gI ((aH (g.1,ie)).1) ((gI g.2 ↑e).2)))+1)) (S:=row 11 (Int.toNat (mp.1 (gI ((aH (g.1,ie)).1) ((gI g.2 ↑e).2)))+1)) (11,Int.toNat (mp.1 (gI ((aH (g.1,ie)).1) ((gI g.2 ↑e).2)))+1) rfl bD ak (by decide) rfl rfl rfl r254 o259.flat (by decide) (by(simp only[List.length_cons,List.length_nil];omega)) ?_
    intro g260 w261 v262 ch263 o264
    have o265:=o_l.rowchg ch263
    clear o_l cel253 r254
    obtain⟨us266,hl267,r268⟩:=o265.vc
    try simp only[List.length_set,List.length_append,List.length_cons,List.length_nil] at hl267
    refine lx (ag (v:=l_v) (i:=mp.1 (gI ((aH (g.1,ie)).1) ((gI g.2 ↑e).2))) dU rfl rfl r268 rfl (by omega) (by omega)) (lo (bX (r:=mp.1 (gI ((aH (g.1,ie)).1) ((gI g.2 ↑e).2))) aZ rfl rfl o265 o264 (by omega) (by omega) ?_))
    intro w272 ch273 o274
    clear o265 o264
    refine ad (am ?_)
    clear o259
    refine a8 rfl (lx (aJ (m:=↑e) (n:=1) zs69 rfl (by omega)) (mi ((e:Int)+1) (ad ?_)))
    have C275:=cg [8,11] (ch58.n.seq ((ch63.l rfl).seq (ch258.n.seq ((ch263.lr rfl).seq (ch273.l rfl)))))
    have C276:=cg [11] (ch258.n.seq ((ch263.lr rfl).seq (ch273.l rfl)))
    refine back12 (l_v,(List.set l (Int.toNat (mp.1 (gI ((aH (g.1,ie)).1) ((gI g.2 ↑e).2)))) (gI l (mp.1 (gI ((aH (g.1,ie)).1) ((gI g.2 ↑e).2)))++[(e:Int)])),e+1,mp,g260) _ _ ⟨bH.ca C275,zs1,zs2,zs10,zs13,zs14,zs67,zs68,rfl,Rg.ca C275,o46.ca C276,m53.ca C276,o274,by omega,?_⟩ ?_
    · show i6 (aH (g.1,ie)).1 g u v (e+1) (List.set l (Int.toNat (mp.1 (gI ((aH (g.1,ie)).1) ((gI g.2 ↑e).2)))) (gI l (mp.1 (gI ((aH (g.1,ie)).1) ((gI g.2 ↑e).2)))++[(e:Int)])) mp
      exact hcl.old' (by exact j2 _ (.inr ‹_›)) (by omega) ‹_› rfl
    · show Int.toNat (((g.2.length:Int):Int)-((e+1):Int))<Int.toNat (((g.2.length:Int):Int)-(e:Int))
      omega
   have hnl:((gI (l++[[]]) (l.length:Int)).length:Int)=0:=by simp[gI]
   have hnl2:(((l++[[]]:iN).length:Nat):Int)=(l.length:Int)+1:=by simp
   refine aj rfl (congrArg Bool.not (df p20)) (aa (a8 rfl (mz zs13 ?_)))
   replace o_l:=(o_l.cn ch58).ce ch63
   have len277:=(o_l.sl).small
   refine lx (bJ dU rfl o_l.sl) (ai (l.length:Int) (ad (aa (a8 rfl (mz zs14 (mz zs10 (mi ((gI g.2 ↑e).2) (lx (ag (v:=v45) (i:=(gI g.2 ↑e).2) bD rfl rfl o46.flat rfl (by omega) (by omega)) (lx (aw (v:=v45) (i:=(gI g.2 ↑e).2) ak rfl o46.flat (by omega) (by omega) (by decide) rfl) (mi (l.length:Int) (lo ?_)))))))))))
   refine fS (m:=(l.length:Int)) (gI ((aH (g.1,ie)).1) ((gI g.2 ↑e).2)) t8 (dS U3) rfl m53 rfl rfl rfl ?_
   intro w278 ch279 m280
   clear m53
   refine ad (a8 rfl (mz zs13 (lo ?_)))
   obtain⟨c281,hv282⟩:=iY (u:=vn) rfl
   refine aC (α:=Vc) g60 (is 14) (is 14) (14,0) rfl [c281] dU aZ (by decide) (by decide) (vs:=[(0,vn)]) rfl rfl (.cons (gB hv282 rfl) .nil) ?_
   intro g283 w284 v285 ch286 o287
   refine lo ?_
   replace o_l:=(o_l.ce ch279).cn ch286
   refine fL hv282 (α:=Int) (xss:=l) (i:=11) (γ:=g283) dU aZ rfl rfl rfl o_l (o287.flat) (by decide) (by omega) ?_
   intro g288 w289 v290 ch291 o292
   clear o_l
   refine ma v290 (ad ?_)
   clear o287
   refine a8 rfl (mv v290 (mi (l.length:Int) (mv v290 (mi (l.length:Int) (lx (ag (v:=v290) (i:=(l.length:Int)) dU rfl rfl o292.sl rfl (by omega) (by omega)) ?_)))))
   obtain⟨v293,cel294,r295⟩:=c8 (r:=(l.length:Int)) o292 (by omega) (by omega)
   refine lx (bU aZ rfl cel294) (mi ↑e (lo (aC (α:=Int) g288 (is 12) (is 12) (12,0) rfl [(e:Int)] bD ak (by decide) (by decide) (vs:=[(0,vi ↑e)]) rfl rfl (.cons rfl .nil) ?_)))
   intro g296 w297 v298 ch299 o300
   refine lo ?_
   replace o292:=o292.cn ch299
   replace r295:=r295.cn ch299
   refine br (α:=Int) (xs:=(gI (l++[[]]) (l.length:Int))) (ys:=([(e:Int)])) g296 (J:=row 11 (Int.toNat (l.length:Int)+1)) (S:=row 11 (Int.toNat (l.length:Int)+1)) (11,Int.toNat (l.length:Int)+1) rfl bD ak (by decide) rfl rfl rfl r295 o300.flat (by decide) (by(simp only[List.length_cons,List.length_nil];omega)) ?_
   intro g301 w302 v303 ch304 o305
   have o306:=o292.rowchg ch304
   clear o292 cel294 r295
   obtain⟨us307,hl308,r309⟩:=o306.vc
   try simp only[List.length_set,List.length_append,List.length_cons,List.length_nil] at hl308
   refine lx (ag (v:=v290) (i:=(l.length:Int)) dU rfl rfl r309 rfl (by omega) (by omega)) (lo (bX (r:=(l.length:Int)) aZ rfl rfl o306 o305 (by omega) (by omega) ?_))
   intro w313 ch314 o315
   clear o306 o305
   refine ad (am ?_)
   clear o300
   refine a8 rfl (lx (aJ (m:=↑e) (n:=1) zs69 rfl (by omega)) (mi ((e:Int)+1) (ad ?_)))
   have C316:=cg [7,8,11] (ch58.n.seq ((ch63.l rfl).seq ((ch279.l rfl).seq (ch286.n.seq ((ch291.l rfl).seq (ch299.n.seq ((ch304.lr rfl).seq (ch314.l rfl))))))))
   have C317:=cg [7,11] ((ch279.l rfl).seq (ch286.n.seq ((ch291.l rfl).seq (ch299.n.seq ((ch304.lr rfl).seq (ch314.l rfl))))))
   have C318:=cg [11] (ch286.n.seq ((ch291.l rfl).seq (ch299.n.seq ((ch304.lr rfl).seq (ch314.l rfl)))))
   refine back12 (v290,(List.set (l++[[]]) (Int.toNat (l.length:Int)) (gI (l++[[]]) (l.length:Int)++[(e:Int)])),e+1,((λq=>if q=(gI ((aH (g.1,ie)).1) ((gI g.2 ↑e).2)) then(l.length:Int) else mp.1 q),if(gI ((aH (g.1,ie)).1) ((gI g.2 ↑e).2))∈mp.2 then mp.2 else mp.2++[(gI ((aH (g.1,ie)).1) ((gI g.2 ↑e).2))]),g301) _ _ ⟨bH.ca C316,zs1,zs2,zs10,rfl,zs14,zs67,zs68,rfl,Rg.ca C316,o46.ca C317,m280.ca C318,o315,by omega,?_⟩ ?_
   · show i6 (aH (g.1,ie)).1 g u v (e+1) (List.set (l++[[]]) (Int.toNat (l.length:Int)) (gI (l++[[]]) (l.length:Int)++[(e:Int)])) ((λq=>if q=(gI ((aH (g.1,ie)).1) ((gI g.2 ↑e).2)) then(l.length:Int) else mp.1 q),if(gI ((aH (g.1,ie)).1) ((gI g.2 ↑e).2))∈mp.2 then mp.2 else mp.2++[(gI ((aH (g.1,ie)).1) ((gI g.2 ↑e).2))])
     exact hcl.new' (by exact j2 _ (.inr ‹_›)) (by omega) ‹_› rfl rfl
   · show Int.toNat (((g.2.length:Int):Int)-((e+1):Int))<Int.toNat (((g.2.length:Int):Int)-(e:Int))
     omega
  refine ah rfl (df p15) (ap (aa (aa (a8 rfl (lx (aA da rfl rfl rfl (by decide) (by decide) rfl) (lx (ae ak rfl bx64 rfl) (lx (aA da rfl rfl rfl (by decide) (by decide) rfl) (lx (ae ak rfl bx64 rfl) (lx (cK (m:=(gI g.2 ↑e).1) (n:=(gI g.2 ↑e).2) rfl rfl) (mv (vb (decide (((gI g.2 ↑e).1)=((gI g.2 ↑e).2)))) ?_))))))))))
  by_cases q91:((gI g.2 ↑e).1)=((gI g.2 ↑e).2)
  ·
   refine az (wn (dt q91)) (az (wn (dt q91)) (az (wn (dt q91)) (lw (vb true) (aV rfl (dt q91) rfl) (mv (vb true) (az (wn rfl) (az (wn rfl) (az (wn rfl) (lw (vb true) (aV rfl rfl rfl) (ad (aj rfl rfl (aa ?_)))))))))))
   clear bx64
   refine a8 rfl (mz zs13 (mi ↑e (lo (aC (α:=Int) g60 (is 9) (is 9) (9,0) rfl [(e:Int)] bD ak (by decide) (by decide) (vs:=[(0,vi ↑e)]) rfl rfl (.cons rfl .nil) ?_))))
   intro g319 w320 v321 ch322 o323
   refine lo ?_
   obtain⟨c324,hv325⟩:=iY (u:=v321) (bm o323.flat)
   refine aC (α:=Vc) g319 (is 10) (is 10) (10,0) rfl [c324] dU aZ (by decide) (by decide) (vs:=[(0,v321)]) rfl rfl (.cons (gB hv325 (bN o323.flat)) .nil) ?_
   intro g326 w327 v328 ch329 o330
   refine lo ?_
   have C331:=cg [8] (ch58.n.seq ((ch63.l rfl).seq (ch322.n.seq ch329.n)))
   replace o_l:=o_l.ca C331
   replace o323:=o323.cn ch329
   refine dH hv325 (α:=Int) (xss:=l) (i:=11) (γ:=g326) dU aZ rfl rfl rfl o_l (o330.flat) o323 rfl (by decide) (by omega) ?_
   intro g332 w333 v334 ch335 o336 r337
   clear o_l o323
   refine ma v334 (ad (aM rfl ?_))
   clear o330 r337
   refine a8 rfl (lx (aJ (m:=↑e) (n:=1) zs69 rfl (by omega)) (mi ((e:Int)+1) (ad ?_)))
   have C338:=cg [8,9,11] (ch58.n.seq ((ch63.l rfl).seq (ch322.n.seq (ch329.n.seq (ch335.lx rfl rfl)))))
   refine back12 (v334,(l++[[(e:Int)]]),e+1,mp,g332) _ _ ⟨bH.ca C338,zs1,zs2,zs10,rfl,zs14,zs67,zs68,rfl,Rg.ca C338,o46.ca C338,m53.ca C338,o336,by omega,?_⟩ ?_
   · show i6 (aH (g.1,ie)).1 g u v (e+1) (l++[[(e:Int)]]) mp
     exact hcl.alone' (by exact uc _ ‹_› ‹_›) (by omega)
   · show Int.toNat (((g.2.length:Int):Int)-((e+1):Int))<Int.toNat (((g.2.length:Int):Int)-(e:Int))
     omega
  refine lv (vi ((gI g.2 ↑e).1)) (wy (df q91)) (av rfl) (lv (vi u) (wy (df q91)) (av zs1) (lv (vb (decide (((gI g.2 ↑e).1)=u))) (wy (df q91)) (cK (m:=(gI g.2 ↑e).1) (n:=u) rfl rfl) (lw (vb (decide (((gI g.2 ↑e).1)=u))) (aS rfl (df q91) rfl) (mv (vb (decide (((gI g.2 ↑e).1)=u))) (lv (vi ((gI g.2 ↑e).1)) (wy (df q79)) (av rfl) (lv (vi v) (wy (df q79)) (av zs2) (lv (vb (decide (((gI g.2 ↑e).1)=v))) (wy (df q79)) (cK (m:=(gI g.2 ↑e).1) (n:=v) rfl rfl) ?_)))))))
  refine lw (vb (decide (((gI g.2 ↑e).1)=v))) (aS rfl (df q79) rfl) (ad (ah rfl (df p15) (ap (aa ?_))))
  clear bx64
  refine a8 rfl (mz zs14 (mz zs10 (mi ((gI g.2 ↑e).1) ?_)))
  replace o46:=(o46.cn ch58).ce ch63
  refine lx (ag (v:=v45) (i:=(gI g.2 ↑e).1) bD rfl rfl o46.flat rfl (by omega) (by omega)) (lx (aw (v:=v45) (i:=(gI g.2 ↑e).1) ak rfl o46.flat (by omega) (by omega) (by decide) rfl) ?_)
  replace m53:=(m53.cn ch58).ce ch63
  refine lw (vt [vi (mp.1 (gI ((aH (g.1,ie)).1) ((gI g.2 ↑e).1))),vb (decide ((gI ((aH (g.1,ie)).1) ((gI g.2 ↑e).1))∈mp.2))]) (gv (gI ((aH (g.1,ie)).1) ((gI g.2 ↑e).1)) t8 (dS U3) ak rfl m53 rfl rfl) (mv (vt [vi (mp.1 (gI ((aH (g.1,ie)).1) ((gI g.2 ↑e).1))),vb (decide ((gI ((aH (g.1,ie)).1) ((gI g.2 ↑e).1))∈mp.2))]) (lx (aG rfl rfl) (lx (aG rfl rfl) (ai (mp.1 (gI ((aH (g.1,ie)).1) ((gI g.2 ↑e).1))) (ma (vb (decide ((gI ((aH (g.1,ie)).1) ((gI g.2 ↑e).1))∈mp.2))) (ad (aa (aa (a8 rfl (mv (vb (decide ((gI ((aH (g.1,ie)).1) ((gI g.2 ↑e).1))∈mp.2))) ?_))))))))))
  refine lx (eF (b:=decide ((gI ((aH (g.1,ie)).1) ((gI g.2 ↑e).1))∈mp.2)) rfl) (ad ?_)
  by_cases p20:(gI ((aH (g.1,ie)).1) ((gI g.2 ↑e).1))∈mp.2
  ·
   have hrk:=hcl.rg _ ‹_›
   have hrl:=hcl.sm _ (bv (xs:=l) hrk.1 hrk.2)
   obtain⟨hrk0,hrk1⟩:=hrk
   refine ah rfl (congrArg Bool.not (dt p20)) (ap (a8 rfl (mz zs13 (mi (mp.1 (gI ((aH (g.1,ie)).1) ((gI g.2 ↑e).1))) (mz zs13 (mi (mp.1 (gI ((aH (g.1,ie)).1) ((gI g.2 ↑e).1))) ?_))))))
   replace o_l:=(o_l.cn ch58).ce ch63
   refine lx (ag (v:=l_v) (i:=mp.1 (gI ((aH (g.1,ie)).1) ((gI g.2 ↑e).1))) dU rfl rfl o_l.sl rfl (by omega) (by omega)) ?_
   obtain⟨v339,cel340,r341⟩:=c8 (r:=mp.1 (gI ((aH (g.1,ie)).1) ((gI g.2 ↑e).1))) o_l (by omega) (by omega)
   refine lx (bU aZ rfl cel340) (mi ↑e (lo (aC (α:=Int) g60 (is 12) (is 12) (12,0) rfl [(e:Int)] bD ak (by decide) (by decide) (vs:=[(0,vi ↑e)]) rfl rfl (.cons rfl .nil) ?_)))
   intro g342 w343 v344 ch345 o346
   refine lo ?_
   replace o_l:=o_l.cn ch345
   replace r341:=r341.cn ch345
   refine br (α:=Int) (xs:=(gI l (mp.1 (gI ((aH (g.1,ie)).1) ((gI g.2 ↑e).1))))) (ys:=([(e:Int)])) g342 (J:=row 11 (Int.toNat (mp.1 (gI ((aH (g.1,ie)).1) ((gI g.2 ↑e).1)))+1)) (S:=row 11 (Int.toNat (mp.1 (gI ((aH (g.1,ie)).1) ((gI g.2 ↑e).1)))+1)) (11,Int.toNat (mp.1 (gI ((aH (g.1,ie)).1) ((gI g.2 ↑e).1)))+1) rfl bD ak (by decide) rfl rfl rfl r341 o346.flat (by decide) (by(simp only[List.length_cons,List.length_nil];omega)) ?_
   intro g347 w348 v349 ch350 o351
   have o352:=o_l.rowchg ch350
   clear o_l cel340 r341
   obtain⟨us353,hl354,r355⟩:=o352.vc
   try simp only[List.length_set,List.length_append,List.length_cons,List.length_nil] at hl354
   refine lx (ag (v:=l_v) (i:=mp.1 (gI ((aH (g.1,ie)).1) ((gI g.2 ↑e).1))) dU rfl rfl r355 rfl (by omega) (by omega)) (lo (bX (r:=mp.1 (gI ((aH (g.1,ie)).1) ((gI g.2 ↑e).1))) aZ rfl rfl o352 o351 (by omega) (by omega) ?_))
   intro w359 ch360 o361
   clear o352 o351
   refine ad (am ?_)
   clear o346
   refine a8 rfl (lx (aJ (m:=↑e) (n:=1) zs69 rfl (by omega)) (mi ((e:Int)+1) (ad ?_)))
   have C362:=cg [8,11] (ch58.n.seq ((ch63.l rfl).seq (ch345.n.seq ((ch350.lr rfl).seq (ch360.l rfl)))))
   have C363:=cg [11] (ch345.n.seq ((ch350.lr rfl).seq (ch360.l rfl)))
   refine back12 (l_v,(List.set l (Int.toNat (mp.1 (gI ((aH (g.1,ie)).1) ((gI g.2 ↑e).1)))) (gI l (mp.1 (gI ((aH (g.1,ie)).1) ((gI g.2 ↑e).1)))++[(e:Int)])),e+1,mp,g347) _ _ ⟨bH.ca C362,zs1,zs2,zs10,zs13,zs14,zs67,zs68,rfl,Rg.ca C362,o46.ca C363,m53.ca C363,o361,by omega,?_⟩ ?_
   · show i6 (aH (g.1,ie)).1 g u v (e+1) (List.set l (Int.toNat (mp.1 (gI ((aH (g.1,ie)).1) ((gI g.2 ↑e).1)))) (gI l (mp.1 (gI ((aH (g.1,ie)).1) ((gI g.2 ↑e).1)))++[(e:Int)])) mp
     exact hcl.old' (by exact uc _ ‹_› ‹_›) (by omega) ‹_› rfl
   · show Int.toNat (((g.2.length:Int):Int)-((e+1):Int))<Int.toNat (((g.2.length:Int):Int)-(e:Int))
     omega
  have hnl:((gI (l++[[]]) (l.length:Int)).length:Int)=0:=by simp[gI]
  have hnl2:(((l++[[]]:iN).length:Nat):Int)=(l.length:Int)+1:=by simp
  refine aj rfl (congrArg Bool.not (df p20)) (aa (a8 rfl (mz zs13 ?_)))
  replace o_l:=(o_l.cn ch58).ce ch63
  have len364:=(o_l.sl).small
  refine lx (bJ dU rfl o_l.sl) (ai (l.length:Int) (ad (aa (a8 rfl (mz zs14 (mz zs10 (mi ((gI g.2 ↑e).1) (lx (ag (v:=v45) (i:=(gI g.2 ↑e).1) bD rfl rfl o46.flat rfl (by omega) (by omega)) (lx (aw (v:=v45) (i:=(gI g.2 ↑e).1) ak rfl o46.flat (by omega) (by omega) (by decide) rfl) (mi (l.length:Int) (lo ?_)))))))))))
  refine fS (m:=(l.length:Int)) (gI ((aH (g.1,ie)).1) ((gI g.2 ↑e).1)) t8 (dS U3) rfl m53 rfl rfl rfl ?_
  intro w365 ch366 m367
  clear m53
  refine ad (a8 rfl (mz zs13 (lo ?_)))
  obtain⟨c368,hv369⟩:=iY (u:=vn) rfl
  refine aC (α:=Vc) g60 (is 14) (is 14) (14,0) rfl [c368] dU aZ (by decide) (by decide) (vs:=[(0,vn)]) rfl rfl (.cons (gB hv369 rfl) .nil) ?_
  intro g370 w371 v372 ch373 o374
  refine lo ?_
  replace o_l:=(o_l.ce ch366).cn ch373
  refine fL hv369 (α:=Int) (xss:=l) (i:=11) (γ:=g370) dU aZ rfl rfl rfl o_l (o374.flat) (by decide) (by omega) ?_
  intro g375 w376 v377 ch378 o379
  clear o_l
  refine ma v377 (ad ?_)
  clear o374
  refine a8 rfl (mv v377 (mi (l.length:Int) (mv v377 (mi (l.length:Int) (lx (ag (v:=v377) (i:=(l.length:Int)) dU rfl rfl o379.sl rfl (by omega) (by omega)) ?_)))))
  obtain⟨v380,cel381,r382⟩:=c8 (r:=(l.length:Int)) o379 (by omega) (by omega)
  refine lx (bU aZ rfl cel381) (mi ↑e (lo (aC (α:=Int) g375 (is 12) (is 12) (12,0) rfl [(e:Int)] bD ak (by decide) (by decide) (vs:=[(0,vi ↑e)]) rfl rfl (.cons rfl .nil) ?_)))
  intro g383 w384 v385 ch386 o387
  refine lo ?_
  replace o379:=o379.cn ch386
  replace r382:=r382.cn ch386
  refine br (α:=Int) (xs:=(gI (l++[[]]) (l.length:Int))) (ys:=([(e:Int)])) g383 (J:=row 11 (Int.toNat (l.length:Int)+1)) (S:=row 11 (Int.toNat (l.length:Int)+1)) (11,Int.toNat (l.length:Int)+1) rfl bD ak (by decide) rfl rfl rfl r382 o387.flat (by decide) (by(simp only[List.length_cons,List.length_nil];omega)) ?_
  intro g388 w389 v390 ch391 o392
  have o393:=o379.rowchg ch391
  clear o379 cel381 r382
  obtain⟨us394,hl395,r396⟩:=o393.vc
  try simp only[List.length_set,List.length_append,List.length_cons,List.length_nil] at hl395
  refine lx (ag (v:=v377) (i:=(l.length:Int)) dU rfl rfl r396 rfl (by omega) (by omega)) (lo (bX (r:=(l.length:Int)) aZ rfl rfl o393 o392 (by omega) (by omega) ?_))
  intro w400 ch401 o402
  clear o393 o392
  refine ad (am ?_)
  clear o387
  refine a8 rfl (lx (aJ (m:=↑e) (n:=1) zs69 rfl (by omega)) (mi ((e:Int)+1) (ad ?_)))
  have C403:=cg [7,8,11] (ch58.n.seq ((ch63.l rfl).seq ((ch366.l rfl).seq (ch373.n.seq ((ch378.l rfl).seq (ch386.n.seq ((ch391.lr rfl).seq (ch401.l rfl))))))))
  have C404:=cg [7,11] ((ch366.l rfl).seq (ch373.n.seq ((ch378.l rfl).seq (ch386.n.seq ((ch391.lr rfl).seq (ch401.l rfl))))))
  have C405:=cg [11] (ch373.n.seq ((ch378.l rfl).seq (ch386.n.seq ((ch391.lr rfl).seq (ch401.l rfl)))))
  refine back12 (v377,(List.set (l++[[]]) (Int.toNat (l.length:Int)) (gI (l++[[]]) (l.length:Int)++[(e:Int)])),e+1,((λq=>if q=(gI ((aH (g.1,ie)).1) ((gI g.2 ↑e).1)) then(l.length:Int) else mp.1 q),if(gI ((aH (g.1,ie)).1) ((gI g.2 ↑e).1))∈mp.2 then mp.2 else mp.2++[(gI ((aH (g.1,ie)).1) ((gI g.2 ↑e).1))]),g388) _ _ ⟨bH.ca C403,zs1,zs2,zs10,rfl,zs14,zs67,zs68,rfl,Rg.ca C403,o46.ca C404,m367.ca C405,o402,by omega,?_⟩ ?_
  · show i6 (aH (g.1,ie)).1 g u v (e+1) (List.set (l++[[]]) (Int.toNat (l.length:Int)) (gI (l++[[]]) (l.length:Int)++[(e:Int)])) ((λq=>if q=(gI ((aH (g.1,ie)).1) ((gI g.2 ↑e).1)) then(l.length:Int) else mp.1 q),if(gI ((aH (g.1,ie)).1) ((gI g.2 ↑e).1))∈mp.2 then mp.2 else mp.2++[(gI ((aH (g.1,ie)).1) ((gI g.2 ↑e).1))])
    exact hcl.new' (by exact uc _ ‹_› ‹_›) (by omega) ‹_› rfl rfl
  · show Int.toNat (((g.2.length:Int):Int)-((e+1):Int))<Int.toNat (((g.2.length:Int):Int)-(e:Int))
    omega
 refine ah rfl (df p12) (aM rfl (aa ?_))
 clear o46 m53
 refine a8 rfl (mz zs13 (ma l_v (ad (aD (vs:=[l_v]) Try.func32 (.tmp rfl .nil) ?_))))
 have e0:(l:iN)=(d8 g u v):=by
   (rw[hie2] at hcl;exact hcl.done (by omega) ‹_›)
 exact⟨(fin w0 g56 (λn=>if n=11 then 1 else 0),l_v),(congrArg (a₁:=l) (λ(z0:iN)=>Ending.returned (l_v)) e0),bH.fresh _,(e0▸(o_l.glue (γ:=c0) (ren:=(λn=>if n=11 then 1 else 0)) (k:=1) bH.col rfl rfl))⟩
end TL
