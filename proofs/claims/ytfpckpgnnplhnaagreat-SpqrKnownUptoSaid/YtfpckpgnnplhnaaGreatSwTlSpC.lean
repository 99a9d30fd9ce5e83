import Derived.Test.YtfpckpgnnplhnaaGreatSwTlSpA
import Derived.Test.YtfpckpgnnplhnaaGreatSwTlGenA
import Derived.Test.YtfpckpgnnplhnaaGreatSwTlAli
set_option linter.all false
set_option maxRecDepth 20000
namespace TL
open Go Go.Proofs
theorem vR:Tryz.f102.body.isNone=false:=rfl
theorem un:(Tryz.f102.name== "runtime.NumGoroutine")=false:=by decide+kernel
set_option maxHeartbeats 8000000 in
theorem s7(w0:World)(g:(Int)×(List Pt))(g_v:Value)(hg_v:Ro w0 g_v g.2)(u:Int)(v:Int)(hm:bO g):
    Calls Tryz.prog 89 #[vg [vi g.1,g_v],vi u,vi v] w0 (λee w=>∃xx:ax×Value,ee= .returned ((λ⟨δ,rv0⟩=>rv0) xx)/\(λ(⟨δ,rv0⟩:ax×Value) (w:World)=>dz w0 δ w/\dr δ 1 w rv0 (sY g u v)) xx w):=by
 refine ah Tryz.func89 rfl nq ?_
 have bH:=aW.start w0
 have Rg:=hg_v.sl
 have hm0:=hm
 obtain⟨hm1,hm2,hm3,hm4⟩:=hm0
 refine a7 (a6 rfl (cy rfl (bU c0 (is 1) (1,0) rfl rfl ?_)))
 intro g4 w1 b3 ch2 bx5
 refine ma vn (ab (a7 (a6 rfl (lx (aa dK rfl rfl rfl rfl) (lx (a8 aD rfl bx5 rfl) (lw (vg [vi g.1,vn]) (bn (vs:=[(0,vi g.1)]) rfl (by kernel_rfl)) (lo (aZ g4 (is 2) (2,0) rfl aK ?_))))))))
 intro g9 w6 b8 ch7 bx10
 refine lo (aA (cs':=[vi g.1,vn]) aK rfl rfl bx10 rfl nq (AllOne.all (.cons rfl (.cons rfl .nil))) rfl ?_)
 intro w11 ch12 bx13
 refine ab (a7 (a7 (a6 rfl (lx (aa dK rfl rfl rfl rfl) ?_))))
 refine lx (a8 bM rfl bx5.t rfl) ?_
 have len15:=(Rg).small
 refine lx (bG eG rfl Rg.t) (mi 0 (ab (aj ?_)))
 refine aR (σ:=Nat×Value×(List Pt)×ax) (λ⟨k,ie_v,ie,gq⟩ f w=>aW w0 gq w/\f 1=vi u/\f 2=vi v/\f 3=vp b3 0/\f 7=vp b8 0/\f 24=g_v/\f 25=vi (g.2.length:Int)/\f 26=vi ↑k/\Sl gq (is 0) w g_v g.2/\Bx gq (is 1) w b3 [vi g.1,g_v]/\Bx gq (is 2) w b8 [vi g.1,ie_v]/\Ow gq (is 5) (is 5) w ie_v ie/\(k:Int)<=((g.2.length:Int):Int)/\(ie=jG g u v k)) (λ⟨k,ie_v,ie,gq⟩=>Int.toNat (((g.2.length:Int):Int)-(k:Int))) (0,vn,[],g9) ?_ ?_
 · exact⟨bH.t,rfl,rfl,rfl,rfl,rfl,rfl,rfl,Rg.t,bx5.t,bx13,Ow.nil,by omega,by rfl⟩
 rintro⟨k,ie_v,ie,g18⟩ f16 w17 ⟨bH,zs1,zs2,zs3,zs7,zs24,zs25,zs26,Rg,bx5,bx13,o_ie,hle_k,hie⟩ back3
 have hiel:ie.length<=k:=by rw[hie];exact rD
 refine a7 (a6 rfl (lx (br (m:=↑k) (n:=(g.2.length:Int)) zs26 zs25) (ab (a7 ?_))))
 by_cases p3:(k:Int)<(g.2.length:Int)
 ·
  refine ag rfl (dt p3) (am (a7 (aj (a7 (a6 rfl (lx (ad (v:=g_v) (i:=↑k) eG rfl zs24 Rg zs26 (by omega) (by omega)) (lw (vg [vi ((gI g.2 ↑k).1),vi ((gI g.2 ↑k).2)]) (bW (v:=g_v) (i:=↑k) bm rfl Rg (by omega) (by omega) rfl) (lo (aZ g18 (is 3) (3,0) rfl bm ?_)))))))))
  intro g22 w19 b21 ch20 bx23
  refine lo (aA (cs':=[vi ((gI g.2 ↑k).1),vi ((gI g.2 ↑k).2)]) bm rfl rfl bx23 rfl nq (AllOne.all (.cons rfl (.cons rfl .nil))) rfl ?_)
  intro w24 ch25 bx26
  refine ab (a7 (a6 rfl (lx (aP eS rfl rfl rfl (by decide) (by decide) rfl) (lx (a8 aD rfl bx26 rfl) (mz zs1 (lx (du (m:=(gI g.2 ↑k).1) (n:=u) rfl rfl) (mv (vb (!(decide (((gI g.2 ↑k).1)=u)))) ?_)))))))
  by_cases q34:((gI g.2 ↑k).1)=u
  ·
   refine au (wn (congrArg Bool.not (dt q34))) (au (wn (congrArg Bool.not (dt q34))) (au (wn (congrArg Bool.not (dt q34))) (au (wn (congrArg Bool.not (dt q34))) (lw (vb false) (bo rfl (congrArg Bool.not (dt q34)) rfl) (mv (vb false) (au (wn rfl) (au (wn rfl) (au (wn rfl) (au (wn rfl) (lw (vb false) (bo rfl rfl rfl) (mv (vb false) (au (wn rfl) (au (wn rfl) (au (wn rfl) (au (wn rfl) ?_)))))))))))))))
   refine lw (vb false) (bo rfl rfl rfl) (ab (af rfl rfl (am (ak ?_))))
   refine a6 rfl (lx (aJ (m:=↑k) (n:=1) zs26 rfl (by omega)) (mi ((k:Int)+1) (ab ?_)))
   refine back3 (k+1,ie_v,ie,g22) _ _ ⟨bH.t,zs1,zs2,zs3,zs7,zs24,zs25,rfl,Rg.t,bx5.t,bx13.t,o_ie.t,by omega,?_⟩ ?_
   · show ie=jG g u v (k+1)
     (rw[hie];exact mN ‹_› (by unfold rM;simp only[decide_eq_true_eq];omega))
   · show Int.toNat (_-_)<Int.toNat (_-_)
     omega
  refine lv (vp b21 0) (wy (congrArg Bool.not (df q34))) (aP eS rfl rfl rfl (by decide) (by decide) rfl) (lv (vi ((gI g.2 ↑k).1)) (wy (congrArg Bool.not (df q34))) (a8 aD rfl bx26 rfl) (lv (vi v) (wy (congrArg Bool.not (df q34))) (ar zs2) (lv (vb (!(decide (((gI g.2 ↑k).1)=v)))) (wy (congrArg Bool.not (df q34))) (du (m:=(gI g.2 ↑k).1) (n:=v) rfl rfl) (lw (vb (!(decide (((gI g.2 ↑k).1)=v)))) (bh rfl (congrArg Bool.not (df q34)) rfl) (mv (vb (!(decide (((gI g.2 ↑k).1)=v)))) ?_)))))
  by_cases q40:((gI g.2 ↑k).1)=v
  ·
   refine au (wn (congrArg Bool.not (dt q40))) (au (wn (congrArg Bool.not (dt q40))) (au (wn (congrArg Bool.not (dt q40))) (au (wn (congrArg Bool.not (dt q40))) (lw (vb false) (bo rfl (congrArg Bool.not (dt q40)) rfl) (mv (vb false) (au (wn rfl) (au (wn rfl) (au (wn rfl) (au (wn rfl) (lw (vb false) (bo rfl rfl rfl) (ab (af rfl rfl ?_))))))))))))
   refine am (ak ?_)
   refine a6 rfl (lx (aJ (m:=↑k) (n:=1) zs26 rfl (by omega)) (mi ((k:Int)+1) (ab ?_)))
   refine back3 (k+1,ie_v,ie,g22) _ _ ⟨bH.t,zs1,zs2,zs3,zs7,zs24,zs25,rfl,Rg.t,bx5.t,bx13.t,o_ie.t,by omega,?_⟩ ?_
   · show ie=jG g u v (k+1)
     (rw[hie];exact mN ‹_› (by unfold rM;simp only[decide_eq_true_eq];omega))
   · show Int.toNat (_-_)<Int.toNat (_-_)
     omega
  refine lv (vp b21 1) (wy (congrArg Bool.not (df q40))) (aP eS rfl rfl rfl (by decide) (by decide) rfl) (lv (vi ((gI g.2 ↑k).2)) (wy (congrArg Bool.not (df q40))) (a8 aD rfl bx26 rfl) (lv (vi u) (wy (congrArg Bool.not (df q40))) (ar zs1) (lv (vb (!(decide (((gI g.2 ↑k).2)=u)))) (wy (congrArg Bool.not (df q40))) (du (m:=(gI g.2 ↑k).2) (n:=u) rfl rfl) (lw (vb (!(decide (((gI g.2 ↑k).2)=u)))) (bh rfl (congrArg Bool.not (df q40)) rfl) (mv (vb (!(decide (((gI g.2 ↑k).2)=u)))) ?_)))))
  by_cases q46:((gI g.2 ↑k).2)=u
  ·
   refine au (wn (congrArg Bool.not (dt q46))) (au (wn (congrArg Bool.not (dt q46))) (au (wn (congrArg Bool.not (dt q46))) (au (wn (congrArg Bool.not (dt q46))) (lw (vb false) (bo rfl (congrArg Bool.not (dt q46)) rfl) (ab (af rfl rfl (am (ak ?_))))))))
   refine a6 rfl (lx (aJ (m:=↑k) (n:=1) zs26 rfl (by omega)) (mi ((k:Int)+1) (ab ?_)))
   refine back3 (k+1,ie_v,ie,g22) _ _ ⟨bH.t,zs1,zs2,zs3,zs7,zs24,zs25,rfl,Rg.t,bx5.t,bx13.t,o_ie.t,by omega,?_⟩ ?_
   · show ie=jG g u v (k+1)
     (rw[hie];exact mN ‹_› (by unfold rM;simp only[decide_eq_true_eq];omega))
   · show Int.toNat (_-_)<Int.toNat (_-_)
     omega
  refine lv (vp b21 1) (wy (congrArg Bool.not (df q46))) (aP eS rfl rfl rfl (by decide) (by decide) rfl) (lv (vi ((gI g.2 ↑k).2)) (wy (congrArg Bool.not (df q46))) (a8 aD rfl bx26 rfl) (lv (vi v) (wy (congrArg Bool.not (df q46))) (ar zs2) (lv (vb (!(decide (((gI g.2 ↑k).2)=v)))) (wy (congrArg Bool.not (df q46))) (du (m:=(gI g.2 ↑k).2) (n:=v) rfl rfl) (lw (vb (!(decide (((gI g.2 ↑k).2)=v)))) (bh rfl (congrArg Bool.not (df q46)) rfl) (ab ?_)))))
  by_cases p5:((gI g.2 ↑k).2)=v
  ·
   refine af rfl (congrArg Bool.not (dt p5)) (am (ak ?_))
   refine a6 rfl (lx (aJ (m:=↑k) (n:=1) zs26 rfl (by omega)) (mi ((k:Int)+1) (ab ?_)))
   refine back3 (k+1,ie_v,ie,g22) _ _ ⟨bH.t,zs1,zs2,zs3,zs7,zs24,zs25,rfl,Rg.t,bx5.t,bx13.t,o_ie.t,by omega,?_⟩ ?_
   · show ie=jG g u v (k+1)
     (rw[hie];exact mN ‹_› (by unfold rM;simp only[decide_eq_true_eq];omega))
   · show Int.toNat (_-_)<Int.toNat (_-_)
     omega
  refine ag rfl (congrArg Bool.not (df p5)) (a6 rfl (lx (aa dK rfl rfl zs7 rfl) ?_))
  refine lx (a8 bM rfl bx13.t rfl) (lx (av (ds:=[vi ((gI g.2 ↑k).1),vi ((gI g.2 ↑k).2)]) bm rfl bx26 rfl rfl) (lo (aq (α:=Pt) g22 (is 4) (is 4) (4,0) rfl [(gI g.2 ↑k)] eG bm (by decide) (by decide) (vs:=[(0,vg [vi ((gI g.2 ↑k).1),vi ((gI g.2 ↑k).2)])]) rfl rfl (.cons rfl .nil) ?_)))
  intro g27 w28 v29 ch30 o31
  refine lo ?_
  refine aS (α:=Pt) (xs:=ie) (ys:=([(gI g.2 ↑k)])) g27 (J:=is 5) (S:=is 5) (5,0) rfl eG bm (by decide) rfl rfl rfl o_ie.t o31.flat (by decide) (by(simp;omega)) ?_
  intro g33 w34 v35 ch36 o37
  refine lx (aa dK rfl rfl zs7 rfl) (lo ?_)
  refine aC (cs':=[vi g.1,v35]) bM rfl rfl bx13.t (aL o37.flat) nq (aM o37.flat) rfl ?_
  intro w38 ch39 bx40
  refine ab (ak ?_)
  refine a6 rfl (lx (aJ (m:=↑k) (n:=1) zs26 rfl (by omega)) (mi ((k:Int)+1) (ab ?_)))
  refine back3 (k+1,v35,(ie++[(gI g.2 ↑k)]),g33) _ _ ⟨bH.t,zs1,zs2,zs3,zs7,zs24,zs25,rfl,Rg.t,bx5.t,bx40,o37.t,by omega,?_⟩ ?_
  · show(ie++[(gI g.2 ↑k)])=jG g u v (k+1)
    (rw[hie];exact xV ‹_› (by unfold rM;simp only[decide_eq_true_eq];omega))
  · show Int.toNat (_-_)<Int.toNat (_-_)
    omega
 refine af rfl (df p3) (aF rfl (a7 (a6 rfl (lx (av (ds:=[vi g.1,ie_v]) aK zs7 bx13 rfl rfl) (lo (bB (aB (vals:=[vg [vi g.1,ie_v]]) Tryz.func102 vR un rfl) (qO w17 (g.1,ie) ie_v (o_ie.flat).ro) ?_))))))
 rintro⟨d43,v45⟩ w42 ⟨fr44,o46⟩
 obtain⟨g47,ch48,G47⟩:=hU g18 fr44 (λn=>if n=1 then 6 else 0)
 replace o46:=o46.gl G47 6
 refine mv (vt [v45,vi ((bx (g.1,ie)).2.1),vi ((bx (g.1,ie)).2.2)]) (lx (ay rfl rfl) (lx (ay rfl rfl) (lx (ay rfl rfl) (ma v45 (ai ((bx (g.1,ie)).2.1) (ai ((bx (g.1,ie)).2.2) (ab (a7 ?_))))))))
 have hie2:(g.1,ie)=uC g u v:=by rw[hie];exact zw ‹_›
 have hpl:(((bx (g.1,ie)).1).length:Int)=g.1:=by rw[hie2];exact rR (ya hm)
 refine a6 rfl (ma vn (ab (a7 (a6 rfl (cy rfl (ep (K:=Int) g47 (is 7) (7,0) rfl ?_))))))
 intro g49 w50 v51 ch52 m53
 refine ma v51 (ab (a7 (a7 (a6 rfl (lx (aa dK rfl rfl zs3 rfl) ?_)))))
 refine lx (a8 bM rfl bx5.t rfl) ?_
 refine lx (bG eG rfl Rg.t) (mi 0 (ab (aj ?_)))
 refine aR (σ:=Value×j7×Nat×((Int->Int)×List Int)×ax) (λ⟨l_v,l,e,mp,gq⟩ f w=>aW w0 gq w/\f 1=vi u/\f 2=vi v/\f 10=v45/\f 13=l_v/\f 14=v51/\f 67=g_v/\f 68=vi (g.2.length:Int)/\f 69=vi ↑e/\Sl gq (is 0) w g_v g.2/\Ow gq (is 6) (is 6) w v45 ((bx (g.1,ie)).1)/\Md gq (is 7) w v51 mp.1 mp.2/\dr gq 11 w l_v l/\(e:Int)<=((g.2.length:Int):Int)/\(kQ (bx (g.1,ie)).1 g u v e l mp)) (λ⟨l_v,l,e,mp,gq⟩=>Int.toNat (((g.2.length:Int):Int)-(e:Int))) (vn,[],0,((λ_=>0,[]):(Int->Int)×List (Int)),g49) ?_ ?_
 · exact⟨bH.t,zs1,zs2,rfl,rfl,rfl,rfl,rfl,rfl,Rg.t,o46.t,m53,dr.nil,by omega,by exact kQ.start⟩
 rintro⟨l_v,l,e,mp,g56⟩ f54 w55 ⟨bH,zs1,zs2,zs10,zs13,zs14,zs67,zs68,zs69,Rg,o46,m53,o_l,hle_e,hcl⟩ back12
 have hcl1:=hcl.len
 refine a7 (a6 rfl (lx (br (m:=↑e) (n:=(g.2.length:Int)) zs69 zs68) (ab (a7 ?_))))
 by_cases p12:(e:Int)<(g.2.length:Int)
 ·
  refine ag rfl (dt p12) ?_
  obtain⟨⟨he1,he2⟩,he3,he4⟩:=hm4 _ (bz (xs:=g.2) (i:=↑e) (by omega) ‹_›)
  refine am (a7 (aj (a7 (a6 rfl (mz zs69 (lx (ad (v:=g_v) (i:=↑e) eG rfl zs67 Rg zs69 (by omega) (by omega)) (lw (vg [vi ((gI g.2 ↑e).1),vi ((gI g.2 ↑e).2)]) (bW (v:=g_v) (i:=↑e) bm rfl Rg (by omega) (by omega) rfl) (lo (aZ g56 (is 8) (8,0) rfl bm ?_)))))))))
  intro g60 w57 b59 ch58 bx61
  refine ai (e:Int) (lo (aA (cs':=[vi ((gI g.2 ↑e).1),vi ((gI g.2 ↑e).2)]) bm rfl rfl bx61 rfl nq (AllOne.all (.cons rfl (.cons rfl .nil))) rfl ?_))
  intro w62 ch63 bx64
  refine ab (a7 (a6 rfl (lx (aP eS rfl rfl rfl (by decide) (by decide) rfl) (lx (a8 aD rfl bx64 rfl) (ai ((gI g.2 ↑e).1) (ab (a7 (a7 ?_))))))))
  refine kM [false,false,true,true] (σ:=Int×ax) (λ⟨wo,gq⟩ f w=>aW w0 gq w/\f 1=vi u/\f 2=vi v/\f 10=v45/\f 13=l_v/\f 14=v51/\f 15=vi ↑e/\f 16=vp b59 0/\f 17=vi wo/\f 67=g_v/\f 68=vi (g.2.length:Int)/\f 69=vi ↑e/\Sl gq (is 0) w g_v g.2/\Ow gq (is 6) (is 6) w v45 ((bx (g.1,ie)).1)/\Md gq (is 7) w v51 mp.1 mp.2/\dr gq 11 w l_v l/\Bx gq (is 8) w b59 [vi ((gI g.2 ↑e).1),vi ((gI g.2 ↑e).2)]/\(hY u v (gI g.2 ↑e)=wo/\0<=wo/\wo<g.1)) ?_ ?_
  ·
   intro mid_j1
   refine a6 rfl (mi ((gI g.2 ↑e).1) (mz zs1 (lx (dd (m:=(gI g.2 ↑e).1) (n:=u) rfl rfl) (mv (vb (decide (((gI g.2 ↑e).1)=u))) ?_))))
   by_cases q79:((gI g.2 ↑e).1)=u
   ·
    refine au (wn (dt q79)) (au (wn (dt q79)) (au (wn (dt q79)) (lw (vb true) (bh rfl (dt q79) rfl) (ab (ag rfl rfl (a6 rfl (lx (aP eS rfl rfl rfl (by decide) (by decide) rfl) (lx (a8 aD rfl bx64 rfl) (ai ((gI g.2 ↑e).2) ?_)))))))))
    refine ab (a7 (a7 ?_))
    refine mid_j1 ((gI g.2 ↑e).2,g60) _ _ ⟨bH.t,zs1,zs2,zs10,zs13,zs14,rfl,rfl,rfl,zs67,zs68,zs69,Rg.t,o46.t,m53.t,o_l.t,bx64,?_⟩
    show hY u v (gI g.2 ↑e)=((gI g.2 ↑e).2)/\0<=((gI g.2 ↑e).2)/\((gI g.2 ↑e).2)<g.1
    exact⟨(by exact CY _ (.inl ‹_›)),by omega,by omega⟩
   refine lv (vi ((gI g.2 ↑e).1)) (wy (df q79)) (ar rfl) (lv (vi v) (wy (df q79)) (ar zs2) (lv (vb (decide (((gI g.2 ↑e).1)=v))) (wy (df q79)) (dd (m:=(gI g.2 ↑e).1) (n:=v) rfl rfl) (lw (vb (decide (((gI g.2 ↑e).1)=v))) (bo rfl (df q79) rfl) (ab ?_))))
   by_cases p15:((gI g.2 ↑e).1)=v
   ·
    refine ag rfl (dt p15) (a6 rfl (lx (aP eS rfl rfl rfl (by decide) (by decide) rfl) (lx (a8 aD rfl bx64 rfl) (ai ((gI g.2 ↑e).2) (ab (a7 (a7 ?_)))))))
    refine mid_j1 ((gI g.2 ↑e).2,g60) _ _ ⟨bH.t,zs1,zs2,zs10,zs13,zs14,rfl,rfl,rfl,zs67,zs68,zs69,Rg.t,o46.t,m53.t,o_l.t,bx64,?_⟩
    show hY u v (gI g.2 ↑e)=((gI g.2 ↑e).2)/\0<=((gI g.2 ↑e).2)/\((gI g.2 ↑e).2)<g.1
    exact⟨(by exact CY _ (.inr ‹_›)),by omega,by omega⟩
   refine af rfl (df p15) (am (a7 (a7 ?_)))
   refine mid_j1 ((gI g.2 ↑e).1,g60) _ _ ⟨bH.t,zs1,zs2,zs10,zs13,zs14,rfl,rfl,rfl,zs67,zs68,zs69,Rg.t,o46.t,m53.t,o_l.t,bx64,?_⟩
   show hY u v (gI g.2 ↑e)=((gI g.2 ↑e).1)/\0<=((gI g.2 ↑e).1)/\((gI g.2 ↑e).1)<g.1
   exact⟨(by exact Ep _ ‹_› ‹_›),by omega,by omega⟩
  rintro⟨wo,g67⟩ f65 w66 ⟨bH,z68_1,z68_2,z68_10,z68_13,z68_14,z68_15,z68_16,z68_17,z68_67,z68_68,z68_69,Rg,o46,m53,o_l,bx64,hwj⟩
  obtain⟨hwo,hwo0,hwo1⟩:=hwj
  refine a6 rfl (lx (aP eS rfl z68_16 rfl (by decide) (by decide) rfl) (lx (a8 aD rfl bx64 rfl) (lx (aP eS rfl z68_16 rfl (by decide) (by decide) rfl) (lx (a8 aD rfl bx64 rfl) (lx (dd (m:=(gI g.2 ↑e).1) (n:=(gI g.2 ↑e).2) rfl rfl) (mv (vb (decide (((gI g.2 ↑e).1)=((gI g.2 ↑e).2)))) ?_))))))
  by_cases q91:((gI g.2 ↑e).1)=((gI g.2 ↑e).2)
  ·
   refine au (wn (dt q91)) (au (wn (dt q91)) (au (wn (dt q91)) (lw (vb true) (bh rfl (dt q91) rfl) (mv (vb true) (au (wn rfl) (au (wn rfl) (au (wn rfl) (lw (vb true) (bh rfl rfl rfl) (ab (ag rfl rfl (a7 ?_)))))))))))
   refine a6 rfl (mz z68_13 (mz z68_15 (lo (aq (α:=Int) g67 (is 9) (is 9) (9,0) rfl [(e:Int)] bF aD (by decide) (by decide) (vs:=[(0,vi ↑e)]) rfl rfl (.cons rfl .nil) ?_))))
   intro g69 w70 v71 ch72 o73
   refine lo ?_
   obtain⟨c74,hv75⟩:=pk (u:=v71) (aM o73.flat)
   refine aq (α:=Vc) g69 (is 10) (is 10) (10,0) rfl [c74] fh bS (by decide) (by decide) (vs:=[(0,v71)]) rfl rfl (.cons (qi hv75 (aL o73.flat)) .nil) ?_
   intro g76 w77 v78 ch79 o80
   refine lo ?_
   refine iX hv75 (α:=Int) (xss:=l) (i:=11) (γ:=g76) fh bS rfl rfl rfl o_l.t (o80.flat) o73.t rfl (by decide) (by omega) ?_
   intro g81 w82 v83 ch84 o85 r86
   refine ma v83 (ab (aF rfl ?_))
   refine a6 rfl (lx (aJ (m:=↑e) (n:=1) z68_69 rfl (by omega)) (mi ((e:Int)+1) (ab ?_)))
   refine back12 (v83,(l++[[(e:Int)]]),e+1,mp,g81) _ _ ⟨bH.t,z68_1,z68_2,z68_10,rfl,z68_14,z68_67,z68_68,rfl,Rg.t,o46.t,m53.t,o85,by omega,?_⟩ ?_
   · show kQ (bx (g.1,ie)).1 g u v (e+1) (l++[[(e:Int)]]) mp
     exact hcl.alone' hwo (by omega)
   · show Int.toNat (_-_)<Int.toNat (_-_)
     omega
  refine lv (vi wo) (wy (df q91)) (ar z68_17) (lv (vi u) (wy (df q91)) (ar z68_1) (lv (vb (decide (wo=u))) (wy (df q91)) (dd (m:=wo) (n:=u) rfl rfl) (lw (vb (decide (wo=u))) (bo rfl (df q91) rfl) (mv (vb (decide (wo=u))) ?_))))
  by_cases q96:wo=u
  ·
   refine au (wn (dt q96)) (au (wn (dt q96)) (au (wn (dt q96)) (lw (vb true) (bh rfl (dt q96) rfl) (ab (ag rfl rfl (a7 ?_))))))
   refine a6 rfl (mz z68_13 (mz z68_15 (lo (aq (α:=Int) g67 (is 9) (is 9) (9,0) rfl [(e:Int)] bF aD (by decide) (by decide) (vs:=[(0,vi ↑e)]) rfl rfl (.cons rfl .nil) ?_))))
   intro g88 w89 v90 ch91 o92
   refine lo ?_
   obtain⟨c93,hv94⟩:=pk (u:=v90) (aM o92.flat)
   refine aq (α:=Vc) g88 (is 10) (is 10) (10,0) rfl [c93] fh bS (by decide) (by decide) (vs:=[(0,v90)]) rfl rfl (.cons (qi hv94 (aL o92.flat)) .nil) ?_
   intro g95 w96 v97 ch98 o99
   refine lo ?_
   refine iX hv94 (α:=Int) (xss:=l) (i:=11) (γ:=g95) fh bS rfl rfl rfl o_l.t (o99.flat) o92.t rfl (by decide) (by omega) ?_
   intro g100 w101 v102 ch103 o104 r105
   refine ma v102 (ab (aF rfl ?_))
   refine a6 rfl (lx (aJ (m:=↑e) (n:=1) z68_69 rfl (by omega)) (mi ((e:Int)+1) (ab ?_)))
   refine back12 (v102,(l++[[(e:Int)]]),e+1,mp,g100) _ _ ⟨bH.t,z68_1,z68_2,z68_10,rfl,z68_14,z68_67,z68_68,rfl,Rg.t,o46.t,m53.t,o104,by omega,?_⟩ ?_
   · show kQ (bx (g.1,ie)).1 g u v (e+1) (l++[[(e:Int)]]) mp
     exact hcl.alone' hwo (by omega)
   · show Int.toNat (_-_)<Int.toNat (_-_)
     omega
  refine lv (vi wo) (wy (df q96)) (ar z68_17) (lv (vi v) (wy (df q96)) (ar z68_2) (lv (vb (decide (wo=v))) (wy (df q96)) (dd (m:=wo) (n:=v) rfl rfl) (lw (vb (decide (wo=v))) (bo rfl (df q96) rfl) (ab ?_))))
  by_cases p17:wo=v
  ·
   refine ag rfl (dt p17) (a7 ?_)
   refine a6 rfl (mz z68_13 (mz z68_15 (lo (aq (α:=Int) g67 (is 9) (is 9) (9,0) rfl [(e:Int)] bF aD (by decide) (by decide) (vs:=[(0,vi ↑e)]) rfl rfl (.cons rfl .nil) ?_))))
   intro g107 w108 v109 ch110 o111
   refine lo ?_
   obtain⟨c112,hv113⟩:=pk (u:=v109) (aM o111.flat)
   refine aq (α:=Vc) g107 (is 10) (is 10) (10,0) rfl [c112] fh bS (by decide) (by decide) (vs:=[(0,v109)]) rfl rfl (.cons (qi hv113 (aL o111.flat)) .nil) ?_
   intro g114 w115 v116 ch117 o118
   refine lo ?_
   refine iX hv113 (α:=Int) (xss:=l) (i:=11) (γ:=g114) fh bS rfl rfl rfl o_l.t (o118.flat) o111.t rfl (by decide) (by omega) ?_
   intro g119 w120 v121 ch122 o123 r124
   refine ma v121 (ab (aF rfl ?_))
   refine a6 rfl (lx (aJ (m:=↑e) (n:=1) z68_69 rfl (by omega)) (mi ((e:Int)+1) (ab ?_)))
   refine back12 (v121,(l++[[(e:Int)]]),e+1,mp,g119) _ _ ⟨bH.t,z68_1,z68_2,z68_10,rfl,z68_14,z68_67,z68_68,rfl,Rg.t,o46.t,m53.t,o123,by omega,?_⟩ ?_
   · show kQ (bx (g.1,ie)).1 g u v (e+1) (l++[[(e:Int)]]) mp
     exact hcl.alone' hwo (by omega)
   · show Int.toNat (_-_)<Int.toNat (_-_)
     omega
  refine af rfl (df p17) (am (a7 ?_))
  refine a6 rfl (mz z68_14 (mz z68_10 (mz z68_17 (lx (ad (v:=v45) (i:=wo) bF rfl rfl o46.flat rfl (by omega) (by omega)) (lx (aw (v:=v45) (i:=wo) aD rfl o46.flat (by omega) (by omega) (by decide) rfl) (lw (vt [vi (mp.1 (gI ((bx (g.1,ie)).1) wo)),vb (decide ((gI ((bx (g.1,ie)).1) wo)∈mp.2))]) (i8 (gI ((bx (g.1,ie)).1) wo) pV (be U3) aD rfl m53 rfl rfl) (mv (vt [vi (mp.1 (gI ((bx (g.1,ie)).1) wo)),vb (decide ((gI ((bx (g.1,ie)).1) wo)∈mp.2))]) (lx (ay rfl rfl) (lx (ay rfl rfl) ?_)))))))))
  refine ai (mp.1 (gI ((bx (g.1,ie)).1) wo)) (ma (vb (decide ((gI ((bx (g.1,ie)).1) wo)∈mp.2))) (ab (a7 (a7 (a6 rfl (mv (vb (decide ((gI ((bx (g.1,ie)).1) wo)∈mp.2))) (lx (fM (b:=decide ((gI ((bx (g.1,ie)).1) wo)∈mp.2)) rfl) (ab ?_))))))))
  by_cases p20:(gI ((bx (g.1,ie)).1) wo)∈mp.2
  ·
   have hrk:=hcl.rg _ ‹_›
   have hrl:=hcl.sm _ (bz (xs:=l) hrk.1 hrk.2)
   obtain⟨hrk0,hrk1⟩:=hrk
   refine af rfl (congrArg Bool.not (dt p20)) (am (a6 rfl (mz z68_13 (mi (mp.1 (gI ((bx (g.1,ie)).1) wo)) (mz z68_13 (mi (mp.1 (gI ((bx (g.1,ie)).1) wo)) (lx (ad (v:=l_v) (i:=mp.1 (gI ((bx (g.1,ie)).1) wo)) fh rfl rfl o_l.sl rfl (by omega) (by omega)) ?_)))))))
   obtain⟨v126,cel127,r128⟩:=cG (r:=mp.1 (gI ((bx (g.1,ie)).1) wo)) o_l (by omega) (by omega)
   refine lx (cv bS rfl cel127) (mz z68_15 (lo (aq (α:=Int) g67 (is 12) (is 12) (12,0) rfl [(e:Int)] bF aD (by decide) (by decide) (vs:=[(0,vi ↑e)]) rfl rfl (.cons rfl .nil) ?_)))
   intro g129 w130 v131 ch132 o133
   refine lo ?_
   refine aS (α:=Int) (xs:=(gI l (mp.1 (gI ((bx (g.1,ie)).1) wo)))) (ys:=([(e:Int)])) g129 (J:=row 11 (Int.toNat (mp.1 (gI ((bx (g.1,ie)).1) wo))+1)) (S:=row 11 (Int.toNat (mp.1 (gI ((bx (g.1,ie)).1) wo))+1)) (11,Int.toNat (mp.1 (gI ((bx (g.1,ie)).1) wo))+1) rfl bF aD (by decide) rfl rfl rfl r128.t o133.flat (by decide) (by(simp only[List.length_cons,List.length_nil];omega)) ?_
   intro g134 w135 v136 ch137 o138
   have o139:=(o_l.a ch132).rowchg ch137
   obtain⟨us140,hl141,r142⟩:=o139.vc
   try simp only[List.length_set,List.length_append,List.length_cons,List.length_nil] at hl141
   refine lx (ad (v:=l_v) (i:=mp.1 (gI ((bx (g.1,ie)).1) wo)) fh rfl rfl r142 rfl (by omega) (by omega)) (lo (bT (r:=mp.1 (gI ((bx (g.1,ie)).1) wo)) bS rfl rfl o139 o138 (by omega) (by omega) ?_))
   intro w146 ch147 o148
   refine ab (ak ?_)
   refine a6 rfl (lx (aJ (m:=↑e) (n:=1) z68_69 rfl (by omega)) (mi ((e:Int)+1) (ab ?_)))
   refine back12 (l_v,(List.set l (Int.toNat (mp.1 (gI ((bx (g.1,ie)).1) wo))) (gI l (mp.1 (gI ((bx (g.1,ie)).1) wo))++[(e:Int)])),e+1,mp,g134) _ _ ⟨bH.t,z68_1,z68_2,z68_10,z68_13,z68_14,z68_67,z68_68,rfl,Rg.t,o46.t,m53.t,o148,by omega,?_⟩ ?_
   · show kQ (bx (g.1,ie)).1 g u v (e+1) (List.set l (Int.toNat (mp.1 (gI ((bx (g.1,ie)).1) wo))) (gI l (mp.1 (gI ((bx (g.1,ie)).1) wo))++[(e:Int)])) mp
     exact hcl.old' hwo (by omega) ‹_› rfl
   · show Int.toNat (_-_)<Int.toNat (_-_)
     omega
  have hnl:((gI (l++[[]]) (l.length:Int)).length:Int)=0:=by simp[gI]
  have hnl2:(((l++[[]]:j7).length:Nat):Int)=(l.length:Int)+1:=by simp
  refine ag rfl (congrArg Bool.not (df p20)) (a7 (a6 rfl (mz z68_13 ?_)))
  have len150:=(o_l.sl).small
  refine lx (bG fh rfl o_l.sl) (ai (l.length:Int) (ab (a7 (a6 rfl (mz z68_14 (mz z68_10 (mz z68_17 (lx (ad (v:=v45) (i:=wo) bF rfl rfl o46.flat rfl (by omega) (by omega)) (lx (aw (v:=v45) (i:=wo) aD rfl o46.flat (by omega) (by omega) (by decide) rfl) (mi (l.length:Int) (lo ?_)))))))))))
  refine eQ (m:=(l.length:Int)) (gI ((bx (g.1,ie)).1) wo) pV (be U3) rfl m53 rfl rfl rfl ?_
  intro w151 ch152 m153
  refine ab (a6 rfl (mz z68_13 (lo ?_)))
  obtain⟨c154,hv155⟩:=pk (u:=vn) rfl
  refine aq (α:=Vc) g67 (is 14) (is 14) (14,0) rfl [c154] fh bS (by decide) (by decide) (vs:=[(0,vn)]) rfl rfl (.cons (qi hv155 rfl) .nil) ?_
  intro g156 w157 v158 ch159 o160
  refine lo ?_
  refine mE hv155 (α:=Int) (xss:=l) (i:=11) (γ:=g156) fh bS rfl rfl rfl o_l.t (o160.flat) (by decide) (by omega) ?_
  intro g161 w162 v163 ch164 o165
  refine ma v163 (ab ?_)
  refine a6 rfl (mv v163 (mi (l.length:Int) (mv v163 (mi (l.length:Int) (lx (ad (v:=v163) (i:=(l.length:Int)) fh rfl rfl o165.sl rfl (by omega) (by omega)) ?_)))))
  obtain⟨v166,cel167,r168⟩:=cG (r:=(l.length:Int)) o165 (by omega) (by omega)
  refine lx (cv bS rfl cel167) (mz z68_15 (lo (aq (α:=Int) g161 (is 12) (is 12) (12,0) rfl [(e:Int)] bF aD (by decide) (by decide) (vs:=[(0,vi ↑e)]) rfl rfl (.cons rfl .nil) ?_)))
  intro g169 w170 v171 ch172 o173
  refine lo ?_
  refine aS (α:=Int) (xs:=(gI (l++[[]]) (l.length:Int))) (ys:=([(e:Int)])) g169 (J:=row 11 (Int.toNat (l.length:Int)+1)) (S:=row 11 (Int.toNat (l.length:Int)+1)) (11,Int.toNat (l.length:Int)+1) rfl bF aD (by decide) rfl rfl rfl r168.t o173.flat (by decide) (by(simp only[List.length_cons,List.length_nil];omega)) ?_
  intro g174 w175 v176 ch177 o178
  have o179:=(o165.a ch172).rowchg ch177
  obtain⟨us180,hl181,r182⟩:=o179.vc
  try simp only[List.length_set,List.length_append,List.length_cons,List.length_nil] at hl181
  refine lx (ad (v:=v163) (i:=(l.length:Int)) fh rfl rfl r182 rfl (by omega) (by omega)) (lo (bT (r:=(l.length:Int)) bS rfl rfl o179 o178 (by omega) (by omega) ?_))
  intro w186 ch187 o188
  refine ab (ak ?_)
  refine a6 rfl (lx (aJ (m:=↑e) (n:=1) z68_69 rfl (by omega)) (mi ((e:Int)+1) (ab ?_)))
  refine back12 (v163,(List.set (l++[[]]) (Int.toNat (l.length:Int)) (gI (l++[[]]) (l.length:Int)++[(e:Int)])),e+1,((λq=>if q=(gI ((bx (g.1,ie)).1) wo) then(l.length:Int) else mp.1 q),if(gI ((bx (g.1,ie)).1) wo)∈mp.2 then mp.2 else mp.2++[(gI ((bx (g.1,ie)).1) wo)]),g174) _ _ ⟨bH.t,z68_1,z68_2,z68_10,rfl,z68_14,z68_67,z68_68,rfl,Rg.t,o46.t,m153.t,o188,by omega,?_⟩ ?_
  · show kQ (bx (g.1,ie)).1 g u v (e+1) (List.set (l++[[]]) (Int.toNat (l.length:Int)) (gI (l++[[]]) (l.length:Int)++[(e:Int)])) ((λq=>if q=(gI ((bx (g.1,ie)).1) wo) then(l.length:Int) else mp.1 q),if(gI ((bx (g.1,ie)).1) wo)∈mp.2 then mp.2 else mp.2++[(gI ((bx (g.1,ie)).1) wo)])
    exact hcl.new' hwo (by omega) ‹_› rfl rfl
  · show Int.toNat (_-_)<Int.toNat (_-_)
    omega
 refine af rfl (df p12) (aF rfl (a7 ?_))
 refine a6 rfl (mz zs13 (ma l_v (ab (az (vs:=[l_v]) Tryz.func89 (.tmp rfl .nil) ?_))))
 have e0:(l:j7)=(sY g u v):=by
   (rw[hie2] at hcl;exact hcl.done (by omega) ‹_›)
 exact⟨(fin w0 g56 (λn=>if n=11 then 1 else 0),l_v),(congrArg (a₁:=l) (λ(z0:j7)=>Ending.returned (l_v)) e0),bH.fresh _,(e0▸(o_l.glue (γ:=c0) (ren:=(λn=>if n=11 then 1 else 0)) (k:=1) bH.col rfl rfl))⟩
end TL
