import Derived.Test.YtfpckpgnnplhnaaGreatSkTlSpA
import Derived.Test.YtfpckpgnnplhnaaGreatSkTlGenA
import Derived.Test.YtfpckpgnnplhnaaGreatSkTlAli
set_option linter.all false
set_option maxRecDepth 20000
namespace TL
open Go Go.Proofs
theorem sN:Tryz.f102.body.isNone=false:=rfl
theorem tU:(Tryz.f102.name== "runtime.NumGoroutine")=false:=by decide+kernel
set_option maxHeartbeats 8000000 in
theorem pz(w0:World)(g:(Int)×(List Pt))(g_v:Value)(hg_v:Ro w0 g_v g.2)(u:Int)(v:Int)(hm:c7 g):
    Calls Tryz.prog 89 #[vg [vi g.1,g_v],vi u,vi v] w0 (λee w=>∃xx:aw×Value,ee= .returned ((λ⟨δ,rv0⟩=>rv0) xx)/\(λ(⟨δ,rv0⟩:aw×Value) (w:World)=>dU w0 δ w/\dr δ 1 w rv0 (rC g u v)) xx w):=by
 refine ap Tryz.func89 rfl nq ?_
 have bH:=b6.start w0
 have Rg:=hg_v.sl
 have hm0:=hm
 obtain⟨hm1,hm2,hm3,hm4⟩:=hm0
 refine a7 (a6 rfl (cN rfl (cq c0 (is 1) (1,0) rfl rfl ?_)))
 intro g4 w1 b3 ch2 bx5
 refine ma vn (ab (a7 (a6 rfl (lx (aa ea rfl rfl rfl rfl) (lx (a8 ah rfl bx5 rfl) (lw (vg [vi g.1,vn]) (bh (vs:=[(0,vi g.1)]) rfl (by kernel_rfl)) (lo (bi g4 (is 2) (2,0) rfl aX ?_))))))))
 intro g9 w6 b8 ch7 bx10
 refine lo (ax (cs':=[vi g.1,vn]) aX rfl rfl bx10 rfl nq (AllOne.all (.cons rfl (.cons rfl .nil))) rfl ?_)
 intro w11 ch12 bx13
 clear bx10
 refine ab (a7 (a7 (a6 rfl (lx (aa ea rfl rfl rfl rfl) ?_))))
 replace bx5:=(bx5.cn ch7).ce ch12
 refine lx (a8 bR rfl bx5 rfl) ?_
 have C14:=cg [2] (ch2.n.seq (ch7.n.seq (ch12.l rfl)))
 replace Rg:=Rg.ca C14
 have len15:=(Rg).small
 refine lx (bp eR rfl Rg) (mi 0 (ab (am ?_)))
 refine aV (σ:=Nat×Value×(List Pt)×aw) (λ⟨k,ie_v,ie,gq⟩ f w=>b6 w0 gq w/\f 1=vi u/\f 2=vi v/\f 3=vp b3 0/\f 7=vp b8 0/\f 24=g_v/\f 25=vi (g.2.length:Int)/\f 26=vi ↑k/\Sl gq (is 0) w g_v g.2/\Bx gq (is 1) w b3 [vi g.1,g_v]/\Bx gq (is 2) w b8 [vi g.1,ie_v]/\Ow gq (is 5) (is 5) w ie_v ie/\(k:Int)<=((g.2.length:Int):Int)/\(ie=iC g u v k)) (λ⟨k,ie_v,ie,gq⟩=>Int.toNat (((g.2.length:Int):Int)-(k:Int))) (0,vn,[],g9) ?_ ?_
 · exact⟨bH.ca C14,rfl,rfl,rfl,rfl,rfl,rfl,rfl,Rg,bx5,bx13,Ow.nil,by omega,by rfl⟩
 clear Rg bx5 bx13 bH
 rintro⟨k,ie_v,ie,g18⟩ f16 w17 ⟨bH,zs1,zs2,zs3,zs7,zs24,zs25,zs26,Rg,bx5,bx13,o_ie,hle_k,hie⟩ back3
 have hiel:ie.length<=k:=by rw[hie];exact pj
 refine a7 (a6 rfl (lx (bw (m:=↑k) (n:=(g.2.length:Int)) zs26 zs25) (ab (a7 ?_))))
 by_cases p3:(k:Int)<(g.2.length:Int)
 ·
  refine af rfl (dt p3) (ao (a7 (am (a7 (a6 rfl (lx (ad (v:=g_v) (i:=↑k) eR rfl zs24 Rg zs26 (by omega) (by omega)) (lw (vg [vi ((gI g.2 ↑k).1),vi ((gI g.2 ↑k).2)]) (bJ (v:=g_v) (i:=↑k) bx rfl Rg (by omega) (by omega) rfl) (lo (bi g18 (is 3) (3,0) rfl bx ?_)))))))))
  intro g22 w19 b21 ch20 bx23
  refine lo (ax (cs':=[vi ((gI g.2 ↑k).1),vi ((gI g.2 ↑k).2)]) bx rfl rfl bx23 rfl nq (AllOne.all (.cons rfl (.cons rfl .nil))) rfl ?_)
  intro w24 ch25 bx26
  clear bx23
  refine ab (a7 (a6 rfl (lx (aQ eO rfl rfl rfl (by decide) (by decide) rfl) (lx (a8 ah rfl bx26 rfl) (mz zs1 (lx (dq (m:=(gI g.2 ↑k).1) (n:=u) rfl rfl) (mv (vb (!(decide (((gI g.2 ↑k).1)=u)))) ?_)))))))
  by_cases q34:((gI g.2 ↑k).1)=u
  ·
   refine aA (wn (congrArg Bool.not (dt q34))) (aA (wn (congrArg Bool.not (dt q34))) (aA (wn (congrArg Bool.not (dt q34))) (aA (wn (congrArg Bool.not (dt q34))) (lw (vb false) (bt rfl (congrArg Bool.not (dt q34)) rfl) (mv (vb false) (aA (wn rfl) (aA (wn rfl) (aA (wn rfl) (aA (wn rfl) (lw (vb false) (bt rfl rfl rfl) (mv (vb false) (aA (wn rfl) (aA (wn rfl) (aA (wn rfl) (aA (wn rfl) ?_)))))))))))))))
   refine lw (vb false) (bt rfl rfl rfl) (ab (ag rfl rfl (ao (ak ?_))))
   clear bx26
   refine a6 rfl (lx (aS (m:=↑k) (n:=1) zs26 rfl (by omega)) (mi ((k:Int)+1) (ab ?_)))
   replace bH:=bH.cn ch20
   refine back3 (k+1,ie_v,ie,g22) _ _ ⟨bH.ce ch25,zs1,zs2,zs3,zs7,zs24,zs25,rfl,(Rg.cn ch20).ce ch25,(bx5.cn ch20).ce ch25,(bx13.cn ch20).ce ch25,(o_ie.cn ch20).ce ch25,by omega,?_⟩ ?_
   · show ie=iC g u v (k+1)
     (rw[hie];exact lS ‹_› (by unfold qB;simp only[decide_eq_true_eq];omega))
   · show Int.toNat (_-_)<Int.toNat (_-_)
     omega
  refine lv (vp b21 0) (wy (congrArg Bool.not (df q34))) (aQ eO rfl rfl rfl (by decide) (by decide) rfl) (lv (vi ((gI g.2 ↑k).1)) (wy (congrArg Bool.not (df q34))) (a8 ah rfl bx26 rfl) (lv (vi v) (wy (congrArg Bool.not (df q34))) (aq zs2) (lv (vb (!(decide (((gI g.2 ↑k).1)=v)))) (wy (congrArg Bool.not (df q34))) (dq (m:=(gI g.2 ↑k).1) (n:=v) rfl rfl) (lw (vb (!(decide (((gI g.2 ↑k).1)=v)))) (bj rfl (congrArg Bool.not (df q34)) rfl) (mv (vb (!(decide (((gI g.2 ↑k).1)=v)))) ?_)))))
  by_cases q40:((gI g.2 ↑k).1)=v
  ·
   refine aA (wn (congrArg Bool.not (dt q40))) (aA (wn (congrArg Bool.not (dt q40))) (aA (wn (congrArg Bool.not (dt q40))) (aA (wn (congrArg Bool.not (dt q40))) (lw (vb false) (bt rfl (congrArg Bool.not (dt q40)) rfl) (mv (vb false) (aA (wn rfl) (aA (wn rfl) (aA (wn rfl) (aA (wn rfl) (lw (vb false) (bt rfl rfl rfl) (ab (ag rfl rfl ?_))))))))))))
   refine ao (ak ?_)
   clear bx26
   refine a6 rfl (lx (aS (m:=↑k) (n:=1) zs26 rfl (by omega)) (mi ((k:Int)+1) (ab ?_)))
   replace bH:=bH.cn ch20
   refine back3 (k+1,ie_v,ie,g22) _ _ ⟨bH.ce ch25,zs1,zs2,zs3,zs7,zs24,zs25,rfl,(Rg.cn ch20).ce ch25,(bx5.cn ch20).ce ch25,(bx13.cn ch20).ce ch25,(o_ie.cn ch20).ce ch25,by omega,?_⟩ ?_
   · show ie=iC g u v (k+1)
     (rw[hie];exact lS ‹_› (by unfold qB;simp only[decide_eq_true_eq];omega))
   · show Int.toNat (_-_)<Int.toNat (_-_)
     omega
  refine lv (vp b21 1) (wy (congrArg Bool.not (df q40))) (aQ eO rfl rfl rfl (by decide) (by decide) rfl) (lv (vi ((gI g.2 ↑k).2)) (wy (congrArg Bool.not (df q40))) (a8 ah rfl bx26 rfl) (lv (vi u) (wy (congrArg Bool.not (df q40))) (aq zs1) (lv (vb (!(decide (((gI g.2 ↑k).2)=u)))) (wy (congrArg Bool.not (df q40))) (dq (m:=(gI g.2 ↑k).2) (n:=u) rfl rfl) (lw (vb (!(decide (((gI g.2 ↑k).2)=u)))) (bj rfl (congrArg Bool.not (df q40)) rfl) (mv (vb (!(decide (((gI g.2 ↑k).2)=u)))) ?_)))))
  by_cases q46:((gI g.2 ↑k).2)=u
  ·
   refine aA (wn (congrArg Bool.not (dt q46))) (aA (wn (congrArg Bool.not (dt q46))) (aA (wn (congrArg Bool.not (dt q46))) (aA (wn (congrArg Bool.not (dt q46))) (lw (vb false) (bt rfl (congrArg Bool.not (dt q46)) rfl) (ab (ag rfl rfl (ao (ak ?_))))))))
   clear bx26
   refine a6 rfl (lx (aS (m:=↑k) (n:=1) zs26 rfl (by omega)) (mi ((k:Int)+1) (ab ?_)))
   replace bH:=bH.cn ch20
   refine back3 (k+1,ie_v,ie,g22) _ _ ⟨bH.ce ch25,zs1,zs2,zs3,zs7,zs24,zs25,rfl,(Rg.cn ch20).ce ch25,(bx5.cn ch20).ce ch25,(bx13.cn ch20).ce ch25,(o_ie.cn ch20).ce ch25,by omega,?_⟩ ?_
   · show ie=iC g u v (k+1)
     (rw[hie];exact lS ‹_› (by unfold qB;simp only[decide_eq_true_eq];omega))
   · show Int.toNat (_-_)<Int.toNat (_-_)
     omega
  refine lv (vp b21 1) (wy (congrArg Bool.not (df q46))) (aQ eO rfl rfl rfl (by decide) (by decide) rfl) (lv (vi ((gI g.2 ↑k).2)) (wy (congrArg Bool.not (df q46))) (a8 ah rfl bx26 rfl) (lv (vi v) (wy (congrArg Bool.not (df q46))) (aq zs2) (lv (vb (!(decide (((gI g.2 ↑k).2)=v)))) (wy (congrArg Bool.not (df q46))) (dq (m:=(gI g.2 ↑k).2) (n:=v) rfl rfl) (lw (vb (!(decide (((gI g.2 ↑k).2)=v)))) (bj rfl (congrArg Bool.not (df q46)) rfl) (ab ?_)))))
  by_cases p5:((gI g.2 ↑k).2)=v
  ·
   refine ag rfl (congrArg Bool.not (dt p5)) (ao (ak ?_))
   clear bx26
   refine a6 rfl (lx (aS (m:=↑k) (n:=1) zs26 rfl (by omega)) (mi ((k:Int)+1) (ab ?_)))
   replace bH:=bH.cn ch20
   refine back3 (k+1,ie_v,ie,g22) _ _ ⟨bH.ce ch25,zs1,zs2,zs3,zs7,zs24,zs25,rfl,(Rg.cn ch20).ce ch25,(bx5.cn ch20).ce ch25,(bx13.cn ch20).ce ch25,(o_ie.cn ch20).ce ch25,by omega,?_⟩ ?_
   · show ie=iC g u v (k+1)
     (rw[hie];exact lS ‹_› (by unfold qB;simp only[decide_eq_true_eq];omega))
   · show Int.toNat (_-_)<Int.toNat (_-_)
     omega
  refine af rfl (congrArg Bool.not (df p5)) (a6 rfl (lx (aa ea rfl rfl zs7 rfl) ?_))
  replace bx13:=(bx13.cn ch20).ce ch25
  refine lx (a8 bR rfl bx13 rfl) (lx (ay (ds:=[vi ((gI g.2 ↑k).1),vi ((gI g.2 ↑k).2)]) bx rfl bx26 rfl rfl) (lo (ar (α:=Pt) g22 (is 4) (is 4) (4,0) rfl [(gI g.2 ↑k)] eR bx (by decide) (by decide) (vs:=[(0,vg [vi ((gI g.2 ↑k).1),vi ((gI g.2 ↑k).2)])]) rfl rfl (.cons rfl .nil) ?_)))
  intro g27 w28 v29 ch30 o31
  refine lo ?_
  have C32:=cg [3] (ch20.n.seq ((ch25.l rfl).seq ch30.n))
  replace o_ie:=o_ie.ca C32
  refine aK (α:=Pt) (xs:=ie) (ys:=([(gI g.2 ↑k)])) g27 (J:=is 5) (S:=is 5) (5,0) rfl eR bx (by decide) rfl rfl rfl o_ie o31.flat (by decide) (by(simp;omega)) ?_
  intro g33 w34 v35 ch36 o37
  clear o_ie
  refine lx (aa ea rfl rfl zs7 rfl) (lo ?_)
  replace bx13:=(bx13.cn ch30).ce ch36
  refine aC (cs':=[vi g.1,v35]) bR rfl rfl bx13 (aP o37.flat) nq (aG o37.flat) rfl ?_
  intro w38 ch39 bx40
  clear bx13
  refine ab (ak ?_)
  clear bx26 o31
  refine a6 rfl (lx (aS (m:=↑k) (n:=1) zs26 rfl (by omega)) (mi ((k:Int)+1) (ab ?_)))
  have C41:=cg [2,3,5] (ch20.n.seq ((ch25.l rfl).seq (ch30.n.seq ((ch36.l rfl).seq (ch39.l rfl)))))
  refine back3 (k+1,v35,(ie++[(gI g.2 ↑k)]),g33) _ _ ⟨bH.ca C41,zs1,zs2,zs3,zs7,zs24,zs25,rfl,Rg.ca C41,bx5.ca C41,bx40,o37.ce ch39,by omega,?_⟩ ?_
  · show(ie++[(gI g.2 ↑k)])=iC g u v (k+1)
    (rw[hie];exact uu ‹_› (by unfold qB;simp only[decide_eq_true_eq];omega))
  · show Int.toNat (_-_)<Int.toNat (_-_)
    omega
 refine ag rfl (df p3) (aO rfl (a7 (a6 rfl (lx (ay (ds:=[vi g.1,ie_v]) aX zs7 bx13 rfl rfl) (lo (bE (aH (vals:=[vg [vi g.1,ie_v]]) Tryz.func102 sN tU rfl) (qy w17 (g.1,ie) ie_v (o_ie.flat).ro) ?_))))))
 rintro⟨d43,v45⟩ w42 ⟨fr44,o46⟩
 obtain⟨g47,ch48,G47⟩:=i8 g18 fr44 (λn=>if n=1 then 6 else 0)
 replace o46:=o46.gl G47 6
 refine mv (vt [v45,vi ((bu (g.1,ie)).2.1),vi ((bu (g.1,ie)).2.2)]) (lx (aJ rfl rfl) (lx (aJ rfl rfl) (lx (aJ rfl rfl) (ma v45 (ai ((bu (g.1,ie)).2.1) (ai ((bu (g.1,ie)).2.2) (ab (a7 ?_))))))))
 clear bx13 o_ie
 have hie2:(g.1,ie)=sG g u v:=by rw[hie];exact wA ‹_›
 have hpl:(((bu (g.1,ie)).1).length:Int)=g.1:=by rw[hie2];exact oS (vG hm)
 refine a6 rfl (ma vn (ab (a7 (a6 rfl (cN rfl (eA (K:=Int) g47 (is 7) (7,0) rfl ?_))))))
 intro g49 w50 v51 ch52 m53
 refine ma v51 (ab (a7 (a7 (a6 rfl (lx (aa ea rfl rfl zs3 rfl) ?_)))))
 replace bx5:=(bx5.cn ch48).cn ch52
 refine lx (a8 bR rfl bx5 rfl) ?_
 replace Rg:=(Rg.cn ch48).cn ch52
 refine lx (bp eR rfl Rg) (mi 0 (ab (am ?_)))
 clear bx5
 refine aV (σ:=Value×jH×Nat×((Int->Int)×List Int)×aw) (λ⟨l_v,l,e,mp,gq⟩ f w=>b6 w0 gq w/\f 1=vi u/\f 2=vi v/\f 10=v45/\f 13=l_v/\f 14=v51/\f 67=g_v/\f 68=vi (g.2.length:Int)/\f 69=vi ↑e/\Sl gq (is 0) w g_v g.2/\Ow gq (is 6) (is 6) w v45 ((bu (g.1,ie)).1)/\Md gq (is 7) w v51 mp.1 mp.2/\dr gq 11 w l_v l/\(e:Int)<=((g.2.length:Int):Int)/\(jM (bu (g.1,ie)).1 g u v e l mp)) (λ⟨l_v,l,e,mp,gq⟩=>Int.toNat (((g.2.length:Int):Int)-(e:Int))) (vn,[],0,((λ_=>0,[]):(Int->Int)×List (Int)),g49) ?_ ?_
 replace bH:=bH.cn ch48
 · exact⟨bH.cn ch52,zs1,zs2,rfl,rfl,rfl,rfl,rfl,rfl,Rg,o46.cn ch52,m53,dr.nil,by omega,by exact jM.start⟩
 clear Rg o46 m53 bH
 rintro⟨l_v,l,e,mp,g56⟩ f54 w55 ⟨bH,zs1,zs2,zs10,zs13,zs14,zs67,zs68,zs69,Rg,o46,m53,o_l,hle_e,hcl⟩ back12
 have hcl1:=hcl.len
 refine a7 (a6 rfl (lx (bw (m:=↑e) (n:=(g.2.length:Int)) zs69 zs68) (ab (a7 ?_))))
 by_cases p12:(e:Int)<(g.2.length:Int)
 ·
  refine af rfl (dt p12) ?_
  obtain⟨⟨he1,he2⟩,he3,he4⟩:=hm4 _ (bC (xs:=g.2) (i:=↑e) (by omega) ‹_›)
  refine ao (a7 (am (a7 (a6 rfl (mz zs69 (lx (ad (v:=g_v) (i:=↑e) eR rfl zs67 Rg zs69 (by omega) (by omega)) (lw (vg [vi ((gI g.2 ↑e).1),vi ((gI g.2 ↑e).2)]) (bJ (v:=g_v) (i:=↑e) bx rfl Rg (by omega) (by omega) rfl) (lo (bi g56 (is 8) (8,0) rfl bx ?_)))))))))
  intro g60 w57 b59 ch58 bx61
  refine ai (e:Int) (lo (ax (cs':=[vi ((gI g.2 ↑e).1),vi ((gI g.2 ↑e).2)]) bx rfl rfl bx61 rfl nq (AllOne.all (.cons rfl (.cons rfl .nil))) rfl ?_))
  intro w62 ch63 bx64
  clear bx61
  refine ab (a7 (a6 rfl (lx (aQ eO rfl rfl rfl (by decide) (by decide) rfl) (lx (a8 ah rfl bx64 rfl) (ai ((gI g.2 ↑e).1) (ab (a7 (a7 ?_))))))))
  refine lQ [false,false,true,true] (σ:=Int×aw) (λ⟨wo,gq⟩ f w=>b6 w0 gq w/\f 1=vi u/\f 2=vi v/\f 10=v45/\f 13=l_v/\f 14=v51/\f 15=vi ↑e/\f 16=vp b59 0/\f 17=vi wo/\f 67=g_v/\f 68=vi (g.2.length:Int)/\f 69=vi ↑e/\Sl gq (is 0) w g_v g.2/\Ow gq (is 6) (is 6) w v45 ((bu (g.1,ie)).1)/\Md gq (is 7) w v51 mp.1 mp.2/\dr gq 11 w l_v l/\Bx gq (is 8) w b59 [vi ((gI g.2 ↑e).1),vi ((gI g.2 ↑e).2)]/\(gC u v (gI g.2 ↑e)=wo/\0<=wo/\wo<g.1)) ?_ ?_
  ·
   intro mid_j1
   refine a6 rfl (mi ((gI g.2 ↑e).1) (mz zs1 (lx (dA (m:=(gI g.2 ↑e).1) (n:=u) rfl rfl) (mv (vb (decide (((gI g.2 ↑e).1)=u))) ?_))))
   by_cases q79:((gI g.2 ↑e).1)=u
   ·
    refine aA (wn (dt q79)) (aA (wn (dt q79)) (aA (wn (dt q79)) (lw (vb true) (bj rfl (dt q79) rfl) (ab (af rfl rfl (a6 rfl (lx (aQ eO rfl rfl rfl (by decide) (by decide) rfl) (lx (a8 ah rfl bx64 rfl) (ai ((gI g.2 ↑e).2) ?_)))))))))
    refine ab (a7 (a7 ?_))
    replace bH:=bH.cn ch58
    refine mid_j1 ((gI g.2 ↑e).2,g60) _ _ ⟨bH.ce ch63,zs1,zs2,zs10,zs13,zs14,rfl,rfl,rfl,zs67,zs68,zs69,(Rg.cn ch58).ce ch63,(o46.cn ch58).ce ch63,(m53.cn ch58).ce ch63,(o_l.cn ch58).ce ch63,bx64,?_⟩
    show gC u v (gI g.2 ↑e)=((gI g.2 ↑e).2)/\0<=((gI g.2 ↑e).2)/\((gI g.2 ↑e).2)<g.1
    exact⟨(by exact A8 _ (.inl ‹_›)),by omega,by omega⟩
   refine lv (vi ((gI g.2 ↑e).1)) (wy (df q79)) (aq rfl) (lv (vi v) (wy (df q79)) (aq zs2) (lv (vb (decide (((gI g.2 ↑e).1)=v))) (wy (df q79)) (dA (m:=(gI g.2 ↑e).1) (n:=v) rfl rfl) (lw (vb (decide (((gI g.2 ↑e).1)=v))) (bt rfl (df q79) rfl) (ab ?_))))
   by_cases p15:((gI g.2 ↑e).1)=v
   ·
    refine af rfl (dt p15) (a6 rfl (lx (aQ eO rfl rfl rfl (by decide) (by decide) rfl) (lx (a8 ah rfl bx64 rfl) (ai ((gI g.2 ↑e).2) (ab (a7 (a7 ?_)))))))
    replace bH:=bH.cn ch58
    refine mid_j1 ((gI g.2 ↑e).2,g60) _ _ ⟨bH.ce ch63,zs1,zs2,zs10,zs13,zs14,rfl,rfl,rfl,zs67,zs68,zs69,(Rg.cn ch58).ce ch63,(o46.cn ch58).ce ch63,(m53.cn ch58).ce ch63,(o_l.cn ch58).ce ch63,bx64,?_⟩
    show gC u v (gI g.2 ↑e)=((gI g.2 ↑e).2)/\0<=((gI g.2 ↑e).2)/\((gI g.2 ↑e).2)<g.1
    exact⟨(by exact A8 _ (.inr ‹_›)),by omega,by omega⟩
   refine ag rfl (df p15) (ao (a7 (a7 ?_)))
   replace bH:=bH.cn ch58
   refine mid_j1 ((gI g.2 ↑e).1,g60) _ _ ⟨bH.ce ch63,zs1,zs2,zs10,zs13,zs14,rfl,rfl,rfl,zs67,zs68,zs69,(Rg.cn ch58).ce ch63,(o46.cn ch58).ce ch63,(m53.cn ch58).ce ch63,(o_l.cn ch58).ce ch63,bx64,?_⟩
   show gC u v (gI g.2 ↑e)=((gI g.2 ↑e).1)/\0<=((gI g.2 ↑e).1)/\((gI g.2 ↑e).1)<g.1
   exact⟨(by exact B5 _ ‹_› ‹_›),by omega,by omega⟩
  clear Rg o46 m53 o_l bx64 bH
  rintro⟨wo,g67⟩ f65 w66 ⟨bH,z68_1,z68_2,z68_10,z68_13,z68_14,z68_15,z68_16,z68_17,z68_67,z68_68,z68_69,Rg,o46,m53,o_l,bx64,hwj⟩
  obtain⟨hwo,hwo0,hwo1⟩:=hwj
  refine a6 rfl (lx (aQ eO rfl z68_16 rfl (by decide) (by decide) rfl) (lx (a8 ah rfl bx64 rfl) (lx (aQ eO rfl z68_16 rfl (by decide) (by decide) rfl) (lx (a8 ah rfl bx64 rfl) (lx (dA (m:=(gI g.2 ↑e).1) (n:=(gI g.2 ↑e).2) rfl rfl) (mv (vb (decide (((gI g.2 ↑e).1)=((gI g.2 ↑e).2)))) ?_))))))
  by_cases q91:((gI g.2 ↑e).1)=((gI g.2 ↑e).2)
  ·
   refine aA (wn (dt q91)) (aA (wn (dt q91)) (aA (wn (dt q91)) (lw (vb true) (bj rfl (dt q91) rfl) (mv (vb true) (aA (wn rfl) (aA (wn rfl) (aA (wn rfl) (lw (vb true) (bj rfl rfl rfl) (ab (af rfl rfl (a7 ?_)))))))))))
   clear bx64
   refine a6 rfl (mz z68_13 (mz z68_15 (lo (ar (α:=Int) g67 (is 9) (is 9) (9,0) rfl [(e:Int)] bF ah (by decide) (by decide) (vs:=[(0,vi ↑e)]) rfl rfl (.cons rfl .nil) ?_))))
   intro g69 w70 v71 ch72 o73
   refine lo ?_
   obtain⟨c74,hv75⟩:=dc (u:=v71) (aG o73.flat)
   refine ar (α:=Vc) g69 (is 10) (is 10) (10,0) rfl [c74] gf bN (by decide) (by decide) (vs:=[(0,v71)]) rfl rfl (.cons (oz hv75 (aP o73.flat)) .nil) ?_
   intro g76 w77 v78 ch79 o80
   refine lo ?_
   replace o_l:=(o_l.cn ch72).cn ch79
   replace o73:=o73.cn ch79
   refine io hv75 (α:=Int) (xss:=l) (i:=11) (γ:=g76) gf bN rfl rfl rfl o_l (o80.flat) o73 rfl (by decide) (by omega) ?_
   intro g81 w82 v83 ch84 o85 r86
   clear o_l o73
   refine ma v83 (ab (aO rfl ?_))
   clear o80 r86
   refine a6 rfl (lx (aS (m:=↑e) (n:=1) z68_69 rfl (by omega)) (mi ((e:Int)+1) (ab ?_)))
   have C87:=cg [9,11] (ch72.n.seq (ch79.n.seq (ch84.lx rfl rfl)))
   refine back12 (v83,(l++[[(e:Int)]]),e+1,mp,g81) _ _ ⟨bH.ca C87,z68_1,z68_2,z68_10,rfl,z68_14,z68_67,z68_68,rfl,Rg.ca C87,o46.ca C87,m53.ca C87,o85,by omega,?_⟩ ?_
   · show jM (bu (g.1,ie)).1 g u v (e+1) (l++[[(e:Int)]]) mp
     exact hcl.alone' hwo (by omega)
   · show Int.toNat (_-_)<Int.toNat (_-_)
     omega
  refine lv (vi wo) (wy (df q91)) (aq z68_17) (lv (vi u) (wy (df q91)) (aq z68_1) (lv (vb (decide (wo=u))) (wy (df q91)) (dA (m:=wo) (n:=u) rfl rfl) (lw (vb (decide (wo=u))) (bt rfl (df q91) rfl) (mv (vb (decide (wo=u))) ?_))))
  by_cases q96:wo=u
  ·
   refine aA (wn (dt q96)) (aA (wn (dt q96)) (aA (wn (dt q96)) (lw (vb true) (bj rfl (dt q96) rfl) (ab (af rfl rfl (a7 ?_))))))
   clear bx64
   refine a6 rfl (mz z68_13 (mz z68_15 (lo (ar (α:=Int) g67 (is 9) (is 9) (9,0) rfl [(e:Int)] bF ah (by decide) (by decide) (vs:=[(0,vi ↑e)]) rfl rfl (.cons rfl .nil) ?_))))
   intro g88 w89 v90 ch91 o92
   refine lo ?_
   obtain⟨c93,hv94⟩:=dc (u:=v90) (aG o92.flat)
   refine ar (α:=Vc) g88 (is 10) (is 10) (10,0) rfl [c93] gf bN (by decide) (by decide) (vs:=[(0,v90)]) rfl rfl (.cons (oz hv94 (aP o92.flat)) .nil) ?_
   intro g95 w96 v97 ch98 o99
   refine lo ?_
   replace o_l:=(o_l.cn ch91).cn ch98
   replace o92:=o92.cn ch98
   refine io hv94 (α:=Int) (xss:=l) (i:=11) (γ:=g95) gf bN rfl rfl rfl o_l (o99.flat) o92 rfl (by decide) (by omega) ?_
   intro g100 w101 v102 ch103 o104 r105
   clear o_l o92
   refine ma v102 (ab (aO rfl ?_))
   clear o99 r105
   refine a6 rfl (lx (aS (m:=↑e) (n:=1) z68_69 rfl (by omega)) (mi ((e:Int)+1) (ab ?_)))
   have C106:=cg [9,11] (ch91.n.seq (ch98.n.seq (ch103.lx rfl rfl)))
   refine back12 (v102,(l++[[(e:Int)]]),e+1,mp,g100) _ _ ⟨bH.ca C106,z68_1,z68_2,z68_10,rfl,z68_14,z68_67,z68_68,rfl,Rg.ca C106,o46.ca C106,m53.ca C106,o104,by omega,?_⟩ ?_
   · show jM (bu (g.1,ie)).1 g u v (e+1) (l++[[(e:Int)]]) mp
     exact hcl.alone' hwo (by omega)
   · show Int.toNat (_-_)<Int.toNat (_-_)
     omega
  refine lv (vi wo) (wy (df q96)) (aq z68_17) (lv (vi v) (wy (df q96)) (aq z68_2) (lv (vb (decide (wo=v))) (wy (df q96)) (dA (m:=wo) (n:=v) rfl rfl) (lw (vb (decide (wo=v))) (bt rfl (df q96) rfl) (ab ?_))))
  by_cases p17:wo=v
  ·
   refine af rfl (dt p17) (a7 ?_)
   clear bx64
   refine a6 rfl (mz z68_13 (mz z68_15 (lo (ar (α:=Int) g67 (is 9) (is 9) (9,0) rfl [(e:Int)] bF ah (by decide) (by decide) (vs:=[(0,vi ↑e)]) rfl rfl (.cons rfl .nil) ?_))))
   intro g107 w108 v109 ch110 o111
   refine lo ?_
   obtain⟨c112,hv113⟩:=dc (u:=v109) (aG o111.flat)
   refine ar (α:=Vc) g107 (is 10) (is 10) (10,0) rfl [c112] gf bN (by decide) (by decide) (vs:=[(0,v109)]) rfl rfl (.cons (oz hv113 (aP o111.flat)) .nil) ?_
   intro g114 w115 v116 ch117 o118
   refine lo ?_
   replace o_l:=(o_l.cn ch110).cn ch117
   replace o111:=o111.cn ch117
   refine io hv113 (α:=Int) (xss:=l) (i:=11) (γ:=g114) gf bN rfl rfl rfl o_l (o118.flat) o111 rfl (by decide) (by omega) ?_
   intro g119 w120 v121 ch122 o123 r124
   clear o_l o111
   refine ma v121 (ab (aO rfl ?_))
   clear o118 r124
   refine a6 rfl (lx (aS (m:=↑e) (n:=1) z68_69 rfl (by omega)) (mi ((e:Int)+1) (ab ?_)))
   have C125:=cg [9,11] (ch110.n.seq (ch117.n.seq (ch122.lx rfl rfl)))
   refine back12 (v121,(l++[[(e:Int)]]),e+1,mp,g119) _ _ ⟨bH.ca C125,z68_1,z68_2,z68_10,rfl,z68_14,z68_67,z68_68,rfl,Rg.ca C125,o46.ca C125,m53.ca C125,o123,by omega,?_⟩ ?_
   · show jM (bu (g.1,ie)).1 g u v (e+1) (l++[[(e:Int)]]) mp
     exact hcl.alone' hwo (by omega)
   · show Int.toNat (_-_)<Int.toNat (_-_)
     omega
  refine ag rfl (df p17) (ao (a7 ?_))
  clear bx64
  refine a6 rfl (mz z68_14 (mz z68_10 (mz z68_17 (lx (ad (v:=v45) (i:=wo) bF rfl rfl o46.flat rfl (by omega) (by omega)) (lx (av (v:=v45) (i:=wo) ah rfl o46.flat (by omega) (by omega) (by decide) rfl) (lw (vt [vi (mp.1 (gI ((bu (g.1,ie)).1) wo)),vb (decide ((gI ((bu (g.1,ie)).1) wo)∈mp.2))]) (gD (gI ((bu (g.1,ie)).1) wo) o7 (be U3) ah rfl m53 rfl rfl) (mv (vt [vi (mp.1 (gI ((bu (g.1,ie)).1) wo)),vb (decide ((gI ((bu (g.1,ie)).1) wo)∈mp.2))]) (lx (aJ rfl rfl) (lx (aJ rfl rfl) ?_)))))))))
  refine ai (mp.1 (gI ((bu (g.1,ie)).1) wo)) (ma (vb (decide ((gI ((bu (g.1,ie)).1) wo)∈mp.2))) (ab (a7 (a7 (a6 rfl (mv (vb (decide ((gI ((bu (g.1,ie)).1) wo)∈mp.2))) (lx (eU (b:=decide ((gI ((bu (g.1,ie)).1) wo)∈mp.2)) rfl) (ab ?_))))))))
  by_cases p20:(gI ((bu (g.1,ie)).1) wo)∈mp.2
  ·
   have hrk:=hcl.rg _ ‹_›
   have hrl:=hcl.sm _ (bC (xs:=l) hrk.1 hrk.2)
   obtain⟨hrk0,hrk1⟩:=hrk
   refine ag rfl (congrArg Bool.not (dt p20)) (ao (a6 rfl (mz z68_13 (mi (mp.1 (gI ((bu (g.1,ie)).1) wo)) (mz z68_13 (mi (mp.1 (gI ((bu (g.1,ie)).1) wo)) (lx (ad (v:=l_v) (i:=mp.1 (gI ((bu (g.1,ie)).1) wo)) gf rfl rfl o_l.sl rfl (by omega) (by omega)) ?_)))))))
   obtain⟨v126,cel127,r128⟩:=dv (r:=mp.1 (gI ((bu (g.1,ie)).1) wo)) o_l (by omega) (by omega)
   refine lx (cH bN rfl cel127) (mz z68_15 (lo (ar (α:=Int) g67 (is 12) (is 12) (12,0) rfl [(e:Int)] bF ah (by decide) (by decide) (vs:=[(0,vi ↑e)]) rfl rfl (.cons rfl .nil) ?_)))
   intro g129 w130 v131 ch132 o133
   refine lo ?_
   replace o_l:=o_l.cn ch132
   replace r128:=r128.cn ch132
   refine aK (α:=Int) (xs:=(gI l (mp.1 (gI ((bu (g.1,ie)).1) wo)))) (ys:=([(e:Int)])) g129 (J:=row 11 (Int.toNat (mp.1 (gI ((bu (g.1,ie)).1) wo))+1)) (S:=row 11 (Int.toNat (mp.1 (gI ((bu (g.1,ie)).1) wo))+1)) (11,Int.toNat (mp.1 (gI ((bu (g.1,ie)).1) wo))+1) rfl bF ah (by decide) rfl rfl rfl r128 o133.flat (by decide) (by(simp only[List.length_cons,List.length_nil];omega)) ?_
   intro g134 w135 v136 ch137 o138
   have o139:=o_l.rowchg ch137
   clear o_l cel127 r128
   obtain⟨us140,hl141,r142⟩:=o139.vc
   try simp only[List.length_set,List.length_append,List.length_cons,List.length_nil] at hl141
   refine lx (ad (v:=l_v) (i:=mp.1 (gI ((bu (g.1,ie)).1) wo)) gf rfl rfl r142 rfl (by omega) (by omega)) (lo (cr (r:=mp.1 (gI ((bu (g.1,ie)).1) wo)) bN rfl rfl o139 o138 (by omega) (by omega) ?_))
   intro w146 ch147 o148
   clear o139 o138
   refine ab (ak ?_)
   clear o133
   refine a6 rfl (lx (aS (m:=↑e) (n:=1) z68_69 rfl (by omega)) (mi ((e:Int)+1) (ab ?_)))
   have C149:=cg [11] (ch132.n.seq ((ch137.lr rfl).seq (ch147.l rfl)))
   refine back12 (l_v,(List.set l (Int.toNat (mp.1 (gI ((bu (g.1,ie)).1) wo))) (gI l (mp.1 (gI ((bu (g.1,ie)).1) wo))++[(e:Int)])),e+1,mp,g134) _ _ ⟨bH.ca C149,z68_1,z68_2,z68_10,z68_13,z68_14,z68_67,z68_68,rfl,Rg.ca C149,o46.ca C149,m53.ca C149,o148,by omega,?_⟩ ?_
   · show jM (bu (g.1,ie)).1 g u v (e+1) (List.set l (Int.toNat (mp.1 (gI ((bu (g.1,ie)).1) wo))) (gI l (mp.1 (gI ((bu (g.1,ie)).1) wo))++[(e:Int)])) mp
     exact hcl.old' hwo (by omega) ‹_› rfl
   · show Int.toNat (_-_)<Int.toNat (_-_)
     omega
  have hnl:((gI (l++[[]]) (l.length:Int)).length:Int)=0:=by simp[gI]
  have hnl2:(((l++[[]]:jH).length:Nat):Int)=(l.length:Int)+1:=by simp
  refine af rfl (congrArg Bool.not (df p20)) (a7 (a6 rfl (mz z68_13 ?_)))
  have len150:=(o_l.sl).small
  refine lx (bp gf rfl o_l.sl) (ai (l.length:Int) (ab (a7 (a6 rfl (mz z68_14 (mz z68_10 (mz z68_17 (lx (ad (v:=v45) (i:=wo) bF rfl rfl o46.flat rfl (by omega) (by omega)) (lx (av (v:=v45) (i:=wo) ah rfl o46.flat (by omega) (by omega) (by decide) rfl) (mi (l.length:Int) (lo ?_)))))))))))
  refine eP (m:=(l.length:Int)) (gI ((bu (g.1,ie)).1) wo) o7 (be U3) rfl m53 rfl rfl rfl ?_
  intro w151 ch152 m153
  clear m53
  refine ab (a6 rfl (mz z68_13 (lo ?_)))
  obtain⟨c154,hv155⟩:=dc (u:=vn) rfl
  refine ar (α:=Vc) g67 (is 14) (is 14) (14,0) rfl [c154] gf bN (by decide) (by decide) (vs:=[(0,vn)]) rfl rfl (.cons (oz hv155 rfl) .nil) ?_
  intro g156 w157 v158 ch159 o160
  refine lo ?_
  replace o_l:=(o_l.ce ch152).cn ch159
  refine lE hv155 (α:=Int) (xss:=l) (i:=11) (γ:=g156) gf bN rfl rfl rfl o_l (o160.flat) (by decide) (by omega) ?_
  intro g161 w162 v163 ch164 o165
  clear o_l
  refine ma v163 (ab ?_)
  clear o160
  refine a6 rfl (mv v163 (mi (l.length:Int) (mv v163 (mi (l.length:Int) (lx (ad (v:=v163) (i:=(l.length:Int)) gf rfl rfl o165.sl rfl (by omega) (by omega)) ?_)))))
  obtain⟨v166,cel167,r168⟩:=dv (r:=(l.length:Int)) o165 (by omega) (by omega)
  refine lx (cH bN rfl cel167) (mz z68_15 (lo (ar (α:=Int) g161 (is 12) (is 12) (12,0) rfl [(e:Int)] bF ah (by decide) (by decide) (vs:=[(0,vi ↑e)]) rfl rfl (.cons rfl .nil) ?_)))
  intro g169 w170 v171 ch172 o173
  refine lo ?_
  replace o165:=o165.cn ch172
  replace r168:=r168.cn ch172
  refine aK (α:=Int) (xs:=(gI (l++[[]]) (l.length:Int))) (ys:=([(e:Int)])) g169 (J:=row 11 (Int.toNat (l.length:Int)+1)) (S:=row 11 (Int.toNat (l.length:Int)+1)) (11,Int.toNat (l.length:Int)+1) rfl bF ah (by decide) rfl rfl rfl r168 o173.flat (by decide) (by(simp only[List.length_cons,List.length_nil];omega)) ?_
  intro g174 w175 v176 ch177 o178
  have o179:=o165.rowchg ch177
  clear o165 cel167 r168
  obtain⟨us180,hl181,r182⟩:=o179.vc
  try simp only[List.length_set,List.length_append,List.length_cons,List.length_nil] at hl181
  refine lx (ad (v:=v163) (i:=(l.length:Int)) gf rfl rfl r182 rfl (by omega) (by omega)) (lo (cr (r:=(l.length:Int)) bN rfl rfl o179 o178 (by omega) (by omega) ?_))
  intro w186 ch187 o188
  clear o179 o178
  refine ab (ak ?_)
  clear o173
  refine a6 rfl (lx (aS (m:=↑e) (n:=1) z68_69 rfl (by omega)) (mi ((e:Int)+1) (ab ?_)))
  have C189:=cg [7,11] ((ch152.l rfl).seq (ch159.n.seq ((ch164.l rfl).seq (ch172.n.seq ((ch177.lr rfl).seq (ch187.l rfl))))))
  have C190:=cg [11] (ch159.n.seq ((ch164.l rfl).seq (ch172.n.seq ((ch177.lr rfl).seq (ch187.l rfl)))))
  refine back12 (v163,(List.set (l++[[]]) (Int.toNat (l.length:Int)) (gI (l++[[]]) (l.length:Int)++[(e:Int)])),e+1,((λq=>if q=(gI ((bu (g.1,ie)).1) wo) then(l.length:Int) else mp.1 q),if(gI ((bu (g.1,ie)).1) wo)∈mp.2 then mp.2 else mp.2++[(gI ((bu (g.1,ie)).1) wo)]),g174) _ _ ⟨bH.ca C189,z68_1,z68_2,z68_10,rfl,z68_14,z68_67,z68_68,rfl,Rg.ca C189,o46.ca C189,m153.ca C190,o188,by omega,?_⟩ ?_
  · show jM (bu (g.1,ie)).1 g u v (e+1) (List.set (l++[[]]) (Int.toNat (l.length:Int)) (gI (l++[[]]) (l.length:Int)++[(e:Int)])) ((λq=>if q=(gI ((bu (g.1,ie)).1) wo) then(l.length:Int) else mp.1 q),if(gI ((bu (g.1,ie)).1) wo)∈mp.2 then mp.2 else mp.2++[(gI ((bu (g.1,ie)).1) wo)])
    exact hcl.new' hwo (by omega) ‹_› rfl rfl
  · show Int.toNat (_-_)<Int.toNat (_-_)
    omega
 refine ag rfl (df p12) (aO rfl (a7 ?_))
 clear o46 m53
 refine a6 rfl (mz zs13 (ma l_v (ab (au (vs:=[l_v]) Tryz.func89 (.tmp rfl .nil) ?_))))
 have e0:(l:jH)=(rC g u v):=by
   (rw[hie2] at hcl;exact hcl.done (by omega) ‹_›)
 exact⟨(fin w0 g56 (λn=>if n=11 then 1 else 0),l_v),(congrArg (a₁:=l) (λ(z0:jH)=>Ending.returned (l_v)) e0),bH.fresh _,(e0▸(o_l.glue (γ:=c0) (ren:=(λn=>if n=11 then 1 else 0)) (k:=1) bH.col rfl rfl))⟩
end TL
