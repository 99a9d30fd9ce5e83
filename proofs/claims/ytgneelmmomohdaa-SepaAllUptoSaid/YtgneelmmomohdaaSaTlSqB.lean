import Derived.Test.YtgneelmmomohdaaSaTlP5
import Derived.Test.YtgneelmmomohdaaSaTlErA
import Derived.Test.YtgneelmmomohdaaSaTlSqA
import Derived.Test.YtgneelmmomohdaaSaTlGenA
import Derived.Test.YtgneelmmomohdaaProg
import Derived.Test.YtgneelmmomohdaaSaTlAli
set_option linter.all false
set_option maxRecDepth 20000
namespace TL
open Go Go.Proofs
theorem kG:Try.f40.body.isNone=false:=rfl
theorem kO:(Try.f40.name== "runtime.NumGoroutine")=false:=by decide+kernel
theorem vj(w0:World)(g:(Int)×(List Pt))(g_v:Value)(hg_v:Ro w0 g_v g.2)(hm:aX g):
    Calls Try.prog 15 #[vg [vi g.1,g_v]] w0 (λee w=>ee= .returned (vi (eK g))/\ep w0.heap.size w0 w):=by
 refine av Try.func15 rfl nq ?_
 have bH:=bn.start w0
 have Rg:=hg_v.sl
 have hm0:=hm
 obtain⟨hm1,hm2,hm3,hm4⟩:=hm0
 refine aa (a8 rfl (cB rfl (cr c0 (is 1) (1,0) rfl rfl ?_)))
 intro g4 w1 b3 ch2 bx5
 replace bx5:Bx g4 (is 1) w1 b3 [vi g.1,g_v]:=bx5
 refine ai 0 (ab (aa (aa (a8 rfl (lx (af cW rfl rfl rfl rfl) (lx (ae aj rfl bx5 rfl) (lx (bm (m:=g.1) (n:=2) rfl rfl) (mv (vb (decide (g.1<2))) ?_))))))))
 by_cases q9:g.1<2
 ·
  refine ak (wn (dt q9)) (ak (wn (dt q9)) (ak (wn (dt q9)) (lw (vb true) (aO rfl (dt q9) rfl) (ab (ah rfl rfl (aa ?_))))))
  clear bx5
  refine a8 rfl (ai 0 (ab (aD (vs:=[vi 0]) Try.func15 (.tmp rfl .nil) ?_)))
  have e0:(0:Int)=(eK g):=by
    exact(CD hm (.inl (by omega))).symm
  replace bH:=bH.cn ch2
  exact⟨ri e0,bH.below⟩
 refine lv (vg [vi g.1,g_v]) (wy (df q9)) (aB (ds:=[vi g.1,g_v]) aK rfl bx5 rfl rfl) ?_
 replace Rg:=Rg.cn ch2
 refine cB (wy (df q9)) (bW (v:=vi (cV g ([]))) (aN (vals:=[vg [vi g.1,g_v],vn]) Try.func40 kG kO rfl) (kP w1 g g_v (Rg).ro ([]) vn (Sl.nil (γ:=c0) (S:=any)) (by exact hm) (by exact(λv hv=>absurd hv List.not_mem_nil))) ?_)
 intro w6 hb7
 replace hb7:=aS hb7 g4
 refine lv (vb (!(decide ((cV g ([]))=1)))) (wy (df q9)) (cK (m:=cV g ([])) (n:=1) rfl rfl) (lw (vb (!(decide ((cV g ([]))=1)))) (aP rfl (df q9) rfl) (ab ?_))
 by_cases p1:(cV g ([]))=1
 ·
  refine ag rfl (congrArg Bool.not (dt p1)) (aq (aa (aa (a8 rfl (lx (af cW rfl rfl rfl rfl) ?_)))))
  replace bx5:=bx5.cn hb7
  refine lx (ae aj rfl bx5 rfl) (lx (bm (m:=g.1) (n:=3) rfl rfl) (ab ?_))
  by_cases p3:g.1<3
  ·
   refine ah rfl (dt p3) (aa ?_)
   clear bx5
   refine a8 rfl (ai 1 (ab (aD (vs:=[vi 1]) Try.func15 (.tmp rfl .nil) ?_)))
   have e0:(1:Int)=(eK g):=by
     exact(CA hm (by omega) ‹_› (.inl (by omega))).symm
   replace bH:=bH.cn ch2
   replace bH:=bH.cn hb7
   exact⟨ri e0,bH.below⟩
  refine ag rfl (df p3) (aq (aa (aa (a8 rfl (ai 0 (ab (ao ?_)))))))
  refine aY (σ:=Nat×aG) (λ⟨u,gq⟩ f w=>bn w0 gq w/\f 1=vp b3 0/\f 3=vi ↑u/\Sl gq (is 0) w g_v g.2/\Bx gq (is 1) w b3 [vi g.1,g_v]/\(u:Int)<=(g.1:Int)/\(∀x:Nat,x<u->cV g [(x:Int)]=1)) (λ⟨u,gq⟩=>Int.toNat ((g.1:Int)-(u:Int))) (0,g4) ?_ ?_
  replace bH:=bH.cn ch2
  · exact⟨bH.cn hb7,rfl,rfl,Rg.cn hb7,bx5,by omega,by intro x hx;omega⟩
  clear Rg bx5 bH
  rintro⟨u,g10⟩ f8 w9 ⟨bH,zs1,zs3,Rg,bx5,hle_u,hu1⟩ back6
  refine aa (aa (a8 rfl (mz zs3 (lx (af cW rfl rfl zs1 rfl) (lx (ae aj rfl bx5 rfl) (lx (bm (m:=↑u) (n:=g.1) rfl rfl) (ab ?_)))))))
  by_cases p6:(u:Int)<g.1
  ·
   refine ah rfl (dt p6) (aq (aa (ao (aa (a8 rfl (lx (aB (ds:=[vi g.1,g_v]) aK zs1 bx5 rfl rfl) (mz zs3 (lo (aC (α:=Int) g10 (is 2) (is 2) (2,0) rfl ([(u:Int)]:List Int) bv aj (by decide) (by decide) (vs:=[(0,vi ↑u)]) rfl rfl (.cons rfl .nil) ?_)))))))))
   intro g11 w12 v13 ch14 o15
   replace Rg:=Rg.cn ch14
   refine lo (bW (v:=vi (cV g ([(u:Int)]:List Int))) (aN (vals:=[vg [vi g.1,g_v],v13]) Try.func40 kG kO rfl) (kP w12 g g_v (Rg).ro ([(u:Int)]:List Int) v13 (o15.flat).ro (by exact hm) (by exact sW ⟨by omega,by omega⟩)) ?_)
   intro w16 hb17
   replace hb17:=aS hb17 g11
   refine lx (cK (m:=cV g ([(u:Int)]:List Int)) (n:=1) rfl rfl) (ab ?_)
   by_cases p8:(cV g ([(u:Int)]:List Int))=1
   ·
    refine ag rfl (congrArg Bool.not (dt p8)) (aq (am ?_))
    clear o15
    refine a8 rfl (mz zs3 (lx (aI (m:=↑u) (n:=1) rfl rfl (by omega)) (ai ((u:Int)+1) (ab ?_))))
    replace bH:=bH.cn ch14
    refine back6 (u+1,g11) _ _ ⟨bH.cn hb17,zs1,rfl,Rg.cn hb17,(bx5.cn ch14).cn hb17,by omega,?_⟩ ?_
    · show∀x:Nat,x<(u+1)->cV g [(x:Int)]=1
      intro x hx;by_cases q:x=u;(rw[q];assumption);exact hu1 x (by omega)
    · show Int.toNat ((g.1:Int)-((u+1):Int))<Int.toNat ((g.1:Int)-(u:Int))
      omega
   refine ah rfl (congrArg Bool.not (df p8)) (aa ?_)
   clear bx5 o15
   refine a8 rfl (ai 1 (ab (aD (vs:=[vi 1]) Try.func15 (.tmp rfl .nil) ?_)))
   have e0:(1:Int)=(eK g):=by
     exact(CA hm (by omega) ‹_› (.inr ⟨(u:Int),⟨by omega,by omega⟩,by assumption⟩)).symm
   replace bH:=bH.cn ch14
   replace bH:=bH.cn hb17
   exact⟨ri e0,bH.below⟩
  refine ag rfl (df p6) (aH rfl (aa (aa ?_)))
  have hL2:L2 g:=BU hm (by omega) ‹_› (λx hx=>hu1 x (by omega))
  refine a8 rfl (lx (af cW rfl rfl zs1 rfl) (lx (ae aj rfl bx5 rfl) (lx (bm (m:=g.1) (n:=4) rfl rfl) (ab ?_))))
  by_cases p10:g.1<4
  ·
   refine ah rfl (dt p10) (aa ?_)
   clear bx5
   refine a8 rfl (ai 2 (ab (aD (vs:=[vi 2]) Try.func15 (.tmp rfl .nil) ?_)))
   have e0:(2:Int)=(eK g):=by
     exact(CE hm hL2 (.inl (by omega))).symm
   exact⟨ri e0,bH.below⟩
  refine ag rfl (df p10) (aq (aa (aa (a8 rfl (ai 0 (ab (ao ?_)))))))
  refine aY (σ:=Nat×aG) (λ⟨a,gq⟩ f w=>bn w0 gq w/\f 1=vp b3 0/\f 4=vi ↑a/\Sl gq (is 0) w g_v g.2/\Bx gq (is 1) w b3 [vi g.1,g_v]/\(a:Int)<=(g.1:Int)/\(∀x y:Int,0<=x->x<y->y<g.1->x<(a:Int)->cV g [x,y]=1)) (λ⟨a,gq⟩=>Int.toNat ((g.1:Int)-(a:Int))) (0,g10) ?_ ?_
  · exact⟨bH,zs1,rfl,Rg,bx5,by omega,by intro x y h1 h2 h3 h4;omega⟩
  clear Rg bx5 bH
  rintro⟨a,g20⟩ f18 w19 ⟨bH,zs1,zs4,Rg,bx5,hle_a,hu2⟩ back13
  refine aa (aa (a8 rfl (mz zs4 (lx (af cW rfl rfl zs1 rfl) (lx (ae aj rfl bx5 rfl) (lx (bm (m:=↑a) (n:=g.1) rfl rfl) (ab ?_)))))))
  by_cases p13:(a:Int)<g.1
  ·
   refine ah rfl (dt p13) (aq (aa (ao (aa (a8 rfl (mz zs4 (lx (aI (m:=↑a) (n:=1) rfl rfl (by omega)) (ai ((a:Int)+1) (ab (ao ?_))))))))))
   refine aY (σ:=Int×aG) (λ⟨b,gq⟩ f w=>bn w0 gq w/\f 1=vp b3 0/\f 4=vi ↑a/\f 5=vi b/\Sl gq (is 0) w g_v g.2/\Bx gq (is 1) w b3 [vi g.1,g_v]/\((∀y:Int,(a:Int)<y->y<b->cV g [(a:Int),y]=1)/\(a:Int)+1<=b/\b<=g.1)) (λ⟨b,gq⟩=>(g.1-b).toNat) ((a:Int)+1,g20) ?_ ?_
   · exact⟨bH,zs1,zs4,rfl,Rg,bx5,by exact⟨λy h1 h2=>by omega,by omega,by omega⟩⟩
   clear Rg bx5 bH
   rintro⟨b,g23⟩ f21 w22 ⟨bH,zs1,zs4,zs5,Rg,bx5,hu30⟩ back16
   obtain⟨hu3,hb1,hb2⟩:=hu30
   refine aa (aa (a8 rfl (mz zs5 (lx (af cW rfl rfl zs1 rfl) (lx (ae aj rfl bx5 rfl) (lx (bm (m:=b) (n:=g.1) rfl rfl) (ab ?_)))))))
   by_cases p16:b<g.1
   ·
    refine ah rfl (dt p16) (aq (aa (ao (aa (a8 rfl (lx (aB (ds:=[vi g.1,g_v]) aK zs1 bx5 rfl rfl) (mz zs4 (mz zs5 (lo (aC (α:=Int) g23 (is 3) (is 3) (3,0) rfl ([(a:Int),b]:List Int) bv aj (by decide) (by decide) (vs:=[(0,vi ↑a),(1,vi b)]) rfl rfl (.cons rfl (.cons rfl .nil)) ?_))))))))))
    intro g24 w25 v26 ch27 o28
    replace Rg:=Rg.cn ch27
    refine lo (bW (v:=vi (cV g ([(a:Int),b]:List Int))) (aN (vals:=[vg [vi g.1,g_v],v26]) Try.func40 kG kO rfl) (kP w25 g g_v (Rg).ro ([(a:Int),b]:List Int) v26 (o28.flat).ro (by exact hm) (by exact iG ⟨by omega,by omega⟩ ⟨by omega,by omega⟩)) ?_)
    intro w29 hb30
    replace hb30:=aS hb30 g24
    refine lx (cK (m:=cV g ([(a:Int),b]:List Int)) (n:=1) rfl rfl) (ab ?_)
    by_cases p18:(cV g ([(a:Int),b]:List Int))=1
    ·
     refine ag rfl (congrArg Bool.not (dt p18)) (aq (am ?_))
     clear o28
     refine a8 rfl (mz zs5 (lx (aI (m:=b) (n:=1) rfl rfl (by omega)) (ai (b+1) (ab ?_))))
     replace bH:=bH.cn ch27
     refine back16 (b+1,g24) _ _ ⟨bH.cn hb30,zs1,zs4,rfl,Rg.cn hb30,(bx5.cn ch27).cn hb30,?_⟩ ?_
     · show(∀y:Int,(a:Int)<y->y<(b+1)->cV g [(a:Int),y]=1)/\(a:Int)+1<=(b+1)/\(b+1)<=g.1
       refine⟨λy h1 h2=>?_,by omega,by omega⟩
       by_cases q:y=b
       · rw[q];assumption
       · exact hu3 y h1 (by omega)
     · show(g.1-(b+1)).toNat<(g.1-b).toNat
       omega
    refine ah rfl (congrArg Bool.not (df p18)) (aa ?_)
    clear bx5 o28
    refine a8 rfl (ai 2 (ab (aD (vs:=[vi 2]) Try.func15 (.tmp rfl .nil) ?_)))
    have e0:(2:Int)=(eK g):=by
      exact(CE hm hL2 (.inr ⟨(a:Int),b,⟨by omega,by omega,by omega⟩,by assumption⟩)).symm
    replace bH:=bH.cn ch27
    replace bH:=bH.cn hb30
    exact⟨ri e0,bH.below⟩
   refine ag rfl (df p16) (aH rfl (am (a8 rfl (mz zs4 (lx (aI (m:=↑a) (n:=1) rfl rfl (by omega)) (ai ((a:Int)+1) (ab ?_)))))))
   refine back13 (a+1,g23) _ _ ⟨bH,zs1,rfl,Rg,bx5,by omega,?_⟩ ?_
   · show∀x y:Int,0<=x->x<y->y<g.1->x<((a+1):Int)->cV g [x,y]=1
     intro x y h1 h2 h3 h4;by_cases q:x=(a:Int);(rw[q];exact hu3 y (by omega) (by omega));exact hu2 x y h1 h2 h3 (by omega)
   · show Int.toNat ((g.1:Int)-((a+1):Int))<Int.toNat ((g.1:Int)-(a:Int))
     omega
  refine ag rfl (df p13) (aH rfl (aa ?_))
  clear bx5
  refine a8 rfl (ai 3 (ab (aD (vs:=[vi 3]) Try.func15 (.tmp rfl .nil) ?_)))
  have e0:(3:Int)=(eK g):=by
    exact(Dp hm hL2 (by omega) (λx y h1 h2 h3=>hu2 x y h1 h2 h3 (by omega))).symm
  exact⟨ri e0,bH.below⟩
 refine ah rfl (congrArg Bool.not (df p1)) (aa ?_)
 clear bx5
 refine a8 rfl (ai 0 (ab (aD (vs:=[vi 0]) Try.func15 (.tmp rfl .nil) ?_)))
 have e0:(0:Int)=(eK g):=by
   exact(CD hm (.inr ‹_›)).symm
 replace bH:=bH.cn ch2
 replace bH:=bH.cn hb7
 exact⟨ri e0,bH.below⟩
theorem oP(w0:World)(g:(Int)×(List Pt))(g_v:Value)(hg_v:Ro w0 g_v g.2)(hm:aX g):
    Calls Try.prog 17 #[vg [vi g.1,g_v]] w0 (λee w=>∃xx:aG×Value,ee= .returned ((λ⟨δ,rv0⟩=>rv0) xx)/\(λ(⟨δ,rv0⟩:aG×Value) (w:World)=>eB w0 δ w/\Ow δ (is 1) (is 1) w rv0 (d3 g)) xx w):=by
 refine av Try.func17 rfl nq ?_
 have bH:=bn.start w0
 have Rg:=hg_v.sl
 have hm0:=hm
 obtain⟨hm1,hm2,hm3,hm4⟩:=hm0
 refine aa (a8 rfl (cB rfl (cr c0 (is 1) (1,0) rfl rfl ?_)))
 intro g4 w1 b3 ch2 bx5
 replace bx5:Bx g4 (is 1) w1 b3 [vi g.1,g_v]:=bx5
 refine ma vn (ab (aa (a8 rfl (ma vn (ab (aa (aa (a8 rfl (ai 0 (ab (ao ?_)))))))))))
 refine aY (σ:=Value×(List Pt)×Nat×aG) (λ⟨l_v,l,u,gq⟩ f w=>bn w0 gq w/\f 1=vp b3 0/\f 3=l_v/\f 4=vi ↑u/\Sl gq (is 0) w g_v g.2/\Bx gq (is 1) w b3 [vi g.1,g_v]/\Ow gq (is 4) (is 4) w l_v l/\(u:Int)<=(g.1:Int)/\(l=(bp u).flatMap (i5 g))) (λ⟨l_v,l,u,gq⟩=>Int.toNat ((g.1:Int)-(u:Int))) (vn,[],0,g4) ?_ ?_
 · exact⟨bH.cn ch2,rfl,rfl,rfl,Rg.cn ch2,bx5,Ow.nil,by omega,by rfl⟩
 clear Rg bx5 bH
 rintro⟨l_v,l,u,g8⟩ f6 w7 ⟨bH,zs1,zs3,zs4,Rg,bx5,o_l,hle_u,hl⟩ back3
 have hll:l.length<=u*1024:=by rw[hl];exact tl (λx=>Nat.le_trans pM (by omega)) u
 refine aa (aa (a8 rfl (mz zs4 (lx (af cW rfl rfl zs1 rfl) (lx (ae aj rfl bx5 rfl) (lx (bm (m:=↑u) (n:=g.1) rfl rfl) (ab ?_)))))))
 by_cases p3:(u:Int)<g.1
 ·
  refine ah rfl (dt p3) (aq (aa (ao (aa (a8 rfl (mz zs4 (lx (aI (m:=↑u) (n:=1) rfl rfl (by omega)) (ai ((u:Int)+1) (ab (ao ?_))))))))))
  refine aY (σ:=Value×(List Pt)×Int×aG) (λ⟨l2_v,l2,v,gq⟩ f w=>bn w0 gq w/\f 1=vp b3 0/\f 3=l2_v/\f 4=vi ↑u/\f 5=vi v/\Sl gq (is 0) w g_v g.2/\Bx gq (is 1) w b3 [vi g.1,g_v]/\Ow gq (is 4) (is 4) w l2_v l2/\(l2=(bp u).flatMap (i5 g)++jv g (u:Int) v.toNat/\(u:Int)+1<=v/\v<=g.1)) (λ⟨l2_v,l2,v,gq⟩=>(g.1-v).toNat) (l_v,l,(u:Int)+1,g8) ?_ ?_
  · exact⟨bH,zs1,zs3,zs4,rfl,Rg,bx5,o_l,by exact⟨by rw[hl,zC,List.append_nil],by omega,by omega⟩⟩
  clear Rg bx5 o_l bH
  rintro⟨l2_v,l2,v,g11⟩ f9 w10 ⟨bH,zs1,zs3,zs4,zs5,Rg,bx5,o_l2,hl20⟩ back6
  obtain⟨hl2,hv1,hv2⟩:=hl20
  have hll2:l2.length<=u*1024+1024:=by rw[hl2,List.length_append,<-hl];exact Nat.add_le_add hll (Nat.le_trans pM (by omega))
  refine aa (aa (a8 rfl (mz zs5 (lx (af cW rfl rfl zs1 rfl) (lx (ae aj rfl bx5 rfl) (lx (bm (m:=v) (n:=g.1) rfl rfl) (ab ?_)))))))
  by_cases p6:v<g.1
  ·
   refine ah rfl (dt p6) (aq (aa (ao (aa (a8 rfl (lx (aB (ds:=[vi g.1,g_v]) aK zs1 bx5 rfl rfl) (mz zs4 (mz zs5 (lo (aC (α:=Int) g11 (is 2) (is 2) (2,0) rfl ([(u:Int),v]:List Int) bv aj (by decide) (by decide) (vs:=[(0,vi ↑u),(1,vi v)]) rfl rfl (.cons rfl (.cons rfl .nil)) ?_))))))))))
   intro g12 w13 v14 ch15 o16
   replace Rg:=Rg.cn ch15
   refine lo (bW (v:=vi (cV g ([(u:Int),v]:List Int))) (aN (vals:=[vg [vi g.1,g_v],v14]) Try.func40 kG kO rfl) (kP w13 g g_v (Rg).ro ([(u:Int),v]:List Int) v14 (o16.flat).ro (by exact hm) (by exact iG ⟨by omega,by omega⟩ ⟨by omega,by omega⟩)) ?_)
   intro w17 hb18
   replace hb18:=aS hb18 g12
   refine lx (eu (m:=cV g ([(u:Int),v]:List Int)) (n:=1) rfl rfl) (ab ?_)
   by_cases p8:1<(cV g ([(u:Int),v]:List Int))
   ·
    refine ah rfl (dt p8) ?_
    clear o16
    refine a8 rfl (mz zs3 (mz zs4 (mz zs5 (lw (vg [vi ↑u,vi v]) (bS (vs:=[(0,vi ↑u),(1,vi v)]) rfl (by kernel_rfl)) (lo (aC (α:=Pt) g12 (is 3) (is 3) (3,0) rfl ([((u:Int),v)]:List Pt) dc b7 (by decide) (by decide) (vs:=[(0,vg [vi ↑u,vi v])]) rfl rfl (.cons rfl .nil) ?_))))))
    intro g19 w20 v21 ch22 o23
    refine lo ?_
    have C24:=cg [] (ch15.n.seq (hb18.n.seq ch22.n))
    replace o_l2:=o_l2.ca C24
    refine bf (α:=Pt) (xs:=l2) (ys:=([((u:Int),v)]:List Pt)) g19 (J:=is 4) (S:=is 4) (4,0) rfl dc b7 (by decide) rfl rfl rfl o_l2 o23.flat (by decide) (by(simp;omega)) ?_
    intro g25 w26 v27 ch28 o29
    clear o_l2
    refine ma v27 (ab (am ?_))
    clear o23
    refine a8 rfl (mz zs5 (lx (aI (m:=v) (n:=1) rfl rfl (by omega)) (ai (v+1) (ab ?_))))
    have C31:=cg [4] (hb18.n.seq (ch22.n.seq (ch28.l rfl)))
    have C30:=ch15.n.seq C31
    refine back6 (v27,(l2++([((u:Int),v)]:List Pt)),v+1,g25) _ _ ⟨bH.ca C30,zs1,rfl,zs4,rfl,Rg.ca C31,bx5.ca C30,o29,?_⟩ ?_
    · show(l2++([((u:Int),v)]:List Pt))=(bp u).flatMap (i5 g)++jv g (u:Int) (v+1).toNat/\(u:Int)+1<=(v+1)/\(v+1)<=g.1
      refine⟨?_,by omega,by omega⟩
      rw[hl2,List.append_assoc,vQ (by omega) (by omega) ‹_›]
    · show(g.1-(v+1)).toNat<(g.1-v).toNat
      omega
   refine ag rfl (df p8) (aq (am ?_))
   clear o16
   refine a8 rfl (mz zs5 (lx (aI (m:=v) (n:=1) rfl rfl (by omega)) (ai (v+1) (ab ?_))))
   replace bH:=bH.cn ch15
   refine back6 (l2_v,l2,v+1,g12) _ _ ⟨bH.cn hb18,zs1,zs3,zs4,rfl,Rg.cn hb18,(bx5.cn ch15).cn hb18,(o_l2.cn ch15).cn hb18,?_⟩ ?_
   · show l2=(bp u).flatMap (i5 g)++jv g (u:Int) (v+1).toNat/\(u:Int)+1<=(v+1)/\(v+1)<=g.1
     refine⟨?_,by omega,by omega⟩
     rw[hl2,yY (by omega) ‹_›]
   · show(g.1-(v+1)).toNat<(g.1-v).toNat
     omega
  refine ag rfl (df p6) (aH rfl (am (a8 rfl (mz zs4 (lx (aI (m:=↑u) (n:=1) rfl rfl (by omega)) (ai ((u:Int)+1) (ab ?_)))))))
  refine back3 (l2_v,l2,u+1,g11) _ _ ⟨bH,zs1,zs3,rfl,Rg,bx5,o_l2,by omega,?_⟩ ?_
  · show l2=(bp (u+1)).flatMap (i5 g)
    (rw[hl2,show v.toNat=g.1.toNat by omega];exact xG)
  · show Int.toNat ((g.1:Int)-((u+1):Int))<Int.toNat ((g.1:Int)-(u:Int))
    omega
 refine ag rfl (df p3) (aH rfl (aa ?_))
 clear bx5
 refine a8 rfl (mz zs3 (ma l_v (ab (aD (vs:=[l_v]) Try.func17 (.tmp rfl .nil) ?_))))
 have e0:(l:List Pt)=(d3 g):=by
   (rw[hl,show u=g.1.toNat by omega];rfl)
 exact⟨(fin w0 g8 (λn=>if n=4 then 1 else 0),l_v),(congrArg (a₁:=l) (λ(z0:List Pt)=>Ending.returned (l_v)) e0),bH.fresh _,(e0▸(o_l.glue (γ:=c0) (ren:=(λn=>if n=4 then 1 else 0)) (k:=1) bH.col rfl rfl))⟩
end TL
