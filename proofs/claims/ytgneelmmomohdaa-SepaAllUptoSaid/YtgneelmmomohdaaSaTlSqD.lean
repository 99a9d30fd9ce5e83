import Derived.Test.YtgneelmmomohdaaSaTlP5
import Derived.Test.YtgneelmmomohdaaSaTlErA
import Derived.Test.YtgneelmmomohdaaSaTlSqA
import Derived.Test.YtgneelmmomohdaaSaTlSqC
import Derived.Test.YtgneelmmomohdaaSaTlGenA
import Derived.Test.YtgneelmmomohdaaProg
import Derived.Test.YtgneelmmomohdaaSaTlAli
set_option linter.all false
set_option maxRecDepth 20000
namespace TL
open Go Go.Proofs
theorem vv:Try.prog.follows .mixedOrders=true:=by kernel_rfl
theorem rY:Try.f19.body.isNone=false:=rfl
theorem qT:(Try.f19.name== "runtime.NumGoroutine")=false:=by decide+kernel
theorem xF:Try.f46.body.isNone=false:=rfl
theorem wm:(Try.f46.name== "runtime.NumGoroutine")=false:=by decide+kernel
set_option maxHeartbeats 8000000 in
theorem sJ(w0:World)(g:(Int)×(List Pt))(g_v:Value)(hg_v:Ro w0 g_v g.2)(hm:aX g):
    Calls Try.prog 22 #[vg [vi g.1,g_v]] w0 (λee w=>∃xx:aG×Value,ee= .returned ((λ⟨δ,rv0⟩=>rv0) xx)/\(λ(⟨δ,rv0⟩:aG×Value) (w:World)=>eB w0 δ w/\Ow δ (is 1) (is 1) w rv0 (dQ g)) xx w):=by
 refine av Try.func22 rfl nq ?_
 have bH:=bn.start w0
 have Rg:=hg_v.sl
 have hm0:=hm
 obtain⟨hm1,hm2,hm3,hm4⟩:=hm0
 refine aa (a8 rfl (cB rfl (cr c0 (is 1) (1,0) rfl rfl ?_)))
 intro g4 w1 b3 ch2 bx5
 replace bx5:Bx g4 (is 1) w1 b3 [vi g.1,g_v]:=bx5
 refine ma vn (ab (aa (a8 rfl (ma vn (ab (aa (aa (a8 rfl (ai 0 (ab (ao ?_)))))))))))
 refine aY (σ:=Value×(List Pt)×Nat×aG) (λ⟨l_v,l,u,gq⟩ f w=>bn w0 gq w/\f 1=vp b3 0/\f 3=l_v/\f 4=vi ↑u/\Sl gq (is 0) w g_v g.2/\Bx gq (is 1) w b3 [vi g.1,g_v]/\Ow gq (is 4) (is 4) w l_v l/\(u:Int)<=(g.1:Int)/\(l=(bp u).flatMap (fR g))) (λ⟨l_v,l,u,gq⟩=>Int.toNat ((g.1:Int)-(u:Int))) (vn,[],0,g4) ?_ ?_
 · exact⟨bH.cn ch2,rfl,rfl,rfl,Rg.cn ch2,bx5,Ow.nil,by omega,by rfl⟩
 clear Rg bx5 bH
 rintro⟨l_v,l,u,g8⟩ f6 w7 ⟨bH,zs1,zs3,zs4,Rg,bx5,o_l,hle_u,hl⟩ back3
 have hll:l.length<=u*1024:=by rw[hl];exact tl (λx=>Nat.le_trans pM (by omega)) u
 refine aa (aa (a8 rfl (mz zs4 (lx (af cW rfl rfl zs1 rfl) (lx (ae aj rfl bx5 rfl) (lx (bm (m:=↑u) (n:=g.1) rfl rfl) (ab ?_)))))))
 by_cases p3:(u:Int)<g.1
 ·
  refine ah rfl (dt p3) (aq (aa (ao (aa (a8 rfl (mz zs4 (lx (aI (m:=↑u) (n:=1) rfl rfl (by omega)) (ai ((u:Int)+1) (ab (ao ?_))))))))))
  refine aY (σ:=Value×(List Pt)×Int×aG) (λ⟨l2_v,l2,v,gq⟩ f w=>bn w0 gq w/\f 1=vp b3 0/\f 3=l2_v/\f 4=vi ↑u/\f 5=vi v/\Sl gq (is 0) w g_v g.2/\Bx gq (is 1) w b3 [vi g.1,g_v]/\Ow gq (is 4) (is 4) w l2_v l2/\(l2=(bp u).flatMap (fR g)++gQ g (u:Int) v.toNat/\(u:Int)+1<=v/\v<=g.1)) (λ⟨l2_v,l2,v,gq⟩=>(g.1-v).toNat) (l_v,l,(u:Int)+1,g8) ?_ ?_
  · exact⟨bH,zs1,zs3,zs4,rfl,Rg,bx5,o_l,by exact⟨by rw[hl,AR,List.append_nil],by omega,by omega⟩⟩
  clear Rg bx5 o_l bH
  rintro⟨l2_v,l2,v,g11⟩ f9 w10 ⟨bH,zs1,zs3,zs4,zs5,Rg,bx5,o_l2,hl20⟩ back6
  obtain⟨hl2,hv1,hv2⟩:=hl20
  have hll2:l2.length<=u*1024+1024:=by rw[hl2,List.length_append,<-hl];exact Nat.add_le_add hll (Nat.le_trans pM (by omega))
  refine aa (aa (a8 rfl (mz zs5 (lx (af cW rfl rfl zs1 rfl) (lx (ae aj rfl bx5 rfl) (lx (bm (m:=v) (n:=g.1) rfl rfl) (ab ?_)))))))
  by_cases p6:v<g.1
  ·
   refine ah rfl (dt p6) (aq (aa (ao (aa (a8 rfl (lx (aB (ds:=[vi g.1,g_v]) aK zs1 bx5 rfl rfl) (mz zs4 (mz zs5 (lo (bQ (aN (vals:=[vg [vi g.1,g_v],vi ↑u,vi v]) Try.func19 rY qT rfl) (lU w10 g g_v (Rg).ro (u:Int) v (by exact hm) (by exact⟨by omega,by omega⟩) (by exact⟨by omega,by omega⟩)) ?_))))))))))
   rintro⟨d13,v15⟩ w12 ⟨fr14,o16⟩
   obtain⟨g17,ch18,G17⟩:=ia g11 fr14 (λn=>if n=1 then 2 else 0)
   replace o16:=o16.gl G17 2
   refine lo (bL (aN (vals:=[v15]) Try.func46 xF wm rfl) (av Try.func46 rfl nq (aa (a8 rfl (ma vn (ab (aa (a8 rfl (ai 0 (ab (aa (aa (a8 rfl (ai 0 (ab ?_)))))))))))))))
   refine ao ?_
   refine aY (σ:=Int×Nat×aG) (λ⟨al_c1,i_c1,gq⟩ f w=>bn w0 gq w/\f 0=v15/\f 3=vi al_c1/\f 4=vi ↑i_c1/\Sl gq (is 0) w g_v g.2/\Bx gq (is 1) w b3 [vi g.1,g_v]/\Ow gq (is 4) (is 4) w l2_v l2/\cY gq 2 w v15 (bE g (u:Int) v)/\(i_c1:Int)<=((List.length (bE g (u:Int) v):Int):Int)/\(al_c1=oB (bE g (u:Int) v) i_c1)) (λ⟨al_c1,i_c1,gq⟩=>Int.toNat (((List.length (bE g (u:Int) v):Int):Int)-(i_c1:Int))) (0,0,g17) ?_ ?_
   · exact⟨bH.cn ch18,rfl,rfl,rfl,Rg.cn ch18,bx5.cn ch18,o_l2.cn ch18,o16,by omega,by rfl⟩
   clear Rg bx5 o_l2 o16 bH
   rintro⟨al_c1,i_c1,g21⟩ f19 w20 ⟨bH,zs0_c1,zs3_c1,zs4_c1,Rg,bx5,o_l2,o16,hle_i_c1,hsu_c1⟩ back3_c1
   obtain⟨hsu0_c1,hsu1_c1⟩:0<=al_c1/\al_c1<=(g.2.length:Int):=by rw[hsu_c1];exact AW
   refine aa (aa (a8 rfl (mz zs4_c1 (mz zs0_c1 ?_))))
   have len22:=(o16.sl).small
   refine lx (bq dd rfl o16.sl) (lx (bm (m:=↑i_c1) (n:=(List.length (bE g (u:Int) v):Int)) rfl rfl) (ab ?_))
   by_cases p3_c1:(i_c1:Int)<(List.length (bE g (u:Int) v):Int)
   ·
    refine ah rfl (dt p3_c1) (aq (aa (ao (a8 rfl (mz zs3_c1 (mz zs0_c1 (mz zs4_c1 (lx (ad (v:=v15) (i:=↑i_c1) dd rfl rfl o16.sl rfl (by omega) (by omega)) ?_))))))))
    obtain⟨v23,cel24,r25⟩:=bR (r:=(i_c1:Int)) o16 (by omega) (by omega)
    refine lx (bF bN rfl cel24) ?_
    have len26:=(r25.row_sl).small
    refine lx (bq bv rfl r25.row_sl) (lx (aI (m:=al_c1) (n:=(List.length (gI (bE g (u:Int) v) (i_c1:Int)):Int)) rfl rfl (by omega)) (ai (al_c1+(List.length (gI (bE g (u:Int) v) (i_c1:Int)):Int)) (ab (am ?_))))
    clear cel24 r25
    refine a8 rfl (mz zs4_c1 (lx (aI (m:=↑i_c1) (n:=1) rfl rfl (by omega)) (ai ((i_c1:Int)+1) (ab ?_))))
    refine back3_c1 (al_c1+(List.length (gI (bE g (u:Int) v) (i_c1:Int)):Int),i_c1+1,g21) _ _ ⟨bH,zs0_c1,rfl,rfl,Rg,bx5,o_l2,o16,by omega,?_⟩ ?_
    · show(al_c1+(List.length (gI (bE g (u:Int) v) (i_c1:Int)):Int))=oB (bE g (u:Int) v) (i_c1+1)
      exact vo hsu_c1 ‹_›
    · show Int.toNat (((List.length (bE g (u:Int) v):Int):Int)-((i_c1+1):Int))<Int.toNat (((List.length (bE g (u:Int) v):Int):Int)-(i_c1:Int))
      omega
   refine ag rfl (df p3_c1) (aH rfl (aa (aa ?_)))
   have hal_c1:=xU hsu_c1 ‹_›
   refine a8 rfl (ai 0 (ab (ao ?_)))
   refine aY (σ:=Nat×aG) (λ⟨j_c1,gq⟩ f w=>bn w0 gq w/\f 0=v15/\f 3=vi al_c1/\f 5=vi ↑j_c1/\Sl gq (is 0) w g_v g.2/\Bx gq (is 1) w b3 [vi g.1,g_v]/\Ow gq (is 4) (is 4) w l2_v l2/\cY gq 2 w v15 (bE g (u:Int) v)/\(j_c1:Int)<=((List.length (bE g (u:Int) v):Int):Int)/\(∀i:Nat,i<j_c1->¬(2<=((gI (bE g (u:Int) v) (i:Int)).length:Int)/\2<=al_c1-((gI (bE g (u:Int) v) (i:Int)).length:Int)))) (λ⟨j_c1,gq⟩=>Int.toNat (((List.length (bE g (u:Int) v):Int):Int)-(j_c1:Int))) (0,g21) ?_ ?_
   · exact⟨bH,zs0_c1,zs3_c1,rfl,Rg,bx5,o_l2,o16,by omega,by intro i hi;omega⟩
   clear Rg bx5 o_l2 o16 bH
   rintro⟨j_c1,g29⟩ f27 w28 ⟨bH,zs0_c1,zs3_c1,zs5_c1,Rg,bx5,o_l2,o16,hle_j_c1,hno_c1⟩ back7_c1
   refine aa (aa (a8 rfl (mz zs5_c1 (mz zs0_c1 (lx (bq dd rfl o16.sl) (lx (bm (m:=↑j_c1) (n:=(List.length (bE g (u:Int) v):Int)) rfl rfl) (ab ?_)))))))
   by_cases p7_c1:(j_c1:Int)<(List.length (bE g (u:Int) v):Int)
   ·
    refine ah rfl (dt p7_c1) (aq (aa (ao (aa (a8 rfl (mz zs0_c1 (mz zs5_c1 (lx (ad (v:=v15) (i:=↑j_c1) dd rfl rfl o16.sl rfl (by omega) (by omega)) ?_))))))))
    obtain⟨v30,cel31,r32⟩:=bR (r:=(j_c1:Int)) o16 (by omega) (by omega)
    refine lx (bF bN rfl cel31) ?_
    have len33:=(r32.row_sl).small
    refine lx (bq bv rfl r32.row_sl) (lx (eO (m:=(List.length (gI (bE g (u:Int) v) (j_c1:Int)):Int)) (n:=2) rfl rfl) (mv (vb (decide (2<=(List.length (gI (bE g (u:Int) v) (j_c1:Int)):Int)))) ?_))
    by_cases q31_c1:2<=(List.length (gI (bE g (u:Int) v) (j_c1:Int)):Int)
    ·
     refine lv (vi al_c1) (wy (dt q31_c1)) (au zs3_c1) (lv (v15) (wy (dt q31_c1)) (au zs0_c1) (lv (vi ↑j_c1) (wy (dt q31_c1)) (au zs5_c1) (lv (Value.pointer (some (bA v15 1 (Int.toNat ↑j_c1)))) (wy (dt q31_c1)) (ad (α:=List Int) (xs:=bE g (u:Int) v) (v:=v15) (i:=↑j_c1) dd rfl rfl o16.sl rfl (by omega) (by omega)) ?_)))
     obtain⟨v34,cel35,r36⟩:=bR (r:=(j_c1:Int)) o16 (by omega) (by omega)
     refine lv (v34) (wy (dt q31_c1)) (bF bN rfl cel35) (lv (vi (List.length (gI (bE g (u:Int) v) (j_c1:Int)):Int)) (wy (dt q31_c1)) (bq bv rfl r36.row_sl) (lv (vi (al_c1-(List.length (gI (bE g (u:Int) v) (j_c1:Int)):Int))) (wy (dt q31_c1)) (dA (m:=al_c1) (n:=(List.length (gI (bE g (u:Int) v) (j_c1:Int)):Int)) rfl rfl (by omega)) (lv (vb (decide (2<=(al_c1-(List.length (gI (bE g (u:Int) v) (j_c1:Int)):Int))))) (wy (dt q31_c1)) (eO (m:=al_c1-(List.length (gI (bE g (u:Int) v) (j_c1:Int)):Int)) (n:=2) rfl rfl) (lw (vb (decide (2<=(al_c1-(List.length (gI (bE g (u:Int) v) (j_c1:Int)):Int))))) (aO rfl (dt q31_c1) rfl) (ab ?_)))))
     by_cases p9_c1:2<=(al_c1-(List.length (gI (bE g (u:Int) v) (j_c1:Int)):Int))
     ·
      refine ah rfl (dt p9_c1) (aa ?_)
      clear cel31 r32 cel35 r36
      refine a8 rfl (mz zs0_c1 (mz zs5_c1 (lx (ad (v:=v15) (i:=↑j_c1) dd rfl rfl o16.sl rfl (by omega) (by omega)) ?_)))
      obtain⟨v37,cel38,r39⟩:=bR (r:=(j_c1:Int)) o16 (by omega) (by omega)
      refine lx (bF bN rfl cel38) (ma v37 (ab (aD (vs:=[v37]) Try.func46 (.tmp rfl .nil) ?_)))
      refine⟨v37,rfl,?_⟩
      refine lx (bq bv rfl r39.row_sl) (lx (eu (m:=(List.length (gI (bE g (u:Int) v) (j_c1:Int)):Int)) (n:=0) rfl rfl) (ab ?_))
      by_cases p8:0<(List.length (gI (bE g (u:Int) v) (j_c1:Int)):Int)
      ·
       refine ah rfl (dt p8) ?_
       clear o16 cel38 r39
       refine a8 rfl (mz zs3 (mz zs4 (mz zs5 (lw (vg [vi ↑u,vi v]) (bS (vs:=[(0,vi ↑u),(1,vi v)]) rfl (by kernel_rfl)) (lo (aC (α:=Pt) g29 (is 3) (is 3) (3,0) rfl ([((u:Int),v)]:List Pt) dc b7 (by decide) (by decide) (vs:=[(0,vg [vi ↑u,vi v])]) rfl rfl (.cons rfl .nil) ?_))))))
       intro g40 w41 v42 ch43 o44
       refine lo ?_
       replace o_l2:=o_l2.cn ch43
       refine bf (α:=Pt) (xs:=l2) (ys:=([((u:Int),v)]:List Pt)) g40 (J:=is 4) (S:=is 4) (4,0) rfl dc b7 (by decide) rfl rfl rfl o_l2 o44.flat (by decide) (by(simp;omega)) ?_
       intro g45 w46 v47 ch48 o49
       clear o_l2
       refine ma v47 (ab (am ?_))
       clear o44
       refine a8 rfl (mz zs5 (lx (aI (m:=v) (n:=1) rfl rfl (by omega)) (ai (v+1) (ab ?_))))
       replace bH:=bH.cn ch43
       refine back6 (v47,(l2++([((u:Int),v)]:List Pt)),v+1,g45) _ _ ⟨bH.ce ch48,zs1,rfl,zs4,rfl,(Rg.cn ch43).ce ch48,(bx5.cn ch43).ce ch48,o49,?_⟩ ?_
       · show(l2++([((u:Int),v)]:List Pt))=(bp u).flatMap (fR g)++gQ g (u:Int) (v+1).toNat/\(u:Int)+1<=(v+1)/\(v+1)<=g.1
         refine⟨?_,by omega,by omega⟩
         rw[hl2,List.append_assoc,oV (by omega) (by omega) (by exact D7 ‹_› (by omega) (by omega))]
       · show(g.1-(v+1)).toNat<(g.1-v).toNat
         omega
      refine ag rfl (df p8) (aq (am ?_))
      clear o16 cel38 r39
      refine a8 rfl (mz zs5 (lx (aI (m:=v) (n:=1) rfl rfl (by omega)) (ai (v+1) (ab ?_))))
      refine back6 (l2_v,l2,v+1,g29) _ _ ⟨bH,zs1,zs3,zs4,rfl,Rg,bx5,o_l2,?_⟩ ?_
      · show l2=(bp u).flatMap (fR g)++gQ g (u:Int) (v+1).toNat/\(u:Int)+1<=(v+1)/\(v+1)<=g.1
        refine⟨?_,by omega,by omega⟩
        rw[hl2,n5 (by omega) (yZ (λi hi=>by have:=hno_c1 i (by omega);omega) (by omega))]
      · show(g.1-(v+1)).toNat<(g.1-v).toNat
        omega
     refine ag rfl (df p9_c1) (aq (am ?_))
     clear cel31 r32 cel35 r36
     refine a8 rfl (mz zs5_c1 (lx (aI (m:=↑j_c1) (n:=1) rfl rfl (by omega)) (ai ((j_c1:Int)+1) (ab ?_))))
     refine back7_c1 (j_c1+1,g29) _ _ ⟨bH,zs0_c1,zs3_c1,rfl,Rg,bx5,o_l2,o16,by omega,?_⟩ ?_
     · show∀i:Nat,i<(j_c1+1)->¬(2<=((gI (bE g (u:Int) v) (i:Int)).length:Int)/\2<=al_c1-((gI (bE g (u:Int) v) (i:Int)).length:Int))
       intro i hi;by_cases q:i=j_c1;(rw[q];omega);exact hno_c1 i (by omega)
     · show Int.toNat (((List.length (bE g (u:Int) v):Int):Int)-((j_c1+1):Int))<Int.toNat (((List.length (bE g (u:Int) v):Int):Int)-(j_c1:Int))
       omega
    refine ak (wn (df q31_c1)) (ak (wn (df q31_c1)) (ak (wn (df q31_c1)) (ak (wn (df q31_c1)) (ak (wn (df q31_c1)) (ak (wn (df q31_c1)) (ak (wn (df q31_c1)) (ak (wn (df q31_c1)) (lw (vb false) (aP rfl (df q31_c1) rfl) (ab ?_)))))))))
    refine ag rfl rfl (aq (am ?_))
    clear cel31 r32
    refine a8 rfl (mz zs5_c1 (lx (aI (m:=↑j_c1) (n:=1) rfl rfl (by omega)) (ai ((j_c1:Int)+1) (ab ?_))))
    refine back7_c1 (j_c1+1,g29) _ _ ⟨bH,zs0_c1,zs3_c1,rfl,Rg,bx5,o_l2,o16,by omega,?_⟩ ?_
    · show∀i:Nat,i<(j_c1+1)->¬(2<=((gI (bE g (u:Int) v) (i:Int)).length:Int)/\2<=al_c1-((gI (bE g (u:Int) v) (i:Int)).length:Int))
      intro i hi;by_cases q:i=j_c1;(rw[q];omega);exact hno_c1 i (by omega)
    · show Int.toNat (((List.length (bE g (u:Int) v):Int):Int)-((j_c1+1):Int))<Int.toNat (((List.length (bE g (u:Int) v):Int):Int)-(j_c1:Int))
      omega
   refine ag rfl (df p7_c1) (aH rfl (aa (aa (a8 rfl (mz zs0_c1 (lx (bq dd rfl o16.sl) (lx (eO (m:=(List.length (bE g (u:Int) v):Int)) (n:=4) rfl rfl) (mv (vb (decide (4<=(List.length (bE g (u:Int) v):Int)))) ?_))))))))
   by_cases q48_c1:4<=(List.length (bE g (u:Int) v):Int)
   ·
    refine lv (v15) (wy (dt q48_c1)) (au zs0_c1) (lv (vi (List.length (bE g (u:Int) v):Int)) (wy (dt q48_c1)) (bq dd rfl o16.sl) (lv (vi al_c1) (wy (dt q48_c1)) (au zs3_c1) (lv (vb (decide ((List.length (bE g (u:Int) v):Int)=al_c1))) (wy (dt q48_c1)) (cZ (m:=(List.length (bE g (u:Int) v):Int)) (n:=al_c1) rfl rfl) (lw (vb (decide ((List.length (bE g (u:Int) v):Int)=al_c1))) (aO rfl (dt q48_c1) rfl) (ab ?_)))))
    by_cases p11_c1:(List.length (bE g (u:Int) v):Int)=al_c1
    ·
     refine ah rfl (dt p11_c1) (aa ?_)
     obtain⟨hcb0_c1,hcb1_c1⟩:=Af (g:=g) (u:=(u:Int)) (v:=v) (by omega)
     refine iQ g29 (inl [5]) vv ?_
     intro w51 ch50
     refine ht (v:=v15) 0 rfl (bD.refl _ _ _) (λw' hw'=>au zs0_c1) ?_
     replace o16:=o16.cn ch50
     refine ht 1 rfl (bD.refl _ _ _) (λw' hw'=>ad (v:=v15) (i:=0) dd rfl rfl (o16.sl.chg hw' (cN rfl)) rfl (by omega) (by omega)) ?_
     obtain⟨v52,cel53,r54⟩:=qN (r:=0) o16 (by omega) (by omega)
     refine ht 2 rfl (bD.refl _ _ _) (λw' hw'=>bF bN rfl (cel53 _ w' (cN rfl) hw')) (ht (v:=v15) 4 rfl (bD.refl _ _ _) (λw' hw'=>au zs0_c1) (ht 5 rfl (bD.refl _ _ _) (λw' hw'=>ad (v:=v15) (i:=1) dd rfl rfl (o16.sl.chg hw' (cN rfl)) rfl (by omega) (by omega)) ?_))
     obtain⟨v55,cel56,r57⟩:=qN (r:=1) o16 (by omega) (by omega)
     refine ht 6 rfl (bD.refl _ _ _) (λw' hw'=>bF bN rfl (cel56 _ w' (cN rfl) hw')) (bu 3 rfl (by kernel_rfl) rfl (bf (α:=Int) (xs:=([])) (ys:=(gI (bE g (u:Int) v) 0)) g29 (J:=is 5) (S:=is 5) (5,0) rfl bv aj (by decide) rfl rfl rfl Ow.nil r54.row_sl (by decide) (by(simp;omega)) ?_))
     intro g58 w59 v60 ch61 o62
     replace o62:Ow g58 (is 5) (is 5) w59 v60 (gI (bE g (u:Int) v) 0:List Int):=o62
     have hs63:bD (inl [5]) _ _ _ _:=ch61.l rfl
     refine⟨hs63.same,?_⟩
     refine bu 7 rfl (by kernel_rfl) rfl (bf (α:=Int) (xs:=(gI (bE g (u:Int) v) 0)) (ys:=(gI (bE g (u:Int) v) 1)) g58 (J:=is 5) (S:=is 5) (5,0) rfl bv aj (by decide) rfl rfl rfl o62 (r57.chg hs63 (pA rfl) (pA rfl)).row_sl (by decide) (by omega) ?_)
     intro g64 w65 v66 ch67 o68
     clear o62
     have hs69:=hs63.seq (ch67.l rfl)
     refine⟨hs69.same,?_⟩
     refine ht (v:=v66) 8 rfl hs69.same (λw' hw'=>cE rfl) (eE (by kernel_rfl) (aD (vs:=[v66]) Try.func46 (.tmp rfl .nil) ?_))
     refine⟨v66,rfl,?_⟩
     have len70:=(o68.flat).small
     refine lx (bq bv rfl o68.flat) (lx (eu (m:=(List.length (gI (bE g (u:Int) v) 0++gI (bE g (u:Int) v) 1):Int)) (n:=0) rfl rfl) (ab ?_))
     by_cases p8:0<(List.length (gI (bE g (u:Int) v) 0++gI (bE g (u:Int) v) 1):Int)
     ·
      refine ah rfl (dt p8) ?_
      clear o16 r54 r57 o68
      refine a8 rfl (mz zs3 (mz zs4 (mz zs5 (lw (vg [vi ↑u,vi v]) (bS (vs:=[(0,vi ↑u),(1,vi v)]) rfl (by kernel_rfl)) (lo (aC (α:=Pt) g64 (is 3) (is 3) (3,0) rfl ([((u:Int),v)]:List Pt) dc b7 (by decide) (by decide) (vs:=[(0,vg [vi ↑u,vi v])]) rfl rfl (.cons rfl .nil) ?_))))))
      intro g71 w72 v73 ch74 o75
      refine lo ?_
      have C76:=cg [5] (ch50.n.seq ((ch61.l rfl).seq ((ch67.l rfl).seq ch74.n)))
      replace o_l2:=o_l2.ca C76
      refine bf (α:=Pt) (xs:=l2) (ys:=([((u:Int),v)]:List Pt)) g71 (J:=is 4) (S:=is 4) (4,0) rfl dc b7 (by decide) rfl rfl rfl o_l2 o75.flat (by decide) (by(simp;omega)) ?_
      intro g77 w78 v79 ch80 o81
      clear o_l2
      refine ma v79 (ab (am ?_))
      clear o75
      refine a8 rfl (mz zs5 (lx (aI (m:=v) (n:=1) rfl rfl (by omega)) (ai (v+1) (ab ?_))))
      have C82:=cg [4,5] (ch50.n.seq ((ch61.l rfl).seq ((ch67.l rfl).seq (ch74.n.seq (ch80.l rfl)))))
      refine back6 (v79,(l2++([((u:Int),v)]:List Pt)),v+1,g77) _ _ ⟨bH.ca C82,zs1,rfl,zs4,rfl,Rg.ca C82,bx5.ca C82,o81,?_⟩ ?_
      · show(l2++([((u:Int),v)]:List Pt))=(bp u).flatMap (fR g)++gQ g (u:Int) (v+1).toNat/\(u:Int)+1<=(v+1)/\(v+1)<=g.1
        refine⟨?_,by omega,by omega⟩
        rw[hl2,List.append_assoc,oV (by omega) (by omega) (by exact D0 (by omega) (by omega))]
      · show(g.1-(v+1)).toNat<(g.1-v).toNat
        omega
     refine ag rfl (df p8) (aq (am ?_))
     clear o16 r54 r57 o68
     refine a8 rfl (mz zs5 (lx (aI (m:=v) (n:=1) rfl rfl (by omega)) (ai (v+1) (ab ?_))))
     have C83:=cg [5] (ch50.n.seq ((ch61.l rfl).seq (ch67.l rfl)))
     refine back6 (l2_v,l2,v+1,g64) _ _ ⟨bH.ca C83,zs1,zs3,zs4,rfl,Rg.ca C83,bx5.ca C83,o_l2.ca C83,?_⟩ ?_
     · show l2=(bp u).flatMap (fR g)++gQ g (u:Int) (v+1).toNat/\(u:Int)+1<=(v+1)/\(v+1)<=g.1
       refine⟨?_,by omega,by omega⟩
       (exfalso;simp only[List.length_append,List.length_nil] at*;omega)
     · show(g.1-(v+1)).toNat<(g.1-v).toNat
       omega
    refine ag rfl (df p11_c1) (aq (aa (a8 rfl (ma vn (ab (aD (vs:=[vn]) Try.func46 (.tmp rfl .nil) ?_))))))
    refine⟨vn,rfl,?_⟩
    refine lx (bq (w1:=w0) bv rfl (Sl.nil:Sl g29 (is 0) _ _ ([]:List Int))) (lx (eu (m:=0) (n:=0) rfl rfl) (ab (ag rfl rfl (aq (am ?_)))))
    clear o16
    refine a8 rfl (mz zs5 (lx (aI (m:=v) (n:=1) rfl rfl (by omega)) (ai (v+1) (ab ?_))))
    refine back6 (l2_v,l2,v+1,g29) _ _ ⟨bH,zs1,zs3,zs4,rfl,Rg,bx5,o_l2,?_⟩ ?_
    · show l2=(bp u).flatMap (fR g)++gQ g (u:Int) (v+1).toNat/\(u:Int)+1<=(v+1)/\(v+1)<=g.1
      refine⟨?_,by omega,by omega⟩
      rw[hl2,n5 (by omega) (yZ (λi hi=>by have:=hno_c1 i (by omega);omega) (by omega))]
    · show(g.1-(v+1)).toNat<(g.1-v).toNat
      omega
   refine ak (wn (df q48_c1)) (ak (wn (df q48_c1)) (ak (wn (df q48_c1)) (ak (wn (df q48_c1)) (lw (vb false) (aP rfl (df q48_c1) rfl) (ab (ag rfl rfl (aq (aa (a8 rfl (ma vn ?_))))))))))
   refine ab (aD (vs:=[vn]) Try.func46 (.tmp rfl .nil) ?_)
   refine⟨vn,rfl,?_⟩
   refine lx (bq (w1:=w0) bv rfl (Sl.nil:Sl g29 (is 0) _ _ ([]:List Int))) (lx (eu (m:=0) (n:=0) rfl rfl) (ab (ag rfl rfl (aq (am ?_)))))
   clear o16
   refine a8 rfl (mz zs5 (lx (aI (m:=v) (n:=1) rfl rfl (by omega)) (ai (v+1) (ab ?_))))
   refine back6 (l2_v,l2,v+1,g29) _ _ ⟨bH,zs1,zs3,zs4,rfl,Rg,bx5,o_l2,?_⟩ ?_
   · show l2=(bp u).flatMap (fR g)++gQ g (u:Int) (v+1).toNat/\(u:Int)+1<=(v+1)/\(v+1)<=g.1
     refine⟨?_,by omega,by omega⟩
     rw[hl2,n5 (by omega) (yZ (λi hi=>by have:=hno_c1 i (by omega);omega) (by omega))]
   · show(g.1-(v+1)).toNat<(g.1-v).toNat
     omega
  refine ag rfl (df p6) (aH rfl (am (a8 rfl (mz zs4 (lx (aI (m:=↑u) (n:=1) rfl rfl (by omega)) (ai ((u:Int)+1) (ab ?_)))))))
  refine back3 (l2_v,l2,u+1,g11) _ _ ⟨bH,zs1,zs3,rfl,Rg,bx5,o_l2,by omega,?_⟩ ?_
  · show l2=(bp (u+1)).flatMap (fR g)
    (rw[hl2,show v.toNat=g.1.toNat by omega];exact xG)
  · show Int.toNat ((g.1:Int)-((u+1):Int))<Int.toNat ((g.1:Int)-(u:Int))
    omega
 refine ag rfl (df p3) (aH rfl (aa ?_))
 clear bx5
 refine a8 rfl (mz zs3 (ma l_v (ab (aD (vs:=[l_v]) Try.func22 (.tmp rfl .nil) ?_))))
 have e0:(l:List Pt)=(dQ g):=by
   (rw[hl,show u=g.1.toNat by omega];rfl)
 exact⟨(fin w0 g8 (λn=>if n=4 then 1 else 0),l_v),(congrArg (a₁:=l) (λ(z0:List Pt)=>Ending.returned (l_v)) e0),bH.fresh _,(e0▸(o_l.glue (γ:=c0) (ren:=(λn=>if n=4 then 1 else 0)) (k:=1) bH.col rfl rfl))⟩
end TL
