import Derived.Test.YtmakonaaojadbaaBaTlP4
import Derived.Test.YtmakonaaojadbaaBaTlGmA
import Derived.Test.YtmakonaaojadbaaBaTlGenA
import Derived.Test.YtmakonaaojadbaaBaTlBkC
import Derived.Test.YtmakonaaojadbaaBaTlSortB
import Derived.Test.YtmakonaaojadbaaProg
import Derived.Test.YtmakonaaojadbaaBaTlAli
set_option linter.all false
set_option maxRecDepth 20000
namespace TL
open Go Go.Proofs
theorem d6:Try.prog.follows .mixedOrders=true:=by kernel_rfl
theorem s7:Try.f38.body.isNone=false:=rfl
theorem sg:(Try.f38.name== "runtime.NumGoroutine")=false:=by decide+kernel
set_option maxHeartbeats 8000000 in
theorem n8(w0:World)(g:(Int)×(List Pt))(g_v:Value)(hg_v:Ro w0 g_v g.2):
    Calls Try.prog 13 #[vg [vi g.1,g_v]] w0 (λee w=>∃xx:aJ×Value,ee= .returned ((λ⟨δ,rv0⟩=>vt [vg [vi (((aO g).1).1),rv0],vi ((aO g).2)]) xx)/\(λ(⟨δ,rv0⟩:aJ×Value) (w:World)=>fv w0 δ w/\Ow δ (is 1) (is 1) w rv0 (((aO g).1).2)) xx w):=by
 refine aC Try.func13 rfl nq ?_
 have bH:=bv.start w0
 have Rg:=hg_v.sl
 refine ab (a8 rfl (db rfl (d4 c0 (is 1) (1,0) rfl rfl ?_)))
 intro g4 w1 b3 ch2 bx5
 replace bx5:Bx g4 (is 1) w1 b3 [vi g.1,g_v]:=bx5
 refine lo (bI g4 (is 2) (2,0) rfl ch ?_)
 intro g9 w6 b8 ch7 bx10
 replace bx10:Bx g9 (is 2) w6 b8 [vi 0,vn]:=bx10
 refine ai 0 (ag (ab (ab (a8 rfl ?_))))
 replace bx5:=bx5.cn ch7
 refine lx (aB (ds:=[vi g.1,g_v]) ch rfl bx5 rfl rfl) ?_
 replace Rg:=(Rg.cn ch2).cn ch7
 refine lo (cC (v:=vb (d5 g)) (b9 (vals:=[vg [vi g.1,g_v]]) Try.func36 ia i7 rfl) (ji w6 g g_v (Rg).ro) ?_)
 intro w11 hb12
 replace hb12:=aS hb12 g9
 refine lx (ek (b:=(d5 g)) rfl) (ag ?_)
 by_cases p1:(d5 g)=true
 ·
  refine aj rfl (congrArg Bool.not p1) (av (ab ?_))
  have hm:=of_decide_eq_true p1
  obtain⟨hm1,hm2,hm3,hm4⟩:=of_decide_eq_true p1
  have hcb:0<=(aa g).2.2/\(aa g).2.2<=(g.2.length:Int):=iK g
  obtain⟨hcb0,hcb1⟩:=hcb
  have hofl:((aa g).1.length:Int)=g.2.length:=by have:=fT g;show((dq g).length:Int)=_;omega
  have hcul:=jo hm1
  refine a8 rfl ?_
  replace bx5:=bx5.cn hb12
  refine lx (aB (ds:=[vi g.1,g_v]) ch rfl bx5 rfl rfl) ?_
  replace Rg:=Rg.cn hb12
  refine lo (ck (b9 (vals:=[vg [vi g.1,g_v]]) Try.func37 kk kh rfl) (ib w11 g g_v (Rg).ro (by exact of_decide_eq_true p1)) ?_)
  rintro⟨d14,v16,v18⟩ w13 ⟨fr15,o17,o19⟩
  obtain⟨g20,ch21,G20⟩:=jh g9 fr15 (λn=>if n=1 then 3 else if n=2 then 4 else 0)
  replace o17:=o17.gl G20 3
  replace o19:=o19.gl G20 4
  refine lo (bI g20 (is 5) (5,0) rfl dC ?_)
  intro g25 w22 b24 ch23 bx26
  replace bx26:Bx g25 (is 5) w22 b24 [vn,vn,vi 0]:=bx26
  refine lo ?_
  replace o19:=o19.cn ch23
  replace o17:=o17.cn ch23
  refine aI (cs':=[v16,v18,vi (((aa g).2).2)]) dC rfl rfl bx26 rfl nq (AllOne.all (.cons (bQ o17.flat) (.cons (bQ o19.flat) (.cons rfl .nil)))) rfl ?_
  intro w27 ch28 bx29
  clear bx26
  refine ag (ab (a8 rfl (db rfl (kJ (K:=Int) g25 (is 6) (6,0) rfl ?_))))
  intro g30 w31 v32 ch33 m34
  refine ma v32 (ag (ab (ab (a8 rfl (lx (ad eD rfl rfl rfl rfl) ?_)))))
  replace bx29:=bx29.cn ch33
  refine lx (af ay rfl bx29 rfl) ?_
  replace o19:=(o19.ce ch28).cn ch33
  have len35:=(o19.flat).small
  refine lx (bu bf rfl o19.flat) (mi 0 (ag (ar ?_)))
  refine bc (σ:=Nat×((Int->Int)×List Int)×aJ) (λ⟨k,mp,gq⟩ f w=>bv w0 gq w/\f 1=vp b3 0/\f 2=vp b8 0/\f 4=vp b24 0/\f 5=v32/\f 23=v18/\f 24=vi (List.length (((aa g).2).1):Int)/\f 25=vi ↑k/\Sl gq (is 0) w g_v g.2/\Bx gq (is 1) w b3 [vi g.1,g_v]/\Bx gq (is 2) w b8 [vi 0,vn]/\Ow gq (is 3) (is 3) w v16 ((aa g).1)/\Ow gq (is 4) (is 4) w v18 (((aa g).2).1)/\Bx gq (is 5) w b24 [v16,v18,vi (((aa g).2).2)]/\Md gq (is 6) w v32 mp.1 mp.2/\(k:Int)<=((List.length (((aa g).2).1):Int):Int)/\(mp.1=gD g k)) (λ⟨k,mp,gq⟩=>Int.toNat (((List.length (((aa g).2).1):Int):Int)-(k:Int))) (0,((λ_=>0,[]):(Int->Int)×List (Int)),g30) ?_ ?_
  have C37:=cg [5] (ch21.n.seq (ch23.n.seq ((ch28.l rfl).seq ch33.n)))
  have C38:=hb12.n.seq C37
  have C36:=ch2.n.seq (ch7.n.seq C38)
  · exact⟨bH.ca C36,rfl,rfl,rfl,rfl,rfl,rfl,rfl,Rg.ca C37,bx5.ca C37,bx10.ca C38,(o17.ce ch28).cn ch33,o19,bx29,m34,by omega,by rfl⟩
  clear Rg bx5 bx10 o17 o19 bx29 m34 bH
  rintro⟨k,mp,g41⟩ f39 w40 ⟨bH,zs1,zs2,zs4,zs5,zs23,zs24,zs25,Rg,bx5,bx10,o17,o19,bx29,m34,hle_k,hf⟩ back6
  refine ab (a8 rfl (lx (bn (m:=↑k) (n:=(List.length (((aa g).2).1):Int)) zs25 zs24) (ag (ab ?_))))
  by_cases p6:(k:Int)<(List.length (((aa g).2).1):Int)
  ·
   refine al rfl (dt p6) (av (ab (ar (ab (a8 rfl (mz zs25 (lx (ae (v:=v18) (i:=↑k) bf rfl zs23 o19.flat zs25 (by omega) (by omega)) (lx (aq (v:=v18) (i:=↑k) ah rfl o19.flat (by omega) (by omega) (by decide) rfl) (ai (k:Int) (ai (gI (((aa g).2).1) (k:Int)) ?_))))))))))
   refine ag (a8 rfl (mz zs5 (mi (gI (((aa g).2).1) (k:Int)) (lx (ad eD rfl rfl zs4 rfl) (lx (af ah rfl bx29 rfl) (mi ↑k (lx (aG (m:=((aa g).2).2) (n:=↑k) rfl rfl (by omega)) (lo (iJ (m:=(((aa g).2).2)+(k:Int)) (gI (((aa g).2).1) (k:Int)) ir (bS U3) rfl m34 rfl rfl rfl ?_)))))))))
   intro w42 ch43 m44
   clear m34
   refine ag (ak (a8 rfl (lx (aG (m:=↑k) (n:=1) zs25 rfl (by omega)) (mi ((k:Int)+1) (ag ?_)))))
   refine back6 (k+1,((λq=>if q=(gI (((aa g).2).1) (k:Int)) then((((aa g).2).2)+(k:Int)) else mp.1 q),if(gI (((aa g).2).1) (k:Int))∈mp.2 then mp.2 else mp.2++[(gI (((aa g).2).1) (k:Int))]),g41) _ _ ⟨bH.ce ch43,zs1,zs2,zs4,zs5,zs23,zs24,rfl,Rg.ce ch43,bx5.ce ch43,bx10.ce ch43,o17.ce ch43,o19.ce ch43,bx29.ce ch43,m44,by omega,?_⟩ ?_
   · show((λq=>if q=(gI (((aa g).2).1) (k:Int)) then((((aa g).2).2)+(k:Int)) else mp.1 q),if(gI (((aa g).2).1) (k:Int))∈mp.2 then mp.2 else mp.2++[(gI (((aa g).2).1) (k:Int))]).1=gD g (k+1)
     exact qe hf
   · show Int.toNat (((List.length (((aa g).2).1):Int):Int)-((k+1):Int))<Int.toNat (((List.length (((aa g).2).1):Int):Int)-(k:Int))
     omega
  refine aj rfl (df p6) (aF rfl (ab (a8 rfl (db rfl (qg (K:=Pt) g41 (is 7) (7,0) rfl ?_)))))
  intro g45 w46 v47 ch48 m49
  refine ma v47 (ag (ab (a8 rfl (lx (ad eD rfl rfl zs4 rfl) ?_))))
  replace bx29:=bx29.cn ch48
  refine lx (af ah rfl bx29 rfl) (lx (ad eD rfl rfl zs4 rfl) (lx (af ay rfl bx29 rfl) ?_))
  replace o19:=o19.cn ch48
  refine lx (bu bf rfl o19.flat) (lx (aG (m:=((aa g).2).2) (n:=(List.length (((aa g).2).1):Int)) rfl rfl (by omega)) (lw (vg [vi ((((aa g).2).2)+(List.length (((aa g).2).1):Int)),vn]) (bE (vs:=[(0,vi ((((aa g).2).2)+(List.length (((aa g).2).1):Int)))]) rfl (by kernel_rfl)) (lo (bI g45 (is 8) (8,0) rfl ch ?_))))
  intro g53 w50 b52 ch51 bx54
  replace bx54:Bx g53 (is 8) w50 b52 [vi 0,vn]:=bx54
  refine lo (aI (cs':=[vi ((((aa g).2).2)+(List.length (((aa g).2).1):Int)),vn]) ch rfl rfl bx54 rfl nq (AllOne.all (.cons rfl (.cons rfl .nil))) rfl ?_)
  intro w55 ch56 bx57
  clear bx54
  refine ag (ab (ab (a8 rfl (lx (ad cZ rfl rfl zs1 rfl) ?_))))
  have C58:=cg [8] (ch48.n.seq (ch51.n.seq (ch56.l rfl)))
  replace bx5:=bx5.ca C58
  refine lx (af bC rfl bx5 rfl) ?_
  replace Rg:=Rg.ca C58
  have len59:=(Rg).small
  refine lx (bu dD rfl Rg) (mi 0 (ag (ar ?_)))
  clear bx5
  refine bc (σ:=Value×(List Pt)×Nat×(Pt->Int)×aJ) (λ⟨ed_v,ed,e,sn,gq⟩ f w=>bv w0 gq w/\f 2=vp b8 0/\f 4=vp b24 0/\f 5=v32/\f 8=v47/\f 9=vp b52 0/\f 46=g_v/\f 47=vi (g.2.length:Int)/\f 48=vi ↑e/\Sl gq (is 0) w g_v g.2/\Bx gq (is 2) w b8 [vi 0,vn]/\Ow gq (is 3) (is 3) w v16 ((aa g).1)/\Ow gq (is 4) (is 4) w v18 (((aa g).2).1)/\Bx gq (is 5) w b24 [v16,v18,vi (((aa g).2).2)]/\Md gq (is 6) w v32 mp.1 mp.2/\Mp gq (is 7) w v47 sn/\Bx gq (is 8) w b52 [vi ((((aa g).2).2)+(List.length (((aa g).2).1):Int)),ed_v]/\Ow gq (is 12) (is 12) w ed_v ed/\(e:Int)<=((g.2.length:Int):Int)/\(gj g mp.1 ed sn (2*e))) (λ⟨ed_v,ed,e,sn,gq⟩=>Int.toNat (((g.2.length:Int):Int)-(e:Int))) (vn,[],0,(λ_=>0),g53) ?_ ?_
  · exact⟨bH.ca C58,zs2,zs4,zs5,rfl,rfl,rfl,rfl,rfl,Rg,bx10.ca C58,o17.ca C58,(o19.cn ch51).ce ch56,(bx29.cn ch51).ce ch56,m34.ca C58,(m49.cn ch51).ce ch56,bx57,Ow.nil,by omega,by exact gj.start⟩
  clear Rg bx10 o17 o19 bx29 m34 m49 bx57 bH
  rintro⟨ed_v,ed,e,sn,g62⟩ f60 w61 ⟨bH,zs2,zs4,zs5,zs8,zs9,zs46,zs47,zs48,Rg,bx10,o17,o19,bx29,m34,m49,bx57,o_ed,hle_e,hut⟩ back13
  have hte:=hut.le
  have hts:=hut.s0
  refine ab (a8 rfl (lx (bn (m:=↑e) (n:=(g.2.length:Int)) zs48 zs47) (ag (ab ?_))))
  by_cases p13:(e:Int)<(g.2.length:Int)
  ·
   refine al rfl (dt p13) ?_
   obtain⟨⟨he1,he2⟩,he3,he4⟩:=hm4 _ (bP (xs:=g.2) (i:=↑e) (by omega) (by omega))
   obtain⟨hs10,hs11⟩:=hts (gI (aa g).1 (e:Int),mp.1 (gI g.2 ↑e).1)
   obtain⟨hs20,hs21⟩:=hts (gI (aa g).1 (e:Int),mp.1 (gI g.2 ↑e).2)
   refine av (ab (ar (ab (a8 rfl (mz zs48 (lx (ae (v:=g_v) (i:=↑e) dD rfl zs46 Rg zs48 (by omega) (by omega)) (lw (vg [vi ((gI g.2 ↑e).1),vi ((gI g.2 ↑e).2)]) (dJ (v:=g_v) (i:=↑e) aU rfl Rg (by omega) (by omega) rfl) (lo (bI g62 (is 9) (9,0) rfl aU ?_)))))))))
   intro g66 w63 b65 ch64 bx67
   replace bx67:Bx g66 (is 9) w63 b65 [vi 0,vi 0]:=bx67
   refine ai (e:Int) (lo (aI (cs':=[vi ((gI g.2 ↑e).1),vi ((gI g.2 ↑e).2)]) aU rfl rfl bx67 rfl nq (AllOne.all (.cons rfl (.cons rfl .nil))) rfl ?_))
   intro w68 ch69 bx70
   clear bx67
   refine ag (ab (a8 rfl (lx (aB (ds:=[vi ((gI g.2 ↑e).1),vi ((gI g.2 ↑e).2)]) aU rfl bx70 rfl rfl) (mi 0 (ag (ar (eF (ab ?_))))))))
   clear bx70
   refine a8 rfl (lx (bn (m:=0) (n:=2) rfl rfl) (ag (ab (al rfl rfl (av (ab (ar (ab (a8 rfl (lw (vi ((gI g.2 ↑e).1)) (cE dg ah rfl rfl (by decide) (by decide) rfl) (ai ((gI g.2 ↑e).1) ?_)))))))))))
   refine ag (ab ?_)
   refine d3 (σ:=Nat×aJ) (λ⟨b76,gq⟩ f w=>bv w0 gq w/\f 2=vp b8 0/\f 4=vp b24 0/\f 5=v32/\f 8=v47/\f 9=vp b52 0/\f 10=vi ↑e/\f 13=vi ((gI g.2 ↑e).1)/\f 14=vp b76 0/\f 46=g_v/\f 47=vi (g.2.length:Int)/\f 48=vi ↑e/\f 53=vg [vi ((gI g.2 ↑e).1),vi ((gI g.2 ↑e).2)]/\f 54=vi 0/\Sl gq (is 0) w g_v g.2/\Bx gq (is 2) w b8 [vi 0,vn]/\Ow gq (is 3) (is 3) w v16 ((aa g).1)/\Ow gq (is 4) (is 4) w v18 (((aa g).2).1)/\Bx gq (is 5) w b24 [v16,v18,vi (((aa g).2).2)]/\Md gq (is 6) w v32 mp.1 mp.2/\Mp gq (is 7) w v47 sn/\Bx gq (is 8) w b52 [vi ((((aa g).2).2)+(List.length (((aa g).2).1):Int)),ed_v]/\Ow gq (is 12) (is 12) w ed_v ed/\Bx gq (is 10) w b76 [vi (gI ((aa g).1) (e:Int)),vi (mp.1 ((gI g.2 ↑e).1))]) g66 (inl [10]) d6 ?_ ?_
   ·
    intro mid
    intro w72 ch71
    refine ht 0 rfl (bp.refl _ _ _) (λw' hw'=>ad eD rfl rfl zs4 rfl) ?_
    have C73:=cg [9] (ch64.n.seq ((ch69.l rfl).seq ch71.n))
    replace bx29:=bx29.ca C73
    refine ht 1 rfl (bp.refl _ _ _) (λw' hw'=>af ay rfl (bx29.chg hw' (bZ rfl)) rfl) (ht (v:=vi ↑e) 2 rfl (bp.refl _ _ _) (λw' hw'=>au rfl) (ht (v:=v32) 5 rfl (bp.refl _ _ _) (λw' hw'=>au zs5) (ht (v:=vi ((gI g.2 ↑e).1)) 6 rfl (bp.refl _ _ _) (λw' hw'=>au rfl) ?_)))
    refine cD 3 [7,9] (by kernel_rfl) ⟨cA 3 rfl (by kernel_rfl) rfl ?_,cA 7 rfl (by kernel_rfl) rfl ?_,cA 9 rfl (by kernel_rfl) rfl ?_,trivial⟩
    ·
     replace o17:=o17.ca C73
     refine az (v:=Value.pointer (some (aZ v16 1 (Int.toNat ↑e)))) (ae (α:=Int) (xs:=(aa g).1) (v:=v16) (i:=↑e) bf rfl rfl o17.flat rfl (by omega) (by omega)) ?_
     refine⟨(bp.refl _ _ _),?_⟩
     refine ht 4 rfl (bp.refl _ _ _) (λw' hw'=>aq (v:=v16) (i:=↑e) ah rfl (o17.flat.chg hw' (bZ rfl)) (by omega) (by omega) (by decide) rfl) ?_
     refine cD 7 [9] (by kernel_rfl) ⟨cA 7 rfl (by kernel_rfl) rfl ?_,cA 9 rfl (by kernel_rfl) rfl ?_,trivial⟩
     ·
      replace m34:=m34.ca C73
      refine az (v:=vi (mp.1 ((gI g.2 ↑e).1))) (bm ((gI g.2 ↑e).1) ir (bS U3) ah rfl m34.mp rfl rfl) ?_
      refine⟨(bp.refl _ _ _),?_⟩
      refine ht (v:=vg [vi (gI ((aa g).1) (e:Int)),vi (mp.1 ((gI g.2 ↑e).1))]) 8 rfl (bp.refl _ _ _) (λw' hw'=>bE (vs:=[(0,vi (gI ((aa g).1) (e:Int))),(1,vi (mp.1 ((gI g.2 ↑e).1)))]) rfl (by kernel_rfl)) (aV 9 rfl (by kernel_rfl) rfl (bI g66 (is 10) (10,0) rfl aU ?_))
      intro g77 w74 b76 ch75 bx78
      replace bx78:Bx g77 (is 10) w74 b76 [vi 0,vi 0]:=bx78
      have hs79:bp (inl [10]) _ _ _ _:=ch75.n
      refine⟨hs79.same,?_⟩
      refine aV 10 rfl (by kernel_rfl) rfl (aI (cs':=[vi (gI ((aa g).1) (e:Int)),vi (mp.1 ((gI g.2 ↑e).1))]) aU rfl rfl bx78 rfl nq (AllOne.all (.cons rfl (.cons rfl .nil))) rfl ?_)
      intro w80 ch81 bx82
      clear bx78
      have hs83:=hs79.seq (ch81.l rfl)
      refine⟨hs83.same,?_⟩
      refine cy (by kernel_rfl) ?_
      have C84:=cg [9,10] (ch64.n.seq ((ch69.l rfl).seq (ch71.n.seq (ch75.n.seq (ch81.l rfl)))))
      replace Rg:=Rg.ca C73
      replace bx10:=bx10.ca C73
      replace o19:=o19.ca C73
      replace m49:=m49.ca C73
      replace bx57:=bx57.ca C73
      replace o_ed:=o_ed.ca C73
      exact mid (b76,g77) _ _ ⟨bH.ca C84,zs2,zs4,zs5,zs8,zs9,rfl,rfl,rfl,zs46,zs47,zs48,rfl,rfl,(Rg.ca hs83),(bx10.ca hs83),(o17.ca hs83),(o19.ca hs83),(bx29.ca hs83),(m34.ca hs83),(m49.ca hs83),(bx57.ca hs83),(o_ed.ca hs83),bx82⟩
     ·
      refine bI g66 (is 10) (10,0) rfl aU ?_
      intro g88 w85 b87 ch86 bx89
      replace bx89:Bx g88 (is 10) w85 b87 [vi 0,vi 0]:=bx89
      have hs90:bp (inl [10]) _ _ _ _:=ch86.n
      refine⟨hs90.same,?_⟩
      refine aV 7 rfl (by kernel_rfl) rfl ?_
      replace m34:=m34.ca C73
      refine az (v:=vi (mp.1 ((gI g.2 ↑e).1))) (bm ((gI g.2 ↑e).1) ir (bS U3) ah rfl (m34.ca hs90).mp rfl rfl) ?_
      refine⟨hs90.same,?_⟩
      refine ht (v:=vg [vi (gI ((aa g).1) (e:Int)),vi (mp.1 ((gI g.2 ↑e).1))]) 8 rfl hs90.same (λw' hw'=>bE (vs:=[(0,vi (gI ((aa g).1) (e:Int))),(1,vi (mp.1 ((gI g.2 ↑e).1)))]) rfl (by kernel_rfl)) (aV 10 rfl (by kernel_rfl) rfl (aI (cs':=[vi (gI ((aa g).1) (e:Int)),vi (mp.1 ((gI g.2 ↑e).1))]) aU rfl rfl bx89 rfl nq (AllOne.all (.cons rfl (.cons rfl .nil))) rfl ?_))
      intro w91 ch92 bx93
      clear bx89
      have hs94:=hs90.seq (ch92.l rfl)
      refine⟨hs94.same,?_⟩
      refine cy (by kernel_rfl) ?_
      have C95:=cg [9,10] (ch64.n.seq ((ch69.l rfl).seq (ch71.n.seq (ch86.n.seq (ch92.l rfl)))))
      replace Rg:=Rg.ca C73
      replace bx10:=bx10.ca C73
      replace o19:=o19.ca C73
      replace m49:=m49.ca C73
      replace bx57:=bx57.ca C73
      replace o_ed:=o_ed.ca C73
      exact mid (b87,g88) _ _ ⟨bH.ca C95,zs2,zs4,zs5,zs8,zs9,rfl,rfl,rfl,zs46,zs47,zs48,rfl,rfl,(Rg.ca hs94),(bx10.ca hs94),(o17.ca hs94),(o19.ca hs94),(bx29.ca hs94),(m34.ca hs94),(m49.ca hs94),(bx57.ca hs94),(o_ed.ca hs94),bx93⟩
    ·
     replace m34:=m34.ca C73
     refine az (v:=vi (mp.1 ((gI g.2 ↑e).1))) (bm ((gI g.2 ↑e).1) ir (bS U3) ah rfl m34.mp rfl rfl) ?_
     refine⟨(bp.refl _ _ _),?_⟩
     refine cD 3 [9] (by kernel_rfl) ⟨cA 3 rfl (by kernel_rfl) rfl ?_,cA 9 rfl (by kernel_rfl) rfl ?_,trivial⟩
     ·
      replace o17:=o17.ca C73
      refine az (v:=Value.pointer (some (aZ v16 1 (Int.toNat ↑e)))) (ae (α:=Int) (xs:=(aa g).1) (v:=v16) (i:=↑e) bf rfl rfl o17.flat rfl (by omega) (by omega)) ?_
      refine⟨(bp.refl _ _ _),?_⟩
      refine ht 4 rfl (bp.refl _ _ _) (λw' hw'=>aq (v:=v16) (i:=↑e) ah rfl (o17.flat.chg hw' (bZ rfl)) (by omega) (by omega) (by decide) rfl) (ht (v:=vg [vi (gI ((aa g).1) (e:Int)),vi (mp.1 ((gI g.2 ↑e).1))]) 8 rfl (bp.refl _ _ _) (λw' hw'=>bE (vs:=[(0,vi (gI ((aa g).1) (e:Int))),(1,vi (mp.1 ((gI g.2 ↑e).1)))]) rfl (by kernel_rfl)) (aV 9 rfl (by kernel_rfl) rfl (bI g66 (is 10) (10,0) rfl aU ?_)))
      intro g99 w96 b98 ch97 bx100
      replace bx100:Bx g99 (is 10) w96 b98 [vi 0,vi 0]:=bx100
      have hs101:bp (inl [10]) _ _ _ _:=ch97.n
      refine⟨hs101.same,?_⟩
      refine aV 10 rfl (by kernel_rfl) rfl (aI (cs':=[vi (gI ((aa g).1) (e:Int)),vi (mp.1 ((gI g.2 ↑e).1))]) aU rfl rfl bx100 rfl nq (AllOne.all (.cons rfl (.cons rfl .nil))) rfl ?_)
      intro w102 ch103 bx104
      clear bx100
      have hs105:=hs101.seq (ch103.l rfl)
      refine⟨hs105.same,?_⟩
      refine cy (by kernel_rfl) ?_
      have C106:=cg [9,10] (ch64.n.seq ((ch69.l rfl).seq (ch71.n.seq (ch97.n.seq (ch103.l rfl)))))
      replace Rg:=Rg.ca C73
      replace bx10:=bx10.ca C73
      replace o19:=o19.ca C73
      replace m49:=m49.ca C73
      replace bx57:=bx57.ca C73
      replace o_ed:=o_ed.ca C73
      exact mid (b98,g99) _ _ ⟨bH.ca C106,zs2,zs4,zs5,zs8,zs9,rfl,rfl,rfl,zs46,zs47,zs48,rfl,rfl,(Rg.ca hs105),(bx10.ca hs105),(o17.ca hs105),(o19.ca hs105),(bx29.ca hs105),(m34.ca hs105),(m49.ca hs105),(bx57.ca hs105),(o_ed.ca hs105),bx104⟩
     ·
      refine bI g66 (is 10) (10,0) rfl aU ?_
      intro g110 w107 b109 ch108 bx111
      replace bx111:Bx g110 (is 10) w107 b109 [vi 0,vi 0]:=bx111
      have hs112:bp (inl [10]) _ _ _ _:=ch108.n
      refine⟨hs112.same,?_⟩
      refine aV 3 rfl (by kernel_rfl) rfl ?_
      replace o17:=o17.ca C73
      refine az (v:=Value.pointer (some (aZ v16 1 (Int.toNat ↑e)))) (ae (α:=Int) (xs:=(aa g).1) (v:=v16) (i:=↑e) bf rfl rfl (o17.ca hs112).flat rfl (by omega) (by omega)) ?_
      refine⟨hs112.same,?_⟩
      refine ht 4 rfl hs112.same (λw' hw'=>aq (v:=v16) (i:=↑e) ah rfl (o17.flat.chg hw' (bZ rfl)) (by omega) (by omega) (by decide) rfl) (ht (v:=vg [vi (gI ((aa g).1) (e:Int)),vi (mp.1 ((gI g.2 ↑e).1))]) 8 rfl hs112.same (λw' hw'=>bE (vs:=[(0,vi (gI ((aa g).1) (e:Int))),(1,vi (mp.1 ((gI g.2 ↑e).1)))]) rfl (by kernel_rfl)) (aV 10 rfl (by kernel_rfl) rfl (aI (cs':=[vi (gI ((aa g).1) (e:Int)),vi (mp.1 ((gI g.2 ↑e).1))]) aU rfl rfl bx111 rfl nq (AllOne.all (.cons rfl (.cons rfl .nil))) rfl ?_)))
      intro w113 ch114 bx115
      clear bx111
      have hs116:=hs112.seq (ch114.l rfl)
      refine⟨hs116.same,?_⟩
      refine cy (by kernel_rfl) ?_
      have C117:=cg [9,10] (ch64.n.seq ((ch69.l rfl).seq (ch71.n.seq (ch108.n.seq (ch114.l rfl)))))
      replace Rg:=Rg.ca C73
      replace bx10:=bx10.ca C73
      replace o19:=o19.ca C73
      replace m49:=m49.ca C73
      replace bx57:=bx57.ca C73
      replace o_ed:=o_ed.ca C73
      exact mid (b109,g110) _ _ ⟨bH.ca C117,zs2,zs4,zs5,zs8,zs9,rfl,rfl,rfl,zs46,zs47,zs48,rfl,rfl,(Rg.ca hs116),(bx10.ca hs116),(o17.ca hs116),(o19.ca hs116),(bx29.ca hs116),(m34.ca hs116),(m49.ca hs116),(bx57.ca hs116),(o_ed.ca hs116),bx115⟩
    ·
     refine bI g66 (is 10) (10,0) rfl aU ?_
     intro g121 w118 b120 ch119 bx122
     replace bx122:Bx g121 (is 10) w118 b120 [vi 0,vi 0]:=bx122
     have hs123:bp (inl [10]) _ _ _ _:=ch119.n
     refine⟨hs123.same,?_⟩
     refine cD 3 [7] (by kernel_rfl) ⟨cA 3 rfl (by kernel_rfl) rfl ?_,cA 7 rfl (by kernel_rfl) rfl ?_,trivial⟩
     ·
      replace o17:=o17.ca C73
      refine az (v:=Value.pointer (some (aZ v16 1 (Int.toNat ↑e)))) (ae (α:=Int) (xs:=(aa g).1) (v:=v16) (i:=↑e) bf rfl rfl (o17.ca hs123).flat rfl (by omega) (by omega)) ?_
      refine⟨hs123.same,?_⟩
      refine ht 4 rfl hs123.same (λw' hw'=>aq (v:=v16) (i:=↑e) ah rfl (o17.flat.chg hw' (bZ rfl)) (by omega) (by omega) (by decide) rfl) (aV 7 rfl (by kernel_rfl) rfl ?_)
      replace m34:=m34.ca C73
      refine az (v:=vi (mp.1 ((gI g.2 ↑e).1))) (bm ((gI g.2 ↑e).1) ir (bS U3) ah rfl (m34.ca hs123).mp rfl rfl) ?_
      refine⟨hs123.same,?_⟩
      refine ht (v:=vg [vi (gI ((aa g).1) (e:Int)),vi (mp.1 ((gI g.2 ↑e).1))]) 8 rfl hs123.same (λw' hw'=>bE (vs:=[(0,vi (gI ((aa g).1) (e:Int))),(1,vi (mp.1 ((gI g.2 ↑e).1)))]) rfl (by kernel_rfl)) (aV 10 rfl (by kernel_rfl) rfl (aI (cs':=[vi (gI ((aa g).1) (e:Int)),vi (mp.1 ((gI g.2 ↑e).1))]) aU rfl rfl bx122 rfl nq (AllOne.all (.cons rfl (.cons rfl .nil))) rfl ?_))
      intro w124 ch125 bx126
      clear bx122
      have hs127:=hs123.seq (ch125.l rfl)
      refine⟨hs127.same,?_⟩
      refine cy (by kernel_rfl) ?_
      have C128:=cg [9,10] (ch64.n.seq ((ch69.l rfl).seq (ch71.n.seq (ch119.n.seq (ch125.l rfl)))))
      replace Rg:=Rg.ca C73
      replace bx10:=bx10.ca C73
      replace o19:=o19.ca C73
      replace m49:=m49.ca C73
      replace bx57:=bx57.ca C73
      replace o_ed:=o_ed.ca C73
      exact mid (b120,g121) _ _ ⟨bH.ca C128,zs2,zs4,zs5,zs8,zs9,rfl,rfl,rfl,zs46,zs47,zs48,rfl,rfl,(Rg.ca hs127),(bx10.ca hs127),(o17.ca hs127),(o19.ca hs127),(bx29.ca hs127),(m34.ca hs127),(m49.ca hs127),(bx57.ca hs127),(o_ed.ca hs127),bx126⟩
     ·
      replace m34:=m34.ca C73
      refine az (v:=vi (mp.1 ((gI g.2 ↑e).1))) (bm ((gI g.2 ↑e).1) ir (bS U3) ah rfl (m34.ca hs123).mp rfl rfl) ?_
      refine⟨hs123.same,?_⟩
      refine aV 3 rfl (by kernel_rfl) rfl ?_
      replace o17:=o17.ca C73
      refine az (v:=Value.pointer (some (aZ v16 1 (Int.toNat ↑e)))) (ae (α:=Int) (xs:=(aa g).1) (v:=v16) (i:=↑e) bf rfl rfl (o17.ca hs123).flat rfl (by omega) (by omega)) ?_
      refine⟨hs123.same,?_⟩
      refine ht 4 rfl hs123.same (λw' hw'=>aq (v:=v16) (i:=↑e) ah rfl (o17.flat.chg hw' (bZ rfl)) (by omega) (by omega) (by decide) rfl) (ht (v:=vg [vi (gI ((aa g).1) (e:Int)),vi (mp.1 ((gI g.2 ↑e).1))]) 8 rfl hs123.same (λw' hw'=>bE (vs:=[(0,vi (gI ((aa g).1) (e:Int))),(1,vi (mp.1 ((gI g.2 ↑e).1)))]) rfl (by kernel_rfl)) (aV 10 rfl (by kernel_rfl) rfl (aI (cs':=[vi (gI ((aa g).1) (e:Int)),vi (mp.1 ((gI g.2 ↑e).1))]) aU rfl rfl bx122 rfl nq (AllOne.all (.cons rfl (.cons rfl .nil))) rfl ?_)))
      intro w129 ch130 bx131
      clear bx122
      have hs132:=hs123.seq (ch130.l rfl)
      refine⟨hs132.same,?_⟩
      refine cy (by kernel_rfl) ?_
      have C133:=cg [9,10] (ch64.n.seq ((ch69.l rfl).seq (ch71.n.seq (ch119.n.seq (ch130.l rfl)))))
      replace Rg:=Rg.ca C73
      replace bx10:=bx10.ca C73
      replace o19:=o19.ca C73
      replace m49:=m49.ca C73
      replace bx57:=bx57.ca C73
      replace o_ed:=o_ed.ca C73
      exact mid (b120,g121) _ _ ⟨bH.ca C133,zs2,zs4,zs5,zs8,zs9,rfl,rfl,rfl,zs46,zs47,zs48,rfl,rfl,(Rg.ca hs132),(bx10.ca hs132),(o17.ca hs132),(o19.ca hs132),(bx29.ca hs132),(m34.ca hs132),(m49.ca hs132),(bx57.ca hs132),(o_ed.ca hs132),bx131⟩
   clear Rg bx10 o17 o19 bx29 m34 m49 bx57 o_ed bH
   rintro⟨b76,g136⟩ f134 w135 ⟨bH,zs2,zs4,zs5,zs8,zs9,zs10,zs13,zs14,zs46,zs47,zs48,zs53,zs54,Rg,bx10,o17,o19,bx29,m34,m49,bx57,o_ed,bx82⟩
   refine ab (ab (a8 rfl (mz zs5 (mz zs13 (lw (vi (mp.1 ((gI g.2 ↑e).1))) (bm ((gI g.2 ↑e).1) ir (bS U3) ah rfl m34.mp rfl rfl) (lx (e7 (m:=mp.1 ((gI g.2 ↑e).1)) (n:=0) rfl rfl) (mv (vb (decide (0<(mp.1 ((gI g.2 ↑e).1))))) ?_)))))))
   by_cases q70:0<(mp.1 ((gI g.2 ↑e).1))
   ·
    refine lv (v47) (wy (dt q70)) (au zs8) (lv (vg [vi (gI ((aa g).1) (e:Int)),vi (mp.1 ((gI g.2 ↑e).1))]) (wy (dt q70)) (aB (ds:=[vi (gI ((aa g).1) (e:Int)),vi (mp.1 ((gI g.2 ↑e).1))]) aU zs14 bx82 rfl rfl) (lv (vi (sn ((gI ((aa g).1) (e:Int)),mp.1 ((gI g.2 ↑e).1)))) (wy (dt q70)) (bm ((gI ((aa g).1) (e:Int)),mp.1 ((gI g.2 ↑e).1)) fj (aX dg U3 ah) ah rfl m49 rfl rfl) ?_))
    refine lv (vb (decide ((sn ((gI ((aa g).1) (e:Int)),mp.1 ((gI g.2 ↑e).1)))=0))) (wy (dt q70)) (cH (m:=sn ((gI ((aa g).1) (e:Int)),mp.1 ((gI g.2 ↑e).1))) (n:=0) rfl rfl) (lw (vb (decide ((sn ((gI ((aa g).1) (e:Int)),mp.1 ((gI g.2 ↑e).1)))=0))) (b5 rfl (dt q70) rfl) (ag ?_))
    by_cases p19:(sn ((gI ((aa g).1) (e:Int)),mp.1 ((gI g.2 ↑e).1)))=0
    ·
     refine al rfl (dt p19) (a8 rfl (lx (ad cZ rfl rfl zs9 rfl) (lx (af bC rfl bx57 rfl) (lx (aB (ds:=[vi (gI ((aa g).1) (e:Int)),vi (mp.1 ((gI g.2 ↑e).1))]) aU zs14 bx82 rfl rfl) (lo (aM (α:=Pt) g136 (is 11) (is 11) (11,0) rfl [((gI ((aa g).1) (e:Int)),mp.1 ((gI g.2 ↑e).1))] dD aU (by decide) (by decide) (vs:=[(0,vg [vi (gI ((aa g).1) (e:Int)),vi (mp.1 ((gI g.2 ↑e).1))])]) rfl rfl (.cons rfl .nil) ?_))))))
     intro g137 w138 v139 ch140 o141
     refine lo ?_
     replace o_ed:=o_ed.cn ch140
     refine bD (α:=Pt) (xs:=ed) (ys:=([((gI ((aa g).1) (e:Int)),mp.1 ((gI g.2 ↑e).1))])) g137 (J:=is 12) (S:=is 12) (12,0) rfl dD aU (by decide) rfl rfl rfl o_ed o141.flat (by decide) (by(simp;omega)) ?_
     intro g142 w143 v144 ch145 o146
     clear o_ed
     refine lx (ad cZ rfl rfl zs9 rfl) (lo ?_)
     replace bx57:=(bx57.cn ch140).ce ch145
     refine cj (cs':=[vi ((((aa g).2).2)+(List.length (((aa g).2).1):Int)),v144]) bC rfl rfl bx57 (cd o146.flat) nq (bQ o146.flat) rfl ?_
     intro w147 ch148 bx149
     clear bx57
     refine ag ?_
     clear o141
     refine cX (σ:=aJ) (λgq f w=>bv w0 gq w/\f 2=vp b8 0/\f 4=vp b24 0/\f 5=v32/\f 8=v47/\f 9=vp b52 0/\f 10=vi ↑e/\f 46=g_v/\f 47=vi (g.2.length:Int)/\f 48=vi ↑e/\f 53=vg [vi ((gI g.2 ↑e).1),vi ((gI g.2 ↑e).2)]/\f 54=vi 0/\Sl gq (is 0) w g_v g.2/\Bx gq (is 2) w b8 [vi 0,vn]/\Ow gq (is 3) (is 3) w v16 ((aa g).1)/\Ow gq (is 4) (is 4) w v18 (((aa g).2).1)/\Bx gq (is 5) w b24 [v16,v18,vi (((aa g).2).2)]/\Md gq (is 6) w v32 mp.1 mp.2/\Ow gq (is 12) (is 12) w v144 (ed++[((gI ((aa g).1) (e:Int)),mp.1 ((gI g.2 ↑e).1))])/\Bx gq (is 8) w b52 [vi ((((aa g).2).2)+(List.length (((aa g).2).1):Int)),v144]/\Mp gq (is 7) w v47 (λq=>if q=((gI ((aa g).1) (e:Int)),mp.1 ((gI g.2 ↑e).1)) then((sn ((gI ((aa g).1) (e:Int)),mp.1 ((gI g.2 ↑e).1)))+1) else sn q)) g142 [0,1,3,5] d6 ?_ ?_
     ·
      intro mid
      intro w151 ch150
      refine xp (v:=v47) 0 rfl (λw=>au zs8) ?_
      have C152:=cg [8,12] (ch140.n.seq ((ch145.l rfl).seq ((ch148.l rfl).seq ch150.n)))
      replace bx82:=bx82.ca C152
      refine xv 1 [0] rfl (aB (ds:=[vi (gI ((aa g).1) (e:Int)),vi (mp.1 ((gI g.2 ↑e).1))]) aU zs14 bx82 rfl rfl) ?_
      refine fV 2 4 rfl rfl (by kernel_rfl) rfl rfl ?_ ?_
      ·
       replace m49:=m49.ca C152
       refine az (v:=vi (sn ((gI ((aa g).1) (e:Int)),mp.1 ((gI g.2 ↑e).1)))) (bm ((gI ((aa g).1) (e:Int)),mp.1 ((gI g.2 ↑e).1)) fj (aX dg U3 ah) ah rfl m49 rfl rfl) (xp 3 rfl (λw=>aG (m:=sn ((gI ((aa g).1) (e:Int)),mp.1 ((gI g.2 ↑e).1))) (n:=1) rfl rfl (by(omega))) (bw 4 rfl (by kernel_rfl) rfl (bU ((gI ((aa g).1) (e:Int)),mp.1 ((gI g.2 ↑e).1)) fj (aX dg U3 ah) ah rfl m49 rfl rfl ?_)))
       intro w153 s156 ch154 m155
       clear m49
       refine xp 5 rfl (λw=>aR rfl rfl) (bw 6 rfl (by kernel_rfl) rfl (bG rfl m155 rfl rfl ?_))
       intro w157 ch158 m159
       clear m155
       refine c6 (by kernel_rfl) ?_
       have C160:=cg [7,8,12] (ch140.n.seq ((ch145.l rfl).seq ((ch148.l rfl).seq (ch150.n.seq ((ch154.l rfl).seq (ch158.l rfl))))))
       have C161:=cg [7,8] ((ch148.l rfl).seq (ch150.n.seq ((ch154.l rfl).seq (ch158.l rfl))))
       have C162:=cg [7] (ch150.n.seq ((ch154.l rfl).seq (ch158.l rfl)))
       exact mid (g142) _ _ ⟨bH.ca C160,zs2,zs4,zs5,zs8,zs9,zs10,zs46,zs47,zs48,zs53,zs54,Rg.ca C160,bx10.ca C160,o17.ca C160,o19.ca C160,bx29.ca C160,m34.ca C160,o146.ca C161,bx149.ca C162,m159⟩
      ·
       replace m49:=m49.ca C152
       refine bU ((gI ((aa g).1) (e:Int)),mp.1 ((gI g.2 ↑e).1)) fj (aX dg U3 ah) ah rfl m49 rfl rfl ?_
       intro w163 s166 ch164 m165
       clear m49
       refine xp 5 rfl (λw=>aR rfl rfl) (bw 2 rfl (by kernel_rfl) rfl (az (v:=vi (sn ((gI ((aa g).1) (e:Int)),mp.1 ((gI g.2 ↑e).1)))) (bm ((gI ((aa g).1) (e:Int)),mp.1 ((gI g.2 ↑e).1)) fj (aX dg U3 ah) ah rfl m165.mp rfl rfl) (xp 3 rfl (λw=>aG (m:=sn ((gI ((aa g).1) (e:Int)),mp.1 ((gI g.2 ↑e).1))) (n:=1) rfl rfl (by(omega))) (bw 6 rfl (by kernel_rfl) rfl (bG rfl m165 rfl rfl ?_)))))
       intro w167 ch168 m169
       clear m165
       refine c6 (by kernel_rfl) ?_
       have C170:=cg [7,8,12] (ch140.n.seq ((ch145.l rfl).seq ((ch148.l rfl).seq (ch150.n.seq ((ch164.l rfl).seq (ch168.l rfl))))))
       have C171:=cg [7,8] ((ch148.l rfl).seq (ch150.n.seq ((ch164.l rfl).seq (ch168.l rfl))))
       have C172:=cg [7] (ch150.n.seq ((ch164.l rfl).seq (ch168.l rfl)))
       exact mid (g142) _ _ ⟨bH.ca C170,zs2,zs4,zs5,zs8,zs9,zs10,zs46,zs47,zs48,zs53,zs54,Rg.ca C170,bx10.ca C170,o17.ca C170,o19.ca C170,bx29.ca C170,m34.ca C170,o146.ca C171,bx149.ca C172,m169⟩
     clear Rg bx10 o17 o19 bx29 m34 m49 bx82 o146 bx149 bH
     rintro g175 f173 w174 ⟨bH,zs2,zs4,zs5,zs8,zs9,zs10,zs46,zs47,zs48,zs53,zs54,Rg,bx10,o17,o19,bx29,m34,o146,bx149,m157⟩
     refine ak (a8 rfl (lx (aG (m:=0) (n:=1) zs54 rfl (by omega)) (mi 1 (ag (bx (ab (a8 rfl (lx (bn (m:=1) (n:=2) rfl rfl) (ag (ab (al rfl rfl ?_)))))))))))
     refine av (ab (ar (ab (a8 rfl (lw (vi ((gI g.2 ↑e).2)) (cE dg ah zs53 rfl (by decide) (by decide) rfl) (ai ((gI g.2 ↑e).2) (ag (ab ?_))))))))
     refine d3 (σ:=Nat×aJ) (λ⟨b180,gq⟩ f w=>bv w0 gq w/\f 2=vp b8 0/\f 4=vp b24 0/\f 5=v32/\f 8=v47/\f 9=vp b52 0/\f 10=vi ↑e/\f 13=vi ((gI g.2 ↑e).2)/\f 14=vp b180 0/\f 46=g_v/\f 47=vi (g.2.length:Int)/\f 48=vi ↑e/\f 53=vg [vi ((gI g.2 ↑e).1),vi ((gI g.2 ↑e).2)]/\f 54=vi 1/\Sl gq (is 0) w g_v g.2/\Bx gq (is 2) w b8 [vi 0,vn]/\Ow gq (is 3) (is 3) w v16 ((aa g).1)/\Ow gq (is 4) (is 4) w v18 (((aa g).2).1)/\Bx gq (is 5) w b24 [v16,v18,vi (((aa g).2).2)]/\Md gq (is 6) w v32 mp.1 mp.2/\Ow gq (is 12) (is 12) w v144 (ed++[((gI ((aa g).1) (e:Int)),mp.1 ((gI g.2 ↑e).1))])/\Bx gq (is 8) w b52 [vi ((((aa g).2).2)+(List.length (((aa g).2).1):Int)),v144]/\Mp gq (is 7) w v47 (λq=>if q=((gI ((aa g).1) (e:Int)),mp.1 ((gI g.2 ↑e).1)) then((sn ((gI ((aa g).1) (e:Int)),mp.1 ((gI g.2 ↑e).1)))+1) else sn q)/\Bx gq (is 10) w b180 [vi (gI ((aa g).1) (e:Int)),vi (mp.1 ((gI g.2 ↑e).2))]) g175 (inl [10]) d6 ?_ ?_
     ·
      intro mid
      intro w177 ch176
      refine ht 0 rfl (bp.refl _ _ _) (λw' hw'=>ad eD rfl rfl zs4 rfl) ?_
      replace bx29:=bx29.cn ch176
      refine ht 1 rfl (bp.refl _ _ _) (λw' hw'=>af ay rfl (bx29.chg hw' (bZ rfl)) rfl) (ht (v:=vi ↑e) 2 rfl (bp.refl _ _ _) (λw' hw'=>au zs10) (ht (v:=v32) 5 rfl (bp.refl _ _ _) (λw' hw'=>au zs5) (ht (v:=vi ((gI g.2 ↑e).2)) 6 rfl (bp.refl _ _ _) (λw' hw'=>au rfl) ?_)))
      refine cD 3 [7,9] (by kernel_rfl) ⟨cA 3 rfl (by kernel_rfl) rfl ?_,cA 7 rfl (by kernel_rfl) rfl ?_,cA 9 rfl (by kernel_rfl) rfl ?_,trivial⟩
      ·
       replace o17:=o17.cn ch176
       refine az (v:=Value.pointer (some (aZ v16 1 (Int.toNat ↑e)))) (ae (α:=Int) (xs:=(aa g).1) (v:=v16) (i:=↑e) bf rfl rfl o17.flat rfl (by omega) (by omega)) ?_
       refine⟨(bp.refl _ _ _),?_⟩
       refine ht 4 rfl (bp.refl _ _ _) (λw' hw'=>aq (v:=v16) (i:=↑e) ah rfl (o17.flat.chg hw' (bZ rfl)) (by omega) (by omega) (by decide) rfl) ?_
       refine cD 7 [9] (by kernel_rfl) ⟨cA 7 rfl (by kernel_rfl) rfl ?_,cA 9 rfl (by kernel_rfl) rfl ?_,trivial⟩
       ·
        replace m34:=m34.cn ch176
        refine az (v:=vi (mp.1 ((gI g.2 ↑e).2))) (bm ((gI g.2 ↑e).2) ir (bS U3) ah rfl m34.mp rfl rfl) ?_
        refine⟨(bp.refl _ _ _),?_⟩
        refine ht (v:=vg [vi (gI ((aa g).1) (e:Int)),vi (mp.1 ((gI g.2 ↑e).2))]) 8 rfl (bp.refl _ _ _) (λw' hw'=>bE (vs:=[(0,vi (gI ((aa g).1) (e:Int))),(1,vi (mp.1 ((gI g.2 ↑e).2)))]) rfl (by kernel_rfl)) (aV 9 rfl (by kernel_rfl) rfl (bI g175 (is 10) (10,0) rfl aU ?_))
        intro g181 w178 b180 ch179 bx182
        replace bx182:Bx g181 (is 10) w178 b180 [vi 0,vi 0]:=bx182
        have hs183:bp (inl [10]) _ _ _ _:=ch179.n
        refine⟨hs183.same,?_⟩
        refine aV 10 rfl (by kernel_rfl) rfl (aI (cs':=[vi (gI ((aa g).1) (e:Int)),vi (mp.1 ((gI g.2 ↑e).2))]) aU rfl rfl bx182 rfl nq (AllOne.all (.cons rfl (.cons rfl .nil))) rfl ?_)
        intro w184 ch185 bx186
        clear bx182
        have hs187:=hs183.seq (ch185.l rfl)
        refine⟨hs187.same,?_⟩
        refine cy (by kernel_rfl) ?_
        have C188:=cg [10] (ch176.n.seq (ch179.n.seq (ch185.l rfl)))
        replace Rg:=Rg.cn ch176
        replace bx10:=bx10.cn ch176
        replace o19:=o19.cn ch176
        replace o146:=o146.cn ch176
        replace bx149:=bx149.cn ch176
        replace m157:=m157.cn ch176
        exact mid (b180,g181) _ _ ⟨bH.ca C188,zs2,zs4,zs5,zs8,zs9,zs10,rfl,rfl,zs46,zs47,zs48,zs53,rfl,(Rg.ca hs187),(bx10.ca hs187),(o17.ca hs187),(o19.ca hs187),(bx29.ca hs187),(m34.ca hs187),(o146.ca hs187),(bx149.ca hs187),(m157.ca hs187),bx186⟩
       ·
        refine bI g175 (is 10) (10,0) rfl aU ?_
        intro g192 w189 b191 ch190 bx193
        replace bx193:Bx g192 (is 10) w189 b191 [vi 0,vi 0]:=bx193
        have hs194:bp (inl [10]) _ _ _ _:=ch190.n
        refine⟨hs194.same,?_⟩
        refine aV 7 rfl (by kernel_rfl) rfl ?_
        replace m34:=m34.cn ch176
        refine az (v:=vi (mp.1 ((gI g.2 ↑e).2))) (bm ((gI g.2 ↑e).2) ir (bS U3) ah rfl (m34.ca hs194).mp rfl rfl) ?_
        refine⟨hs194.same,?_⟩
        refine ht (v:=vg [vi (gI ((aa g).1) (e:Int)),vi (mp.1 ((gI g.2 ↑e).2))]) 8 rfl hs194.same (λw' hw'=>bE (vs:=[(0,vi (gI ((aa g).1) (e:Int))),(1,vi (mp.1 ((gI g.2 ↑e).2)))]) rfl (by kernel_rfl)) (aV 10 rfl (by kernel_rfl) rfl (aI (cs':=[vi (gI ((aa g).1) (e:Int)),vi (mp.1 ((gI g.2 ↑e).2))]) aU rfl rfl bx193 rfl nq (AllOne.all (.cons rfl (.cons rfl .nil))) rfl ?_))
        intro w195 ch196 bx197
        clear bx193
        have hs198:=hs194.seq (ch196.l rfl)
        refine⟨hs198.same,?_⟩
        refine cy (by kernel_rfl) ?_
        have C199:=cg [10] (ch176.n.seq (ch190.n.seq (ch196.l rfl)))
        replace Rg:=Rg.cn ch176
        replace bx10:=bx10.cn ch176
        replace o19:=o19.cn ch176
        replace o146:=o146.cn ch176
        replace bx149:=bx149.cn ch176
        replace m157:=m157.cn ch176
        exact mid (b191,g192) _ _ ⟨bH.ca C199,zs2,zs4,zs5,zs8,zs9,zs10,rfl,rfl,zs46,zs47,zs48,zs53,rfl,(Rg.ca hs198),(bx10.ca hs198),(o17.ca hs198),(o19.ca hs198),(bx29.ca hs198),(m34.ca hs198),(o146.ca hs198),(bx149.ca hs198),(m157.ca hs198),bx197⟩
      ·
       replace m34:=m34.cn ch176
       refine az (v:=vi (mp.1 ((gI g.2 ↑e).2))) (bm ((gI g.2 ↑e).2) ir (bS U3) ah rfl m34.mp rfl rfl) ?_
       refine⟨(bp.refl _ _ _),?_⟩
       refine cD 3 [9] (by kernel_rfl) ⟨cA 3 rfl (by kernel_rfl) rfl ?_,cA 9 rfl (by kernel_rfl) rfl ?_,trivial⟩
       ·
        replace o17:=o17.cn ch176
        refine az (v:=Value.pointer (some (aZ v16 1 (Int.toNat ↑e)))) (ae (α:=Int) (xs:=(aa g).1) (v:=v16) (i:=↑e) bf rfl rfl o17.flat rfl (by omega) (by omega)) ?_
        refine⟨(bp.refl _ _ _),?_⟩
        refine ht 4 rfl (bp.refl _ _ _) (λw' hw'=>aq (v:=v16) (i:=↑e) ah rfl (o17.flat.chg hw' (bZ rfl)) (by omega) (by omega) (by decide) rfl) (ht (v:=vg [vi (gI ((aa g).1) (e:Int)),vi (mp.1 ((gI g.2 ↑e).2))]) 8 rfl (bp.refl _ _ _) (λw' hw'=>bE (vs:=[(0,vi (gI ((aa g).1) (e:Int))),(1,vi (mp.1 ((gI g.2 ↑e).2)))]) rfl (by kernel_rfl)) (aV 9 rfl (by kernel_rfl) rfl (bI g175 (is 10) (10,0) rfl aU ?_)))
        intro g203 w200 b202 ch201 bx204
        replace bx204:Bx g203 (is 10) w200 b202 [vi 0,vi 0]:=bx204
        have hs205:bp (inl [10]) _ _ _ _:=ch201.n
        refine⟨hs205.same,?_⟩
        refine aV 10 rfl (by kernel_rfl) rfl (aI (cs':=[vi (gI ((aa g).1) (e:Int)),vi (mp.1 ((gI g.2 ↑e).2))]) aU rfl rfl bx204 rfl nq (AllOne.all (.cons rfl (.cons rfl .nil))) rfl ?_)
        intro w206 ch207 bx208
        clear bx204
        have hs209:=hs205.seq (ch207.l rfl)
        refine⟨hs209.same,?_⟩
        refine cy (by kernel_rfl) ?_
        have C210:=cg [10] (ch176.n.seq (ch201.n.seq (ch207.l rfl)))
        replace Rg:=Rg.cn ch176
        replace bx10:=bx10.cn ch176
        replace o19:=o19.cn ch176
        replace o146:=o146.cn ch176
        replace bx149:=bx149.cn ch176
        replace m157:=m157.cn ch176
        exact mid (b202,g203) _ _ ⟨bH.ca C210,zs2,zs4,zs5,zs8,zs9,zs10,rfl,rfl,zs46,zs47,zs48,zs53,rfl,(Rg.ca hs209),(bx10.ca hs209),(o17.ca hs209),(o19.ca hs209),(bx29.ca hs209),(m34.ca hs209),(o146.ca hs209),(bx149.ca hs209),(m157.ca hs209),bx208⟩
       ·
        refine bI g175 (is 10) (10,0) rfl aU ?_
        intro g214 w211 b213 ch212 bx215
        replace bx215:Bx g214 (is 10) w211 b213 [vi 0,vi 0]:=bx215
        have hs216:bp (inl [10]) _ _ _ _:=ch212.n
        refine⟨hs216.same,?_⟩
        refine aV 3 rfl (by kernel_rfl) rfl ?_
        replace o17:=o17.cn ch176
        refine az (v:=Value.pointer (some (aZ v16 1 (Int.toNat ↑e)))) (ae (α:=Int) (xs:=(aa g).1) (v:=v16) (i:=↑e) bf rfl rfl (o17.ca hs216).flat rfl (by omega) (by omega)) ?_
        refine⟨hs216.same,?_⟩
        refine ht 4 rfl hs216.same (λw' hw'=>aq (v:=v16) (i:=↑e) ah rfl (o17.flat.chg hw' (bZ rfl)) (by omega) (by omega) (by decide) rfl) (ht (v:=vg [vi (gI ((aa g).1) (e:Int)),vi (mp.1 ((gI g.2 ↑e).2))]) 8 rfl hs216.same (λw' hw'=>bE (vs:=[(0,vi (gI ((aa g).1) (e:Int))),(1,vi (mp.1 ((gI g.2 ↑e).2)))]) rfl (by kernel_rfl)) (aV 10 rfl (by kernel_rfl) rfl (aI (cs':=[vi (gI ((aa g).1) (e:Int)),vi (mp.1 ((gI g.2 ↑e).2))]) aU rfl rfl bx215 rfl nq (AllOne.all (.cons rfl (.cons rfl .nil))) rfl ?_)))
        intro w217 ch218 bx219
        clear bx215
        have hs220:=hs216.seq (ch218.l rfl)
        refine⟨hs220.same,?_⟩
        refine cy (by kernel_rfl) ?_
        have C221:=cg [10] (ch176.n.seq (ch212.n.seq (ch218.l rfl)))
        replace Rg:=Rg.cn ch176
        replace bx10:=bx10.cn ch176
        replace o19:=o19.cn ch176
        replace o146:=o146.cn ch176
        replace bx149:=bx149.cn ch176
        replace m157:=m157.cn ch176
        exact mid (b213,g214) _ _ ⟨bH.ca C221,zs2,zs4,zs5,zs8,zs9,zs10,rfl,rfl,zs46,zs47,zs48,zs53,rfl,(Rg.ca hs220),(bx10.ca hs220),(o17.ca hs220),(o19.ca hs220),(bx29.ca hs220),(m34.ca hs220),(o146.ca hs220),(bx149.ca hs220),(m157.ca hs220),bx219⟩
      ·
       refine bI g175 (is 10) (10,0) rfl aU ?_
       intro g225 w222 b224 ch223 bx226
       replace bx226:Bx g225 (is 10) w222 b224 [vi 0,vi 0]:=bx226
       have hs227:bp (inl [10]) _ _ _ _:=ch223.n
       refine⟨hs227.same,?_⟩
       refine cD 3 [7] (by kernel_rfl) ⟨cA 3 rfl (by kernel_rfl) rfl ?_,cA 7 rfl (by kernel_rfl) rfl ?_,trivial⟩
       ·
        replace o17:=o17.cn ch176
        refine az (v:=Value.pointer (some (aZ v16 1 (Int.toNat ↑e)))) (ae (α:=Int) (xs:=(aa g).1) (v:=v16) (i:=↑e) bf rfl rfl (o17.ca hs227).flat rfl (by omega) (by omega)) ?_
        refine⟨hs227.same,?_⟩
        refine ht 4 rfl hs227.same (λw' hw'=>aq (v:=v16) (i:=↑e) ah rfl (o17.flat.chg hw' (bZ rfl)) (by omega) (by omega) (by decide) rfl) (aV 7 rfl (by kernel_rfl) rfl ?_)
        replace m34:=m34.cn ch176
        refine az (v:=vi (mp.1 ((gI g.2 ↑e).2))) (bm ((gI g.2 ↑e).2) ir (bS U3) ah rfl (m34.ca hs227).mp rfl rfl) ?_
        refine⟨hs227.same,?_⟩
        refine ht (v:=vg [vi (gI ((aa g).1) (e:Int)),vi (mp.1 ((gI g.2 ↑e).2))]) 8 rfl hs227.same (λw' hw'=>bE (vs:=[(0,vi (gI ((aa g).1) (e:Int))),(1,vi (mp.1 ((gI g.2 ↑e).2)))]) rfl (by kernel_rfl)) (aV 10 rfl (by kernel_rfl) rfl (aI (cs':=[vi (gI ((aa g).1) (e:Int)),vi (mp.1 ((gI g.2 ↑e).2))]) aU rfl rfl bx226 rfl nq (AllOne.all (.cons rfl (.cons rfl .nil))) rfl ?_))
        intro w228 ch229 bx230
        clear bx226
        have hs231:=hs227.seq (ch229.l rfl)
        refine⟨hs231.same,?_⟩
        refine cy (by kernel_rfl) ?_
        have C232:=cg [10] (ch176.n.seq (ch223.n.seq (ch229.l rfl)))
        replace Rg:=Rg.cn ch176
        replace bx10:=bx10.cn ch176
        replace o19:=o19.cn ch176
        replace o146:=o146.cn ch176
        replace bx149:=bx149.cn ch176
        replace m157:=m157.cn ch176
        exact mid (b224,g225) _ _ ⟨bH.ca C232,zs2,zs4,zs5,zs8,zs9,zs10,rfl,rfl,zs46,zs47,zs48,zs53,rfl,(Rg.ca hs231),(bx10.ca hs231),(o17.ca hs231),(o19.ca hs231),(bx29.ca hs231),(m34.ca hs231),(o146.ca hs231),(bx149.ca hs231),(m157.ca hs231),bx230⟩
       ·
        replace m34:=m34.cn ch176
        refine az (v:=vi (mp.1 ((gI g.2 ↑e).2))) (bm ((gI g.2 ↑e).2) ir (bS U3) ah rfl (m34.ca hs227).mp rfl rfl) ?_
        refine⟨hs227.same,?_⟩
        refine aV 3 rfl (by kernel_rfl) rfl ?_
        replace o17:=o17.cn ch176
        refine az (v:=Value.pointer (some (aZ v16 1 (Int.toNat ↑e)))) (ae (α:=Int) (xs:=(aa g).1) (v:=v16) (i:=↑e) bf rfl rfl (o17.ca hs227).flat rfl (by omega) (by omega)) ?_
        refine⟨hs227.same,?_⟩
        refine ht 4 rfl hs227.same (λw' hw'=>aq (v:=v16) (i:=↑e) ah rfl (o17.flat.chg hw' (bZ rfl)) (by omega) (by omega) (by decide) rfl) (ht (v:=vg [vi (gI ((aa g).1) (e:Int)),vi (mp.1 ((gI g.2 ↑e).2))]) 8 rfl hs227.same (λw' hw'=>bE (vs:=[(0,vi (gI ((aa g).1) (e:Int))),(1,vi (mp.1 ((gI g.2 ↑e).2)))]) rfl (by kernel_rfl)) (aV 10 rfl (by kernel_rfl) rfl (aI (cs':=[vi (gI ((aa g).1) (e:Int)),vi (mp.1 ((gI g.2 ↑e).2))]) aU rfl rfl bx226 rfl nq (AllOne.all (.cons rfl (.cons rfl .nil))) rfl ?_)))
        intro w233 ch234 bx235
        clear bx226
        have hs236:=hs227.seq (ch234.l rfl)
        refine⟨hs236.same,?_⟩
        refine cy (by kernel_rfl) ?_
        have C237:=cg [10] (ch176.n.seq (ch223.n.seq (ch234.l rfl)))
        replace Rg:=Rg.cn ch176
        replace bx10:=bx10.cn ch176
        replace o19:=o19.cn ch176
        replace o146:=o146.cn ch176
        replace bx149:=bx149.cn ch176
        replace m157:=m157.cn ch176
        exact mid (b224,g225) _ _ ⟨bH.ca C237,zs2,zs4,zs5,zs8,zs9,zs10,rfl,rfl,zs46,zs47,zs48,zs53,rfl,(Rg.ca hs236),(bx10.ca hs236),(o17.ca hs236),(o19.ca hs236),(bx29.ca hs236),(m34.ca hs236),(o146.ca hs236),(bx149.ca hs236),(m157.ca hs236),bx235⟩
     clear Rg bx10 o17 o19 bx29 m34 o146 bx149 m157 bH
     rintro⟨b180,g240⟩ f238 w239 ⟨bH,zs2,zs4,zs5,zs8,zs9,zs10,zs13,zs14,zs46,zs47,zs48,zs53,zs54,Rg,bx10,o17,o19,bx29,m34,o146,bx149,m157,bx186⟩
     refine ab (ab (a8 rfl (mz zs5 (mz zs13 (lw (vi (mp.1 ((gI g.2 ↑e).2))) (bm ((gI g.2 ↑e).2) ir (bS U3) ah rfl m34.mp rfl rfl) (lx (e7 (m:=mp.1 ((gI g.2 ↑e).2)) (n:=0) rfl rfl) (mv (vb (decide (0<(mp.1 ((gI g.2 ↑e).2))))) ?_)))))))
     by_cases q70_241:0<(mp.1 ((gI g.2 ↑e).2))
     ·
      refine lv (v47) (wy (dt q70_241)) (au zs8) (lv (vg [vi (gI ((aa g).1) (e:Int)),vi (mp.1 ((gI g.2 ↑e).2))]) (wy (dt q70_241)) (aB (ds:=[vi (gI ((aa g).1) (e:Int)),vi (mp.1 ((gI g.2 ↑e).2))]) aU zs14 bx186 rfl rfl) ?_)
      refine lv (vi ((λq=>if q=((gI ((aa g).1) (e:Int)),mp.1 ((gI g.2 ↑e).1)) then((sn ((gI ((aa g).1) (e:Int)),mp.1 ((gI g.2 ↑e).1)))+1) else sn q) ((gI ((aa g).1) (e:Int)),mp.1 ((gI g.2 ↑e).2)))) (wy (dt q70_241)) (bm (F:=(λq=>if q=((gI ((aa g).1) (e:Int)),mp.1 ((gI g.2 ↑e).1)) then((sn ((gI ((aa g).1) (e:Int)),mp.1 ((gI g.2 ↑e).1)))+1) else sn q)) ((gI ((aa g).1) (e:Int)),mp.1 ((gI g.2 ↑e).2)) fj (aX dg U3 ah) ah rfl m157 rfl rfl) ?_
      refine lv (vb (decide (((λq=>if q=((gI ((aa g).1) (e:Int)),mp.1 ((gI g.2 ↑e).1)) then((sn ((gI ((aa g).1) (e:Int)),mp.1 ((gI g.2 ↑e).1)))+1) else sn q) ((gI ((aa g).1) (e:Int)),mp.1 ((gI g.2 ↑e).2)))=0))) (wy (dt q70_241)) (cH (m:=(λq=>if q=((gI ((aa g).1) (e:Int)),mp.1 ((gI g.2 ↑e).1)) then((sn ((gI ((aa g).1) (e:Int)),mp.1 ((gI g.2 ↑e).1)))+1) else sn q) ((gI ((aa g).1) (e:Int)),mp.1 ((gI g.2 ↑e).2))) (n:=0) rfl rfl) (lw (vb (decide (((λq=>if q=((gI ((aa g).1) (e:Int)),mp.1 ((gI g.2 ↑e).1)) then((sn ((gI ((aa g).1) (e:Int)),mp.1 ((gI g.2 ↑e).1)))+1) else sn q) ((gI ((aa g).1) (e:Int)),mp.1 ((gI g.2 ↑e).2)))=0))) (b5 rfl (dt q70_241) rfl) (ag ?_))
      by_cases p19_242:((λq=>if q=((gI ((aa g).1) (e:Int)),mp.1 ((gI g.2 ↑e).1)) then((sn ((gI ((aa g).1) (e:Int)),mp.1 ((gI g.2 ↑e).1)))+1) else sn q) ((gI ((aa g).1) (e:Int)),mp.1 ((gI g.2 ↑e).2)))=0
      ·
       refine al rfl (dt p19_242) (a8 rfl (lx (ad cZ rfl rfl zs9 rfl) (lx (af bC rfl bx149 rfl) (lx (aB (ds:=[vi (gI ((aa g).1) (e:Int)),vi (mp.1 ((gI g.2 ↑e).2))]) aU zs14 bx186 rfl rfl) (lo (aM (α:=Pt) g240 (is 11) (is 11) (11,0) rfl [((gI ((aa g).1) (e:Int)),mp.1 ((gI g.2 ↑e).2))] dD aU (by decide) (by decide) (vs:=[(0,vg [vi (gI ((aa g).1) (e:Int)),vi (mp.1 ((gI g.2 ↑e).2))])]) rfl rfl (.cons rfl .nil) ?_))))))
       intro g243 w244 v245 ch246 o247
       refine lo ?_
       replace o146:=o146.cn ch246
       refine bD (α:=Pt) (xs:=(ed++[((gI ((aa g).1) (e:Int)),mp.1 ((gI g.2 ↑e).1))])) (ys:=([((gI ((aa g).1) (e:Int)),mp.1 ((gI g.2 ↑e).2))])) g243 (J:=is 12) (S:=is 12) (12,0) rfl dD aU (by decide) rfl rfl rfl o146 o247.flat (by decide) (by(simp;omega)) ?_
       intro g248 w249 v250 ch251 o252
       clear o146
       refine lx (ad cZ rfl rfl zs9 rfl) (lo ?_)
       replace bx149:=(bx149.cn ch246).ce ch251
       refine cj (cs':=[vi ((((aa g).2).2)+(List.length (((aa g).2).1):Int)),v250]) bC rfl rfl bx149 (cd o252.flat) nq (bQ o252.flat) rfl ?_
       intro w253 ch254 bx255
       clear bx149
       refine ag ?_
       clear o247
       refine cX (σ:=aJ) (λgq f w=>bv w0 gq w/\f 2=vp b8 0/\f 4=vp b24 0/\f 5=v32/\f 8=v47/\f 9=vp b52 0/\f 10=vi ↑e/\f 46=g_v/\f 47=vi (g.2.length:Int)/\f 48=vi ↑e/\f 53=vg [vi ((gI g.2 ↑e).1),vi ((gI g.2 ↑e).2)]/\f 54=vi 1/\Sl gq (is 0) w g_v g.2/\Bx gq (is 2) w b8 [vi 0,vn]/\Ow gq (is 3) (is 3) w v16 ((aa g).1)/\Ow gq (is 4) (is 4) w v18 (((aa g).2).1)/\Bx gq (is 5) w b24 [v16,v18,vi (((aa g).2).2)]/\Md gq (is 6) w v32 mp.1 mp.2/\Ow gq (is 12) (is 12) w v250 ((ed++[((gI ((aa g).1) (e:Int)),mp.1 ((gI g.2 ↑e).1))])++[((gI ((aa g).1) (e:Int)),mp.1 ((gI g.2 ↑e).2))])/\Bx gq (is 8) w b52 [vi ((((aa g).2).2)+(List.length (((aa g).2).1):Int)),v250]/\Mp gq (is 7) w v47 (λq=>if q=((gI ((aa g).1) (e:Int)),mp.1 ((gI g.2 ↑e).2)) then(((λq=>if q=((gI ((aa g).1) (e:Int)),mp.1 ((gI g.2 ↑e).1)) then((sn ((gI ((aa g).1) (e:Int)),mp.1 ((gI g.2 ↑e).1)))+1) else sn q) ((gI ((aa g).1) (e:Int)),mp.1 ((gI g.2 ↑e).2)))+1) else(λq=>if q=((gI ((aa g).1) (e:Int)),mp.1 ((gI g.2 ↑e).1)) then((sn ((gI ((aa g).1) (e:Int)),mp.1 ((gI g.2 ↑e).1)))+1) else sn q) q)) g248 [0,1,3,5] d6 ?_ ?_
       ·
        intro mid
        intro w257 ch256
        refine xp (v:=v47) 0 rfl (λw=>au zs8) ?_
        have C258:=cg [8,12] (ch246.n.seq ((ch251.l rfl).seq ((ch254.l rfl).seq ch256.n)))
        replace bx186:=bx186.ca C258
        refine xv 1 [0] rfl (aB (ds:=[vi (gI ((aa g).1) (e:Int)),vi (mp.1 ((gI g.2 ↑e).2))]) aU zs14 bx186 rfl rfl) ?_
        refine fV 2 4 rfl rfl (by kernel_rfl) rfl rfl ?_ ?_
        ·
         replace m157:=m157.ca C258
         refine az (v:=vi ((λq=>if q=((gI ((aa g).1) (e:Int)),mp.1 ((gI g.2 ↑e).1)) then((sn ((gI ((aa g).1) (e:Int)),mp.1 ((gI g.2 ↑e).1)))+1) else sn q) ((gI ((aa g).1) (e:Int)),mp.1 ((gI g.2 ↑e).2)))) (bm (F:=(λq=>if q=((gI ((aa g).1) (e:Int)),mp.1 ((gI g.2 ↑e).1)) then((sn ((gI ((aa g).1) (e:Int)),mp.1 ((gI g.2 ↑e).1)))+1) else sn q)) ((gI ((aa g).1) (e:Int)),mp.1 ((gI g.2 ↑e).2)) fj (aX dg U3 ah) ah rfl m157 rfl rfl) ?_
         refine xp 3 rfl (λw=>aG (m:=(λq=>if q=((gI ((aa g).1) (e:Int)),mp.1 ((gI g.2 ↑e).1)) then((sn ((gI ((aa g).1) (e:Int)),mp.1 ((gI g.2 ↑e).1)))+1) else sn q) ((gI ((aa g).1) (e:Int)),mp.1 ((gI g.2 ↑e).2))) (n:=1) rfl rfl (by(omega))) (bw 4 rfl (by kernel_rfl) rfl (bU (F:=(λq=>if q=((gI ((aa g).1) (e:Int)),mp.1 ((gI g.2 ↑e).1)) then((sn ((gI ((aa g).1) (e:Int)),mp.1 ((gI g.2 ↑e).1)))+1) else sn q)) ((gI ((aa g).1) (e:Int)),mp.1 ((gI g.2 ↑e).2)) fj (aX dg U3 ah) ah rfl m157 rfl rfl ?_))
         intro w259 s262 ch260 m261
         clear m157
         refine xp 5 rfl (λw=>aR rfl rfl) (bw 6 rfl (by kernel_rfl) rfl (bG rfl m261 rfl rfl ?_))
         intro w263 ch264 m265
         clear m261
         refine c6 (by kernel_rfl) ?_
         have C266:=cg [7,8,12] (ch246.n.seq ((ch251.l rfl).seq ((ch254.l rfl).seq (ch256.n.seq ((ch260.l rfl).seq (ch264.l rfl))))))
         have C267:=cg [7,8] ((ch254.l rfl).seq (ch256.n.seq ((ch260.l rfl).seq (ch264.l rfl))))
         have C268:=cg [7] (ch256.n.seq ((ch260.l rfl).seq (ch264.l rfl)))
         exact mid (g248) _ _ ⟨bH.ca C266,zs2,zs4,zs5,zs8,zs9,zs10,zs46,zs47,zs48,zs53,zs54,Rg.ca C266,bx10.ca C266,o17.ca C266,o19.ca C266,bx29.ca C266,m34.ca C266,o252.ca C267,bx255.ca C268,m265⟩
        ·
         replace m157:=m157.ca C258
         refine bU (F:=(λq=>if q=((gI ((aa g).1) (e:Int)),mp.1 ((gI g.2 ↑e).1)) then((sn ((gI ((aa g).1) (e:Int)),mp.1 ((gI g.2 ↑e).1)))+1) else sn q)) ((gI ((aa g).1) (e:Int)),mp.1 ((gI g.2 ↑e).2)) fj (aX dg U3 ah) ah rfl m157 rfl rfl ?_
         intro w269 s272 ch270 m271
         clear m157
         refine xp 5 rfl (λw=>aR rfl rfl) (bw 2 rfl (by kernel_rfl) rfl (az (v:=vi ((λq=>if q=((gI ((aa g).1) (e:Int)),mp.1 ((gI g.2 ↑e).1)) then((sn ((gI ((aa g).1) (e:Int)),mp.1 ((gI g.2 ↑e).1)))+1) else sn q) ((gI ((aa g).1) (e:Int)),mp.1 ((gI g.2 ↑e).2)))) (bm (F:=(λq=>if q=((gI ((aa g).1) (e:Int)),mp.1 ((gI g.2 ↑e).1)) then((sn ((gI ((aa g).1) (e:Int)),mp.1 ((gI g.2 ↑e).1)))+1) else sn q)) ((gI ((aa g).1) (e:Int)),mp.1 ((gI g.2 ↑e).2)) fj (aX dg U3 ah) ah rfl m271.mp rfl rfl) ?_))
         refine xp 3 rfl (λw=>aG (m:=(λq=>if q=((gI ((aa g).1) (e:Int)),mp.1 ((gI g.2 ↑e).1)) then((sn ((gI ((aa g).1) (e:Int)),mp.1 ((gI g.2 ↑e).1)))+1) else sn q) ((gI ((aa g).1) (e:Int)),mp.1 ((gI g.2 ↑e).2))) (n:=1) rfl rfl (by(omega))) (bw 6 rfl (by kernel_rfl) rfl (bG rfl m271 rfl rfl ?_))
         intro w273 ch274 m275
         clear m271
         refine c6 (by kernel_rfl) ?_
         have C276:=cg [7,8,12] (ch246.n.seq ((ch251.l rfl).seq ((ch254.l rfl).seq (ch256.n.seq ((ch270.l rfl).seq (ch274.l rfl))))))
         have C277:=cg [7,8] ((ch254.l rfl).seq (ch256.n.seq ((ch270.l rfl).seq (ch274.l rfl))))
         have C278:=cg [7] (ch256.n.seq ((ch270.l rfl).seq (ch274.l rfl)))
         exact mid (g248) _ _ ⟨bH.ca C276,zs2,zs4,zs5,zs8,zs9,zs10,zs46,zs47,zs48,zs53,zs54,Rg.ca C276,bx10.ca C276,o17.ca C276,o19.ca C276,bx29.ca C276,m34.ca C276,o252.ca C277,bx255.ca C278,m275⟩
       clear Rg bx10 o17 o19 bx29 m34 m157 bx186 o252 bx255 bH
       rintro g281 f279 w280 ⟨bH,zs2,zs4,zs5,zs8,zs9,zs10,zs46,zs47,zs48,zs53,zs54,Rg,bx10,o17,o19,bx29,m34,o252,bx255,m263⟩
       refine ak (a8 rfl (lx (aG (m:=1) (n:=1) zs54 rfl (by omega)) (mi 2 (ag (bx (ab (a8 rfl (lx (bn (m:=2) (n:=2) rfl rfl) (ag (ab (aj rfl rfl ?_)))))))))))
       refine aF rfl (ak (a8 rfl (lx (aG (m:=↑e) (n:=1) zs48 rfl (by omega)) (mi ((e:Int)+1) (ag ?_)))))
       refine back13 (v250,((ed++[((gI ((aa g).1) (e:Int)),mp.1 ((gI g.2 ↑e).1))])++[((gI ((aa g).1) (e:Int)),mp.1 ((gI g.2 ↑e).2))]),e+1,(λq=>if q=((gI ((aa g).1) (e:Int)),mp.1 ((gI g.2 ↑e).2)) then(((λq=>if q=((gI ((aa g).1) (e:Int)),mp.1 ((gI g.2 ↑e).1)) then((sn ((gI ((aa g).1) (e:Int)),mp.1 ((gI g.2 ↑e).1)))+1) else sn q) ((gI ((aa g).1) (e:Int)),mp.1 ((gI g.2 ↑e).2)))+1) else(λq=>if q=((gI ((aa g).1) (e:Int)),mp.1 ((gI g.2 ↑e).1)) then((sn ((gI ((aa g).1) (e:Int)),mp.1 ((gI g.2 ↑e).1)))+1) else sn q) q),g281) _ _ ⟨bH,zs2,zs4,zs5,zs8,zs9,zs46,zs47,rfl,Rg,bx10,o17,o19,bx29,m34,m263,bx255,o252,by omega,?_⟩ ?_
       · show gj g mp.1 ((ed++[((gI ((aa g).1) (e:Int)),mp.1 ((gI g.2 ↑e).1))])++[((gI ((aa g).1) (e:Int)),mp.1 ((gI g.2 ↑e).2))]) (λq=>if q=((gI ((aa g).1) (e:Int)),mp.1 ((gI g.2 ↑e).2)) then(((λq=>if q=((gI ((aa g).1) (e:Int)),mp.1 ((gI g.2 ↑e).1)) then((sn ((gI ((aa g).1) (e:Int)),mp.1 ((gI g.2 ↑e).1)))+1) else sn q) ((gI ((aa g).1) (e:Int)),mp.1 ((gI g.2 ↑e).2)))+1) else(λq=>if q=((gI ((aa g).1) (e:Int)),mp.1 ((gI g.2 ↑e).1)) then((sn ((gI ((aa g).1) (e:Int)),mp.1 ((gI g.2 ↑e).1)))+1) else sn q) q) (2*(e+1))
         exact hut.two rfl rfl rfl rfl rfl rfl (by(exact lm ‹_› ‹_›)) (by(exact lm ‹_› ‹_›))
       · show Int.toNat (((g.2.length:Int):Int)-((e+1):Int))<Int.toNat (((g.2.length:Int):Int)-(e:Int))
         omega
      refine aj rfl (df p19_242) (av ?_)
      refine cX (σ:=aJ) (λgq f w=>bv w0 gq w/\f 2=vp b8 0/\f 4=vp b24 0/\f 5=v32/\f 8=v47/\f 9=vp b52 0/\f 10=vi ↑e/\f 46=g_v/\f 47=vi (g.2.length:Int)/\f 48=vi ↑e/\f 53=vg [vi ((gI g.2 ↑e).1),vi ((gI g.2 ↑e).2)]/\f 54=vi 1/\Sl gq (is 0) w g_v g.2/\Bx gq (is 2) w b8 [vi 0,vn]/\Ow gq (is 3) (is 3) w v16 ((aa g).1)/\Ow gq (is 4) (is 4) w v18 (((aa g).2).1)/\Bx gq (is 5) w b24 [v16,v18,vi (((aa g).2).2)]/\Md gq (is 6) w v32 mp.1 mp.2/\Ow gq (is 12) (is 12) w v144 (ed++[((gI ((aa g).1) (e:Int)),mp.1 ((gI g.2 ↑e).1))])/\Bx gq (is 8) w b52 [vi ((((aa g).2).2)+(List.length (((aa g).2).1):Int)),v144]/\Mp gq (is 7) w v47 (λq=>if q=((gI ((aa g).1) (e:Int)),mp.1 ((gI g.2 ↑e).2)) then(((λq=>if q=((gI ((aa g).1) (e:Int)),mp.1 ((gI g.2 ↑e).1)) then((sn ((gI ((aa g).1) (e:Int)),mp.1 ((gI g.2 ↑e).1)))+1) else sn q) ((gI ((aa g).1) (e:Int)),mp.1 ((gI g.2 ↑e).2)))+1) else(λq=>if q=((gI ((aa g).1) (e:Int)),mp.1 ((gI g.2 ↑e).1)) then((sn ((gI ((aa g).1) (e:Int)),mp.1 ((gI g.2 ↑e).1)))+1) else sn q) q)) g240 [0,1,3,5] d6 ?_ ?_
      ·
       intro mid
       intro w283 ch282
       refine xp (v:=v47) 0 rfl (λw=>au zs8) ?_
       replace bx186:=bx186.cn ch282
       refine xv 1 [0] rfl (aB (ds:=[vi (gI ((aa g).1) (e:Int)),vi (mp.1 ((gI g.2 ↑e).2))]) aU zs14 bx186 rfl rfl) ?_
       refine fV 2 4 rfl rfl (by kernel_rfl) rfl rfl ?_ ?_
       ·
        replace m157:=m157.cn ch282
        refine az (v:=vi ((λq=>if q=((gI ((aa g).1) (e:Int)),mp.1 ((gI g.2 ↑e).1)) then((sn ((gI ((aa g).1) (e:Int)),mp.1 ((gI g.2 ↑e).1)))+1) else sn q) ((gI ((aa g).1) (e:Int)),mp.1 ((gI g.2 ↑e).2)))) (bm (F:=(λq=>if q=((gI ((aa g).1) (e:Int)),mp.1 ((gI g.2 ↑e).1)) then((sn ((gI ((aa g).1) (e:Int)),mp.1 ((gI g.2 ↑e).1)))+1) else sn q)) ((gI ((aa g).1) (e:Int)),mp.1 ((gI g.2 ↑e).2)) fj (aX dg U3 ah) ah rfl m157 rfl rfl) ?_
        refine xp 3 rfl (λw=>aG (m:=(λq=>if q=((gI ((aa g).1) (e:Int)),mp.1 ((gI g.2 ↑e).1)) then((sn ((gI ((aa g).1) (e:Int)),mp.1 ((gI g.2 ↑e).1)))+1) else sn q) ((gI ((aa g).1) (e:Int)),mp.1 ((gI g.2 ↑e).2))) (n:=1) rfl rfl (by((dsimp only;split<;>omega)))) (bw 4 rfl (by kernel_rfl) rfl (bU (F:=(λq=>if q=((gI ((aa g).1) (e:Int)),mp.1 ((gI g.2 ↑e).1)) then((sn ((gI ((aa g).1) (e:Int)),mp.1 ((gI g.2 ↑e).1)))+1) else sn q)) ((gI ((aa g).1) (e:Int)),mp.1 ((gI g.2 ↑e).2)) fj (aX dg U3 ah) ah rfl m157 rfl rfl ?_))
        intro w284 s287 ch285 m286
        clear m157
        refine xp 5 rfl (λw=>aR rfl rfl) (bw 6 rfl (by kernel_rfl) rfl (bG rfl m286 rfl rfl ?_))
        intro w288 ch289 m290
        clear m286
        refine c6 (by kernel_rfl) ?_
        have C291:=cg [7] (ch282.n.seq ((ch285.l rfl).seq (ch289.l rfl)))
        exact mid (g240) _ _ ⟨bH.ca C291,zs2,zs4,zs5,zs8,zs9,zs10,zs46,zs47,zs48,zs53,zs54,Rg.ca C291,bx10.ca C291,o17.ca C291,o19.ca C291,bx29.ca C291,m34.ca C291,o146.ca C291,bx149.ca C291,m290⟩
       ·
        replace m157:=m157.cn ch282
        refine bU (F:=(λq=>if q=((gI ((aa g).1) (e:Int)),mp.1 ((gI g.2 ↑e).1)) then((sn ((gI ((aa g).1) (e:Int)),mp.1 ((gI g.2 ↑e).1)))+1) else sn q)) ((gI ((aa g).1) (e:Int)),mp.1 ((gI g.2 ↑e).2)) fj (aX dg U3 ah) ah rfl m157 rfl rfl ?_
        intro w292 s295 ch293 m294
        clear m157
        refine xp 5 rfl (λw=>aR rfl rfl) (bw 2 rfl (by kernel_rfl) rfl (az (v:=vi ((λq=>if q=((gI ((aa g).1) (e:Int)),mp.1 ((gI g.2 ↑e).1)) then((sn ((gI ((aa g).1) (e:Int)),mp.1 ((gI g.2 ↑e).1)))+1) else sn q) ((gI ((aa g).1) (e:Int)),mp.1 ((gI g.2 ↑e).2)))) (bm (F:=(λq=>if q=((gI ((aa g).1) (e:Int)),mp.1 ((gI g.2 ↑e).1)) then((sn ((gI ((aa g).1) (e:Int)),mp.1 ((gI g.2 ↑e).1)))+1) else sn q)) ((gI ((aa g).1) (e:Int)),mp.1 ((gI g.2 ↑e).2)) fj (aX dg U3 ah) ah rfl m294.mp rfl rfl) ?_))
        refine xp 3 rfl (λw=>aG (m:=(λq=>if q=((gI ((aa g).1) (e:Int)),mp.1 ((gI g.2 ↑e).1)) then((sn ((gI ((aa g).1) (e:Int)),mp.1 ((gI g.2 ↑e).1)))+1) else sn q) ((gI ((aa g).1) (e:Int)),mp.1 ((gI g.2 ↑e).2))) (n:=1) rfl rfl (by((dsimp only;split<;>omega)))) (bw 6 rfl (by kernel_rfl) rfl (bG rfl m294 rfl rfl ?_))
        intro w296 ch297 m298
        clear m294
        refine c6 (by kernel_rfl) ?_
        have C299:=cg [7] (ch282.n.seq ((ch293.l rfl).seq (ch297.l rfl)))
        exact mid (g240) _ _ ⟨bH.ca C299,zs2,zs4,zs5,zs8,zs9,zs10,zs46,zs47,zs48,zs53,zs54,Rg.ca C299,bx10.ca C299,o17.ca C299,o19.ca C299,bx29.ca C299,m34.ca C299,o146.ca C299,bx149.ca C299,m298⟩
      clear Rg bx10 o17 o19 bx29 m34 o146 bx149 m157 bx186 bH
      rintro g302 f300 w301 ⟨bH,zs2,zs4,zs5,zs8,zs9,zs10,zs46,zs47,zs48,zs53,zs54,Rg,bx10,o17,o19,bx29,m34,o146,bx149,m288⟩
      refine ak (a8 rfl (lx (aG (m:=1) (n:=1) zs54 rfl (by omega)) (mi 2 (ag (bx (ab (a8 rfl (lx (bn (m:=2) (n:=2) rfl rfl) (ag (ab (aj rfl rfl ?_)))))))))))
      refine aF rfl (ak (a8 rfl (lx (aG (m:=↑e) (n:=1) zs48 rfl (by omega)) (mi ((e:Int)+1) (ag ?_)))))
      refine back13 (v144,(ed++[((gI ((aa g).1) (e:Int)),mp.1 ((gI g.2 ↑e).1))]),e+1,(λq=>if q=((gI ((aa g).1) (e:Int)),mp.1 ((gI g.2 ↑e).2)) then(((λq=>if q=((gI ((aa g).1) (e:Int)),mp.1 ((gI g.2 ↑e).1)) then((sn ((gI ((aa g).1) (e:Int)),mp.1 ((gI g.2 ↑e).1)))+1) else sn q) ((gI ((aa g).1) (e:Int)),mp.1 ((gI g.2 ↑e).2)))+1) else(λq=>if q=((gI ((aa g).1) (e:Int)),mp.1 ((gI g.2 ↑e).1)) then((sn ((gI ((aa g).1) (e:Int)),mp.1 ((gI g.2 ↑e).1)))+1) else sn q) q),g302) _ _ ⟨bH,zs2,zs4,zs5,zs8,zs9,zs46,zs47,rfl,Rg,bx10,o17,o19,bx29,m34,m288,bx149,o146,by omega,?_⟩ ?_
      · show gj g mp.1 (ed++[((gI ((aa g).1) (e:Int)),mp.1 ((gI g.2 ↑e).1))]) (λq=>if q=((gI ((aa g).1) (e:Int)),mp.1 ((gI g.2 ↑e).2)) then(((λq=>if q=((gI ((aa g).1) (e:Int)),mp.1 ((gI g.2 ↑e).1)) then((sn ((gI ((aa g).1) (e:Int)),mp.1 ((gI g.2 ↑e).1)))+1) else sn q) ((gI ((aa g).1) (e:Int)),mp.1 ((gI g.2 ↑e).2)))+1) else(λq=>if q=((gI ((aa g).1) (e:Int)),mp.1 ((gI g.2 ↑e).1)) then((sn ((gI ((aa g).1) (e:Int)),mp.1 ((gI g.2 ↑e).1)))+1) else sn q) q) (2*(e+1))
        exact hut.two rfl rfl rfl rfl rfl rfl (by(exact lm ‹_› ‹_›)) (by(exact jr ‹_›))
      · show Int.toNat (((g.2.length:Int):Int)-((e+1):Int))<Int.toNat (((g.2.length:Int):Int)-(e:Int))
        omega
     refine ax (wn (df q70_241)) (ax (wn (df q70_241)) (ax (wn (df q70_241)) (ax (wn (df q70_241)) (lw (vb false) (aY rfl (df q70_241) rfl) (ag (aj rfl rfl (av ?_)))))))
     refine cX (σ:=aJ) (λgq f w=>bv w0 gq w/\f 2=vp b8 0/\f 4=vp b24 0/\f 5=v32/\f 8=v47/\f 9=vp b52 0/\f 10=vi ↑e/\f 46=g_v/\f 47=vi (g.2.length:Int)/\f 48=vi ↑e/\f 53=vg [vi ((gI g.2 ↑e).1),vi ((gI g.2 ↑e).2)]/\f 54=vi 1/\Sl gq (is 0) w g_v g.2/\Bx gq (is 2) w b8 [vi 0,vn]/\Ow gq (is 3) (is 3) w v16 ((aa g).1)/\Ow gq (is 4) (is 4) w v18 (((aa g).2).1)/\Bx gq (is 5) w b24 [v16,v18,vi (((aa g).2).2)]/\Md gq (is 6) w v32 mp.1 mp.2/\Ow gq (is 12) (is 12) w v144 (ed++[((gI ((aa g).1) (e:Int)),mp.1 ((gI g.2 ↑e).1))])/\Bx gq (is 8) w b52 [vi ((((aa g).2).2)+(List.length (((aa g).2).1):Int)),v144]/\Mp gq (is 7) w v47 (λq=>if q=((gI ((aa g).1) (e:Int)),mp.1 ((gI g.2 ↑e).2)) then(((λq=>if q=((gI ((aa g).1) (e:Int)),mp.1 ((gI g.2 ↑e).1)) then((sn ((gI ((aa g).1) (e:Int)),mp.1 ((gI g.2 ↑e).1)))+1) else sn q) ((gI ((aa g).1) (e:Int)),mp.1 ((gI g.2 ↑e).2)))+1) else(λq=>if q=((gI ((aa g).1) (e:Int)),mp.1 ((gI g.2 ↑e).1)) then((sn ((gI ((aa g).1) (e:Int)),mp.1 ((gI g.2 ↑e).1)))+1) else sn q) q)) g240 [0,1,3,5] d6 ?_ ?_
     ·
      intro mid
      intro w304 ch303
      refine xp (v:=v47) 0 rfl (λw=>au zs8) ?_
      replace bx186:=bx186.cn ch303
      refine xv 1 [0] rfl (aB (ds:=[vi (gI ((aa g).1) (e:Int)),vi (mp.1 ((gI g.2 ↑e).2))]) aU zs14 bx186 rfl rfl) ?_
      refine fV 2 4 rfl rfl (by kernel_rfl) rfl rfl ?_ ?_
      ·
       replace m157:=m157.cn ch303
       refine az (v:=vi ((λq=>if q=((gI ((aa g).1) (e:Int)),mp.1 ((gI g.2 ↑e).1)) then((sn ((gI ((aa g).1) (e:Int)),mp.1 ((gI g.2 ↑e).1)))+1) else sn q) ((gI ((aa g).1) (e:Int)),mp.1 ((gI g.2 ↑e).2)))) (bm (F:=(λq=>if q=((gI ((aa g).1) (e:Int)),mp.1 ((gI g.2 ↑e).1)) then((sn ((gI ((aa g).1) (e:Int)),mp.1 ((gI g.2 ↑e).1)))+1) else sn q)) ((gI ((aa g).1) (e:Int)),mp.1 ((gI g.2 ↑e).2)) fj (aX dg U3 ah) ah rfl m157 rfl rfl) ?_
       refine xp 3 rfl (λw=>aG (m:=(λq=>if q=((gI ((aa g).1) (e:Int)),mp.1 ((gI g.2 ↑e).1)) then((sn ((gI ((aa g).1) (e:Int)),mp.1 ((gI g.2 ↑e).1)))+1) else sn q) ((gI ((aa g).1) (e:Int)),mp.1 ((gI g.2 ↑e).2))) (n:=1) rfl rfl (by((dsimp only;split<;>omega)))) (bw 4 rfl (by kernel_rfl) rfl (bU (F:=(λq=>if q=((gI ((aa g).1) (e:Int)),mp.1 ((gI g.2 ↑e).1)) then((sn ((gI ((aa g).1) (e:Int)),mp.1 ((gI g.2 ↑e).1)))+1) else sn q)) ((gI ((aa g).1) (e:Int)),mp.1 ((gI g.2 ↑e).2)) fj (aX dg U3 ah) ah rfl m157 rfl rfl ?_))
       intro w305 s308 ch306 m307
       clear m157
       refine xp 5 rfl (λw=>aR rfl rfl) (bw 6 rfl (by kernel_rfl) rfl (bG rfl m307 rfl rfl ?_))
       intro w309 ch310 m311
       clear m307
       refine c6 (by kernel_rfl) ?_
       have C312:=cg [7] (ch303.n.seq ((ch306.l rfl).seq (ch310.l rfl)))
       exact mid (g240) _ _ ⟨bH.ca C312,zs2,zs4,zs5,zs8,zs9,zs10,zs46,zs47,zs48,zs53,zs54,Rg.ca C312,bx10.ca C312,o17.ca C312,o19.ca C312,bx29.ca C312,m34.ca C312,o146.ca C312,bx149.ca C312,m311⟩
      ·
       replace m157:=m157.cn ch303
       refine bU (F:=(λq=>if q=((gI ((aa g).1) (e:Int)),mp.1 ((gI g.2 ↑e).1)) then((sn ((gI ((aa g).1) (e:Int)),mp.1 ((gI g.2 ↑e).1)))+1) else sn q)) ((gI ((aa g).1) (e:Int)),mp.1 ((gI g.2 ↑e).2)) fj (aX dg U3 ah) ah rfl m157 rfl rfl ?_
       intro w313 s316 ch314 m315
       clear m157
       refine xp 5 rfl (λw=>aR rfl rfl) (bw 2 rfl (by kernel_rfl) rfl (az (v:=vi ((λq=>if q=((gI ((aa g).1) (e:Int)),mp.1 ((gI g.2 ↑e).1)) then((sn ((gI ((aa g).1) (e:Int)),mp.1 ((gI g.2 ↑e).1)))+1) else sn q) ((gI ((aa g).1) (e:Int)),mp.1 ((gI g.2 ↑e).2)))) (bm (F:=(λq=>if q=((gI ((aa g).1) (e:Int)),mp.1 ((gI g.2 ↑e).1)) then((sn ((gI ((aa g).1) (e:Int)),mp.1 ((gI g.2 ↑e).1)))+1) else sn q)) ((gI ((aa g).1) (e:Int)),mp.1 ((gI g.2 ↑e).2)) fj (aX dg U3 ah) ah rfl m315.mp rfl rfl) ?_))
       refine xp 3 rfl (λw=>aG (m:=(λq=>if q=((gI ((aa g).1) (e:Int)),mp.1 ((gI g.2 ↑e).1)) then((sn ((gI ((aa g).1) (e:Int)),mp.1 ((gI g.2 ↑e).1)))+1) else sn q) ((gI ((aa g).1) (e:Int)),mp.1 ((gI g.2 ↑e).2))) (n:=1) rfl rfl (by((dsimp only;split<;>omega)))) (bw 6 rfl (by kernel_rfl) rfl (bG rfl m315 rfl rfl ?_))
       intro w317 ch318 m319
       clear m315
       refine c6 (by kernel_rfl) ?_
       have C320:=cg [7] (ch303.n.seq ((ch314.l rfl).seq (ch318.l rfl)))
       exact mid (g240) _ _ ⟨bH.ca C320,zs2,zs4,zs5,zs8,zs9,zs10,zs46,zs47,zs48,zs53,zs54,Rg.ca C320,bx10.ca C320,o17.ca C320,o19.ca C320,bx29.ca C320,m34.ca C320,o146.ca C320,bx149.ca C320,m319⟩
     clear Rg bx10 o17 o19 bx29 m34 o146 bx149 m157 bx186 bH
     rintro g323 f321 w322 ⟨bH,zs2,zs4,zs5,zs8,zs9,zs10,zs46,zs47,zs48,zs53,zs54,Rg,bx10,o17,o19,bx29,m34,o146,bx149,m309⟩
     refine ak (a8 rfl (lx (aG (m:=1) (n:=1) zs54 rfl (by omega)) (mi 2 (ag (bx (ab (a8 rfl (lx (bn (m:=2) (n:=2) rfl rfl) (ag (ab (aj rfl rfl ?_)))))))))))
     refine aF rfl (ak (a8 rfl (lx (aG (m:=↑e) (n:=1) zs48 rfl (by omega)) (mi ((e:Int)+1) (ag ?_)))))
     refine back13 (v144,(ed++[((gI ((aa g).1) (e:Int)),mp.1 ((gI g.2 ↑e).1))]),e+1,(λq=>if q=((gI ((aa g).1) (e:Int)),mp.1 ((gI g.2 ↑e).2)) then(((λq=>if q=((gI ((aa g).1) (e:Int)),mp.1 ((gI g.2 ↑e).1)) then((sn ((gI ((aa g).1) (e:Int)),mp.1 ((gI g.2 ↑e).1)))+1) else sn q) ((gI ((aa g).1) (e:Int)),mp.1 ((gI g.2 ↑e).2)))+1) else(λq=>if q=((gI ((aa g).1) (e:Int)),mp.1 ((gI g.2 ↑e).1)) then((sn ((gI ((aa g).1) (e:Int)),mp.1 ((gI g.2 ↑e).1)))+1) else sn q) q),g323) _ _ ⟨bH,zs2,zs4,zs5,zs8,zs9,zs46,zs47,rfl,Rg,bx10,o17,o19,bx29,m34,m309,bx149,o146,by omega,?_⟩ ?_
     · show gj g mp.1 (ed++[((gI ((aa g).1) (e:Int)),mp.1 ((gI g.2 ↑e).1))]) (λq=>if q=((gI ((aa g).1) (e:Int)),mp.1 ((gI g.2 ↑e).2)) then(((λq=>if q=((gI ((aa g).1) (e:Int)),mp.1 ((gI g.2 ↑e).1)) then((sn ((gI ((aa g).1) (e:Int)),mp.1 ((gI g.2 ↑e).1)))+1) else sn q) ((gI ((aa g).1) (e:Int)),mp.1 ((gI g.2 ↑e).2)))+1) else(λq=>if q=((gI ((aa g).1) (e:Int)),mp.1 ((gI g.2 ↑e).1)) then((sn ((gI ((aa g).1) (e:Int)),mp.1 ((gI g.2 ↑e).1)))+1) else sn q) q) (2*(e+1))
       exact hut.two rfl rfl rfl rfl rfl rfl (by(exact lm ‹_› ‹_›)) (by(exact jj ‹_›))
     · show Int.toNat (((g.2.length:Int):Int)-((e+1):Int))<Int.toNat (((g.2.length:Int):Int)-(e:Int))
       omega
    refine aj rfl (df p19) (av ?_)
    refine cX (σ:=aJ) (λgq f w=>bv w0 gq w/\f 2=vp b8 0/\f 4=vp b24 0/\f 5=v32/\f 8=v47/\f 9=vp b52 0/\f 10=vi ↑e/\f 46=g_v/\f 47=vi (g.2.length:Int)/\f 48=vi ↑e/\f 53=vg [vi ((gI g.2 ↑e).1),vi ((gI g.2 ↑e).2)]/\f 54=vi 0/\Sl gq (is 0) w g_v g.2/\Bx gq (is 2) w b8 [vi 0,vn]/\Ow gq (is 3) (is 3) w v16 ((aa g).1)/\Ow gq (is 4) (is 4) w v18 (((aa g).2).1)/\Bx gq (is 5) w b24 [v16,v18,vi (((aa g).2).2)]/\Md gq (is 6) w v32 mp.1 mp.2/\Bx gq (is 8) w b52 [vi ((((aa g).2).2)+(List.length (((aa g).2).1):Int)),ed_v]/\Ow gq (is 12) (is 12) w ed_v ed/\Mp gq (is 7) w v47 (λq=>if q=((gI ((aa g).1) (e:Int)),mp.1 ((gI g.2 ↑e).1)) then((sn ((gI ((aa g).1) (e:Int)),mp.1 ((gI g.2 ↑e).1)))+1) else sn q)) g136 [0,1,3,5] d6 ?_ ?_
    ·
     intro mid
     intro w325 ch324
     refine xp (v:=v47) 0 rfl (λw=>au zs8) ?_
     replace bx82:=bx82.cn ch324
     refine xv 1 [0] rfl (aB (ds:=[vi (gI ((aa g).1) (e:Int)),vi (mp.1 ((gI g.2 ↑e).1))]) aU zs14 bx82 rfl rfl) ?_
     refine fV 2 4 rfl rfl (by kernel_rfl) rfl rfl ?_ ?_
     ·
      replace m49:=m49.cn ch324
      refine az (v:=vi (sn ((gI ((aa g).1) (e:Int)),mp.1 ((gI g.2 ↑e).1)))) (bm ((gI ((aa g).1) (e:Int)),mp.1 ((gI g.2 ↑e).1)) fj (aX dg U3 ah) ah rfl m49 rfl rfl) (xp 3 rfl (λw=>aG (m:=sn ((gI ((aa g).1) (e:Int)),mp.1 ((gI g.2 ↑e).1))) (n:=1) rfl rfl (by(omega))) (bw 4 rfl (by kernel_rfl) rfl (bU ((gI ((aa g).1) (e:Int)),mp.1 ((gI g.2 ↑e).1)) fj (aX dg U3 ah) ah rfl m49 rfl rfl ?_)))
      intro w326 s329 ch327 m328
      clear m49
      refine xp 5 rfl (λw=>aR rfl rfl) (bw 6 rfl (by kernel_rfl) rfl (bG rfl m328 rfl rfl ?_))
      intro w330 ch331 m332
      clear m328
      refine c6 (by kernel_rfl) ?_
      have C333:=cg [7] (ch324.n.seq ((ch327.l rfl).seq (ch331.l rfl)))
      exact mid (g136) _ _ ⟨bH.ca C333,zs2,zs4,zs5,zs8,zs9,zs10,zs46,zs47,zs48,zs53,zs54,Rg.ca C333,bx10.ca C333,o17.ca C333,o19.ca C333,bx29.ca C333,m34.ca C333,bx57.ca C333,o_ed.ca C333,m332⟩
     ·
      replace m49:=m49.cn ch324
      refine bU ((gI ((aa g).1) (e:Int)),mp.1 ((gI g.2 ↑e).1)) fj (aX dg U3 ah) ah rfl m49 rfl rfl ?_
      intro w334 s337 ch335 m336
      clear m49
      refine xp 5 rfl (λw=>aR rfl rfl) (bw 2 rfl (by kernel_rfl) rfl (az (v:=vi (sn ((gI ((aa g).1) (e:Int)),mp.1 ((gI g.2 ↑e).1)))) (bm ((gI ((aa g).1) (e:Int)),mp.1 ((gI g.2 ↑e).1)) fj (aX dg U3 ah) ah rfl m336.mp rfl rfl) (xp 3 rfl (λw=>aG (m:=sn ((gI ((aa g).1) (e:Int)),mp.1 ((gI g.2 ↑e).1))) (n:=1) rfl rfl (by(omega))) (bw 6 rfl (by kernel_rfl) rfl (bG rfl m336 rfl rfl ?_)))))
      intro w338 ch339 m340
      clear m336
      refine c6 (by kernel_rfl) ?_
      have C341:=cg [7] (ch324.n.seq ((ch335.l rfl).seq (ch339.l rfl)))
      exact mid (g136) _ _ ⟨bH.ca C341,zs2,zs4,zs5,zs8,zs9,zs10,zs46,zs47,zs48,zs53,zs54,Rg.ca C341,bx10.ca C341,o17.ca C341,o19.ca C341,bx29.ca C341,m34.ca C341,bx57.ca C341,o_ed.ca C341,m340⟩
    clear Rg bx10 o17 o19 bx29 m34 m49 bx57 o_ed bx82 bH
    rintro g344 f342 w343 ⟨bH,zs2,zs4,zs5,zs8,zs9,zs10,zs46,zs47,zs48,zs53,zs54,Rg,bx10,o17,o19,bx29,m34,bx57,o_ed,m330⟩
    refine ak (a8 rfl (lx (aG (m:=0) (n:=1) zs54 rfl (by omega)) (mi 1 (ag (bx (ab (a8 rfl (lx (bn (m:=1) (n:=2) rfl rfl) (ag (ab (al rfl rfl ?_)))))))))))
    refine av (ab (ar (ab (a8 rfl (lw (vi ((gI g.2 ↑e).2)) (cE dg ah zs53 rfl (by decide) (by decide) rfl) (ai ((gI g.2 ↑e).2) (ag (ab ?_))))))))
    refine d3 (σ:=Nat×aJ) (λ⟨b349,gq⟩ f w=>bv w0 gq w/\f 2=vp b8 0/\f 4=vp b24 0/\f 5=v32/\f 8=v47/\f 9=vp b52 0/\f 10=vi ↑e/\f 13=vi ((gI g.2 ↑e).2)/\f 14=vp b349 0/\f 46=g_v/\f 47=vi (g.2.length:Int)/\f 48=vi ↑e/\f 53=vg [vi ((gI g.2 ↑e).1),vi ((gI g.2 ↑e).2)]/\f 54=vi 1/\Sl gq (is 0) w g_v g.2/\Bx gq (is 2) w b8 [vi 0,vn]/\Ow gq (is 3) (is 3) w v16 ((aa g).1)/\Ow gq (is 4) (is 4) w v18 (((aa g).2).1)/\Bx gq (is 5) w b24 [v16,v18,vi (((aa g).2).2)]/\Md gq (is 6) w v32 mp.1 mp.2/\Bx gq (is 8) w b52 [vi ((((aa g).2).2)+(List.length (((aa g).2).1):Int)),ed_v]/\Ow gq (is 12) (is 12) w ed_v ed/\Mp gq (is 7) w v47 (λq=>if q=((gI ((aa g).1) (e:Int)),mp.1 ((gI g.2 ↑e).1)) then((sn ((gI ((aa g).1) (e:Int)),mp.1 ((gI g.2 ↑e).1)))+1) else sn q)/\Bx gq (is 10) w b349 [vi (gI ((aa g).1) (e:Int)),vi (mp.1 ((gI g.2 ↑e).2))]) g344 (inl [10]) d6 ?_ ?_
    ·
     intro mid
     intro w346 ch345
     refine ht 0 rfl (bp.refl _ _ _) (λw' hw'=>ad eD rfl rfl zs4 rfl) ?_
     replace bx29:=bx29.cn ch345
     refine ht 1 rfl (bp.refl _ _ _) (λw' hw'=>af ay rfl (bx29.chg hw' (bZ rfl)) rfl) (ht (v:=vi ↑e) 2 rfl (bp.refl _ _ _) (λw' hw'=>au zs10) (ht (v:=v32) 5 rfl (bp.refl _ _ _) (λw' hw'=>au zs5) (ht (v:=vi ((gI g.2 ↑e).2)) 6 rfl (bp.refl _ _ _) (λw' hw'=>au rfl) ?_)))
     refine cD 3 [7,9] (by kernel_rfl) ⟨cA 3 rfl (by kernel_rfl) rfl ?_,cA 7 rfl (by kernel_rfl) rfl ?_,cA 9 rfl (by kernel_rfl) rfl ?_,trivial⟩
     ·
      replace o17:=o17.cn ch345
      refine az (v:=Value.pointer (some (aZ v16 1 (Int.toNat ↑e)))) (ae (α:=Int) (xs:=(aa g).1) (v:=v16) (i:=↑e) bf rfl rfl o17.flat rfl (by omega) (by omega)) ?_
      refine⟨(bp.refl _ _ _),?_⟩
      refine ht 4 rfl (bp.refl _ _ _) (λw' hw'=>aq (v:=v16) (i:=↑e) ah rfl (o17.flat.chg hw' (bZ rfl)) (by omega) (by omega) (by decide) rfl) ?_
      refine cD 7 [9] (by kernel_rfl) ⟨cA 7 rfl (by kernel_rfl) rfl ?_,cA 9 rfl (by kernel_rfl) rfl ?_,trivial⟩
      ·
       replace m34:=m34.cn ch345
       refine az (v:=vi (mp.1 ((gI g.2 ↑e).2))) (bm ((gI g.2 ↑e).2) ir (bS U3) ah rfl m34.mp rfl rfl) ?_
       refine⟨(bp.refl _ _ _),?_⟩
       refine ht (v:=vg [vi (gI ((aa g).1) (e:Int)),vi (mp.1 ((gI g.2 ↑e).2))]) 8 rfl (bp.refl _ _ _) (λw' hw'=>bE (vs:=[(0,vi (gI ((aa g).1) (e:Int))),(1,vi (mp.1 ((gI g.2 ↑e).2)))]) rfl (by kernel_rfl)) (aV 9 rfl (by kernel_rfl) rfl (bI g344 (is 10) (10,0) rfl aU ?_))
       intro g350 w347 b349 ch348 bx351
       replace bx351:Bx g350 (is 10) w347 b349 [vi 0,vi 0]:=bx351
       have hs352:bp (inl [10]) _ _ _ _:=ch348.n
       refine⟨hs352.same,?_⟩
       refine aV 10 rfl (by kernel_rfl) rfl (aI (cs':=[vi (gI ((aa g).1) (e:Int)),vi (mp.1 ((gI g.2 ↑e).2))]) aU rfl rfl bx351 rfl nq (AllOne.all (.cons rfl (.cons rfl .nil))) rfl ?_)
       intro w353 ch354 bx355
       clear bx351
       have hs356:=hs352.seq (ch354.l rfl)
       refine⟨hs356.same,?_⟩
       refine cy (by kernel_rfl) ?_
       have C357:=cg [10] (ch345.n.seq (ch348.n.seq (ch354.l rfl)))
       replace Rg:=Rg.cn ch345
       replace bx10:=bx10.cn ch345
       replace o19:=o19.cn ch345
       replace bx57:=bx57.cn ch345
       replace o_ed:=o_ed.cn ch345
       replace m330:=m330.cn ch345
       exact mid (b349,g350) _ _ ⟨bH.ca C357,zs2,zs4,zs5,zs8,zs9,zs10,rfl,rfl,zs46,zs47,zs48,zs53,rfl,(Rg.ca hs356),(bx10.ca hs356),(o17.ca hs356),(o19.ca hs356),(bx29.ca hs356),(m34.ca hs356),(bx57.ca hs356),(o_ed.ca hs356),(m330.ca hs356),bx355⟩
      ·
       refine bI g344 (is 10) (10,0) rfl aU ?_
       intro g361 w358 b360 ch359 bx362
       replace bx362:Bx g361 (is 10) w358 b360 [vi 0,vi 0]:=bx362
       have hs363:bp (inl [10]) _ _ _ _:=ch359.n
       refine⟨hs363.same,?_⟩
       refine aV 7 rfl (by kernel_rfl) rfl ?_
       replace m34:=m34.cn ch345
       refine az (v:=vi (mp.1 ((gI g.2 ↑e).2))) (bm ((gI g.2 ↑e).2) ir (bS U3) ah rfl (m34.ca hs363).mp rfl rfl) ?_
       refine⟨hs363.same,?_⟩
       refine ht (v:=vg [vi (gI ((aa g).1) (e:Int)),vi (mp.1 ((gI g.2 ↑e).2))]) 8 rfl hs363.same (λw' hw'=>bE (vs:=[(0,vi (gI ((aa g).1) (e:Int))),(1,vi (mp.1 ((gI g.2 ↑e).2)))]) rfl (by kernel_rfl)) (aV 10 rfl (by kernel_rfl) rfl (aI (cs':=[vi (gI ((aa g).1) (e:Int)),vi (mp.1 ((gI g.2 ↑e).2))]) aU rfl rfl bx362 rfl nq (AllOne.all (.cons rfl (.cons rfl .nil))) rfl ?_))
       intro w364 ch365 bx366
       clear bx362
       have hs367:=hs363.seq (ch365.l rfl)
       refine⟨hs367.same,?_⟩
       refine cy (by kernel_rfl) ?_
       have C368:=cg [10] (ch345.n.seq (ch359.n.seq (ch365.l rfl)))
       replace Rg:=Rg.cn ch345
       replace bx10:=bx10.cn ch345
       replace o19:=o19.cn ch345
       replace bx57:=bx57.cn ch345
       replace o_ed:=o_ed.cn ch345
       replace m330:=m330.cn ch345
       exact mid (b360,g361) _ _ ⟨bH.ca C368,zs2,zs4,zs5,zs8,zs9,zs10,rfl,rfl,zs46,zs47,zs48,zs53,rfl,(Rg.ca hs367),(bx10.ca hs367),(o17.ca hs367),(o19.ca hs367),(bx29.ca hs367),(m34.ca hs367),(bx57.ca hs367),(o_ed.ca hs367),(m330.ca hs367),bx366⟩
     ·
      replace m34:=m34.cn ch345
      refine az (v:=vi (mp.1 ((gI g.2 ↑e).2))) (bm ((gI g.2 ↑e).2) ir (bS U3) ah rfl m34.mp rfl rfl) ?_
      refine⟨(bp.refl _ _ _),?_⟩
      refine cD 3 [9] (by kernel_rfl) ⟨cA 3 rfl (by kernel_rfl) rfl ?_,cA 9 rfl (by kernel_rfl) rfl ?_,trivial⟩
      ·
       replace o17:=o17.cn ch345
       refine az (v:=Value.pointer (some (aZ v16 1 (Int.toNat ↑e)))) (ae (α:=Int) (xs:=(aa g).1) (v:=v16) (i:=↑e) bf rfl rfl o17.flat rfl (by omega) (by omega)) ?_
       refine⟨(bp.refl _ _ _),?_⟩
       refine ht 4 rfl (bp.refl _ _ _) (λw' hw'=>aq (v:=v16) (i:=↑e) ah rfl (o17.flat.chg hw' (bZ rfl)) (by omega) (by omega) (by decide) rfl) (ht (v:=vg [vi (gI ((aa g).1) (e:Int)),vi (mp.1 ((gI g.2 ↑e).2))]) 8 rfl (bp.refl _ _ _) (λw' hw'=>bE (vs:=[(0,vi (gI ((aa g).1) (e:Int))),(1,vi (mp.1 ((gI g.2 ↑e).2)))]) rfl (by kernel_rfl)) (aV 9 rfl (by kernel_rfl) rfl (bI g344 (is 10) (10,0) rfl aU ?_)))
       intro g372 w369 b371 ch370 bx373
       replace bx373:Bx g372 (is 10) w369 b371 [vi 0,vi 0]:=bx373
       have hs374:bp (inl [10]) _ _ _ _:=ch370.n
       refine⟨hs374.same,?_⟩
       refine aV 10 rfl (by kernel_rfl) rfl (aI (cs':=[vi (gI ((aa g).1) (e:Int)),vi (mp.1 ((gI g.2 ↑e).2))]) aU rfl rfl bx373 rfl nq (AllOne.all (.cons rfl (.cons rfl .nil))) rfl ?_)
       intro w375 ch376 bx377
       clear bx373
       have hs378:=hs374.seq (ch376.l rfl)
       refine⟨hs378.same,?_⟩
       refine cy (by kernel_rfl) ?_
       have C379:=cg [10] (ch345.n.seq (ch370.n.seq (ch376.l rfl)))
       replace Rg:=Rg.cn ch345
       replace bx10:=bx10.cn ch345
       replace o19:=o19.cn ch345
       replace bx57:=bx57.cn ch345
       replace o_ed:=o_ed.cn ch345
       replace m330:=m330.cn ch345
       exact mid (b371,g372) _ _ ⟨bH.ca C379,zs2,zs4,zs5,zs8,zs9,zs10,rfl,rfl,zs46,zs47,zs48,zs53,rfl,(Rg.ca hs378),(bx10.ca hs378),(o17.ca hs378),(o19.ca hs378),(bx29.ca hs378),(m34.ca hs378),(bx57.ca hs378),(o_ed.ca hs378),(m330.ca hs378),bx377⟩
      ·
       refine bI g344 (is 10) (10,0) rfl aU ?_
       intro g383 w380 b382 ch381 bx384
       replace bx384:Bx g383 (is 10) w380 b382 [vi 0,vi 0]:=bx384
       have hs385:bp (inl [10]) _ _ _ _:=ch381.n
       refine⟨hs385.same,?_⟩
       refine aV 3 rfl (by kernel_rfl) rfl ?_
       replace o17:=o17.cn ch345
       refine az (v:=Value.pointer (some (aZ v16 1 (Int.toNat ↑e)))) (ae (α:=Int) (xs:=(aa g).1) (v:=v16) (i:=↑e) bf rfl rfl (o17.ca hs385).flat rfl (by omega) (by omega)) ?_
       refine⟨hs385.same,?_⟩
       refine ht 4 rfl hs385.same (λw' hw'=>aq (v:=v16) (i:=↑e) ah rfl (o17.flat.chg hw' (bZ rfl)) (by omega) (by omega) (by decide) rfl) (ht (v:=vg [vi (gI ((aa g).1) (e:Int)),vi (mp.1 ((gI g.2 ↑e).2))]) 8 rfl hs385.same (λw' hw'=>bE (vs:=[(0,vi (gI ((aa g).1) (e:Int))),(1,vi (mp.1 ((gI g.2 ↑e).2)))]) rfl (by kernel_rfl)) (aV 10 rfl (by kernel_rfl) rfl (aI (cs':=[vi (gI ((aa g).1) (e:Int)),vi (mp.1 ((gI g.2 ↑e).2))]) aU rfl rfl bx384 rfl nq (AllOne.all (.cons rfl (.cons rfl .nil))) rfl ?_)))
       intro w386 ch387 bx388
       clear bx384
       have hs389:=hs385.seq (ch387.l rfl)
       refine⟨hs389.same,?_⟩
       refine cy (by kernel_rfl) ?_
       have C390:=cg [10] (ch345.n.seq (ch381.n.seq (ch387.l rfl)))
       replace Rg:=Rg.cn ch345
       replace bx10:=bx10.cn ch345
       replace o19:=o19.cn ch345
       replace bx57:=bx57.cn ch345
       replace o_ed:=o_ed.cn ch345
       replace m330:=m330.cn ch345
       exact mid (b382,g383) _ _ ⟨bH.ca C390,zs2,zs4,zs5,zs8,zs9,zs10,rfl,rfl,zs46,zs47,zs48,zs53,rfl,(Rg.ca hs389),(bx10.ca hs389),(o17.ca hs389),(o19.ca hs389),(bx29.ca hs389),(m34.ca hs389),(bx57.ca hs389),(o_ed.ca hs389),(m330.ca hs389),bx388⟩
     ·
      refine bI g344 (is 10) (10,0) rfl aU ?_
      intro g394 w391 b393 ch392 bx395
      replace bx395:Bx g394 (is 10) w391 b393 [vi 0,vi 0]:=bx395
      have hs396:bp (inl [10]) _ _ _ _:=ch392.n
      refine⟨hs396.same,?_⟩
      refine cD 3 [7] (by kernel_rfl) ⟨cA 3 rfl (by kernel_rfl) rfl ?_,cA 7 rfl (by kernel_rfl) rfl ?_,trivial⟩
      ·
       replace o17:=o17.cn ch345
       refine az (v:=Value.pointer (some (aZ v16 1 (Int.toNat ↑e)))) (ae (α:=Int) (xs:=(aa g).1) (v:=v16) (i:=↑e) bf rfl rfl (o17.ca hs396).flat rfl (by omega) (by omega)) ?_
       refine⟨hs396.same,?_⟩
       refine ht 4 rfl hs396.same (λw' hw'=>aq (v:=v16) (i:=↑e) ah rfl (o17.flat.chg hw' (bZ rfl)) (by omega) (by omega) (by decide) rfl) (aV 7 rfl (by kernel_rfl) rfl ?_)
       replace m34:=m34.cn ch345
       refine az (v:=vi (mp.1 ((gI g.2 ↑e).2))) (bm ((gI g.2 ↑e).2) ir (bS U3) ah rfl (m34.ca hs396).mp rfl rfl) ?_
       refine⟨hs396.same,?_⟩
       refine ht (v:=vg [vi (gI ((aa g).1) (e:Int)),vi (mp.1 ((gI g.2 ↑e).2))]) 8 rfl hs396.same (λw' hw'=>bE (vs:=[(0,vi (gI ((aa g).1) (e:Int))),(1,vi (mp.1 ((gI g.2 ↑e).2)))]) rfl (by kernel_rfl)) (aV 10 rfl (by kernel_rfl) rfl (aI (cs':=[vi (gI ((aa g).1) (e:Int)),vi (mp.1 ((gI g.2 ↑e).2))]) aU rfl rfl bx395 rfl nq (AllOne.all (.cons rfl (.cons rfl .nil))) rfl ?_))
       intro w397 ch398 bx399
       clear bx395
       have hs400:=hs396.seq (ch398.l rfl)
       refine⟨hs400.same,?_⟩
       refine cy (by kernel_rfl) ?_
       have C401:=cg [10] (ch345.n.seq (ch392.n.seq (ch398.l rfl)))
       replace Rg:=Rg.cn ch345
       replace bx10:=bx10.cn ch345
       replace o19:=o19.cn ch345
       replace bx57:=bx57.cn ch345
       replace o_ed:=o_ed.cn ch345
       replace m330:=m330.cn ch345
       exact mid (b393,g394) _ _ ⟨bH.ca C401,zs2,zs4,zs5,zs8,zs9,zs10,rfl,rfl,zs46,zs47,zs48,zs53,rfl,(Rg.ca hs400),(bx10.ca hs400),(o17.ca hs400),(o19.ca hs400),(bx29.ca hs400),(m34.ca hs400),(bx57.ca hs400),(o_ed.ca hs400),(m330.ca hs400),bx399⟩
      ·
       replace m34:=m34.cn ch345
       refine az (v:=vi (mp.1 ((gI g.2 ↑e).2))) (bm ((gI g.2 ↑e).2) ir (bS U3) ah rfl (m34.ca hs396).mp rfl rfl) ?_
       refine⟨hs396.same,?_⟩
       refine aV 3 rfl (by kernel_rfl) rfl ?_
       replace o17:=o17.cn ch345
       refine az (v:=Value.pointer (some (aZ v16 1 (Int.toNat ↑e)))) (ae (α:=Int) (xs:=(aa g).1) (v:=v16) (i:=↑e) bf rfl rfl (o17.ca hs396).flat rfl (by omega) (by omega)) ?_
       refine⟨hs396.same,?_⟩
       refine ht 4 rfl hs396.same (λw' hw'=>aq (v:=v16) (i:=↑e) ah rfl (o17.flat.chg hw' (bZ rfl)) (by omega) (by omega) (by decide) rfl) (ht (v:=vg [vi (gI ((aa g).1) (e:Int)),vi (mp.1 ((gI g.2 ↑e).2))]) 8 rfl hs396.same (λw' hw'=>bE (vs:=[(0,vi (gI ((aa g).1) (e:Int))),(1,vi (mp.1 ((gI g.2 ↑e).2)))]) rfl (by kernel_rfl)) (aV 10 rfl (by kernel_rfl) rfl (aI (cs':=[vi (gI ((aa g).1) (e:Int)),vi (mp.1 ((gI g.2 ↑e).2))]) aU rfl rfl bx395 rfl nq (AllOne.all (.cons rfl (.cons rfl .nil))) rfl ?_)))
       intro w402 ch403 bx404
       clear bx395
       have hs405:=hs396.seq (ch403.l rfl)
       refine⟨hs405.same,?_⟩
       refine cy (by kernel_rfl) ?_
       have C406:=cg [10] (ch345.n.seq (ch392.n.seq (ch403.l rfl)))
       replace Rg:=Rg.cn ch345
       replace bx10:=bx10.cn ch345
       replace o19:=o19.cn ch345
       replace bx57:=bx57.cn ch345
       replace o_ed:=o_ed.cn ch345
       replace m330:=m330.cn ch345
       exact mid (b393,g394) _ _ ⟨bH.ca C406,zs2,zs4,zs5,zs8,zs9,zs10,rfl,rfl,zs46,zs47,zs48,zs53,rfl,(Rg.ca hs405),(bx10.ca hs405),(o17.ca hs405),(o19.ca hs405),(bx29.ca hs405),(m34.ca hs405),(bx57.ca hs405),(o_ed.ca hs405),(m330.ca hs405),bx404⟩
    clear Rg bx10 o17 o19 bx29 m34 bx57 o_ed m330 bH
    rintro⟨b349,g409⟩ f407 w408 ⟨bH,zs2,zs4,zs5,zs8,zs9,zs10,zs13,zs14,zs46,zs47,zs48,zs53,zs54,Rg,bx10,o17,o19,bx29,m34,bx57,o_ed,m330,bx355⟩
    refine ab (ab (a8 rfl (mz zs5 (mz zs13 (lw (vi (mp.1 ((gI g.2 ↑e).2))) (bm ((gI g.2 ↑e).2) ir (bS U3) ah rfl m34.mp rfl rfl) (lx (e7 (m:=mp.1 ((gI g.2 ↑e).2)) (n:=0) rfl rfl) (mv (vb (decide (0<(mp.1 ((gI g.2 ↑e).2))))) ?_)))))))
    by_cases q70_410:0<(mp.1 ((gI g.2 ↑e).2))
    ·
     refine lv (v47) (wy (dt q70_410)) (au zs8) (lv (vg [vi (gI ((aa g).1) (e:Int)),vi (mp.1 ((gI g.2 ↑e).2))]) (wy (dt q70_410)) (aB (ds:=[vi (gI ((aa g).1) (e:Int)),vi (mp.1 ((gI g.2 ↑e).2))]) aU zs14 bx355 rfl rfl) ?_)
     refine lv (vi ((λq=>if q=((gI ((aa g).1) (e:Int)),mp.1 ((gI g.2 ↑e).1)) then((sn ((gI ((aa g).1) (e:Int)),mp.1 ((gI g.2 ↑e).1)))+1) else sn q) ((gI ((aa g).1) (e:Int)),mp.1 ((gI g.2 ↑e).2)))) (wy (dt q70_410)) (bm (F:=(λq=>if q=((gI ((aa g).1) (e:Int)),mp.1 ((gI g.2 ↑e).1)) then((sn ((gI ((aa g).1) (e:Int)),mp.1 ((gI g.2 ↑e).1)))+1) else sn q)) ((gI ((aa g).1) (e:Int)),mp.1 ((gI g.2 ↑e).2)) fj (aX dg U3 ah) ah rfl m330 rfl rfl) ?_
     refine lv (vb (decide (((λq=>if q=((gI ((aa g).1) (e:Int)),mp.1 ((gI g.2 ↑e).1)) then((sn ((gI ((aa g).1) (e:Int)),mp.1 ((gI g.2 ↑e).1)))+1) else sn q) ((gI ((aa g).1) (e:Int)),mp.1 ((gI g.2 ↑e).2)))=0))) (wy (dt q70_410)) (cH (m:=(λq=>if q=((gI ((aa g).1) (e:Int)),mp.1 ((gI g.2 ↑e).1)) then((sn ((gI ((aa g).1) (e:Int)),mp.1 ((gI g.2 ↑e).1)))+1) else sn q) ((gI ((aa g).1) (e:Int)),mp.1 ((gI g.2 ↑e).2))) (n:=0) rfl rfl) (lw (vb (decide (((λq=>if q=((gI ((aa g).1) (e:Int)),mp.1 ((gI g.2 ↑e).1)) then((sn ((gI ((aa g).1) (e:Int)),mp.1 ((gI g.2 ↑e).1)))+1) else sn q) ((gI ((aa g).1) (e:Int)),mp.1 ((gI g.2 ↑e).2)))=0))) (b5 rfl (dt q70_410) rfl) (ag ?_))
     by_cases p19_411:((λq=>if q=((gI ((aa g).1) (e:Int)),mp.1 ((gI g.2 ↑e).1)) then((sn ((gI ((aa g).1) (e:Int)),mp.1 ((gI g.2 ↑e).1)))+1) else sn q) ((gI ((aa g).1) (e:Int)),mp.1 ((gI g.2 ↑e).2)))=0
     ·
      refine al rfl (dt p19_411) (a8 rfl (lx (ad cZ rfl rfl zs9 rfl) (lx (af bC rfl bx57 rfl) (lx (aB (ds:=[vi (gI ((aa g).1) (e:Int)),vi (mp.1 ((gI g.2 ↑e).2))]) aU zs14 bx355 rfl rfl) (lo (aM (α:=Pt) g409 (is 11) (is 11) (11,0) rfl [((gI ((aa g).1) (e:Int)),mp.1 ((gI g.2 ↑e).2))] dD aU (by decide) (by decide) (vs:=[(0,vg [vi (gI ((aa g).1) (e:Int)),vi (mp.1 ((gI g.2 ↑e).2))])]) rfl rfl (.cons rfl .nil) ?_))))))
      intro g412 w413 v414 ch415 o416
      refine lo ?_
      replace o_ed:=o_ed.cn ch415
      refine bD (α:=Pt) (xs:=ed) (ys:=([((gI ((aa g).1) (e:Int)),mp.1 ((gI g.2 ↑e).2))])) g412 (J:=is 12) (S:=is 12) (12,0) rfl dD aU (by decide) rfl rfl rfl o_ed o416.flat (by decide) (by(simp;omega)) ?_
      intro g417 w418 v419 ch420 o421
      clear o_ed
      refine lx (ad cZ rfl rfl zs9 rfl) (lo ?_)
      replace bx57:=(bx57.cn ch415).ce ch420
      refine cj (cs':=[vi ((((aa g).2).2)+(List.length (((aa g).2).1):Int)),v419]) bC rfl rfl bx57 (cd o421.flat) nq (bQ o421.flat) rfl ?_
      intro w422 ch423 bx424
      clear bx57
      refine ag ?_
      clear o416
      refine cX (σ:=aJ) (λgq f w=>bv w0 gq w/\f 2=vp b8 0/\f 4=vp b24 0/\f 5=v32/\f 8=v47/\f 9=vp b52 0/\f 10=vi ↑e/\f 46=g_v/\f 47=vi (g.2.length:Int)/\f 48=vi ↑e/\f 53=vg [vi ((gI g.2 ↑e).1),vi ((gI g.2 ↑e).2)]/\f 54=vi 1/\Sl gq (is 0) w g_v g.2/\Bx gq (is 2) w b8 [vi 0,vn]/\Ow gq (is 3) (is 3) w v16 ((aa g).1)/\Ow gq (is 4) (is 4) w v18 (((aa g).2).1)/\Bx gq (is 5) w b24 [v16,v18,vi (((aa g).2).2)]/\Md gq (is 6) w v32 mp.1 mp.2/\Ow gq (is 12) (is 12) w v419 (ed++[((gI ((aa g).1) (e:Int)),mp.1 ((gI g.2 ↑e).2))])/\Bx gq (is 8) w b52 [vi ((((aa g).2).2)+(List.length (((aa g).2).1):Int)),v419]/\Mp gq (is 7) w v47 (λq=>if q=((gI ((aa g).1) (e:Int)),mp.1 ((gI g.2 ↑e).2)) then(((λq=>if q=((gI ((aa g).1) (e:Int)),mp.1 ((gI g.2 ↑e).1)) then((sn ((gI ((aa g).1) (e:Int)),mp.1 ((gI g.2 ↑e).1)))+1) else sn q) ((gI ((aa g).1) (e:Int)),mp.1 ((gI g.2 ↑e).2)))+1) else(λq=>if q=((gI ((aa g).1) (e:Int)),mp.1 ((gI g.2 ↑e).1)) then((sn ((gI ((aa g).1) (e:Int)),mp.1 ((gI g.2 ↑e).1)))+1) else sn q) q)) g417 [0,1,3,5] d6 ?_ ?_
      ·
       intro mid
       intro w426 ch425
       refine xp (v:=v47) 0 rfl (λw=>au zs8) ?_
       have C427:=cg [8,12] (ch415.n.seq ((ch420.l rfl).seq ((ch423.l rfl).seq ch425.n)))
       replace bx355:=bx355.ca C427
       refine xv 1 [0] rfl (aB (ds:=[vi (gI ((aa g).1) (e:Int)),vi (mp.1 ((gI g.2 ↑e).2))]) aU zs14 bx355 rfl rfl) ?_
       refine fV 2 4 rfl rfl (by kernel_rfl) rfl rfl ?_ ?_
       ·
        replace m330:=m330.ca C427
        refine az (v:=vi ((λq=>if q=((gI ((aa g).1) (e:Int)),mp.1 ((gI g.2 ↑e).1)) then((sn ((gI ((aa g).1) (e:Int)),mp.1 ((gI g.2 ↑e).1)))+1) else sn q) ((gI ((aa g).1) (e:Int)),mp.1 ((gI g.2 ↑e).2)))) (bm (F:=(λq=>if q=((gI ((aa g).1) (e:Int)),mp.1 ((gI g.2 ↑e).1)) then((sn ((gI ((aa g).1) (e:Int)),mp.1 ((gI g.2 ↑e).1)))+1) else sn q)) ((gI ((aa g).1) (e:Int)),mp.1 ((gI g.2 ↑e).2)) fj (aX dg U3 ah) ah rfl m330 rfl rfl) ?_
        refine xp 3 rfl (λw=>aG (m:=(λq=>if q=((gI ((aa g).1) (e:Int)),mp.1 ((gI g.2 ↑e).1)) then((sn ((gI ((aa g).1) (e:Int)),mp.1 ((gI g.2 ↑e).1)))+1) else sn q) ((gI ((aa g).1) (e:Int)),mp.1 ((gI g.2 ↑e).2))) (n:=1) rfl rfl (by(omega))) (bw 4 rfl (by kernel_rfl) rfl (bU (F:=(λq=>if q=((gI ((aa g).1) (e:Int)),mp.1 ((gI g.2 ↑e).1)) then((sn ((gI ((aa g).1) (e:Int)),mp.1 ((gI g.2 ↑e).1)))+1) else sn q)) ((gI ((aa g).1) (e:Int)),mp.1 ((gI g.2 ↑e).2)) fj (aX dg U3 ah) ah rfl m330 rfl rfl ?_))
        intro w428 s431 ch429 m430
        clear m330
        refine xp 5 rfl (λw=>aR rfl rfl) (bw 6 rfl (by kernel_rfl) rfl (bG rfl m430 rfl rfl ?_))
        intro w432 ch433 m434
        clear m430
        refine c6 (by kernel_rfl) ?_
        have C435:=cg [7,8,12] (ch415.n.seq ((ch420.l rfl).seq ((ch423.l rfl).seq (ch425.n.seq ((ch429.l rfl).seq (ch433.l rfl))))))
        have C436:=cg [7,8] ((ch423.l rfl).seq (ch425.n.seq ((ch429.l rfl).seq (ch433.l rfl))))
        have C437:=cg [7] (ch425.n.seq ((ch429.l rfl).seq (ch433.l rfl)))
        exact mid (g417) _ _ ⟨bH.ca C435,zs2,zs4,zs5,zs8,zs9,zs10,zs46,zs47,zs48,zs53,zs54,Rg.ca C435,bx10.ca C435,o17.ca C435,o19.ca C435,bx29.ca C435,m34.ca C435,o421.ca C436,bx424.ca C437,m434⟩
       ·
        replace m330:=m330.ca C427
        refine bU (F:=(λq=>if q=((gI ((aa g).1) (e:Int)),mp.1 ((gI g.2 ↑e).1)) then((sn ((gI ((aa g).1) (e:Int)),mp.1 ((gI g.2 ↑e).1)))+1) else sn q)) ((gI ((aa g).1) (e:Int)),mp.1 ((gI g.2 ↑e).2)) fj (aX dg U3 ah) ah rfl m330 rfl rfl ?_
        intro w438 s441 ch439 m440
        clear m330
        refine xp 5 rfl (λw=>aR rfl rfl) (bw 2 rfl (by kernel_rfl) rfl (az (v:=vi ((λq=>if q=((gI ((aa g).1) (e:Int)),mp.1 ((gI g.2 ↑e).1)) then((sn ((gI ((aa g).1) (e:Int)),mp.1 ((gI g.2 ↑e).1)))+1) else sn q) ((gI ((aa g).1) (e:Int)),mp.1 ((gI g.2 ↑e).2)))) (bm (F:=(λq=>if q=((gI ((aa g).1) (e:Int)),mp.1 ((gI g.2 ↑e).1)) then((sn ((gI ((aa g).1) (e:Int)),mp.1 ((gI g.2 ↑e).1)))+1) else sn q)) ((gI ((aa g).1) (e:Int)),mp.1 ((gI g.2 ↑e).2)) fj (aX dg U3 ah) ah rfl m440.mp rfl rfl) ?_))
        refine xp 3 rfl (λw=>aG (m:=(λq=>if q=((gI ((aa g).1) (e:Int)),mp.1 ((gI g.2 ↑e).1)) then((sn ((gI ((aa g).1) (e:Int)),mp.1 ((gI g.2 ↑e).1)))+1) else sn q) ((gI ((aa g).1) (e:Int)),mp.1 ((gI g.2 ↑e).2))) (n:=1) rfl rfl (by(omega))) (bw 6 rfl (by kernel_rfl) rfl (bG rfl m440 rfl rfl ?_))
        intro w442 ch443 m444
        clear m440
        refine c6 (by kernel_rfl) ?_
        have C445:=cg [7,8,12] (ch415.n.seq ((ch420.l rfl).seq ((ch423.l rfl).seq (ch425.n.seq ((ch439.l rfl).seq (ch443.l rfl))))))
        have C446:=cg [7,8] ((ch423.l rfl).seq (ch425.n.seq ((ch439.l rfl).seq (ch443.l rfl))))
        have C447:=cg [7] (ch425.n.seq ((ch439.l rfl).seq (ch443.l rfl)))
        exact mid (g417) _ _ ⟨bH.ca C445,zs2,zs4,zs5,zs8,zs9,zs10,zs46,zs47,zs48,zs53,zs54,Rg.ca C445,bx10.ca C445,o17.ca C445,o19.ca C445,bx29.ca C445,m34.ca C445,o421.ca C446,bx424.ca C447,m444⟩
      clear Rg bx10 o17 o19 bx29 m34 m330 bx355 o421 bx424 bH
      rintro g450 f448 w449 ⟨bH,zs2,zs4,zs5,zs8,zs9,zs10,zs46,zs47,zs48,zs53,zs54,Rg,bx10,o17,o19,bx29,m34,o421,bx424,m432⟩
      refine ak (a8 rfl (lx (aG (m:=1) (n:=1) zs54 rfl (by omega)) (mi 2 (ag (bx (ab (a8 rfl (lx (bn (m:=2) (n:=2) rfl rfl) (ag (ab (aj rfl rfl ?_)))))))))))
      refine aF rfl (ak (a8 rfl (lx (aG (m:=↑e) (n:=1) zs48 rfl (by omega)) (mi ((e:Int)+1) (ag ?_)))))
      refine back13 (v419,(ed++[((gI ((aa g).1) (e:Int)),mp.1 ((gI g.2 ↑e).2))]),e+1,(λq=>if q=((gI ((aa g).1) (e:Int)),mp.1 ((gI g.2 ↑e).2)) then(((λq=>if q=((gI ((aa g).1) (e:Int)),mp.1 ((gI g.2 ↑e).1)) then((sn ((gI ((aa g).1) (e:Int)),mp.1 ((gI g.2 ↑e).1)))+1) else sn q) ((gI ((aa g).1) (e:Int)),mp.1 ((gI g.2 ↑e).2)))+1) else(λq=>if q=((gI ((aa g).1) (e:Int)),mp.1 ((gI g.2 ↑e).1)) then((sn ((gI ((aa g).1) (e:Int)),mp.1 ((gI g.2 ↑e).1)))+1) else sn q) q),g450) _ _ ⟨bH,zs2,zs4,zs5,zs8,zs9,zs46,zs47,rfl,Rg,bx10,o17,o19,bx29,m34,m432,bx424,o421,by omega,?_⟩ ?_
      · show gj g mp.1 (ed++[((gI ((aa g).1) (e:Int)),mp.1 ((gI g.2 ↑e).2))]) (λq=>if q=((gI ((aa g).1) (e:Int)),mp.1 ((gI g.2 ↑e).2)) then(((λq=>if q=((gI ((aa g).1) (e:Int)),mp.1 ((gI g.2 ↑e).1)) then((sn ((gI ((aa g).1) (e:Int)),mp.1 ((gI g.2 ↑e).1)))+1) else sn q) ((gI ((aa g).1) (e:Int)),mp.1 ((gI g.2 ↑e).2)))+1) else(λq=>if q=((gI ((aa g).1) (e:Int)),mp.1 ((gI g.2 ↑e).1)) then((sn ((gI ((aa g).1) (e:Int)),mp.1 ((gI g.2 ↑e).1)))+1) else sn q) q) (2*(e+1))
        exact hut.two rfl rfl rfl rfl rfl rfl (by(exact jr ‹_›)) (by(exact lm ‹_› ‹_›))
      · show Int.toNat (((g.2.length:Int):Int)-((e+1):Int))<Int.toNat (((g.2.length:Int):Int)-(e:Int))
        omega
     refine aj rfl (df p19_411) (av ?_)
     refine cX (σ:=aJ) (λgq f w=>bv w0 gq w/\f 2=vp b8 0/\f 4=vp b24 0/\f 5=v32/\f 8=v47/\f 9=vp b52 0/\f 10=vi ↑e/\f 46=g_v/\f 47=vi (g.2.length:Int)/\f 48=vi ↑e/\f 53=vg [vi ((gI g.2 ↑e).1),vi ((gI g.2 ↑e).2)]/\f 54=vi 1/\Sl gq (is 0) w g_v g.2/\Bx gq (is 2) w b8 [vi 0,vn]/\Ow gq (is 3) (is 3) w v16 ((aa g).1)/\Ow gq (is 4) (is 4) w v18 (((aa g).2).1)/\Bx gq (is 5) w b24 [v16,v18,vi (((aa g).2).2)]/\Md gq (is 6) w v32 mp.1 mp.2/\Bx gq (is 8) w b52 [vi ((((aa g).2).2)+(List.length (((aa g).2).1):Int)),ed_v]/\Ow gq (is 12) (is 12) w ed_v ed/\Mp gq (is 7) w v47 (λq=>if q=((gI ((aa g).1) (e:Int)),mp.1 ((gI g.2 ↑e).2)) then(((λq=>if q=((gI ((aa g).1) (e:Int)),mp.1 ((gI g.2 ↑e).1)) then((sn ((gI ((aa g).1) (e:Int)),mp.1 ((gI g.2 ↑e).1)))+1) else sn q) ((gI ((aa g).1) (e:Int)),mp.1 ((gI g.2 ↑e).2)))+1) else(λq=>if q=((gI ((aa g).1) (e:Int)),mp.1 ((gI g.2 ↑e).1)) then((sn ((gI ((aa g).1) (e:Int)),mp.1 ((gI g.2 ↑e).1)))+1) else sn q) q)) g409 [0,1,3,5] d6 ?_ ?_
     ·
      intro mid
      intro w452 ch451
      refine xp (v:=v47) 0 rfl (λw=>au zs8) ?_
      replace bx355:=bx355.cn ch451
      refine xv 1 [0] rfl (aB (ds:=[vi (gI ((aa g).1) (e:Int)),vi (mp.1 ((gI g.2 ↑e).2))]) aU zs14 bx355 rfl rfl) ?_
      refine fV 2 4 rfl rfl (by kernel_rfl) rfl rfl ?_ ?_
      ·
       replace m330:=m330.cn ch451
       refine az (v:=vi ((λq=>if q=((gI ((aa g).1) (e:Int)),mp.1 ((gI g.2 ↑e).1)) then((sn ((gI ((aa g).1) (e:Int)),mp.1 ((gI g.2 ↑e).1)))+1) else sn q) ((gI ((aa g).1) (e:Int)),mp.1 ((gI g.2 ↑e).2)))) (bm (F:=(λq=>if q=((gI ((aa g).1) (e:Int)),mp.1 ((gI g.2 ↑e).1)) then((sn ((gI ((aa g).1) (e:Int)),mp.1 ((gI g.2 ↑e).1)))+1) else sn q)) ((gI ((aa g).1) (e:Int)),mp.1 ((gI g.2 ↑e).2)) fj (aX dg U3 ah) ah rfl m330 rfl rfl) ?_
       refine xp 3 rfl (λw=>aG (m:=(λq=>if q=((gI ((aa g).1) (e:Int)),mp.1 ((gI g.2 ↑e).1)) then((sn ((gI ((aa g).1) (e:Int)),mp.1 ((gI g.2 ↑e).1)))+1) else sn q) ((gI ((aa g).1) (e:Int)),mp.1 ((gI g.2 ↑e).2))) (n:=1) rfl rfl (by((dsimp only;split<;>omega)))) (bw 4 rfl (by kernel_rfl) rfl (bU (F:=(λq=>if q=((gI ((aa g).1) (e:Int)),mp.1 ((gI g.2 ↑e).1)) then((sn ((gI ((aa g).1) (e:Int)),mp.1 ((gI g.2 ↑e).1)))+1) else sn q)) ((gI ((aa g).1) (e:Int)),mp.1 ((gI g.2 ↑e).2)) fj (aX dg U3 ah) ah rfl m330 rfl rfl ?_))
       intro w453 s456 ch454 m455
       clear m330
       refine xp 5 rfl (λw=>aR rfl rfl) (bw 6 rfl (by kernel_rfl) rfl (bG rfl m455 rfl rfl ?_))
       intro w457 ch458 m459
       clear m455
       refine c6 (by kernel_rfl) ?_
       have C460:=cg [7] (ch451.n.seq ((ch454.l rfl).seq (ch458.l rfl)))
       exact mid (g409) _ _ ⟨bH.ca C460,zs2,zs4,zs5,zs8,zs9,zs10,zs46,zs47,zs48,zs53,zs54,Rg.ca C460,bx10.ca C460,o17.ca C460,o19.ca C460,bx29.ca C460,m34.ca C460,bx57.ca C460,o_ed.ca C460,m459⟩
      ·
       replace m330:=m330.cn ch451
       refine bU (F:=(λq=>if q=((gI ((aa g).1) (e:Int)),mp.1 ((gI g.2 ↑e).1)) then((sn ((gI ((aa g).1) (e:Int)),mp.1 ((gI g.2 ↑e).1)))+1) else sn q)) ((gI ((aa g).1) (e:Int)),mp.1 ((gI g.2 ↑e).2)) fj (aX dg U3 ah) ah rfl m330 rfl rfl ?_
       intro w461 s464 ch462 m463
       clear m330
       refine xp 5 rfl (λw=>aR rfl rfl) (bw 2 rfl (by kernel_rfl) rfl (az (v:=vi ((λq=>if q=((gI ((aa g).1) (e:Int)),mp.1 ((gI g.2 ↑e).1)) then((sn ((gI ((aa g).1) (e:Int)),mp.1 ((gI g.2 ↑e).1)))+1) else sn q) ((gI ((aa g).1) (e:Int)),mp.1 ((gI g.2 ↑e).2)))) (bm (F:=(λq=>if q=((gI ((aa g).1) (e:Int)),mp.1 ((gI g.2 ↑e).1)) then((sn ((gI ((aa g).1) (e:Int)),mp.1 ((gI g.2 ↑e).1)))+1) else sn q)) ((gI ((aa g).1) (e:Int)),mp.1 ((gI g.2 ↑e).2)) fj (aX dg U3 ah) ah rfl m463.mp rfl rfl) ?_))
       refine xp 3 rfl (λw=>aG (m:=(λq=>if q=((gI ((aa g).1) (e:Int)),mp.1 ((gI g.2 ↑e).1)) then((sn ((gI ((aa g).1) (e:Int)),mp.1 ((gI g.2 ↑e).1)))+1) else sn q) ((gI ((aa g).1) (e:Int)),mp.1 ((gI g.2 ↑e).2))) (n:=1) rfl rfl (by((dsimp only;split<;>omega)))) (bw 6 rfl (by kernel_rfl) rfl (bG rfl m463 rfl rfl ?_))
       intro w465 ch466 m467
       clear m463
       refine c6 (by kernel_rfl) ?_
       have C468:=cg [7] (ch451.n.seq ((ch462.l rfl).seq (ch466.l rfl)))
       exact mid (g409) _ _ ⟨bH.ca C468,zs2,zs4,zs5,zs8,zs9,zs10,zs46,zs47,zs48,zs53,zs54,Rg.ca C468,bx10.ca C468,o17.ca C468,o19.ca C468,bx29.ca C468,m34.ca C468,bx57.ca C468,o_ed.ca C468,m467⟩
     clear Rg bx10 o17 o19 bx29 m34 bx57 o_ed m330 bx355 bH
     rintro g471 f469 w470 ⟨bH,zs2,zs4,zs5,zs8,zs9,zs10,zs46,zs47,zs48,zs53,zs54,Rg,bx10,o17,o19,bx29,m34,bx57,o_ed,m457⟩
     refine ak (a8 rfl (lx (aG (m:=1) (n:=1) zs54 rfl (by omega)) (mi 2 (ag (bx (ab (a8 rfl (lx (bn (m:=2) (n:=2) rfl rfl) (ag (ab (aj rfl rfl ?_)))))))))))
     refine aF rfl (ak (a8 rfl (lx (aG (m:=↑e) (n:=1) zs48 rfl (by omega)) (mi ((e:Int)+1) (ag ?_)))))
     refine back13 (ed_v,ed,e+1,(λq=>if q=((gI ((aa g).1) (e:Int)),mp.1 ((gI g.2 ↑e).2)) then(((λq=>if q=((gI ((aa g).1) (e:Int)),mp.1 ((gI g.2 ↑e).1)) then((sn ((gI ((aa g).1) (e:Int)),mp.1 ((gI g.2 ↑e).1)))+1) else sn q) ((gI ((aa g).1) (e:Int)),mp.1 ((gI g.2 ↑e).2)))+1) else(λq=>if q=((gI ((aa g).1) (e:Int)),mp.1 ((gI g.2 ↑e).1)) then((sn ((gI ((aa g).1) (e:Int)),mp.1 ((gI g.2 ↑e).1)))+1) else sn q) q),g471) _ _ ⟨bH,zs2,zs4,zs5,zs8,zs9,zs46,zs47,rfl,Rg,bx10,o17,o19,bx29,m34,m457,bx57,o_ed,by omega,?_⟩ ?_
     · show gj g mp.1 ed (λq=>if q=((gI ((aa g).1) (e:Int)),mp.1 ((gI g.2 ↑e).2)) then(((λq=>if q=((gI ((aa g).1) (e:Int)),mp.1 ((gI g.2 ↑e).1)) then((sn ((gI ((aa g).1) (e:Int)),mp.1 ((gI g.2 ↑e).1)))+1) else sn q) ((gI ((aa g).1) (e:Int)),mp.1 ((gI g.2 ↑e).2)))+1) else(λq=>if q=((gI ((aa g).1) (e:Int)),mp.1 ((gI g.2 ↑e).1)) then((sn ((gI ((aa g).1) (e:Int)),mp.1 ((gI g.2 ↑e).1)))+1) else sn q) q) (2*(e+1))
       exact hut.two rfl rfl rfl rfl rfl rfl (by(exact jr ‹_›)) (by(exact jr ‹_›))
     · show Int.toNat (((g.2.length:Int):Int)-((e+1):Int))<Int.toNat (((g.2.length:Int):Int)-(e:Int))
       omega
    refine ax (wn (df q70_410)) (ax (wn (df q70_410)) (ax (wn (df q70_410)) (ax (wn (df q70_410)) (lw (vb false) (aY rfl (df q70_410) rfl) (ag (aj rfl rfl (av ?_)))))))
    refine cX (σ:=aJ) (λgq f w=>bv w0 gq w/\f 2=vp b8 0/\f 4=vp b24 0/\f 5=v32/\f 8=v47/\f 9=vp b52 0/\f 10=vi ↑e/\f 46=g_v/\f 47=vi (g.2.length:Int)/\f 48=vi ↑e/\f 53=vg [vi ((gI g.2 ↑e).1),vi ((gI g.2 ↑e).2)]/\f 54=vi 1/\Sl gq (is 0) w g_v g.2/\Bx gq (is 2) w b8 [vi 0,vn]/\Ow gq (is 3) (is 3) w v16 ((aa g).1)/\Ow gq (is 4) (is 4) w v18 (((aa g).2).1)/\Bx gq (is 5) w b24 [v16,v18,vi (((aa g).2).2)]/\Md gq (is 6) w v32 mp.1 mp.2/\Bx gq (is 8) w b52 [vi ((((aa g).2).2)+(List.length (((aa g).2).1):Int)),ed_v]/\Ow gq (is 12) (is 12) w ed_v ed/\Mp gq (is 7) w v47 (λq=>if q=((gI ((aa g).1) (e:Int)),mp.1 ((gI g.2 ↑e).2)) then(((λq=>if q=((gI ((aa g).1) (e:Int)),mp.1 ((gI g.2 ↑e).1)) then((sn ((gI ((aa g).1) (e:Int)),mp.1 ((gI g.2 ↑e).1)))+1) else sn q) ((gI ((aa g).1) (e:Int)),mp.1 ((gI g.2 ↑e).2)))+1) else(λq=>if q=((gI ((aa g).1) (e:Int)),mp.1 ((gI g.2 ↑e).1)) then((sn ((gI ((aa g).1) (e:Int)),mp.1 ((gI g.2 ↑e).1)))+1) else sn q) q)) g409 [0,1,3,5] d6 ?_ ?_
    ·
     intro mid
     intro w473 ch472
     refine xp (v:=v47) 0 rfl (λw=>au zs8) ?_
     replace bx355:=bx355.cn ch472
     refine xv 1 [0] rfl (aB (ds:=[vi (gI ((aa g).1) (e:Int)),vi (mp.1 ((gI g.2 ↑e).2))]) aU zs14 bx355 rfl rfl) ?_
     refine fV 2 4 rfl rfl (by kernel_rfl) rfl rfl ?_ ?_
     ·
      replace m330:=m330.cn ch472
      refine az (v:=vi ((λq=>if q=((gI ((aa g).1) (e:Int)),mp.1 ((gI g.2 ↑e).1)) then((sn ((gI ((aa g).1) (e:Int)),mp.1 ((gI g.2 ↑e).1)))+1) else sn q) ((gI ((aa g).1) (e:Int)),mp.1 ((gI g.2 ↑e).2)))) (bm (F:=(λq=>if q=((gI ((aa g).1) (e:Int)),mp.1 ((gI g.2 ↑e).1)) then((sn ((gI ((aa g).1) (e:Int)),mp.1 ((gI g.2 ↑e).1)))+1) else sn q)) ((gI ((aa g).1) (e:Int)),mp.1 ((gI g.2 ↑e).2)) fj (aX dg U3 ah) ah rfl m330 rfl rfl) ?_
      refine xp 3 rfl (λw=>aG (m:=(λq=>if q=((gI ((aa g).1) (e:Int)),mp.1 ((gI g.2 ↑e).1)) then((sn ((gI ((aa g).1) (e:Int)),mp.1 ((gI g.2 ↑e).1)))+1) else sn q) ((gI ((aa g).1) (e:Int)),mp.1 ((gI g.2 ↑e).2))) (n:=1) rfl rfl (by((dsimp only;split<;>omega)))) (bw 4 rfl (by kernel_rfl) rfl (bU (F:=(λq=>if q=((gI ((aa g).1) (e:Int)),mp.1 ((gI g.2 ↑e).1)) then((sn ((gI ((aa g).1) (e:Int)),mp.1 ((gI g.2 ↑e).1)))+1) else sn q)) ((gI ((aa g).1) (e:Int)),mp.1 ((gI g.2 ↑e).2)) fj (aX dg U3 ah) ah rfl m330 rfl rfl ?_))
      intro w474 s477 ch475 m476
      clear m330
      refine xp 5 rfl (λw=>aR rfl rfl) (bw 6 rfl (by kernel_rfl) rfl (bG rfl m476 rfl rfl ?_))
      intro w478 ch479 m480
      clear m476
      refine c6 (by kernel_rfl) ?_
      have C481:=cg [7] (ch472.n.seq ((ch475.l rfl).seq (ch479.l rfl)))
      exact mid (g409) _ _ ⟨bH.ca C481,zs2,zs4,zs5,zs8,zs9,zs10,zs46,zs47,zs48,zs53,zs54,Rg.ca C481,bx10.ca C481,o17.ca C481,o19.ca C481,bx29.ca C481,m34.ca C481,bx57.ca C481,o_ed.ca C481,m480⟩
     ·
      replace m330:=m330.cn ch472
      refine bU (F:=(λq=>if q=((gI ((aa g).1) (e:Int)),mp.1 ((gI g.2 ↑e).1)) then((sn ((gI ((aa g).1) (e:Int)),mp.1 ((gI g.2 ↑e).1)))+1) else sn q)) ((gI ((aa g).1) (e:Int)),mp.1 ((gI g.2 ↑e).2)) fj (aX dg U3 ah) ah rfl m330 rfl rfl ?_
      intro w482 s485 ch483 m484
      clear m330
      refine xp 5 rfl (λw=>aR rfl rfl) (bw 2 rfl (by kernel_rfl) rfl (az (v:=vi ((λq=>if q=((gI ((aa g).1) (e:Int)),mp.1 ((gI g.2 ↑e).1)) then((sn ((gI ((aa g).1) (e:Int)),mp.1 ((gI g.2 ↑e).1)))+1) else sn q) ((gI ((aa g).1) (e:Int)),mp.1 ((gI g.2 ↑e).2)))) (bm (F:=(λq=>if q=((gI ((aa g).1) (e:Int)),mp.1 ((gI g.2 ↑e).1)) then((sn ((gI ((aa g).1) (e:Int)),mp.1 ((gI g.2 ↑e).1)))+1) else sn q)) ((gI ((aa g).1) (e:Int)),mp.1 ((gI g.2 ↑e).2)) fj (aX dg U3 ah) ah rfl m484.mp rfl rfl) ?_))
      refine xp 3 rfl (λw=>aG (m:=(λq=>if q=((gI ((aa g).1) (e:Int)),mp.1 ((gI g.2 ↑e).1)) then((sn ((gI ((aa g).1) (e:Int)),mp.1 ((gI g.2 ↑e).1)))+1) else sn q) ((gI ((aa g).1) (e:Int)),mp.1 ((gI g.2 ↑e).2))) (n:=1) rfl rfl (by((dsimp only;split<;>omega)))) (bw 6 rfl (by kernel_rfl) rfl (bG rfl m484 rfl rfl ?_))
      intro w486 ch487 m488
      clear m484
      refine c6 (by kernel_rfl) ?_
      have C489:=cg [7] (ch472.n.seq ((ch483.l rfl).seq (ch487.l rfl)))
      exact mid (g409) _ _ ⟨bH.ca C489,zs2,zs4,zs5,zs8,zs9,zs10,zs46,zs47,zs48,zs53,zs54,Rg.ca C489,bx10.ca C489,o17.ca C489,o19.ca C489,bx29.ca C489,m34.ca C489,bx57.ca C489,o_ed.ca C489,m488⟩
    clear Rg bx10 o17 o19 bx29 m34 bx57 o_ed m330 bx355 bH
    rintro g492 f490 w491 ⟨bH,zs2,zs4,zs5,zs8,zs9,zs10,zs46,zs47,zs48,zs53,zs54,Rg,bx10,o17,o19,bx29,m34,bx57,o_ed,m478⟩
    refine ak (a8 rfl (lx (aG (m:=1) (n:=1) zs54 rfl (by omega)) (mi 2 (ag (bx (ab (a8 rfl (lx (bn (m:=2) (n:=2) rfl rfl) (ag (ab (aj rfl rfl ?_)))))))))))
    refine aF rfl (ak (a8 rfl (lx (aG (m:=↑e) (n:=1) zs48 rfl (by omega)) (mi ((e:Int)+1) (ag ?_)))))
    refine back13 (ed_v,ed,e+1,(λq=>if q=((gI ((aa g).1) (e:Int)),mp.1 ((gI g.2 ↑e).2)) then(((λq=>if q=((gI ((aa g).1) (e:Int)),mp.1 ((gI g.2 ↑e).1)) then((sn ((gI ((aa g).1) (e:Int)),mp.1 ((gI g.2 ↑e).1)))+1) else sn q) ((gI ((aa g).1) (e:Int)),mp.1 ((gI g.2 ↑e).2)))+1) else(λq=>if q=((gI ((aa g).1) (e:Int)),mp.1 ((gI g.2 ↑e).1)) then((sn ((gI ((aa g).1) (e:Int)),mp.1 ((gI g.2 ↑e).1)))+1) else sn q) q),g492) _ _ ⟨bH,zs2,zs4,zs5,zs8,zs9,zs46,zs47,rfl,Rg,bx10,o17,o19,bx29,m34,m478,bx57,o_ed,by omega,?_⟩ ?_
    · show gj g mp.1 ed (λq=>if q=((gI ((aa g).1) (e:Int)),mp.1 ((gI g.2 ↑e).2)) then(((λq=>if q=((gI ((aa g).1) (e:Int)),mp.1 ((gI g.2 ↑e).1)) then((sn ((gI ((aa g).1) (e:Int)),mp.1 ((gI g.2 ↑e).1)))+1) else sn q) ((gI ((aa g).1) (e:Int)),mp.1 ((gI g.2 ↑e).2)))+1) else(λq=>if q=((gI ((aa g).1) (e:Int)),mp.1 ((gI g.2 ↑e).1)) then((sn ((gI ((aa g).1) (e:Int)),mp.1 ((gI g.2 ↑e).1)))+1) else sn q) q) (2*(e+1))
      exact hut.two rfl rfl rfl rfl rfl rfl (by(exact jr ‹_›)) (by(exact jj ‹_›))
    · show Int.toNat (((g.2.length:Int):Int)-((e+1):Int))<Int.toNat (((g.2.length:Int):Int)-(e:Int))
      omega
   refine ax (wn (df q70)) (ax (wn (df q70)) (ax (wn (df q70)) (ax (wn (df q70)) (lw (vb false) (aY rfl (df q70) rfl) (ag (aj rfl rfl (av ?_)))))))
   refine cX (σ:=aJ) (λgq f w=>bv w0 gq w/\f 2=vp b8 0/\f 4=vp b24 0/\f 5=v32/\f 8=v47/\f 9=vp b52 0/\f 10=vi ↑e/\f 46=g_v/\f 47=vi (g.2.length:Int)/\f 48=vi ↑e/\f 53=vg [vi ((gI g.2 ↑e).1),vi ((gI g.2 ↑e).2)]/\f 54=vi 0/\Sl gq (is 0) w g_v g.2/\Bx gq (is 2) w b8 [vi 0,vn]/\Ow gq (is 3) (is 3) w v16 ((aa g).1)/\Ow gq (is 4) (is 4) w v18 (((aa g).2).1)/\Bx gq (is 5) w b24 [v16,v18,vi (((aa g).2).2)]/\Md gq (is 6) w v32 mp.1 mp.2/\Bx gq (is 8) w b52 [vi ((((aa g).2).2)+(List.length (((aa g).2).1):Int)),ed_v]/\Ow gq (is 12) (is 12) w ed_v ed/\Mp gq (is 7) w v47 (λq=>if q=((gI ((aa g).1) (e:Int)),mp.1 ((gI g.2 ↑e).1)) then((sn ((gI ((aa g).1) (e:Int)),mp.1 ((gI g.2 ↑e).1)))+1) else sn q)) g136 [0,1,3,5] d6 ?_ ?_
   ·
    intro mid
    intro w494 ch493
    refine xp (v:=v47) 0 rfl (λw=>au zs8) ?_
    replace bx82:=bx82.cn ch493
    refine xv 1 [0] rfl (aB (ds:=[vi (gI ((aa g).1) (e:Int)),vi (mp.1 ((gI g.2 ↑e).1))]) aU zs14 bx82 rfl rfl) ?_
    refine fV 2 4 rfl rfl (by kernel_rfl) rfl rfl ?_ ?_
    ·
     replace m49:=m49.cn ch493
     refine az (v:=vi (sn ((gI ((aa g).1) (e:Int)),mp.1 ((gI g.2 ↑e).1)))) (bm ((gI ((aa g).1) (e:Int)),mp.1 ((gI g.2 ↑e).1)) fj (aX dg U3 ah) ah rfl m49 rfl rfl) (xp 3 rfl (λw=>aG (m:=sn ((gI ((aa g).1) (e:Int)),mp.1 ((gI g.2 ↑e).1))) (n:=1) rfl rfl (by(omega))) (bw 4 rfl (by kernel_rfl) rfl (bU ((gI ((aa g).1) (e:Int)),mp.1 ((gI g.2 ↑e).1)) fj (aX dg U3 ah) ah rfl m49 rfl rfl ?_)))
     intro w495 s498 ch496 m497
     clear m49
     refine xp 5 rfl (λw=>aR rfl rfl) (bw 6 rfl (by kernel_rfl) rfl (bG rfl m497 rfl rfl ?_))
     intro w499 ch500 m501
     clear m497
     refine c6 (by kernel_rfl) ?_
     have C502:=cg [7] (ch493.n.seq ((ch496.l rfl).seq (ch500.l rfl)))
     exact mid (g136) _ _ ⟨bH.ca C502,zs2,zs4,zs5,zs8,zs9,zs10,zs46,zs47,zs48,zs53,zs54,Rg.ca C502,bx10.ca C502,o17.ca C502,o19.ca C502,bx29.ca C502,m34.ca C502,bx57.ca C502,o_ed.ca C502,m501⟩
    ·
     replace m49:=m49.cn ch493
     refine bU ((gI ((aa g).1) (e:Int)),mp.1 ((gI g.2 ↑e).1)) fj (aX dg U3 ah) ah rfl m49 rfl rfl ?_
     intro w503 s506 ch504 m505
     clear m49
     refine xp 5 rfl (λw=>aR rfl rfl) (bw 2 rfl (by kernel_rfl) rfl (az (v:=vi (sn ((gI ((aa g).1) (e:Int)),mp.1 ((gI g.2 ↑e).1)))) (bm ((gI ((aa g).1) (e:Int)),mp.1 ((gI g.2 ↑e).1)) fj (aX dg U3 ah) ah rfl m505.mp rfl rfl) (xp 3 rfl (λw=>aG (m:=sn ((gI ((aa g).1) (e:Int)),mp.1 ((gI g.2 ↑e).1))) (n:=1) rfl rfl (by(omega))) (bw 6 rfl (by kernel_rfl) rfl (bG rfl m505 rfl rfl ?_)))))
     intro w507 ch508 m509
     clear m505
     refine c6 (by kernel_rfl) ?_
     have C510:=cg [7] (ch493.n.seq ((ch504.l rfl).seq (ch508.l rfl)))
     exact mid (g136) _ _ ⟨bH.ca C510,zs2,zs4,zs5,zs8,zs9,zs10,zs46,zs47,zs48,zs53,zs54,Rg.ca C510,bx10.ca C510,o17.ca C510,o19.ca C510,bx29.ca C510,m34.ca C510,bx57.ca C510,o_ed.ca C510,m509⟩
   clear Rg bx10 o17 o19 bx29 m34 m49 bx57 o_ed bx82 bH
   rintro g513 f511 w512 ⟨bH,zs2,zs4,zs5,zs8,zs9,zs10,zs46,zs47,zs48,zs53,zs54,Rg,bx10,o17,o19,bx29,m34,bx57,o_ed,m499⟩
   refine ak (a8 rfl (lx (aG (m:=0) (n:=1) zs54 rfl (by omega)) (mi 1 (ag (bx (ab (a8 rfl (lx (bn (m:=1) (n:=2) rfl rfl) (ag (ab (al rfl rfl ?_)))))))))))
   refine av (ab (ar (ab (a8 rfl (lw (vi ((gI g.2 ↑e).2)) (cE dg ah zs53 rfl (by decide) (by decide) rfl) (ai ((gI g.2 ↑e).2) (ag (ab ?_))))))))
   refine d3 (σ:=Nat×aJ) (λ⟨b518,gq⟩ f w=>bv w0 gq w/\f 2=vp b8 0/\f 4=vp b24 0/\f 5=v32/\f 8=v47/\f 9=vp b52 0/\f 10=vi ↑e/\f 13=vi ((gI g.2 ↑e).2)/\f 14=vp b518 0/\f 46=g_v/\f 47=vi (g.2.length:Int)/\f 48=vi ↑e/\f 53=vg [vi ((gI g.2 ↑e).1),vi ((gI g.2 ↑e).2)]/\f 54=vi 1/\Sl gq (is 0) w g_v g.2/\Bx gq (is 2) w b8 [vi 0,vn]/\Ow gq (is 3) (is 3) w v16 ((aa g).1)/\Ow gq (is 4) (is 4) w v18 (((aa g).2).1)/\Bx gq (is 5) w b24 [v16,v18,vi (((aa g).2).2)]/\Md gq (is 6) w v32 mp.1 mp.2/\Bx gq (is 8) w b52 [vi ((((aa g).2).2)+(List.length (((aa g).2).1):Int)),ed_v]/\Ow gq (is 12) (is 12) w ed_v ed/\Mp gq (is 7) w v47 (λq=>if q=((gI ((aa g).1) (e:Int)),mp.1 ((gI g.2 ↑e).1)) then((sn ((gI ((aa g).1) (e:Int)),mp.1 ((gI g.2 ↑e).1)))+1) else sn q)/\Bx gq (is 10) w b518 [vi (gI ((aa g).1) (e:Int)),vi (mp.1 ((gI g.2 ↑e).2))]) g513 (inl [10]) d6 ?_ ?_
   ·
    intro mid
    intro w515 ch514
    refine ht 0 rfl (bp.refl _ _ _) (λw' hw'=>ad eD rfl rfl zs4 rfl) ?_
    replace bx29:=bx29.cn ch514
    refine ht 1 rfl (bp.refl _ _ _) (λw' hw'=>af ay rfl (bx29.chg hw' (bZ rfl)) rfl) (ht (v:=vi ↑e) 2 rfl (bp.refl _ _ _) (λw' hw'=>au zs10) (ht (v:=v32) 5 rfl (bp.refl _ _ _) (λw' hw'=>au zs5) (ht (v:=vi ((gI g.2 ↑e).2)) 6 rfl (bp.refl _ _ _) (λw' hw'=>au rfl) ?_)))
    refine cD 3 [7,9] (by kernel_rfl) ⟨cA 3 rfl (by kernel_rfl) rfl ?_,cA 7 rfl (by kernel_rfl) rfl ?_,cA 9 rfl (by kernel_rfl) rfl ?_,trivial⟩
    ·
     replace o17:=o17.cn ch514
     refine az (v:=Value.pointer (some (aZ v16 1 (Int.toNat ↑e)))) (ae (α:=Int) (xs:=(aa g).1) (v:=v16) (i:=↑e) bf rfl rfl o17.flat rfl (by omega) (by omega)) ?_
     refine⟨(bp.refl _ _ _),?_⟩
     refine ht 4 rfl (bp.refl _ _ _) (λw' hw'=>aq (v:=v16) (i:=↑e) ah rfl (o17.flat.chg hw' (bZ rfl)) (by omega) (by omega) (by decide) rfl) ?_
     refine cD 7 [9] (by kernel_rfl) ⟨cA 7 rfl (by kernel_rfl) rfl ?_,cA 9 rfl (by kernel_rfl) rfl ?_,trivial⟩
     ·
      replace m34:=m34.cn ch514
      refine az (v:=vi (mp.1 ((gI g.2 ↑e).2))) (bm ((gI g.2 ↑e).2) ir (bS U3) ah rfl m34.mp rfl rfl) ?_
      refine⟨(bp.refl _ _ _),?_⟩
      refine ht (v:=vg [vi (gI ((aa g).1) (e:Int)),vi (mp.1 ((gI g.2 ↑e).2))]) 8 rfl (bp.refl _ _ _) (λw' hw'=>bE (vs:=[(0,vi (gI ((aa g).1) (e:Int))),(1,vi (mp.1 ((gI g.2 ↑e).2)))]) rfl (by kernel_rfl)) (aV 9 rfl (by kernel_rfl) rfl (bI g513 (is 10) (10,0) rfl aU ?_))
      intro g519 w516 b518 ch517 bx520
      replace bx520:Bx g519 (is 10) w516 b518 [vi 0,vi 0]:=bx520
      have hs521:bp (inl [10]) _ _ _ _:=ch517.n
      refine⟨hs521.same,?_⟩
      refine aV 10 rfl (by kernel_rfl) rfl (aI (cs':=[vi (gI ((aa g).1) (e:Int)),vi (mp.1 ((gI g.2 ↑e).2))]) aU rfl rfl bx520 rfl nq (AllOne.all (.cons rfl (.cons rfl .nil))) rfl ?_)
      intro w522 ch523 bx524
      clear bx520
      have hs525:=hs521.seq (ch523.l rfl)
      refine⟨hs525.same,?_⟩
      refine cy (by kernel_rfl) ?_
      have C526:=cg [10] (ch514.n.seq (ch517.n.seq (ch523.l rfl)))
      replace Rg:=Rg.cn ch514
      replace bx10:=bx10.cn ch514
      replace o19:=o19.cn ch514
      replace bx57:=bx57.cn ch514
      replace o_ed:=o_ed.cn ch514
      replace m499:=m499.cn ch514
      exact mid (b518,g519) _ _ ⟨bH.ca C526,zs2,zs4,zs5,zs8,zs9,zs10,rfl,rfl,zs46,zs47,zs48,zs53,rfl,(Rg.ca hs525),(bx10.ca hs525),(o17.ca hs525),(o19.ca hs525),(bx29.ca hs525),(m34.ca hs525),(bx57.ca hs525),(o_ed.ca hs525),(m499.ca hs525),bx524⟩
     ·
      refine bI g513 (is 10) (10,0) rfl aU ?_
      intro g530 w527 b529 ch528 bx531
      replace bx531:Bx g530 (is 10) w527 b529 [vi 0,vi 0]:=bx531
      have hs532:bp (inl [10]) _ _ _ _:=ch528.n
      refine⟨hs532.same,?_⟩
      refine aV 7 rfl (by kernel_rfl) rfl ?_
      replace m34:=m34.cn ch514
      refine az (v:=vi (mp.1 ((gI g.2 ↑e).2))) (bm ((gI g.2 ↑e).2) ir (bS U3) ah rfl (m34.ca hs532).mp rfl rfl) ?_
      refine⟨hs532.same,?_⟩
      refine ht (v:=vg [vi (gI ((aa g).1) (e:Int)),vi (mp.1 ((gI g.2 ↑e).2))]) 8 rfl hs532.same (λw' hw'=>bE (vs:=[(0,vi (gI ((aa g).1) (e:Int))),(1,vi (mp.1 ((gI g.2 ↑e).2)))]) rfl (by kernel_rfl)) (aV 10 rfl (by kernel_rfl) rfl (aI (cs':=[vi (gI ((aa g).1) (e:Int)),vi (mp.1 ((gI g.2 ↑e).2))]) aU rfl rfl bx531 rfl nq (AllOne.all (.cons rfl (.cons rfl .nil))) rfl ?_))
      intro w533 ch534 bx535
      clear bx531
      have hs536:=hs532.seq (ch534.l rfl)
      refine⟨hs536.same,?_⟩
      refine cy (by kernel_rfl) ?_
      have C537:=cg [10] (ch514.n.seq (ch528.n.seq (ch534.l rfl)))
      replace Rg:=Rg.cn ch514
      replace bx10:=bx10.cn ch514
      replace o19:=o19.cn ch514
      replace bx57:=bx57.cn ch514
      replace o_ed:=o_ed.cn ch514
      replace m499:=m499.cn ch514
      exact mid (b529,g530) _ _ ⟨bH.ca C537,zs2,zs4,zs5,zs8,zs9,zs10,rfl,rfl,zs46,zs47,zs48,zs53,rfl,(Rg.ca hs536),(bx10.ca hs536),(o17.ca hs536),(o19.ca hs536),(bx29.ca hs536),(m34.ca hs536),(bx57.ca hs536),(o_ed.ca hs536),(m499.ca hs536),bx535⟩
    ·
     replace m34:=m34.cn ch514
     refine az (v:=vi (mp.1 ((gI g.2 ↑e).2))) (bm ((gI g.2 ↑e).2) ir (bS U3) ah rfl m34.mp rfl rfl) ?_
     refine⟨(bp.refl _ _ _),?_⟩
     refine cD 3 [9] (by kernel_rfl) ⟨cA 3 rfl (by kernel_rfl) rfl ?_,cA 9 rfl (by kernel_rfl) rfl ?_,trivial⟩
     ·
      replace o17:=o17.cn ch514
      refine az (v:=Value.pointer (some (aZ v16 1 (Int.toNat ↑e)))) (ae (α:=Int) (xs:=(aa g).1) (v:=v16) (i:=↑e) bf rfl rfl o17.flat rfl (by omega) (by omega)) ?_
      refine⟨(bp.refl _ _ _),?_⟩
      refine ht 4 rfl (bp.refl _ _ _) (λw' hw'=>aq (v:=v16) (i:=↑e) ah rfl (o17.flat.chg hw' (bZ rfl)) (by omega) (by omega) (by decide) rfl) (ht (v:=vg [vi (gI ((aa g).1) (e:Int)),vi (mp.1 ((gI g.2 ↑e).2))]) 8 rfl (bp.refl _ _ _) (λw' hw'=>bE (vs:=[(0,vi (gI ((aa g).1) (e:Int))),(1,vi (mp.1 ((gI g.2 ↑e).2)))]) rfl (by kernel_rfl)) (aV 9 rfl (by kernel_rfl) rfl (bI g513 (is 10) (10,0) rfl aU ?_)))
      intro g541 w538 b540 ch539 bx542
      replace bx542:Bx g541 (is 10) w538 b540 [vi 0,vi 0]:=bx542
      have hs543:bp (inl [10]) _ _ _ _:=ch539.n
      refine⟨hs543.same,?_⟩
      refine aV 10 rfl (by kernel_rfl) rfl (aI (cs':=[vi (gI ((aa g).1) (e:Int)),vi (mp.1 ((gI g.2 ↑e).2))]) aU rfl rfl bx542 rfl nq (AllOne.all (.cons rfl (.cons rfl .nil))) rfl ?_)
      intro w544 ch545 bx546
      clear bx542
      have hs547:=hs543.seq (ch545.l rfl)
      refine⟨hs547.same,?_⟩
      refine cy (by kernel_rfl) ?_
      have C548:=cg [10] (ch514.n.seq (ch539.n.seq (ch545.l rfl)))
      replace Rg:=Rg.cn ch514
      replace bx10:=bx10.cn ch514
      replace o19:=o19.cn ch514
      replace bx57:=bx57.cn ch514
      replace o_ed:=o_ed.cn ch514
      replace m499:=m499.cn ch514
      exact mid (b540,g541) _ _ ⟨bH.ca C548,zs2,zs4,zs5,zs8,zs9,zs10,rfl,rfl,zs46,zs47,zs48,zs53,rfl,(Rg.ca hs547),(bx10.ca hs547),(o17.ca hs547),(o19.ca hs547),(bx29.ca hs547),(m34.ca hs547),(bx57.ca hs547),(o_ed.ca hs547),(m499.ca hs547),bx546⟩
     ·
      refine bI g513 (is 10) (10,0) rfl aU ?_
      intro g552 w549 b551 ch550 bx553
      replace bx553:Bx g552 (is 10) w549 b551 [vi 0,vi 0]:=bx553
      have hs554:bp (inl [10]) _ _ _ _:=ch550.n
      refine⟨hs554.same,?_⟩
      refine aV 3 rfl (by kernel_rfl) rfl ?_
      replace o17:=o17.cn ch514
      refine az (v:=Value.pointer (some (aZ v16 1 (Int.toNat ↑e)))) (ae (α:=Int) (xs:=(aa g).1) (v:=v16) (i:=↑e) bf rfl rfl (o17.ca hs554).flat rfl (by omega) (by omega)) ?_
      refine⟨hs554.same,?_⟩
      refine ht 4 rfl hs554.same (λw' hw'=>aq (v:=v16) (i:=↑e) ah rfl (o17.flat.chg hw' (bZ rfl)) (by omega) (by omega) (by decide) rfl) (ht (v:=vg [vi (gI ((aa g).1) (e:Int)),vi (mp.1 ((gI g.2 ↑e).2))]) 8 rfl hs554.same (λw' hw'=>bE (vs:=[(0,vi (gI ((aa g).1) (e:Int))),(1,vi (mp.1 ((gI g.2 ↑e).2)))]) rfl (by kernel_rfl)) (aV 10 rfl (by kernel_rfl) rfl (aI (cs':=[vi (gI ((aa g).1) (e:Int)),vi (mp.1 ((gI g.2 ↑e).2))]) aU rfl rfl bx553 rfl nq (AllOne.all (.cons rfl (.cons rfl .nil))) rfl ?_)))
      intro w555 ch556 bx557
      clear bx553
      have hs558:=hs554.seq (ch556.l rfl)
      refine⟨hs558.same,?_⟩
      refine cy (by kernel_rfl) ?_
      have C559:=cg [10] (ch514.n.seq (ch550.n.seq (ch556.l rfl)))
      replace Rg:=Rg.cn ch514
      replace bx10:=bx10.cn ch514
      replace o19:=o19.cn ch514
      replace bx57:=bx57.cn ch514
      replace o_ed:=o_ed.cn ch514
      replace m499:=m499.cn ch514
      exact mid (b551,g552) _ _ ⟨bH.ca C559,zs2,zs4,zs5,zs8,zs9,zs10,rfl,rfl,zs46,zs47,zs48,zs53,rfl,(Rg.ca hs558),(bx10.ca hs558),(o17.ca hs558),(o19.ca hs558),(bx29.ca hs558),(m34.ca hs558),(bx57.ca hs558),(o_ed.ca hs558),(m499.ca hs558),bx557⟩
    ·
     refine bI g513 (is 10) (10,0) rfl aU ?_
     intro g563 w560 b562 ch561 bx564
     replace bx564:Bx g563 (is 10) w560 b562 [vi 0,vi 0]:=bx564
     have hs565:bp (inl [10]) _ _ _ _:=ch561.n
     refine⟨hs565.same,?_⟩
     refine cD 3 [7] (by kernel_rfl) ⟨cA 3 rfl (by kernel_rfl) rfl ?_,cA 7 rfl (by kernel_rfl) rfl ?_,trivial⟩
     ·
      replace o17:=o17.cn ch514
      refine az (v:=Value.pointer (some (aZ v16 1 (Int.toNat ↑e)))) (ae (α:=Int) (xs:=(aa g).1) (v:=v16) (i:=↑e) bf rfl rfl (o17.ca hs565).flat rfl (by omega) (by omega)) ?_
      refine⟨hs565.same,?_⟩
      refine ht 4 rfl hs565.same (λw' hw'=>aq (v:=v16) (i:=↑e) ah rfl (o17.flat.chg hw' (bZ rfl)) (by omega) (by omega) (by decide) rfl) (aV 7 rfl (by kernel_rfl) rfl ?_)
      replace m34:=m34.cn ch514
      refine az (v:=vi (mp.1 ((gI g.2 ↑e).2))) (bm ((gI g.2 ↑e).2) ir (bS U3) ah rfl (m34.ca hs565).mp rfl rfl) ?_
      refine⟨hs565.same,?_⟩
      refine ht (v:=vg [vi (gI ((aa g).1) (e:Int)),vi (mp.1 ((gI g.2 ↑e).2))]) 8 rfl hs565.same (λw' hw'=>bE (vs:=[(0,vi (gI ((aa g).1) (e:Int))),(1,vi (mp.1 ((gI g.2 ↑e).2)))]) rfl (by kernel_rfl)) (aV 10 rfl (by kernel_rfl) rfl (aI (cs':=[vi (gI ((aa g).1) (e:Int)),vi (mp.1 ((gI g.2 ↑e).2))]) aU rfl rfl bx564 rfl nq (AllOne.all (.cons rfl (.cons rfl .nil))) rfl ?_))
      intro w566 ch567 bx568
      clear bx564
      have hs569:=hs565.seq (ch567.l rfl)
      refine⟨hs569.same,?_⟩
      refine cy (by kernel_rfl) ?_
      have C570:=cg [10] (ch514.n.seq (ch561.n.seq (ch567.l rfl)))
      replace Rg:=Rg.cn ch514
      replace bx10:=bx10.cn ch514
      replace o19:=o19.cn ch514
      replace bx57:=bx57.cn ch514
      replace o_ed:=o_ed.cn ch514
      replace m499:=m499.cn ch514
      exact mid (b562,g563) _ _ ⟨bH.ca C570,zs2,zs4,zs5,zs8,zs9,zs10,rfl,rfl,zs46,zs47,zs48,zs53,rfl,(Rg.ca hs569),(bx10.ca hs569),(o17.ca hs569),(o19.ca hs569),(bx29.ca hs569),(m34.ca hs569),(bx57.ca hs569),(o_ed.ca hs569),(m499.ca hs569),bx568⟩
     ·
      replace m34:=m34.cn ch514
      refine az (v:=vi (mp.1 ((gI g.2 ↑e).2))) (bm ((gI g.2 ↑e).2) ir (bS U3) ah rfl (m34.ca hs565).mp rfl rfl) ?_
      refine⟨hs565.same,?_⟩
      refine aV 3 rfl (by kernel_rfl) rfl ?_
      replace o17:=o17.cn ch514
      refine az (v:=Value.pointer (some (aZ v16 1 (Int.toNat ↑e)))) (ae (α:=Int) (xs:=(aa g).1) (v:=v16) (i:=↑e) bf rfl rfl (o17.ca hs565).flat rfl (by omega) (by omega)) ?_
      refine⟨hs565.same,?_⟩
      refine ht 4 rfl hs565.same (λw' hw'=>aq (v:=v16) (i:=↑e) ah rfl (o17.flat.chg hw' (bZ rfl)) (by omega) (by omega) (by decide) rfl) (ht (v:=vg [vi (gI ((aa g).1) (e:Int)),vi (mp.1 ((gI g.2 ↑e).2))]) 8 rfl hs565.same (λw' hw'=>bE (vs:=[(0,vi (gI ((aa g).1) (e:Int))),(1,vi (mp.1 ((gI g.2 ↑e).2)))]) rfl (by kernel_rfl)) (aV 10 rfl (by kernel_rfl) rfl (aI (cs':=[vi (gI ((aa g).1) (e:Int)),vi (mp.1 ((gI g.2 ↑e).2))]) aU rfl rfl bx564 rfl nq (AllOne.all (.cons rfl (.cons rfl .nil))) rfl ?_)))
      intro w571 ch572 bx573
      clear bx564
      have hs574:=hs565.seq (ch572.l rfl)
      refine⟨hs574.same,?_⟩
      refine cy (by kernel_rfl) ?_
      have C575:=cg [10] (ch514.n.seq (ch561.n.seq (ch572.l rfl)))
      replace Rg:=Rg.cn ch514
      replace bx10:=bx10.cn ch514
      replace o19:=o19.cn ch514
      replace bx57:=bx57.cn ch514
      replace o_ed:=o_ed.cn ch514
      replace m499:=m499.cn ch514
      exact mid (b562,g563) _ _ ⟨bH.ca C575,zs2,zs4,zs5,zs8,zs9,zs10,rfl,rfl,zs46,zs47,zs48,zs53,rfl,(Rg.ca hs574),(bx10.ca hs574),(o17.ca hs574),(o19.ca hs574),(bx29.ca hs574),(m34.ca hs574),(bx57.ca hs574),(o_ed.ca hs574),(m499.ca hs574),bx573⟩
   clear Rg bx10 o17 o19 bx29 m34 bx57 o_ed m499 bH
   rintro⟨b518,g578⟩ f576 w577 ⟨bH,zs2,zs4,zs5,zs8,zs9,zs10,zs13,zs14,zs46,zs47,zs48,zs53,zs54,Rg,bx10,o17,o19,bx29,m34,bx57,o_ed,m499,bx524⟩
   refine ab (ab (a8 rfl (mz zs5 (mz zs13 (lw (vi (mp.1 ((gI g.2 ↑e).2))) (bm ((gI g.2 ↑e).2) ir (bS U3) ah rfl m34.mp rfl rfl) (lx (e7 (m:=mp.1 ((gI g.2 ↑e).2)) (n:=0) rfl rfl) (mv (vb (decide (0<(mp.1 ((gI g.2 ↑e).2))))) ?_)))))))
   by_cases q70_579:0<(mp.1 ((gI g.2 ↑e).2))
   ·
    refine lv (v47) (wy (dt q70_579)) (au zs8) (lv (vg [vi (gI ((aa g).1) (e:Int)),vi (mp.1 ((gI g.2 ↑e).2))]) (wy (dt q70_579)) (aB (ds:=[vi (gI ((aa g).1) (e:Int)),vi (mp.1 ((gI g.2 ↑e).2))]) aU zs14 bx524 rfl rfl) ?_)
    refine lv (vi ((λq=>if q=((gI ((aa g).1) (e:Int)),mp.1 ((gI g.2 ↑e).1)) then((sn ((gI ((aa g).1) (e:Int)),mp.1 ((gI g.2 ↑e).1)))+1) else sn q) ((gI ((aa g).1) (e:Int)),mp.1 ((gI g.2 ↑e).2)))) (wy (dt q70_579)) (bm (F:=(λq=>if q=((gI ((aa g).1) (e:Int)),mp.1 ((gI g.2 ↑e).1)) then((sn ((gI ((aa g).1) (e:Int)),mp.1 ((gI g.2 ↑e).1)))+1) else sn q)) ((gI ((aa g).1) (e:Int)),mp.1 ((gI g.2 ↑e).2)) fj (aX dg U3 ah) ah rfl m499 rfl rfl) ?_
    refine lv (vb (decide (((λq=>if q=((gI ((aa g).1) (e:Int)),mp.1 ((gI g.2 ↑e).1)) then((sn ((gI ((aa g).1) (e:Int)),mp.1 ((gI g.2 ↑e).1)))+1) else sn q) ((gI ((aa g).1) (e:Int)),mp.1 ((gI g.2 ↑e).2)))=0))) (wy (dt q70_579)) (cH (m:=(λq=>if q=((gI ((aa g).1) (e:Int)),mp.1 ((gI g.2 ↑e).1)) then((sn ((gI ((aa g).1) (e:Int)),mp.1 ((gI g.2 ↑e).1)))+1) else sn q) ((gI ((aa g).1) (e:Int)),mp.1 ((gI g.2 ↑e).2))) (n:=0) rfl rfl) (lw (vb (decide (((λq=>if q=((gI ((aa g).1) (e:Int)),mp.1 ((gI g.2 ↑e).1)) then((sn ((gI ((aa g).1) (e:Int)),mp.1 ((gI g.2 ↑e).1)))+1) else sn q) ((gI ((aa g).1) (e:Int)),mp.1 ((gI g.2 ↑e).2)))=0))) (b5 rfl (dt q70_579) rfl) (ag ?_))
    by_cases p19:((λq=>if q=((gI ((aa g).1) (e:Int)),mp.1 ((gI g.2 ↑e).1)) then((sn ((gI ((aa g).1) (e:Int)),mp.1 ((gI g.2 ↑e).1)))+1) else sn q) ((gI ((aa g).1) (e:Int)),mp.1 ((gI g.2 ↑e).2)))=0
    ·
     refine al rfl (dt p19) (a8 rfl (lx (ad cZ rfl rfl zs9 rfl) (lx (af bC rfl bx57 rfl) (lx (aB (ds:=[vi (gI ((aa g).1) (e:Int)),vi (mp.1 ((gI g.2 ↑e).2))]) aU zs14 bx524 rfl rfl) (lo (aM (α:=Pt) g578 (is 11) (is 11) (11,0) rfl [((gI ((aa g).1) (e:Int)),mp.1 ((gI g.2 ↑e).2))] dD aU (by decide) (by decide) (vs:=[(0,vg [vi (gI ((aa g).1) (e:Int)),vi (mp.1 ((gI g.2 ↑e).2))])]) rfl rfl (.cons rfl .nil) ?_))))))
     intro g580 w581 v582 ch583 o584
     refine lo ?_
     replace o_ed:=o_ed.cn ch583
     refine bD (α:=Pt) (xs:=ed) (ys:=([((gI ((aa g).1) (e:Int)),mp.1 ((gI g.2 ↑e).2))])) g580 (J:=is 12) (S:=is 12) (12,0) rfl dD aU (by decide) rfl rfl rfl o_ed o584.flat (by decide) (by(simp;omega)) ?_
     intro g585 w586 v587 ch588 o589
     clear o_ed
     refine lx (ad cZ rfl rfl zs9 rfl) (lo ?_)
     replace bx57:=(bx57.cn ch583).ce ch588
     refine cj (cs':=[vi ((((aa g).2).2)+(List.length (((aa g).2).1):Int)),v587]) bC rfl rfl bx57 (cd o589.flat) nq (bQ o589.flat) rfl ?_
     intro w590 ch591 bx592
     clear bx57
     refine ag ?_
     clear o584
     refine cX (σ:=aJ) (λgq f w=>bv w0 gq w/\f 2=vp b8 0/\f 4=vp b24 0/\f 5=v32/\f 8=v47/\f 9=vp b52 0/\f 10=vi ↑e/\f 46=g_v/\f 47=vi (g.2.length:Int)/\f 48=vi ↑e/\f 53=vg [vi ((gI g.2 ↑e).1),vi ((gI g.2 ↑e).2)]/\f 54=vi 1/\Sl gq (is 0) w g_v g.2/\Bx gq (is 2) w b8 [vi 0,vn]/\Ow gq (is 3) (is 3) w v16 ((aa g).1)/\Ow gq (is 4) (is 4) w v18 (((aa g).2).1)/\Bx gq (is 5) w b24 [v16,v18,vi (((aa g).2).2)]/\Md gq (is 6) w v32 mp.1 mp.2/\Ow gq (is 12) (is 12) w v587 (ed++[((gI ((aa g).1) (e:Int)),mp.1 ((gI g.2 ↑e).2))])/\Bx gq (is 8) w b52 [vi ((((aa g).2).2)+(List.length (((aa g).2).1):Int)),v587]/\Mp gq (is 7) w v47 (λq=>if q=((gI ((aa g).1) (e:Int)),mp.1 ((gI g.2 ↑e).2)) then(((λq=>if q=((gI ((aa g).1) (e:Int)),mp.1 ((gI g.2 ↑e).1)) then((sn ((gI ((aa g).1) (e:Int)),mp.1 ((gI g.2 ↑e).1)))+1) else sn q) ((gI ((aa g).1) (e:Int)),mp.1 ((gI g.2 ↑e).2)))+1) else(λq=>if q=((gI ((aa g).1) (e:Int)),mp.1 ((gI g.2 ↑e).1)) then((sn ((gI ((aa g).1) (e:Int)),mp.1 ((gI g.2 ↑e).1)))+1) else sn q) q)) g585 [0,1,3,5] d6 ?_ ?_
     ·
      intro mid
      intro w594 ch593
      refine xp (v:=v47) 0 rfl (λw=>au zs8) ?_
      have C595:=cg [8,12] (ch583.n.seq ((ch588.l rfl).seq ((ch591.l rfl).seq ch593.n)))
      replace bx524:=bx524.ca C595
      refine xv 1 [0] rfl (aB (ds:=[vi (gI ((aa g).1) (e:Int)),vi (mp.1 ((gI g.2 ↑e).2))]) aU zs14 bx524 rfl rfl) ?_
      refine fV 2 4 rfl rfl (by kernel_rfl) rfl rfl ?_ ?_
      ·
       replace m499:=m499.ca C595
       refine az (v:=vi ((λq=>if q=((gI ((aa g).1) (e:Int)),mp.1 ((gI g.2 ↑e).1)) then((sn ((gI ((aa g).1) (e:Int)),mp.1 ((gI g.2 ↑e).1)))+1) else sn q) ((gI ((aa g).1) (e:Int)),mp.1 ((gI g.2 ↑e).2)))) (bm (F:=(λq=>if q=((gI ((aa g).1) (e:Int)),mp.1 ((gI g.2 ↑e).1)) then((sn ((gI ((aa g).1) (e:Int)),mp.1 ((gI g.2 ↑e).1)))+1) else sn q)) ((gI ((aa g).1) (e:Int)),mp.1 ((gI g.2 ↑e).2)) fj (aX dg U3 ah) ah rfl m499 rfl rfl) ?_
       refine xp 3 rfl (λw=>aG (m:=(λq=>if q=((gI ((aa g).1) (e:Int)),mp.1 ((gI g.2 ↑e).1)) then((sn ((gI ((aa g).1) (e:Int)),mp.1 ((gI g.2 ↑e).1)))+1) else sn q) ((gI ((aa g).1) (e:Int)),mp.1 ((gI g.2 ↑e).2))) (n:=1) rfl rfl (by(omega))) (bw 4 rfl (by kernel_rfl) rfl (bU (F:=(λq=>if q=((gI ((aa g).1) (e:Int)),mp.1 ((gI g.2 ↑e).1)) then((sn ((gI ((aa g).1) (e:Int)),mp.1 ((gI g.2 ↑e).1)))+1) else sn q)) ((gI ((aa g).1) (e:Int)),mp.1 ((gI g.2 ↑e).2)) fj (aX dg U3 ah) ah rfl m499 rfl rfl ?_))
       intro w596 s599 ch597 m598
       clear m499
       refine xp 5 rfl (λw=>aR rfl rfl) (bw 6 rfl (by kernel_rfl) rfl (bG rfl m598 rfl rfl ?_))
       intro w600 ch601 m602
       clear m598
       refine c6 (by kernel_rfl) ?_
       have C603:=cg [7,8,12] (ch583.n.seq ((ch588.l rfl).seq ((ch591.l rfl).seq (ch593.n.seq ((ch597.l rfl).seq (ch601.l rfl))))))
       have C604:=cg [7,8] ((ch591.l rfl).seq (ch593.n.seq ((ch597.l rfl).seq (ch601.l rfl))))
       have C605:=cg [7] (ch593.n.seq ((ch597.l rfl).seq (ch601.l rfl)))
       exact mid (g585) _ _ ⟨bH.ca C603,zs2,zs4,zs5,zs8,zs9,zs10,zs46,zs47,zs48,zs53,zs54,Rg.ca C603,bx10.ca C603,o17.ca C603,o19.ca C603,bx29.ca C603,m34.ca C603,o589.ca C604,bx592.ca C605,m602⟩
      ·
       replace m499:=m499.ca C595
       refine bU (F:=(λq=>if q=((gI ((aa g).1) (e:Int)),mp.1 ((gI g.2 ↑e).1)) then((sn ((gI ((aa g).1) (e:Int)),mp.1 ((gI g.2 ↑e).1)))+1) else sn q)) ((gI ((aa g).1) (e:Int)),mp.1 ((gI g.2 ↑e).2)) fj (aX dg U3 ah) ah rfl m499 rfl rfl ?_
       intro w606 s609 ch607 m608
       clear m499
       refine xp 5 rfl (λw=>aR rfl rfl) (bw 2 rfl (by kernel_rfl) rfl (az (v:=vi ((λq=>if q=((gI ((aa g).1) (e:Int)),mp.1 ((gI g.2 ↑e).1)) then((sn ((gI ((aa g).1) (e:Int)),mp.1 ((gI g.2 ↑e).1)))+1) else sn q) ((gI ((aa g).1) (e:Int)),mp.1 ((gI g.2 ↑e).2)))) (bm (F:=(λq=>if q=((gI ((aa g).1) (e:Int)),mp.1 ((gI g.2 ↑e).1)) then((sn ((gI ((aa g).1) (e:Int)),mp.1 ((gI g.2 ↑e).1)))+1) else sn q)) ((gI ((aa g).1) (e:Int)),mp.1 ((gI g.2 ↑e).2)) fj (aX dg U3 ah) ah rfl m608.mp rfl rfl) ?_))
       refine xp 3 rfl (λw=>aG (m:=(λq=>if q=((gI ((aa g).1) (e:Int)),mp.1 ((gI g.2 ↑e).1)) then((sn ((gI ((aa g).1) (e:Int)),mp.1 ((gI g.2 ↑e).1)))+1) else sn q) ((gI ((aa g).1) (e:Int)),mp.1 ((gI g.2 ↑e).2))) (n:=1) rfl rfl (by(omega))) (bw 6 rfl (by kernel_rfl) rfl (bG rfl m608 rfl rfl ?_))
       intro w610 ch611 m612
       clear m608
       refine c6 (by kernel_rfl) ?_
       have C613:=cg [7,8,12] (ch583.n.seq ((ch588.l rfl).seq ((ch591.l rfl).seq (ch593.n.seq ((ch607.l rfl).seq (ch611.l rfl))))))
       have C614:=cg [7,8] ((ch591.l rfl).seq (ch593.n.seq ((ch607.l rfl).seq (ch611.l rfl))))
       have C615:=cg [7] (ch593.n.seq ((ch607.l rfl).seq (ch611.l rfl)))
       exact mid (g585) _ _ ⟨bH.ca C613,zs2,zs4,zs5,zs8,zs9,zs10,zs46,zs47,zs48,zs53,zs54,Rg.ca C613,bx10.ca C613,o17.ca C613,o19.ca C613,bx29.ca C613,m34.ca C613,o589.ca C614,bx592.ca C615,m612⟩
     clear Rg bx10 o17 o19 bx29 m34 m499 bx524 o589 bx592 bH
     rintro g618 f616 w617 ⟨bH,zs2,zs4,zs5,zs8,zs9,zs10,zs46,zs47,zs48,zs53,zs54,Rg,bx10,o17,o19,bx29,m34,o589,bx592,m600⟩
     refine ak (a8 rfl (lx (aG (m:=1) (n:=1) zs54 rfl (by omega)) (mi 2 (ag (bx (ab (a8 rfl (lx (bn (m:=2) (n:=2) rfl rfl) (ag (ab (aj rfl rfl ?_)))))))))))
     refine aF rfl (ak (a8 rfl (lx (aG (m:=↑e) (n:=1) zs48 rfl (by omega)) (mi ((e:Int)+1) (ag ?_)))))
     refine back13 (v587,(ed++[((gI ((aa g).1) (e:Int)),mp.1 ((gI g.2 ↑e).2))]),e+1,(λq=>if q=((gI ((aa g).1) (e:Int)),mp.1 ((gI g.2 ↑e).2)) then(((λq=>if q=((gI ((aa g).1) (e:Int)),mp.1 ((gI g.2 ↑e).1)) then((sn ((gI ((aa g).1) (e:Int)),mp.1 ((gI g.2 ↑e).1)))+1) else sn q) ((gI ((aa g).1) (e:Int)),mp.1 ((gI g.2 ↑e).2)))+1) else(λq=>if q=((gI ((aa g).1) (e:Int)),mp.1 ((gI g.2 ↑e).1)) then((sn ((gI ((aa g).1) (e:Int)),mp.1 ((gI g.2 ↑e).1)))+1) else sn q) q),g618) _ _ ⟨bH,zs2,zs4,zs5,zs8,zs9,zs46,zs47,rfl,Rg,bx10,o17,o19,bx29,m34,m600,bx592,o589,by omega,?_⟩ ?_
     · show gj g mp.1 (ed++[((gI ((aa g).1) (e:Int)),mp.1 ((gI g.2 ↑e).2))]) (λq=>if q=((gI ((aa g).1) (e:Int)),mp.1 ((gI g.2 ↑e).2)) then(((λq=>if q=((gI ((aa g).1) (e:Int)),mp.1 ((gI g.2 ↑e).1)) then((sn ((gI ((aa g).1) (e:Int)),mp.1 ((gI g.2 ↑e).1)))+1) else sn q) ((gI ((aa g).1) (e:Int)),mp.1 ((gI g.2 ↑e).2)))+1) else(λq=>if q=((gI ((aa g).1) (e:Int)),mp.1 ((gI g.2 ↑e).1)) then((sn ((gI ((aa g).1) (e:Int)),mp.1 ((gI g.2 ↑e).1)))+1) else sn q) q) (2*(e+1))
       exact hut.two rfl rfl rfl rfl rfl rfl (by(exact jj ‹_›)) (by(exact lm ‹_› ‹_›))
     · show Int.toNat (((g.2.length:Int):Int)-((e+1):Int))<Int.toNat (((g.2.length:Int):Int)-(e:Int))
       omega
    refine aj rfl (df p19) (av ?_)
    refine cX (σ:=aJ) (λgq f w=>bv w0 gq w/\f 2=vp b8 0/\f 4=vp b24 0/\f 5=v32/\f 8=v47/\f 9=vp b52 0/\f 10=vi ↑e/\f 46=g_v/\f 47=vi (g.2.length:Int)/\f 48=vi ↑e/\f 53=vg [vi ((gI g.2 ↑e).1),vi ((gI g.2 ↑e).2)]/\f 54=vi 1/\Sl gq (is 0) w g_v g.2/\Bx gq (is 2) w b8 [vi 0,vn]/\Ow gq (is 3) (is 3) w v16 ((aa g).1)/\Ow gq (is 4) (is 4) w v18 (((aa g).2).1)/\Bx gq (is 5) w b24 [v16,v18,vi (((aa g).2).2)]/\Md gq (is 6) w v32 mp.1 mp.2/\Bx gq (is 8) w b52 [vi ((((aa g).2).2)+(List.length (((aa g).2).1):Int)),ed_v]/\Ow gq (is 12) (is 12) w ed_v ed/\Mp gq (is 7) w v47 (λq=>if q=((gI ((aa g).1) (e:Int)),mp.1 ((gI g.2 ↑e).2)) then(((λq=>if q=((gI ((aa g).1) (e:Int)),mp.1 ((gI g.2 ↑e).1)) then((sn ((gI ((aa g).1) (e:Int)),mp.1 ((gI g.2 ↑e).1)))+1) else sn q) ((gI ((aa g).1) (e:Int)),mp.1 ((gI g.2 ↑e).2)))+1) else(λq=>if q=((gI ((aa g).1) (e:Int)),mp.1 ((gI g.2 ↑e).1)) then((sn ((gI ((aa g).1) (e:Int)),mp.1 ((gI g.2 ↑e).1)))+1) else sn q) q)) g578 [0,1,3,5] d6 ?_ ?_
    ·
     intro mid
     intro w620 ch619
     refine xp (v:=v47) 0 rfl (λw=>au zs8) ?_
     replace bx524:=bx524.cn ch619
     refine xv 1 [0] rfl (aB (ds:=[vi (gI ((aa g).1) (e:Int)),vi (mp.1 ((gI g.2 ↑e).2))]) aU zs14 bx524 rfl rfl) ?_
     refine fV 2 4 rfl rfl (by kernel_rfl) rfl rfl ?_ ?_
     ·
      replace m499:=m499.cn ch619
      refine az (v:=vi ((λq=>if q=((gI ((aa g).1) (e:Int)),mp.1 ((gI g.2 ↑e).1)) then((sn ((gI ((aa g).1) (e:Int)),mp.1 ((gI g.2 ↑e).1)))+1) else sn q) ((gI ((aa g).1) (e:Int)),mp.1 ((gI g.2 ↑e).2)))) (bm (F:=(λq=>if q=((gI ((aa g).1) (e:Int)),mp.1 ((gI g.2 ↑e).1)) then((sn ((gI ((aa g).1) (e:Int)),mp.1 ((gI g.2 ↑e).1)))+1) else sn q)) ((gI ((aa g).1) (e:Int)),mp.1 ((gI g.2 ↑e).2)) fj (aX dg U3 ah) ah rfl m499 rfl rfl) ?_
      refine xp 3 rfl (λw=>aG (m:=(λq=>if q=((gI ((aa g).1) (e:Int)),mp.1 ((gI g.2 ↑e).1)) then((sn ((gI ((aa g).1) (e:Int)),mp.1 ((gI g.2 ↑e).1)))+1) else sn q) ((gI ((aa g).1) (e:Int)),mp.1 ((gI g.2 ↑e).2))) (n:=1) rfl rfl (by((dsimp only;split<;>omega)))) (bw 4 rfl (by kernel_rfl) rfl (bU (F:=(λq=>if q=((gI ((aa g).1) (e:Int)),mp.1 ((gI g.2 ↑e).1)) then((sn ((gI ((aa g).1) (e:Int)),mp.1 ((gI g.2 ↑e).1)))+1) else sn q)) ((gI ((aa g).1) (e:Int)),mp.1 ((gI g.2 ↑e).2)) fj (aX dg U3 ah) ah rfl m499 rfl rfl ?_))
      intro w621 s624 ch622 m623
      clear m499
      refine xp 5 rfl (λw=>aR rfl rfl) (bw 6 rfl (by kernel_rfl) rfl (bG rfl m623 rfl rfl ?_))
      intro w625 ch626 m627
      clear m623
      refine c6 (by kernel_rfl) ?_
      have C628:=cg [7] (ch619.n.seq ((ch622.l rfl).seq (ch626.l rfl)))
      exact mid (g578) _ _ ⟨bH.ca C628,zs2,zs4,zs5,zs8,zs9,zs10,zs46,zs47,zs48,zs53,zs54,Rg.ca C628,bx10.ca C628,o17.ca C628,o19.ca C628,bx29.ca C628,m34.ca C628,bx57.ca C628,o_ed.ca C628,m627⟩
     ·
      replace m499:=m499.cn ch619
      refine bU (F:=(λq=>if q=((gI ((aa g).1) (e:Int)),mp.1 ((gI g.2 ↑e).1)) then((sn ((gI ((aa g).1) (e:Int)),mp.1 ((gI g.2 ↑e).1)))+1) else sn q)) ((gI ((aa g).1) (e:Int)),mp.1 ((gI g.2 ↑e).2)) fj (aX dg U3 ah) ah rfl m499 rfl rfl ?_
      intro w629 s632 ch630 m631
      clear m499
      refine xp 5 rfl (λw=>aR rfl rfl) (bw 2 rfl (by kernel_rfl) rfl (az (v:=vi ((λq=>if q=((gI ((aa g).1) (e:Int)),mp.1 ((gI g.2 ↑e).1)) then((sn ((gI ((aa g).1) (e:Int)),mp.1 ((gI g.2 ↑e).1)))+1) else sn q) ((gI ((aa g).1) (e:Int)),mp.1 ((gI g.2 ↑e).2)))) (bm (F:=(λq=>if q=((gI ((aa g).1) (e:Int)),mp.1 ((gI g.2 ↑e).1)) then((sn ((gI ((aa g).1) (e:Int)),mp.1 ((gI g.2 ↑e).1)))+1) else sn q)) ((gI ((aa g).1) (e:Int)),mp.1 ((gI g.2 ↑e).2)) fj (aX dg U3 ah) ah rfl m631.mp rfl rfl) ?_))
      refine xp 3 rfl (λw=>aG (m:=(λq=>if q=((gI ((aa g).1) (e:Int)),mp.1 ((gI g.2 ↑e).1)) then((sn ((gI ((aa g).1) (e:Int)),mp.1 ((gI g.2 ↑e).1)))+1) else sn q) ((gI ((aa g).1) (e:Int)),mp.1 ((gI g.2 ↑e).2))) (n:=1) rfl rfl (by((dsimp only;split<;>omega)))) (bw 6 rfl (by kernel_rfl) rfl (bG rfl m631 rfl rfl ?_))
      intro w633 ch634 m635
      clear m631
      refine c6 (by kernel_rfl) ?_
      have C636:=cg [7] (ch619.n.seq ((ch630.l rfl).seq (ch634.l rfl)))
      exact mid (g578) _ _ ⟨bH.ca C636,zs2,zs4,zs5,zs8,zs9,zs10,zs46,zs47,zs48,zs53,zs54,Rg.ca C636,bx10.ca C636,o17.ca C636,o19.ca C636,bx29.ca C636,m34.ca C636,bx57.ca C636,o_ed.ca C636,m635⟩
    clear Rg bx10 o17 o19 bx29 m34 bx57 o_ed m499 bx524 bH
    rintro g639 f637 w638 ⟨bH,zs2,zs4,zs5,zs8,zs9,zs10,zs46,zs47,zs48,zs53,zs54,Rg,bx10,o17,o19,bx29,m34,bx57,o_ed,m625⟩
    refine ak (a8 rfl (lx (aG (m:=1) (n:=1) zs54 rfl (by omega)) (mi 2 (ag (bx (ab (a8 rfl (lx (bn (m:=2) (n:=2) rfl rfl) (ag (ab (aj rfl rfl ?_)))))))))))
    refine aF rfl (ak (a8 rfl (lx (aG (m:=↑e) (n:=1) zs48 rfl (by omega)) (mi ((e:Int)+1) (ag ?_)))))
    refine back13 (ed_v,ed,e+1,(λq=>if q=((gI ((aa g).1) (e:Int)),mp.1 ((gI g.2 ↑e).2)) then(((λq=>if q=((gI ((aa g).1) (e:Int)),mp.1 ((gI g.2 ↑e).1)) then((sn ((gI ((aa g).1) (e:Int)),mp.1 ((gI g.2 ↑e).1)))+1) else sn q) ((gI ((aa g).1) (e:Int)),mp.1 ((gI g.2 ↑e).2)))+1) else(λq=>if q=((gI ((aa g).1) (e:Int)),mp.1 ((gI g.2 ↑e).1)) then((sn ((gI ((aa g).1) (e:Int)),mp.1 ((gI g.2 ↑e).1)))+1) else sn q) q),g639) _ _ ⟨bH,zs2,zs4,zs5,zs8,zs9,zs46,zs47,rfl,Rg,bx10,o17,o19,bx29,m34,m625,bx57,o_ed,by omega,?_⟩ ?_
    · show gj g mp.1 ed (λq=>if q=((gI ((aa g).1) (e:Int)),mp.1 ((gI g.2 ↑e).2)) then(((λq=>if q=((gI ((aa g).1) (e:Int)),mp.1 ((gI g.2 ↑e).1)) then((sn ((gI ((aa g).1) (e:Int)),mp.1 ((gI g.2 ↑e).1)))+1) else sn q) ((gI ((aa g).1) (e:Int)),mp.1 ((gI g.2 ↑e).2)))+1) else(λq=>if q=((gI ((aa g).1) (e:Int)),mp.1 ((gI g.2 ↑e).1)) then((sn ((gI ((aa g).1) (e:Int)),mp.1 ((gI g.2 ↑e).1)))+1) else sn q) q) (2*(e+1))
      exact hut.two rfl rfl rfl rfl rfl rfl (by(exact jj ‹_›)) (by(exact jr ‹_›))
    · show Int.toNat (((g.2.length:Int):Int)-((e+1):Int))<Int.toNat (((g.2.length:Int):Int)-(e:Int))
      omega
   refine ax (wn (df q70_579)) (ax (wn (df q70_579)) (ax (wn (df q70_579)) (ax (wn (df q70_579)) (lw (vb false) (aY rfl (df q70_579) rfl) (ag (aj rfl rfl (av ?_)))))))
   refine cX (σ:=aJ) (λgq f w=>bv w0 gq w/\f 2=vp b8 0/\f 4=vp b24 0/\f 5=v32/\f 8=v47/\f 9=vp b52 0/\f 10=vi ↑e/\f 46=g_v/\f 47=vi (g.2.length:Int)/\f 48=vi ↑e/\f 53=vg [vi ((gI g.2 ↑e).1),vi ((gI g.2 ↑e).2)]/\f 54=vi 1/\Sl gq (is 0) w g_v g.2/\Bx gq (is 2) w b8 [vi 0,vn]/\Ow gq (is 3) (is 3) w v16 ((aa g).1)/\Ow gq (is 4) (is 4) w v18 (((aa g).2).1)/\Bx gq (is 5) w b24 [v16,v18,vi (((aa g).2).2)]/\Md gq (is 6) w v32 mp.1 mp.2/\Bx gq (is 8) w b52 [vi ((((aa g).2).2)+(List.length (((aa g).2).1):Int)),ed_v]/\Ow gq (is 12) (is 12) w ed_v ed/\Mp gq (is 7) w v47 (λq=>if q=((gI ((aa g).1) (e:Int)),mp.1 ((gI g.2 ↑e).2)) then(((λq=>if q=((gI ((aa g).1) (e:Int)),mp.1 ((gI g.2 ↑e).1)) then((sn ((gI ((aa g).1) (e:Int)),mp.1 ((gI g.2 ↑e).1)))+1) else sn q) ((gI ((aa g).1) (e:Int)),mp.1 ((gI g.2 ↑e).2)))+1) else(λq=>if q=((gI ((aa g).1) (e:Int)),mp.1 ((gI g.2 ↑e).1)) then((sn ((gI ((aa g).1) (e:Int)),mp.1 ((gI g.2 ↑e).1)))+1) else sn q) q)) g578 [0,1,3,5] d6 ?_ ?_
   ·
    intro mid
    intro w641 ch640
    refine xp (v:=v47) 0 rfl (λw=>au zs8) ?_
    replace bx524:=bx524.cn ch640
    refine xv 1 [0] rfl (aB (ds:=[vi (gI ((aa g).1) (e:Int)),vi (mp.1 ((gI g.2 ↑e).2))]) aU zs14 bx524 rfl rfl) ?_
    refine fV 2 4 rfl rfl (by kernel_rfl) rfl rfl ?_ ?_
    ·
     replace m499:=m499.cn ch640
     refine az (v:=vi ((λq=>if q=((gI ((aa g).1) (e:Int)),mp.1 ((gI g.2 ↑e).1)) then((sn ((gI ((aa g).1) (e:Int)),mp.1 ((gI g.2 ↑e).1)))+1) else sn q) ((gI ((aa g).1) (e:Int)),mp.1 ((gI g.2 ↑e).2)))) (bm (F:=(λq=>if q=((gI ((aa g).1) (e:Int)),mp.1 ((gI g.2 ↑e).1)) then((sn ((gI ((aa g).1) (e:Int)),mp.1 ((gI g.2 ↑e).1)))+1) else sn q)) ((gI ((aa g).1) (e:Int)),mp.1 ((gI g.2 ↑e).2)) fj (aX dg U3 ah) ah rfl m499 rfl rfl) ?_
     refine xp 3 rfl (λw=>aG (m:=(λq=>if q=((gI ((aa g).1) (e:Int)),mp.1 ((gI g.2 ↑e).1)) then((sn ((gI ((aa g).1) (e:Int)),mp.1 ((gI g.2 ↑e).1)))+1) else sn q) ((gI ((aa g).1) (e:Int)),mp.1 ((gI g.2 ↑e).2))) (n:=1) rfl rfl (by((dsimp only;split<;>omega)))) (bw 4 rfl (by kernel_rfl) rfl (bU (F:=(λq=>if q=((gI ((aa g).1) (e:Int)),mp.1 ((gI g.2 ↑e).1)) then((sn ((gI ((aa g).1) (e:Int)),mp.1 ((gI g.2 ↑e).1)))+1) else sn q)) ((gI ((aa g).1) (e:Int)),mp.1 ((gI g.2 ↑e).2)) fj (aX dg U3 ah) ah rfl m499 rfl rfl ?_))
     intro w642 s645 ch643 m644
     clear m499
     refine xp 5 rfl (λw=>aR rfl rfl) (bw 6 rfl (by kernel_rfl) rfl (bG rfl m644 rfl rfl ?_))
     intro w646 ch647 m648
     clear m644
     refine c6 (by kernel_rfl) ?_
     have C649:=cg [7] (ch640.n.seq ((ch643.l rfl).seq (ch647.l rfl)))
     exact mid (g578) _ _ ⟨bH.ca C649,zs2,zs4,zs5,zs8,zs9,zs10,zs46,zs47,zs48,zs53,zs54,Rg.ca C649,bx10.ca C649,o17.ca C649,o19.ca C649,bx29.ca C649,m34.ca C649,bx57.ca C649,o_ed.ca C649,m648⟩
    ·
     replace m499:=m499.cn ch640
     refine bU (F:=(λq=>if q=((gI ((aa g).1) (e:Int)),mp.1 ((gI g.2 ↑e).1)) then((sn ((gI ((aa g).1) (e:Int)),mp.1 ((gI g.2 ↑e).1)))+1) else sn q)) ((gI ((aa g).1) (e:Int)),mp.1 ((gI g.2 ↑e).2)) fj (aX dg U3 ah) ah rfl m499 rfl rfl ?_
     intro w650 s653 ch651 m652
     clear m499
     refine xp 5 rfl (λw=>aR rfl rfl) (bw 2 rfl (by kernel_rfl) rfl (az (v:=vi ((λq=>if q=((gI ((aa g).1) (e:Int)),mp.1 ((gI g.2 ↑e).1)) then((sn ((gI ((aa g).1) (e:Int)),mp.1 ((gI g.2 ↑e).1)))+1) else sn q) ((gI ((aa g).1) (e:Int)),mp.1 ((gI g.2 ↑e).2)))) (bm (F:=(λq=>if q=((gI ((aa g).1) (e:Int)),mp.1 ((gI g.2 ↑e).1)) then((sn ((gI ((aa g).1) (e:Int)),mp.1 ((gI g.2 ↑e).1)))+1) else sn q)) ((gI ((aa g).1) (e:Int)),mp.1 ((gI g.2 ↑e).2)) fj (aX dg U3 ah) ah rfl m652.mp rfl rfl) ?_))
     refine xp 3 rfl (λw=>aG (m:=(λq=>if q=((gI ((aa g).1) (e:Int)),mp.1 ((gI g.2 ↑e).1)) then((sn ((gI ((aa g).1) (e:Int)),mp.1 ((gI g.2 ↑e).1)))+1) else sn q) ((gI ((aa g).1) (e:Int)),mp.1 ((gI g.2 ↑e).2))) (n:=1) rfl rfl (by((dsimp only;split<;>omega)))) (bw 6 rfl (by kernel_rfl) rfl (bG rfl m652 rfl rfl ?_))
     intro w654 ch655 m656
     clear m652
     refine c6 (by kernel_rfl) ?_
     have C657:=cg [7] (ch640.n.seq ((ch651.l rfl).seq (ch655.l rfl)))
     exact mid (g578) _ _ ⟨bH.ca C657,zs2,zs4,zs5,zs8,zs9,zs10,zs46,zs47,zs48,zs53,zs54,Rg.ca C657,bx10.ca C657,o17.ca C657,o19.ca C657,bx29.ca C657,m34.ca C657,bx57.ca C657,o_ed.ca C657,m656⟩
   clear Rg bx10 o17 o19 bx29 m34 bx57 o_ed m499 bx524 bH
   rintro g660 f658 w659 ⟨bH,zs2,zs4,zs5,zs8,zs9,zs10,zs46,zs47,zs48,zs53,zs54,Rg,bx10,o17,o19,bx29,m34,bx57,o_ed,m646⟩
   refine ak (a8 rfl (lx (aG (m:=1) (n:=1) zs54 rfl (by omega)) (mi 2 (ag (bx (ab (a8 rfl (lx (bn (m:=2) (n:=2) rfl rfl) (ag (ab (aj rfl rfl ?_)))))))))))
   refine aF rfl (ak (a8 rfl (lx (aG (m:=↑e) (n:=1) zs48 rfl (by omega)) (mi ((e:Int)+1) (ag ?_)))))
   refine back13 (ed_v,ed,e+1,(λq=>if q=((gI ((aa g).1) (e:Int)),mp.1 ((gI g.2 ↑e).2)) then(((λq=>if q=((gI ((aa g).1) (e:Int)),mp.1 ((gI g.2 ↑e).1)) then((sn ((gI ((aa g).1) (e:Int)),mp.1 ((gI g.2 ↑e).1)))+1) else sn q) ((gI ((aa g).1) (e:Int)),mp.1 ((gI g.2 ↑e).2)))+1) else(λq=>if q=((gI ((aa g).1) (e:Int)),mp.1 ((gI g.2 ↑e).1)) then((sn ((gI ((aa g).1) (e:Int)),mp.1 ((gI g.2 ↑e).1)))+1) else sn q) q),g660) _ _ ⟨bH,zs2,zs4,zs5,zs8,zs9,zs46,zs47,rfl,Rg,bx10,o17,o19,bx29,m34,m646,bx57,o_ed,by omega,?_⟩ ?_
   · show gj g mp.1 ed (λq=>if q=((gI ((aa g).1) (e:Int)),mp.1 ((gI g.2 ↑e).2)) then(((λq=>if q=((gI ((aa g).1) (e:Int)),mp.1 ((gI g.2 ↑e).1)) then((sn ((gI ((aa g).1) (e:Int)),mp.1 ((gI g.2 ↑e).1)))+1) else sn q) ((gI ((aa g).1) (e:Int)),mp.1 ((gI g.2 ↑e).2)))+1) else(λq=>if q=((gI ((aa g).1) (e:Int)),mp.1 ((gI g.2 ↑e).1)) then((sn ((gI ((aa g).1) (e:Int)),mp.1 ((gI g.2 ↑e).1)))+1) else sn q) q) (2*(e+1))
     exact hut.two rfl rfl rfl rfl rfl rfl (by(exact jj ‹_›)) (by(exact jj ‹_›))
   · show Int.toNat (((g.2.length:Int):Int)-((e+1):Int))<Int.toNat (((g.2.length:Int):Int)-(e:Int))
     omega
  refine aj rfl (df p13) (aF rfl (ab ?_))
  clear o17 o19 bx29 m34 m49
  have htl:ed=ii g:=rm hut hf (by omega) (by omega)
  have hsl:((gM ed).length:Int)<=2*(g.2.length:Int):=by have h1:=ms hm;rw[htl];have h2:=n5 g;have h3:(gM (ii g)).length=(ii g).length:=h2;omega
  have htt:((aa g).2.2+((aa g).2.1.length:Int),gM ed)=ie g:=by rw[htl];rfl
  refine a8 rfl (lx (ad cZ rfl rfl zs9 rfl) (lx (af bC rfl bx57 rfl) (lo (ck (σ:=Unit) (V:=λ_=>Value.tuple #[]) (b9 (vals:=[ed_v,Value.func (.func 39) #[] #[]]) Try.func38 s7 sg rfl) (rt o_ed) ?_))))
  rintro⟨⟩ w661 ⟨ch662,o663⟩
  clear o_ed
  refine ag (ab (ab (a8 rfl ?_)))
  replace bx57:=bx57.ce ch662
  refine lx (aB (ds:=[vi ((((aa g).2).2)+(List.length (((aa g).2).1):Int)),ed_v]) ch zs9 bx57 rfl rfl) (lo (cC (v:=vb (d5 ((((aa g).2).2)+(List.length (((aa g).2).1):Int),(gM ed)))) (b9 (vals:=[vg [vi ((((aa g).2).2)+(List.length (((aa g).2).1):Int)),ed_v]]) Try.func36 ia i7 rfl) (ji w661 ((((aa g).2).2)+(List.length (((aa g).2).1):Int),(gM ed)) ed_v (o663.flat).ro) ?_))
  intro w664 hb665
  replace hb665:=aS hb665 g62
  refine lx (ek (b:=(d5 ((((aa g).2).2)+(List.length (((aa g).2).1):Int),(gM ed)))) rfl) (ag ?_)
  by_cases p25:(d5 ((((aa g).2).2)+(List.length (((aa g).2).1):Int),(gM ed)))=true
  ·
   refine aj rfl (congrArg Bool.not p25) (av (ab (a8 rfl ?_)))
   replace bx57:=bx57.cn hb665
   refine lx (aB (ds:=[vi ((((aa g).2).2)+(List.length (((aa g).2).1):Int)),ed_v]) ch zs9 bx57 rfl rfl) (lo ?_)
   replace bx10:=(bx10.ce ch662).cn hb665
   replace o663:=o663.cn hb665
   refine aI (cs':=[vi ((((aa g).2).2)+(List.length (((aa g).2).1):Int)),ed_v]) ch zs2 rfl bx10 rfl nq (AllOne.all (.cons rfl (.cons (bQ o663.flat) .nil))) rfl ?_
   intro w666 ch667 bx668
   clear bx10
   refine ai 0 (ag (aQ (vs:=[vg [vi ((((aa g).2).2)+(List.length (((aa g).2).1):Int)),ed_v],vi 0]) Try.func13 (.cell zs2 (dR (ds:=[vi ((((aa g).2).2)+(List.length (((aa g).2).1):Int)),ed_v]) ch bx668 rfl rfl) (.tmp rfl .nil)) ?_))
   have C669:=cg [2,12] ((ch662.l rfl).seq (hb665.n.seq (ch667.l rfl)))
   replace bH:=bH.ca C669
   replace o663:=o663.ce ch667
   have e0:(((((aa g).2).2)+(List.length (((aa g).2).1):Int),(gM ed)):(Int)×(List Pt))=((aO g).1):=by
     (have hmt:bg (ie g):=by rw[<-htt];exact of_decide_eq_true p25
      unfold aO;rw[if_pos hm,if_pos hmt];exact htt)
   have e1:(0:Int)=((aO g).2):=by
     (have hmt:bg (ie g):=by rw[<-htt];exact of_decide_eq_true p25
      unfold aO;rw[if_pos hm,if_pos hmt];done)
   exact⟨(fin w0 g62 (λn=>if n=12 then 1 else 0),ed_v),(dP (a:=((((aa g).2).2)+(List.length (((aa g).2).1):Int),(gM ed))) (b:=0) (λ(z0:(Int)×(List Pt)) (z1:Int)=>Ending.returned (vt [vg [vi z0.1,ed_v],vi z1])) e0 e1),bH.fresh _,((congrArg (λ(z:(Int)×(List Pt))=>z.2) e0)▸(o663.glue (γ:=c0) (ren:=(λn=>if n=12 then 1 else 0)) (k:=1) bH.col rfl rfl))⟩
  refine al rfl (congrArg Bool.not (Bool.eq_false_iff.2 p25)) (ab ?_)
  clear bx57 o663
  refine a8 rfl (lw (vg [vi 0,vn]) (bE (vs:=[]) rfl (by kernel_rfl)) (lo ?_))
  replace bx10:=(bx10.ce ch662).cn hb665
  refine aI (cs':=[vi 0,vn]) ch zs2 rfl bx10 rfl nq (AllOne.all (.cons rfl (.cons rfl .nil))) rfl ?_
  intro w670 ch671 bx672
  clear bx10
  refine ai 3 (ag (aQ (vs:=[vg [vi 0,vn],vi 3]) Try.func13 (.cell zs2 (dR (ds:=[vi 0,vn]) ch bx672 rfl rfl) (.tmp rfl .nil)) ?_))
  have C673:=cg [2,12] ((ch662.l rfl).seq (hb665.n.seq (ch671.l rfl)))
  replace bH:=bH.ca C673
  have e0:((0,[]):(Int)×(List Pt))=((aO g).1):=by
    (have hmt:¬bg (ie g):=by rw[<-htt];exact λh=>p25 (dt h)
     unfold aO;rw[if_pos hm,if_neg hmt];done)
  have e1:(3:Int)=((aO g).2):=by
    (have hmt:¬bg (ie g):=by rw[<-htt];exact λh=>p25 (dt h)
     unfold aO;rw[if_pos hm,if_neg hmt];done)
  exact⟨(fin w0 g62 (λn=>0),vn),(dP (a:=(0,[])) (b:=3) (λ(z0:(Int)×(List Pt)) (z1:Int)=>Ending.returned (vt [vg [vi z0.1,vn],vi z1])) e0 e1),bH.fresh _,((congrArg (λ(z:(Int)×(List Pt))=>z.2) e0)▸Ow.nil)⟩
 refine al rfl (congrArg Bool.not (Bool.eq_false_iff.2 p1)) (ab ?_)
 clear bx5
 refine a8 rfl (lw (vg [vi 0,vn]) (bE (vs:=[]) rfl (by kernel_rfl)) (lo ?_))
 replace bx10:=bx10.cn hb12
 refine aI (cs':=[vi 0,vn]) ch rfl rfl bx10 rfl nq (AllOne.all (.cons rfl (.cons rfl .nil))) rfl ?_
 intro w674 ch675 bx676
 clear bx10
 refine ai 1 (ag (aQ (vs:=[vg [vi 0,vn],vi 1]) Try.func13 (.cell rfl (dR (ds:=[vi 0,vn]) ch bx676 rfl rfl) (.tmp rfl .nil)) ?_))
 have C677:=cg [2] (ch2.n.seq (ch7.n.seq (hb12.n.seq (ch675.l rfl))))
 replace bH:=bH.ca C677
 have e0:((0,[]):(Int)×(List Pt))=((aO g).1):=by
   (have hn:¬bg g:=λh=>p1 (dt h);unfold aO;rw[if_neg hn];done)
 have e1:(1:Int)=((aO g).2):=by
   (have hn:¬bg g:=λh=>p1 (dt h);unfold aO;rw[if_neg hn];done)
 exact⟨(fin w0 g9 (λn=>0),vn),(dP (a:=(0,[])) (b:=1) (λ(z0:(Int)×(List Pt)) (z1:Int)=>Ending.returned (vt [vg [vi z0.1,vn],vi z1])) e0 e1),bH.fresh _,((congrArg (λ(z:(Int)×(List Pt))=>z.2) e0)▸Ow.nil)⟩
end TL
