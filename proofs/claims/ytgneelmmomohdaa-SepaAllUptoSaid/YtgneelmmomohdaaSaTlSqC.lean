import Derived.Test.YtgneelmmomohdaaSaTlP5
import Derived.Test.YtgneelmmomohdaaSaTlErA
import Derived.Test.YtgneelmmomohdaaSaTlSqA
import Derived.Test.YtgneelmmomohdaaSaTlGenA
import Derived.Test.YtgneelmmomohdaaProg
import Derived.Test.YtgneelmmomohdaaSaTlAli
set_option linter.all false
set_option maxRecDepth 20000
namespace TL
open Go Go.Proofs
theorem kY:Try.prog.follows .mixedOrders=true:=by kernel_rfl
set_option maxHeartbeats 8000000 in
theorem lU(w0:World)(g:(Int)×(List Pt))(g_v:Value)(hg_v:Ro w0 g_v g.2)(u:Int)(v:Int)(hm:aX g)(hu:0<=u/\u<g.1)(hv:0<=v/\v<g.1):
    Calls Try.prog 19 #[vg [vi g.1,g_v],vi u,vi v] w0 (λee w=>∃xx:aG×Value,ee= .returned ((λ⟨δ,rv0⟩=>rv0) xx)/\(λ(⟨δ,rv0⟩:aG×Value) (w:World)=>eB w0 δ w/\cY δ 1 w rv0 (bE g u v)) xx w):=by
 refine av Try.func19 rfl nq ?_
 have bH:=bn.start w0
 have Rg:=hg_v.sl
 have hm0:=hm
 obtain⟨hm1,hm2,hm3,hm4⟩:=hm0
 obtain⟨hu0,hu1⟩:=hu
 obtain⟨hv0,hv1⟩:=hv
 have hu:=And.intro hu0 hu1
 have hv:=And.intro hv0 hv1
 refine aa (a8 rfl (cB rfl (cr c0 (is 1) (1,0) rfl rfl ?_)))
 intro g4 w1 b3 ch2 bx5
 replace bx5:Bx g4 (is 1) w1 b3 [vi g.1,g_v]:=bx5
 refine ma vn (ab (aa (a8 rfl (lx (af cW rfl rfl rfl rfl) (lx (ae aj rfl bx5 rfl) (lo (dL (α:=Bool) (l:=g.1) (cp:=g.1) g4 (is 2) (is 2) (2,0) rfl false gj cO rfl rfl rfl (by omega) (by omega) (by omega) (by omega) ?_)))))))
 intro g6 w7 v8 ch9 o10 hcap_
 clear hcap_
 refine ma v8 (ab (aa (a8 rfl (mv v8 (mi u (lx (ad (v:=v8) (i:=u) gj rfl rfl o10.flat rfl (by omega) (by(simp only[List.length_set,List.length_append,List.length_cons,List.length_nil,List.length_replicate,List.length_map,List.length_take,List.length_drop];omega))) (lo (aQ (i:=u) true cO rfl rfl o10 (by omega) (by(simp only[List.length_set,List.length_append,List.length_cons,List.length_nil,List.length_replicate,List.length_map,List.length_take,List.length_drop];omega)) rfl ?_))))))))
 intro w11 ch12 bx13
 clear o10
 refine ab (aa (a8 rfl (mv v8 (mi v (lx (ad (v:=v8) (i:=v) gj rfl rfl bx13.flat rfl (by omega) (by(simp only[List.length_set,List.length_append,List.length_cons,List.length_nil,List.length_replicate,List.length_map,List.length_take,List.length_drop];omega))) (lo (aQ (i:=v) true cO rfl rfl bx13 (by omega) (by(simp only[List.length_set,List.length_append,List.length_cons,List.length_nil,List.length_replicate,List.length_map,List.length_take,List.length_drop];omega)) rfl ?_)))))))
 intro w14 ch15 bx16
 clear bx13
 refine ab (aa (a8 rfl ?_))
 have C17:=cg [2] (ch9.n.seq ((ch12.l rfl).seq (ch15.l rfl)))
 replace bx5:=bx5.ca C17
 refine lx (aB (ds:=[vi g.1,g_v]) aK rfl bx5 rfl rfl) (mv v8 ?_)
 have C18:=cg [2] (ch2.n.seq (ch9.n.seq ((ch12.l rfl).seq (ch15.l rfl))))
 replace Rg:=Rg.ca C18
 refine lo (bQ (aN (vals:=[vg [vi g.1,g_v],v8,vn]) Try.func42 rq qC rfl) (iK w14 g g_v (Rg).ro (List.set (List.set (List.replicate (Int.toNat g.1) false) (Int.toNat u) true) (Int.toNat v) true) v8 (bx16.flat).ro ([]) vn (Sl.nil (γ:=c0) (S:=any)) (by exact hm) (by exact λ_=>by rw[List.length_set,List.length_set,List.length_replicate];omega) (by exact λh=>absurd h (by decide))) ?_)
 rintro⟨d20,v22⟩ w19 ⟨fr21,o23⟩
 obtain⟨g24,ch25,G24⟩:=ia g6 fr21 (λn=>if n=1 then 3 else 0)
 replace o23:=o23.gl G24 3
 refine mv (vt [v22,vi ((aU g (List.set (List.set (List.replicate (Int.toNat g.1) false) (Int.toNat u) true) (Int.toNat v) true) ([])).2)]) (lx (aJ rfl rfl) (lx (aJ rfl rfl) (ma v22 (ai ((aU g (List.set (List.set (List.replicate (Int.toNat g.1) false) (Int.toNat u) true) (Int.toNat v) true) ([])).2) (ab (aa ?_))))))
 have hnd0:0<=(aU g (List.set (List.set (List.replicate (Int.toNat g.1) false) (Int.toNat u) true) (Int.toNat v) true) []).2:=(gR hm).2.1
 have hnd1:(aU g (List.set (List.set (List.replicate (Int.toNat g.1) false) (Int.toNat u) true) (Int.toNat v) true) []).2<=g.1:=(gR hm).2.2
 have hcdl:(((aU g (List.set (List.set (List.replicate (Int.toNat g.1) false) (Int.toNat u) true) (Int.toNat v) true) []).1).length:Int)=g.1:=(gR hm).1
 refine a8 rfl (mi ((aU g (List.set (List.set (List.replicate (Int.toNat g.1) false) (Int.toNat u) true) (Int.toNat v) true) ([])).2) (lo (dL (α:=Int) (l:=(aU g (List.set (List.set (List.replicate (Int.toNat g.1) false) (Int.toNat u) true) (Int.toNat v) true) ([])).2) (cp:=(aU g (List.set (List.set (List.replicate (Int.toNat g.1) false) (Int.toNat u) true) (Int.toNat v) true) ([])).2) g24 (is 4) (is 4) (4,0) rfl (0:Int) bv aj rfl rfl rfl (by omega) (by omega) (by omega) (by omega) ?_)))
 intro g26 w27 v28 ch29 o30 hcap_
 clear hcap_
 refine ma v28 (ab (aa (a8 rfl (ma vn (ab (aa (aa (a8 rfl (ai 0 (ab (ao ?_)))))))))))
 refine aY (σ:=Value×fG×Nat×(List Int)×aG) (λ⟨l_v,l,e,at1,gq⟩ f w=>bn w0 gq w/\f 3=vp b3 0/\f 7=v8/\f 8=v22/\f 10=v28/\f 11=l_v/\f 12=vi ↑e/\Sl gq (is 0) w g_v g.2/\Bx gq (is 1) w b3 [vi g.1,g_v]/\Ow gq (is 2) (is 2) w v8 (List.set (List.set (List.replicate (Int.toNat g.1) false) (Int.toNat u) true) (Int.toNat v) true)/\Ow gq (is 3) (is 3) w v22 ((aU g (List.set (List.set (List.replicate (Int.toNat g.1) false) (Int.toNat u) true) (Int.toNat v) true) ([])).1)/\Ow gq (is 4) (is 4) w v28 at1/\cY gq 7 w l_v l/\(e:Int)<=((g.2.length:Int):Int)/\(nG g u v e l at1)) (λ⟨l_v,l,e,at1,gq⟩=>Int.toNat (((g.2.length:Int):Int)-(e:Int))) (vn,[],0,(List.replicate (Int.toNat ((aU g (List.set (List.set (List.replicate (Int.toNat g.1) false) (Int.toNat u) true) (Int.toNat v) true) ([])).2)) (0:Int)),g26) ?_ ?_
 have C31:=cg [2] (ch2.n.seq (ch9.n.seq ((ch12.l rfl).seq ((ch15.l rfl).seq (ch25.n.seq ch29.n)))))
 · exact⟨bH.ca C31,rfl,rfl,rfl,rfl,rfl,rfl,(Rg.cn ch25).cn ch29,(bx5.cn ch25).cn ch29,(bx16.cn ch25).cn ch29,o23.cn ch29,o30,cY.nil,by omega,by exact nG.start hm hu hv hnd0⟩
 clear Rg bx5 bx16 o23 o30 bH
 rintro⟨l_v,l,e,at1,g34⟩ f32 w33 ⟨bH,zs3,zs7,zs8,zs10,zs11,zs12,Rg,bx5,bx16,o23,o30,o_l,hle_e,hcd⟩ back8
 have hcl:=hcd.len
 have hcn:(at1.length:Int)=(aU g (List.set (List.set (List.replicate (Int.toNat g.1) false) (Int.toNat u) true) (Int.toNat v) true) []).2:=hcd.ln
 refine aa (aa (a8 rfl (mz zs12 (lx (af cW rfl rfl zs3 rfl) (lx (ae bG rfl bx5 rfl) ?_)))))
 have len35:=(Rg).small
 refine lx (bq dc rfl Rg) (lx (bm (m:=↑e) (n:=(g.2.length:Int)) rfl rfl) (ab ?_))
 by_cases p8:(e:Int)<(g.2.length:Int)
 ·
  refine ah rfl (dt p8) ?_
  obtain⟨⟨he1,he2⟩,he3,he4⟩:=hm4 _ (br (xs:=g.2) (i:=↑e) (by omega) ‹_›)
  refine aq (aa (ao (aa (dl g34 rfl kY (by kernel_rfl) ?_))))
  intro w37 ch36
  refine qx (λw' hw'=>af cW rfl rfl zs3 rfl) ?_
  replace bx5:=bx5.cn ch36
  refine qx (λw' hw'=>ae bG rfl (bx5.bel hw') rfl) (qz zs12 ?_)
  replace Rg:=Rg.cn ch36
  refine qx (λw' hw'=>ad (v:=g_v) (i:=↑e) dc rfl rfl (Rg.bel hw') rfl (by omega) (by omega)) (qx (λw' hw'=>c6 dI rfl rfl rfl (by decide) (by decide) rfl) (qx (λw' hw'=>d5 (v:=g_v) (i:=↑e) aj rfl (Rg.bel hw') (by omega) (by omega) (by decide) rfl) (qx (λw' hw'=>af cW rfl rfl zs3 rfl) (qx (λw' hw'=>ae bG rfl (bx5.bel hw') rfl) (qz zs12 (qx (λw' hw'=>ad (v:=g_v) (i:=↑e) dc rfl rfl (Rg.bel hw') rfl (by omega) (by omega)) (qx (λw' hw'=>c6 dI rfl rfl rfl (by decide) (by decide) rfl) (qx (λw' hw'=>d5 (v:=g_v) (i:=↑e) aj rfl (Rg.bel hw') (by omega) (by omega) (by decide) rfl) ?_))))))))
  refine qv (vi ((gI g.2 ↑e).1)) (λw' hw'=>cE rfl) (qv (vi ((gI g.2 ↑e).2)) (λw' hw'=>cE rfl) (f4 ?_))
  intro w38 hc39
  replace hc39:=aS hc39 g34
  refine aa (a8 rfl (ai (-1) (ab (aa (aa ?_)))))
  refine jI [false,false,true,true,false,false,true,true] (σ:=Int×aG) (λ⟨kk,gq⟩ f w=>bn w0 gq w/\f 3=vp b3 0/\f 7=v8/\f 8=v22/\f 10=v28/\f 11=l_v/\f 12=vi ↑e/\f 13=vi ((gI g.2 ↑e).1)/\f 14=vi ((gI g.2 ↑e).2)/\f 15=vi kk/\Sl gq (is 0) w g_v g.2/\Bx gq (is 1) w b3 [vi g.1,g_v]/\Ow gq (is 2) (is 2) w v8 (List.set (List.set (List.replicate (Int.toNat g.1) false) (Int.toNat u) true) (Int.toNat v) true)/\Ow gq (is 3) (is 3) w v22 ((aU g (List.set (List.set (List.replicate (Int.toNat g.1) false) (Int.toNat u) true) (Int.toNat v) true) ([])).1)/\Ow gq (is 4) (is 4) w v28 at1/\cY gq 7 w l_v l/\(CC g u v e kk)) ?_ ?_
  ·
   intro mid_j1
   refine a8 rfl (mz zs7 (mi ((gI g.2 ↑e).1) ?_))
   replace bx16:=(bx16.cn ch36).cn hc39
   refine lx (ad (v:=v8) (i:=(gI g.2 ↑e).1) gj rfl rfl bx16.flat rfl (by omega) (by(simp only[List.length_set,List.length_append,List.length_cons,List.length_nil,List.length_replicate,List.length_map,List.length_take,List.length_drop];omega))) (lx (az (v:=v8) (i:=(gI g.2 ↑e).1) cO rfl bx16.flat (by omega) (by(simp only[List.length_set,List.length_append,List.length_cons,List.length_nil,List.length_replicate,List.length_map,List.length_take,List.length_drop];omega)) (by decide) rfl) (lx (dZ (b:=(gI (List.set (List.set (List.replicate (Int.toNat g.1) false) (Int.toNat u) true) (Int.toNat v) true) ((gI g.2 ↑e).1))) rfl) (ab ?_)))
   by_cases p12:(gI (List.set (List.set (List.replicate (Int.toNat g.1) false) (Int.toNat u) true) (Int.toNat v) true) ((gI g.2 ↑e).1))=true
   ·
    refine ag rfl (congrArg Bool.not p12) (aq (aa (aa (a8 rfl (mz zs7 (mi ((gI g.2 ↑e).2) (lx (ad (v:=v8) (i:=(gI g.2 ↑e).2) gj rfl rfl bx16.flat rfl (by omega) (by(simp only[List.length_set,List.length_append,List.length_cons,List.length_nil,List.length_replicate,List.length_map,List.length_take,List.length_drop];omega))) (lx (az (v:=v8) (i:=(gI g.2 ↑e).2) cO rfl bx16.flat (by omega) (by(simp only[List.length_set,List.length_append,List.length_cons,List.length_nil,List.length_replicate,List.length_map,List.length_take,List.length_drop];omega)) (by decide) rfl) (lx (dZ (b:=(gI (List.set (List.set (List.replicate (Int.toNat g.1) false) (Int.toNat u) true) (Int.toNat v) true) ((gI g.2 ↑e).2))) rfl) (ab ?_))))))))))
    by_cases p14:(gI (List.set (List.set (List.replicate (Int.toNat g.1) false) (Int.toNat u) true) (Int.toNat v) true) ((gI g.2 ↑e).2))=true
    ·
     refine ag rfl (congrArg Bool.not p14) (aq (aa (aa ?_)))
     replace bH:=bH.cn ch36
     refine mid_j1 (-1,g34) _ _ ⟨bH.cn hc39,zs3,zs7,zs8,zs10,zs11,zs12,rfl,rfl,rfl,Rg.cn hc39,bx5.cn hc39,bx16,(o23.cn ch36).cn hc39,(o30.cn ch36).cn hc39,(o_l.cn ch36).cn hc39,?_⟩
     show CC g u v e (-1)
     exact .inl ⟨by assumption,by assumption,rfl⟩
    obtain⟨hc02,hc12⟩:0<=gI (aU g (List.set (List.set (List.replicate (Int.toNat g.1) false) (Int.toNat u) true) (Int.toNat v) true) []).1 (gI g.2 ↑e).2/\gI (aU g (List.set (List.set (List.replicate (Int.toNat g.1) false) (Int.toNat u) true) (Int.toNat v) true) []).1 (gI g.2 ↑e).2<(aU g (List.set (List.set (List.replicate (Int.toNat g.1) false) (Int.toNat u) true) (Int.toNat v) true) []).2:=mJ hm hu hv (x:=(gI g.2 ↑e).2) ⟨he3,he4⟩ (λz=>absurd ((i6 hm hu hv ⟨he3,he4⟩).2 z) ‹_›)
    refine ah rfl (congrArg Bool.not (Bool.eq_false_iff.2 p14)) (a8 rfl (mz zs8 (mi ((gI g.2 ↑e).2) ?_)))
    replace o23:=(o23.cn ch36).cn hc39
    refine lx (ad (v:=v22) (i:=(gI g.2 ↑e).2) bv rfl rfl o23.flat rfl (by omega) (by omega)) (lx (az (v:=v22) (i:=(gI g.2 ↑e).2) aj rfl o23.flat (by omega) (by omega) (by decide) rfl) (ai (gI ((aU g (List.set (List.set (List.replicate (Int.toNat g.1) false) (Int.toNat u) true) (Int.toNat v) true) ([])).1) ((gI g.2 ↑e).2)) (ab (aa (aa ?_)))))
    replace bH:=bH.cn ch36
    refine mid_j1 ((gI ((aU g (List.set (List.set (List.replicate (Int.toNat g.1) false) (Int.toNat u) true) (Int.toNat v) true) ([])).1) ((gI g.2 ↑e).2)),g34) _ _ ⟨bH.cn hc39,zs3,zs7,zs8,zs10,zs11,zs12,rfl,rfl,rfl,Rg.cn hc39,bx5.cn hc39,bx16,o23,(o30.cn ch36).cn hc39,(o_l.cn ch36).cn hc39,?_⟩
    show CC g u v e (gI ((aU g (List.set (List.set (List.replicate (Int.toNat g.1) false) (Int.toNat u) true) (Int.toNat v) true) ([])).1) ((gI g.2 ↑e).2))
    exact .inr ⟨⟨hc02,hc12⟩,.inl ⟨by assumption,rfl⟩⟩
   obtain⟨hc01,hc11⟩:0<=gI (aU g (List.set (List.set (List.replicate (Int.toNat g.1) false) (Int.toNat u) true) (Int.toNat v) true) []).1 (gI g.2 ↑e).1/\gI (aU g (List.set (List.set (List.replicate (Int.toNat g.1) false) (Int.toNat u) true) (Int.toNat v) true) []).1 (gI g.2 ↑e).1<(aU g (List.set (List.set (List.replicate (Int.toNat g.1) false) (Int.toNat u) true) (Int.toNat v) true) []).2:=mJ hm hu hv (x:=(gI g.2 ↑e).1) ⟨he1,he2⟩ (λz=>absurd ((i6 hm hu hv ⟨he1,he2⟩).2 z) ‹_›)
   refine ah rfl (congrArg Bool.not (Bool.eq_false_iff.2 p12)) (a8 rfl (mz zs8 (mi ((gI g.2 ↑e).1) ?_)))
   replace o23:=(o23.cn ch36).cn hc39
   refine lx (ad (v:=v22) (i:=(gI g.2 ↑e).1) bv rfl rfl o23.flat rfl (by omega) (by omega)) (lx (az (v:=v22) (i:=(gI g.2 ↑e).1) aj rfl o23.flat (by omega) (by omega) (by decide) rfl) (ai (gI ((aU g (List.set (List.set (List.replicate (Int.toNat g.1) false) (Int.toNat u) true) (Int.toNat v) true) ([])).1) ((gI g.2 ↑e).1)) (ab (aa (aa (a8 rfl (mz zs7 (mi ((gI g.2 ↑e).2) (lx (ad (v:=v8) (i:=(gI g.2 ↑e).2) gj rfl rfl bx16.flat rfl (by omega) (by(simp only[List.length_set,List.length_append,List.length_cons,List.length_nil,List.length_replicate,List.length_map,List.length_take,List.length_drop];omega))) ?_)))))))))
   refine lx (az (v:=v8) (i:=(gI g.2 ↑e).2) cO rfl bx16.flat (by omega) (by(simp only[List.length_set,List.length_append,List.length_cons,List.length_nil,List.length_replicate,List.length_map,List.length_take,List.length_drop];omega)) (by decide) rfl) (lx (dZ (b:=(gI (List.set (List.set (List.replicate (Int.toNat g.1) false) (Int.toNat u) true) (Int.toNat v) true) ((gI g.2 ↑e).2))) rfl) (ab ?_))
   by_cases p14:(gI (List.set (List.set (List.replicate (Int.toNat g.1) false) (Int.toNat u) true) (Int.toNat v) true) ((gI g.2 ↑e).2))=true
   ·
    refine ag rfl (congrArg Bool.not p14) (aq (aa (aa ?_)))
    replace bH:=bH.cn ch36
    refine mid_j1 ((gI ((aU g (List.set (List.set (List.replicate (Int.toNat g.1) false) (Int.toNat u) true) (Int.toNat v) true) ([])).1) ((gI g.2 ↑e).1)),g34) _ _ ⟨bH.cn hc39,zs3,zs7,zs8,zs10,zs11,zs12,rfl,rfl,rfl,Rg.cn hc39,bx5.cn hc39,bx16,o23,(o30.cn ch36).cn hc39,(o_l.cn ch36).cn hc39,?_⟩
    show CC g u v e (gI ((aU g (List.set (List.set (List.replicate (Int.toNat g.1) false) (Int.toNat u) true) (Int.toNat v) true) ([])).1) ((gI g.2 ↑e).1))
    exact .inr ⟨⟨hc01,hc11⟩,.inr ⟨by assumption,by assumption,rfl⟩⟩
   obtain⟨hc02,hc12⟩:0<=gI (aU g (List.set (List.set (List.replicate (Int.toNat g.1) false) (Int.toNat u) true) (Int.toNat v) true) []).1 (gI g.2 ↑e).2/\gI (aU g (List.set (List.set (List.replicate (Int.toNat g.1) false) (Int.toNat u) true) (Int.toNat v) true) []).1 (gI g.2 ↑e).2<(aU g (List.set (List.set (List.replicate (Int.toNat g.1) false) (Int.toNat u) true) (Int.toNat v) true) []).2:=mJ hm hu hv (x:=(gI g.2 ↑e).2) ⟨he3,he4⟩ (λz=>absurd ((i6 hm hu hv ⟨he3,he4⟩).2 z) ‹_›)
   refine ah rfl (congrArg Bool.not (Bool.eq_false_iff.2 p14)) (a8 rfl (mz zs8 (mi ((gI g.2 ↑e).2) (lx (ad (v:=v22) (i:=(gI g.2 ↑e).2) bv rfl rfl o23.flat rfl (by omega) (by omega)) (lx (az (v:=v22) (i:=(gI g.2 ↑e).2) aj rfl o23.flat (by omega) (by omega) (by decide) rfl) (ai (gI ((aU g (List.set (List.set (List.replicate (Int.toNat g.1) false) (Int.toNat u) true) (Int.toNat v) true) ([])).1) ((gI g.2 ↑e).2)) (ab (aa (aa ?_)))))))))
   replace bH:=bH.cn ch36
   refine mid_j1 ((gI ((aU g (List.set (List.set (List.replicate (Int.toNat g.1) false) (Int.toNat u) true) (Int.toNat v) true) ([])).1) ((gI g.2 ↑e).2)),g34) _ _ ⟨bH.cn hc39,zs3,zs7,zs8,zs10,zs11,zs12,rfl,rfl,rfl,Rg.cn hc39,bx5.cn hc39,bx16,o23,(o30.cn ch36).cn hc39,(o_l.cn ch36).cn hc39,?_⟩
   show CC g u v e (gI ((aU g (List.set (List.set (List.replicate (Int.toNat g.1) false) (Int.toNat u) true) (Int.toNat v) true) ([])).1) ((gI g.2 ↑e).2))
   exact .inr ⟨⟨hc02,hc12⟩,.inl ⟨by assumption,rfl⟩⟩
  clear Rg bx5 bx16 o23 o30 o_l bH
  rintro⟨kk,g42⟩ f40 w41 ⟨bH,z43_3,z43_7,z43_8,z43_10,z43_11,z43_12,z43_13,z43_14,z43_15,Rg,bx5,bx16,o23,o30,o_l,hkk⟩
  refine a8 rfl (mz z43_13 (mz z43_14 (lx (cZ (m:=(gI g.2 ↑e).1) (n:=(gI g.2 ↑e).2) rfl rfl) (mv (vb (decide (((gI g.2 ↑e).1)=((gI g.2 ↑e).2)))) ?_))))
  by_cases q73:((gI g.2 ↑e).1)=((gI g.2 ↑e).2)
  ·
   refine ak (wn (dt q73)) (ak (wn (dt q73)) (lw (vb true) (aO rfl (dt q73) rfl) (ab (ah rfl rfl (aa (a8 rfl (mz z43_11 (mz z43_12 (lo (aC (α:=Int) g42 (is 5) (is 5) (5,0) rfl ([(e:Int)]:List Int) bv aj (by decide) (by decide) (vs:=[(0,vi ↑e)]) rfl rfl (.cons rfl .nil) ?_))))))))))
   intro g44 w45 v46 ch47 o48
   refine lo ?_
   obtain⟨c49,hv50⟩:=o8 (u:=v46) (bK o48.flat)
   refine aC (α:=Vc) g44 (is 6) (is 6) (6,0) rfl [c49] dd bN (by decide) (by decide) (vs:=[(0,v46)]) rfl rfl (.cons (iR hv50 (c5 o48.flat)) .nil) ?_
   intro g51 w52 v53 ch54 o55
   refine lo ?_
   replace o_l:=(o_l.cn ch47).cn ch54
   replace o48:=o48.cn ch54
   refine fC hv50 (α:=Int) (xss:=l) (i:=7) (γ:=g51) dd bN rfl rfl rfl o_l (o55.flat) o48 rfl (by decide) (by omega) ?_
   intro g56 w57 v58 ch59 o60 r61
   clear o_l o48
   refine ma v58 (ab (aH rfl ?_))
   clear o55 r61
   refine a8 rfl (mz z43_12 (lx (aI (m:=↑e) (n:=1) rfl rfl (by omega)) (ai ((e:Int)+1) (ab ?_))))
   have C62:=cg [5,7] (ch47.n.seq (ch54.n.seq (ch59.lx rfl rfl)))
   refine back8 (v58,(l++[([(e:Int)]:List Int)]),e+1,at1,g56) _ _ ⟨bH.ca C62,z43_3,z43_7,z43_8,z43_10,rfl,rfl,Rg.ca C62,bx5.ca C62,bx16.ca C62,o23.ca C62,o30.ca C62,o60,by omega,?_⟩ ?_
   · show nG g u v (e+1) (l++[([(e:Int)]:List Int)]) at1
     exact hcd.alone hm hu hv ‹_› (.inl ‹_›)
   · show Int.toNat (((g.2.length:Int):Int)-((e+1):Int))<Int.toNat (((g.2.length:Int):Int)-(e:Int))
     omega
  refine lv (vi kk) (wy (df q73)) (au z43_15) (lv (vb (decide (kk<0))) (wy (df q73)) (bm (m:=kk) (n:=0) rfl rfl) (lw (vb (decide (kk<0))) (aP rfl (df q73) rfl) (ab ?_)))
  by_cases p16:kk<0
  ·
   refine ah rfl (dt p16) (aa (a8 rfl (mz z43_11 (mz z43_12 (lo (aC (α:=Int) g42 (is 5) (is 5) (5,0) rfl ([(e:Int)]:List Int) bv aj (by decide) (by decide) (vs:=[(0,vi ↑e)]) rfl rfl (.cons rfl .nil) ?_))))))
   intro g63 w64 v65 ch66 o67
   refine lo ?_
   obtain⟨c68,hv69⟩:=o8 (u:=v65) (bK o67.flat)
   refine aC (α:=Vc) g63 (is 6) (is 6) (6,0) rfl [c68] dd bN (by decide) (by decide) (vs:=[(0,v65)]) rfl rfl (.cons (iR hv69 (c5 o67.flat)) .nil) ?_
   intro g70 w71 v72 ch73 o74
   refine lo ?_
   replace o_l:=(o_l.cn ch66).cn ch73
   replace o67:=o67.cn ch73
   refine fC hv69 (α:=Int) (xss:=l) (i:=7) (γ:=g70) dd bN rfl rfl rfl o_l (o74.flat) o67 rfl (by decide) (by omega) ?_
   intro g75 w76 v77 ch78 o79 r80
   clear o_l o67
   refine ma v77 (ab (aH rfl ?_))
   clear o74 r80
   refine a8 rfl (mz z43_12 (lx (aI (m:=↑e) (n:=1) rfl rfl (by omega)) (ai ((e:Int)+1) (ab ?_))))
   have C81:=cg [5,7] (ch66.n.seq (ch73.n.seq (ch78.lx rfl rfl)))
   refine back8 (v77,(l++[([(e:Int)]:List Int)]),e+1,at1,g75) _ _ ⟨bH.ca C81,z43_3,z43_7,z43_8,z43_10,rfl,rfl,Rg.ca C81,bx5.ca C81,bx16.ca C81,o23.ca C81,o30.ca C81,o79,by omega,?_⟩ ?_
   · show nG g u v (e+1) (l++[([(e:Int)]:List Int)]) at1
     exact hcd.alone hm hu hv ‹_› (.inr (hkk.elim (λh=>⟨h.1,h.2.1⟩) (λh=>absurd h.1.1 (by omega))))
   · show Int.toNat (((g.2.length:Int):Int)-((e+1):Int))<Int.toNat (((g.2.length:Int):Int)-(e:Int))
     omega
  have hkc:=hkk.resolve_left (λh=>absurd h.2.2 (by omega))
  have hkb:0<=kk/\kk<(aU g (List.set (List.set (List.replicate (Int.toNat g.1) false) (Int.toNat u) true) (Int.toNat v) true) []).2:=hkc.1
  have hK:BG g u v e kk:=BG.of hm hu hv ‹_› ‹_› hkc.2
  obtain⟨hna1,hna2⟩:=Bz (l:=l) (kk:=kk) (n:=(aU g (List.set (List.set (List.replicate (Int.toNat g.1) false) (Int.toNat u) true) (Int.toNat v) true) []).2) (at1:=at1) hkb hcn
  obtain⟨hkb0,hkb1⟩:=hkb
  have hnl2:=uM (l:=l)
  have hsl2:=wP (at1:=at1) (kk:=kk) (x:=(List.length (l++[[]]):Int))
  refine ag rfl (df p16) (aq (aa (aa (a8 rfl (mz z43_10 (mz z43_15 (lx (ad (v:=v28) (i:=kk) bv rfl rfl o30.flat rfl (by omega) (by omega)) (lx (az (v:=v28) (i:=kk) aj rfl o30.flat (by omega) (by omega) (by decide) rfl) (lx (cZ (m:=(gI at1 kk)) (n:=0) rfl rfl) (ab ?_))))))))))
  by_cases p18:(gI at1 kk)=0
  ·
   refine ah rfl (dt p18) (aa (a8 rfl (mz z43_11 (lo ?_))))
   obtain⟨c82,hv83⟩:=o8 (u:=vn) rfl
   refine aC (α:=Vc) g42 (is 8) (is 8) (8,0) rfl [c82] dd bN (by decide) (by decide) (vs:=[(0,vn)]) rfl rfl (.cons (iR hv83 rfl) .nil) ?_
   intro g84 w85 v86 ch87 o88
   refine lo ?_
   replace o_l:=o_l.cn ch87
   refine iZ hv83 (α:=Int) (xss:=l) (i:=7) (γ:=g84) dd bN rfl rfl rfl o_l (o88.flat) (by decide) (by omega) ?_
   intro g89 w90 v91 ch92 o93
   clear o_l
   refine ma v91 (ab ?_)
   clear o88
   refine a8 rfl (mz z43_10 (mz z43_15 (mv v91 ?_)))
   have len94:=(o93.sl).small
   refine lx (bq dd rfl o93.sl) ?_
   replace o30:=(o30.cn ch87).ce ch92
   refine lx (ad (v:=v28) (i:=kk) bv rfl rfl o30.flat rfl (by omega) (by omega)) (lo (aQ (i:=kk) (List.length (l++[[]]):Int) aj rfl rfl o30 (by omega) (by omega) rfl ?_))
   intro w95 ch96 bx97
   clear o30
   refine ab ?_
   refine eN (σ:=aG) (λgq f w=>bn w0 gq w/\f 3=vp b3 0/\f 7=v8/\f 8=v22/\f 10=v28/\f 11=v91/\f 12=vi ↑e/\Sl gq (is 0) w g_v g.2/\Bx gq (is 1) w b3 [vi g.1,g_v]/\Ow gq (is 2) (is 2) w v8 (List.set (List.set (List.replicate (Int.toNat g.1) false) (Int.toNat u) true) (Int.toNat v) true)/\Ow gq (is 3) (is 3) w v22 ((aU g (List.set (List.set (List.replicate (Int.toNat g.1) false) (Int.toNat u) true) (Int.toNat v) true) ([])).1)/\Ow gq (is 4) (is 4) w v28 (List.set at1 (Int.toNat kk) (List.length (l++[[]]):Int))/\cY gq 7 w v91 (List.set (l++[[]]) (Int.toNat ((gI (List.set at1 (Int.toNat kk) (List.length (l++[[]]):Int)) kk)-1)) (gI (l++[[]]) ((gI (List.set at1 (Int.toNat kk) (List.length (l++[[]]):Int)) kk)-1)++([(e:Int)]:List Int)))) g89 (inl [7]) kY ?_ ?_
   ·
    intro mid
    intro w99 ch98
    refine ht (v:=v91) 0 rfl (bD.refl _ _ _) (λw' hw'=>au rfl) (ht (v:=v28) 1 rfl (bD.refl _ _ _) (λw' hw'=>au z43_10) (ht (v:=vi kk) 2 rfl (bD.refl _ _ _) (λw' hw'=>au z43_15) ?_))
    replace bx97:=bx97.cn ch98
    refine ht 3 rfl (bD.refl _ _ _) (λw' hw'=>ad (v:=v28) (i:=kk) bv rfl rfl (bx97.flat.chg hw' (cN rfl)) rfl (by omega) (by omega)) (ht 4 rfl (bD.refl _ _ _) (λw' hw'=>az (v:=v28) (i:=kk) aj rfl (bx97.flat.chg hw' (cN rfl)) (by omega) (by omega) (by decide) rfl) (ht 5 rfl (bD.refl _ _ _) (λw' hw'=>dA (m:=(gI (List.set at1 (Int.toNat kk) (List.length (l++[[]]):Int)) kk)) (n:=1) rfl rfl (by omega)) (ht (v:=v91) 6 rfl (bD.refl _ _ _) (λw' hw'=>au rfl) (ht (v:=v28) 7 rfl (bD.refl _ _ _) (λw' hw'=>au z43_10) (ht (v:=vi kk) 8 rfl (bD.refl _ _ _) (λw' hw'=>au z43_15) (ht 9 rfl (bD.refl _ _ _) (λw' hw'=>ad (v:=v28) (i:=kk) bv rfl rfl (bx97.flat.chg hw' (cN rfl)) rfl (by omega) (by omega)) ?_))))))
    refine ht 10 rfl (bD.refl _ _ _) (λw' hw'=>az (v:=v28) (i:=kk) aj rfl (bx97.flat.chg hw' (cN rfl)) (by omega) (by omega) (by decide) rfl) (ht 11 rfl (bD.refl _ _ _) (λw' hw'=>dA (m:=(gI (List.set at1 (Int.toNat kk) (List.length (l++[[]]):Int)) kk)) (n:=1) rfl rfl (by omega)) (ht (v:=vi ↑e) 14 rfl (bD.refl _ _ _) (λw' hw'=>au z43_12) ?_))
    refine eP 12 [15] (by kernel_rfl) ⟨eW 12 rfl (by kernel_rfl) rfl ?_,eW 15 rfl (by kernel_rfl) rfl ?_,trivial⟩
    ·
     replace o93:=(o93.ce ch96).cn ch98
     refine aL (v:=Value.pointer (some (bA v91 1 (Int.toNat ((gI (List.set at1 (Int.toNat kk) (List.length (l++[[]]):Int)) kk)-1))))) (ad (α:=List Int) (xs:=(l++[[]])) (v:=v91) (i:=(gI (List.set at1 (Int.toNat kk) (List.length (l++[[]]):Int)) kk)-1) dd rfl rfl o93.sl rfl (by omega) (by omega)) ?_
     refine⟨(bD.refl _ _ _),?_⟩
     refine eP 13 [15] (by kernel_rfl) ⟨eW 13 rfl (by kernel_rfl) rfl ?_,eW 15 rfl (by kernel_rfl) rfl ?_,trivial⟩
     ·
      obtain⟨v100,cel101,r102⟩:=bR (r:=(gI (List.set at1 (Int.toNat kk) (List.length (l++[[]]):Int)) kk)-1) o93 (by omega) (by omega)
      refine aL (v:=v100) (bF bN rfl cel101) ?_
      refine⟨(bD.refl _ _ _),?_⟩
      refine bu 15 rfl (by kernel_rfl) rfl (aC (α:=Int) g89 (is 10) (is 10) (10,0) rfl ([(e:Int)]:List Int) bv aj (by decide) (by decide) (vs:=[(0,vi ↑e)]) rfl rfl (.cons rfl .nil) ?_)
      intro g103 w104 v105 ch106 o107
      have hs108:bD (inl [7]) _ _ _ _:=ch106.n
      refine⟨hs108.same,?_⟩
      refine bu 16 rfl (by kernel_rfl) rfl ?_
      replace o93:=o93.cn ch106
      replace r102:=r102.cn ch106
      refine bf (α:=Int) (xs:=(gI (l++[[]]) ((gI (List.set at1 (Int.toNat kk) (List.length (l++[[]]):Int)) kk)-1))) (ys:=([(e:Int)]:List Int)) g103 (J:=row 7 (Int.toNat ((gI (List.set at1 (Int.toNat kk) (List.length (l++[[]]):Int)) kk)-1)+1)) (S:=row 7 (Int.toNat ((gI (List.set at1 (Int.toNat kk) (List.length (l++[[]]):Int)) kk)-1)+1)) (7,Int.toNat ((gI (List.set at1 (Int.toNat kk) (List.length (l++[[]]):Int)) kk)-1)+1) rfl bv aj (by decide) rfl rfl rfl r102 o107.flat (by decide) (by(simp only[List.length_cons,List.length_nil];omega)) ?_
      intro g109 w110 v111 ch112 o113
      have o114:=o93.rowchg ch112
      clear o93 cel101 r102
      have hs115:=hs108.seq (ch112.lr rfl)
      refine⟨hs115.same,?_⟩
      refine bu 17 rfl (by kernel_rfl) rfl ?_
      obtain⟨us116,hl117,r118⟩:=o114.vc
      try simp only[List.length_set,List.length_append,List.length_cons,List.length_nil] at hl117
      refine aL (v:=Value.pointer (some (bA v91 1 (Int.toNat ((gI (List.set at1 (Int.toNat kk) (List.length (l++[[]]):Int)) kk)-1))))) (ad (α:=Vc) (xs:=us116) (v:=v91) (i:=(gI (List.set at1 (Int.toNat kk) (List.length (l++[[]]):Int)) kk)-1) dd rfl rfl r118 rfl (by omega) (by omega)) ?_
      refine⟨hs115.same,?_⟩
      refine bu 18 rfl (by kernel_rfl) rfl (bM (r:=(gI (List.set at1 (Int.toNat kk) (List.length (l++[[]]):Int)) kk)-1) bN rfl rfl o114 o113 (by omega) (by omega) ?_)
      intro w122 ch123 o124
      clear o114 o113
      have hs125:=hs115.seq (ch123.l rfl)
      refine⟨hs125.same,?_⟩
      refine eE (by kernel_rfl) ?_
      have C126:=cg [4,7] (ch87.n.seq ((ch92.l rfl).seq ((ch96.l rfl).seq (ch98.n.seq (ch106.n.seq ((ch112.lr rfl).seq (ch123.l rfl)))))))
      have C127:=cg [4,7] (ch87.n.seq ((ch92.l rfl).seq ((ch96.l rfl).seq ch98.n)))
      replace Rg:=Rg.ca C127
      replace bx5:=bx5.ca C127
      replace bx16:=bx16.ca C127
      replace o23:=o23.ca C127
      exact mid (g109) _ _ ⟨bH.ca C126,z43_3,z43_7,z43_8,z43_10,rfl,z43_12,(Rg.ca hs125),(bx5.ca hs125),(bx16.ca hs125),(o23.ca hs125),(bx97.ca hs125),o124⟩
     ·
      refine aC (α:=Int) g89 (is 10) (is 10) (10,0) rfl ([(e:Int)]:List Int) bv aj (by decide) (by decide) (vs:=[(0,vi ↑e)]) rfl rfl (.cons rfl .nil) ?_
      intro g128 w129 v130 ch131 o132
      have hs133:bD (inl [7]) _ _ _ _:=ch131.n
      refine⟨hs133.same,?_⟩
      refine bu 13 rfl (by kernel_rfl) rfl ?_
      replace o93:=o93.cn ch131
      obtain⟨v134,cel135,r136⟩:=bR (r:=(gI (List.set at1 (Int.toNat kk) (List.length (l++[[]]):Int)) kk)-1) o93 (by omega) (by omega)
      refine aL (v:=v134) (bF bN rfl cel135) ?_
      refine⟨hs133.same,?_⟩
      refine bu 16 rfl (by kernel_rfl) rfl (bf (α:=Int) (xs:=(gI (l++[[]]) ((gI (List.set at1 (Int.toNat kk) (List.length (l++[[]]):Int)) kk)-1))) (ys:=([(e:Int)]:List Int)) g128 (J:=row 7 (Int.toNat ((gI (List.set at1 (Int.toNat kk) (List.length (l++[[]]):Int)) kk)-1)+1)) (S:=row 7 (Int.toNat ((gI (List.set at1 (Int.toNat kk) (List.length (l++[[]]):Int)) kk)-1)+1)) (7,Int.toNat ((gI (List.set at1 (Int.toNat kk) (List.length (l++[[]]):Int)) kk)-1)+1) rfl bv aj (by decide) rfl rfl rfl r136 o132.flat (by decide) (by(simp only[List.length_cons,List.length_nil];omega)) ?_)
      intro g137 w138 v139 ch140 o141
      have o142:=o93.rowchg ch140
      clear o93 cel135 r136
      have hs143:=hs133.seq (ch140.lr rfl)
      refine⟨hs143.same,?_⟩
      refine bu 17 rfl (by kernel_rfl) rfl ?_
      obtain⟨us144,hl145,r146⟩:=o142.vc
      try simp only[List.length_set,List.length_append,List.length_cons,List.length_nil] at hl145
      refine aL (v:=Value.pointer (some (bA v91 1 (Int.toNat ((gI (List.set at1 (Int.toNat kk) (List.length (l++[[]]):Int)) kk)-1))))) (ad (α:=Vc) (xs:=us144) (v:=v91) (i:=(gI (List.set at1 (Int.toNat kk) (List.length (l++[[]]):Int)) kk)-1) dd rfl rfl r146 rfl (by omega) (by omega)) ?_
      refine⟨hs143.same,?_⟩
      refine bu 18 rfl (by kernel_rfl) rfl (bM (r:=(gI (List.set at1 (Int.toNat kk) (List.length (l++[[]]):Int)) kk)-1) bN rfl rfl o142 o141 (by omega) (by omega) ?_)
      intro w150 ch151 o152
      clear o142 o141
      have hs153:=hs143.seq (ch151.l rfl)
      refine⟨hs153.same,?_⟩
      refine eE (by kernel_rfl) ?_
      have C154:=cg [4,7] (ch87.n.seq ((ch92.l rfl).seq ((ch96.l rfl).seq (ch98.n.seq (ch131.n.seq ((ch140.lr rfl).seq (ch151.l rfl)))))))
      have C155:=cg [4,7] (ch87.n.seq ((ch92.l rfl).seq ((ch96.l rfl).seq ch98.n)))
      replace Rg:=Rg.ca C155
      replace bx5:=bx5.ca C155
      replace bx16:=bx16.ca C155
      replace o23:=o23.ca C155
      exact mid (g137) _ _ ⟨bH.ca C154,z43_3,z43_7,z43_8,z43_10,rfl,z43_12,(Rg.ca hs153),(bx5.ca hs153),(bx16.ca hs153),(o23.ca hs153),(bx97.ca hs153),o152⟩
    ·
     refine aC (α:=Int) g89 (is 10) (is 10) (10,0) rfl ([(e:Int)]:List Int) bv aj (by decide) (by decide) (vs:=[(0,vi ↑e)]) rfl rfl (.cons rfl .nil) ?_
     intro g156 w157 v158 ch159 o160
     have hs161:bD (inl [7]) _ _ _ _:=ch159.n
     refine⟨hs161.same,?_⟩
     refine bu 12 rfl (by kernel_rfl) rfl ?_
     have C162:=cg [4] ((ch96.l rfl).seq (ch98.n.seq ch159.n))
     replace o93:=o93.ca C162
     refine aL (v:=Value.pointer (some (bA v91 1 (Int.toNat ((gI (List.set at1 (Int.toNat kk) (List.length (l++[[]]):Int)) kk)-1))))) (ad (α:=List Int) (xs:=(l++[[]])) (v:=v91) (i:=(gI (List.set at1 (Int.toNat kk) (List.length (l++[[]]):Int)) kk)-1) dd rfl rfl o93.sl rfl (by omega) (by omega)) ?_
     refine⟨hs161.same,?_⟩
     refine bu 13 rfl (by kernel_rfl) rfl ?_
     obtain⟨v163,cel164,r165⟩:=bR (r:=(gI (List.set at1 (Int.toNat kk) (List.length (l++[[]]):Int)) kk)-1) o93 (by omega) (by omega)
     refine aL (v:=v163) (bF bN rfl cel164) ?_
     refine⟨hs161.same,?_⟩
     refine bu 16 rfl (by kernel_rfl) rfl (bf (α:=Int) (xs:=(gI (l++[[]]) ((gI (List.set at1 (Int.toNat kk) (List.length (l++[[]]):Int)) kk)-1))) (ys:=([(e:Int)]:List Int)) g156 (J:=row 7 (Int.toNat ((gI (List.set at1 (Int.toNat kk) (List.length (l++[[]]):Int)) kk)-1)+1)) (S:=row 7 (Int.toNat ((gI (List.set at1 (Int.toNat kk) (List.length (l++[[]]):Int)) kk)-1)+1)) (7,Int.toNat ((gI (List.set at1 (Int.toNat kk) (List.length (l++[[]]):Int)) kk)-1)+1) rfl bv aj (by decide) rfl rfl rfl r165 o160.flat (by decide) (by(simp only[List.length_cons,List.length_nil];omega)) ?_)
     intro g166 w167 v168 ch169 o170
     have o171:=o93.rowchg ch169
     clear o93 cel164 r165
     have hs172:=hs161.seq (ch169.lr rfl)
     refine⟨hs172.same,?_⟩
     refine bu 17 rfl (by kernel_rfl) rfl ?_
     obtain⟨us173,hl174,r175⟩:=o171.vc
     try simp only[List.length_set,List.length_append,List.length_cons,List.length_nil] at hl174
     refine aL (v:=Value.pointer (some (bA v91 1 (Int.toNat ((gI (List.set at1 (Int.toNat kk) (List.length (l++[[]]):Int)) kk)-1))))) (ad (α:=Vc) (xs:=us173) (v:=v91) (i:=(gI (List.set at1 (Int.toNat kk) (List.length (l++[[]]):Int)) kk)-1) dd rfl rfl r175 rfl (by omega) (by omega)) ?_
     refine⟨hs172.same,?_⟩
     refine bu 18 rfl (by kernel_rfl) rfl (bM (r:=(gI (List.set at1 (Int.toNat kk) (List.length (l++[[]]):Int)) kk)-1) bN rfl rfl o171 o170 (by omega) (by omega) ?_)
     intro w179 ch180 o181
     clear o171 o170
     have hs182:=hs172.seq (ch180.l rfl)
     refine⟨hs182.same,?_⟩
     refine eE (by kernel_rfl) ?_
     have C183:=cg [4,7] (ch87.n.seq ((ch92.l rfl).seq ((ch96.l rfl).seq (ch98.n.seq (ch159.n.seq ((ch169.lr rfl).seq (ch180.l rfl)))))))
     have C184:=cg [4,7] (ch87.n.seq ((ch92.l rfl).seq ((ch96.l rfl).seq ch98.n)))
     replace Rg:=Rg.ca C184
     replace bx5:=bx5.ca C184
     replace bx16:=bx16.ca C184
     replace o23:=o23.ca C184
     exact mid (g166) _ _ ⟨bH.ca C183,z43_3,z43_7,z43_8,z43_10,rfl,z43_12,(Rg.ca hs182),(bx5.ca hs182),(bx16.ca hs182),(o23.ca hs182),(bx97.ca hs182),o181⟩
   clear Rg bx5 bx16 o23 o93 bx97 bH
   rintro g187 f185 w186 ⟨bH,zs3,zs7,zs8,zs10,zs11,zs12,Rg,bx5,bx16,o23,bx97,o124⟩
   refine am (a8 rfl (mz zs12 (lx (aI (m:=↑e) (n:=1) rfl rfl (by omega)) (ai ((e:Int)+1) (ab ?_)))))
   refine back8 (v91,(List.set (l++[[]]) (Int.toNat ((gI (List.set at1 (Int.toNat kk) (List.length (l++[[]]):Int)) kk)-1)) (gI (l++[[]]) ((gI (List.set at1 (Int.toNat kk) (List.length (l++[[]]):Int)) kk)-1)++([(e:Int)]:List Int))),e+1,(List.set at1 (Int.toNat kk) (List.length (l++[[]]):Int)),g187) _ _ ⟨bH,zs3,zs7,zs8,zs10,zs11,rfl,Rg,bx5,bx16,o23,bx97,o124,by omega,?_⟩ ?_
   · show nG g u v (e+1) (List.set (l++[[]]) (Int.toNat ((gI (List.set at1 (Int.toNat kk) (List.length (l++[[]]):Int)) kk)-1)) (gI (l++[[]]) ((gI (List.set at1 (Int.toNat kk) (List.length (l++[[]]):Int)) kk)-1)++([(e:Int)]:List Int))) (List.set at1 (Int.toNat kk) (List.length (l++[[]]):Int))
     exact hcd.new hm hu hv hK ‹_› (by rw[uM]) rfl
   · show Int.toNat (((g.2.length:Int):Int)-((e+1):Int))<Int.toNat (((g.2.length:Int):Int)-(e:Int))
     omega
  obtain⟨hps0,hps1,hps2⟩:=hcd.pos hK ‹_›
  refine ag rfl (df p18) (aq ?_)
  refine eN (σ:=aG) (λgq f w=>bn w0 gq w/\f 3=vp b3 0/\f 7=v8/\f 8=v22/\f 10=v28/\f 11=l_v/\f 12=vi ↑e/\Sl gq (is 0) w g_v g.2/\Bx gq (is 1) w b3 [vi g.1,g_v]/\Ow gq (is 2) (is 2) w v8 (List.set (List.set (List.replicate (Int.toNat g.1) false) (Int.toNat u) true) (Int.toNat v) true)/\Ow gq (is 3) (is 3) w v22 ((aU g (List.set (List.set (List.replicate (Int.toNat g.1) false) (Int.toNat u) true) (Int.toNat v) true) ([])).1)/\Ow gq (is 4) (is 4) w v28 at1/\cY gq 7 w l_v (List.set l (Int.toNat ((gI at1 kk)-1)) (gI l ((gI at1 kk)-1)++([(e:Int)]:List Int)))) g42 (inl [7]) kY ?_ ?_
  ·
   intro mid
   intro w189 ch188
   refine ht (v:=l_v) 0 rfl (bD.refl _ _ _) (λw' hw'=>au z43_11) (ht (v:=v28) 1 rfl (bD.refl _ _ _) (λw' hw'=>au z43_10) (ht (v:=vi kk) 2 rfl (bD.refl _ _ _) (λw' hw'=>au z43_15) ?_))
   replace o30:=o30.cn ch188
   refine ht 3 rfl (bD.refl _ _ _) (λw' hw'=>ad (v:=v28) (i:=kk) bv rfl rfl (o30.flat.chg hw' (cN rfl)) rfl (by omega) (by omega)) (ht 4 rfl (bD.refl _ _ _) (λw' hw'=>az (v:=v28) (i:=kk) aj rfl (o30.flat.chg hw' (cN rfl)) (by omega) (by omega) (by decide) rfl) (ht 5 rfl (bD.refl _ _ _) (λw' hw'=>dA (m:=(gI at1 kk)) (n:=1) rfl rfl (by omega)) (ht (v:=l_v) 6 rfl (bD.refl _ _ _) (λw' hw'=>au z43_11) (ht (v:=v28) 7 rfl (bD.refl _ _ _) (λw' hw'=>au z43_10) (ht (v:=vi kk) 8 rfl (bD.refl _ _ _) (λw' hw'=>au z43_15) (ht 9 rfl (bD.refl _ _ _) (λw' hw'=>ad (v:=v28) (i:=kk) bv rfl rfl (o30.flat.chg hw' (cN rfl)) rfl (by omega) (by omega)) ?_))))))
   refine ht 10 rfl (bD.refl _ _ _) (λw' hw'=>az (v:=v28) (i:=kk) aj rfl (o30.flat.chg hw' (cN rfl)) (by omega) (by omega) (by decide) rfl) (ht 11 rfl (bD.refl _ _ _) (λw' hw'=>dA (m:=(gI at1 kk)) (n:=1) rfl rfl (by omega)) (ht (v:=vi ↑e) 14 rfl (bD.refl _ _ _) (λw' hw'=>au z43_12) ?_))
   refine eP 12 [15] (by kernel_rfl) ⟨eW 12 rfl (by kernel_rfl) rfl ?_,eW 15 rfl (by kernel_rfl) rfl ?_,trivial⟩
   ·
    replace o_l:=o_l.cn ch188
    refine aL (v:=Value.pointer (some (bA l_v 1 (Int.toNat ((gI at1 kk)-1))))) (ad (α:=List Int) (xs:=l) (v:=l_v) (i:=(gI at1 kk)-1) dd rfl rfl o_l.sl rfl (by omega) (by omega)) ?_
    refine⟨(bD.refl _ _ _),?_⟩
    refine eP 13 [15] (by kernel_rfl) ⟨eW 13 rfl (by kernel_rfl) rfl ?_,eW 15 rfl (by kernel_rfl) rfl ?_,trivial⟩
    ·
     obtain⟨v190,cel191,r192⟩:=bR (r:=(gI at1 kk)-1) o_l (by omega) (by omega)
     refine aL (v:=v190) (bF bN rfl cel191) ?_
     refine⟨(bD.refl _ _ _),?_⟩
     refine bu 15 rfl (by kernel_rfl) rfl (aC (α:=Int) g42 (is 10) (is 10) (10,0) rfl ([(e:Int)]:List Int) bv aj (by decide) (by decide) (vs:=[(0,vi ↑e)]) rfl rfl (.cons rfl .nil) ?_)
     intro g193 w194 v195 ch196 o197
     have hs198:bD (inl [7]) _ _ _ _:=ch196.n
     refine⟨hs198.same,?_⟩
     refine bu 16 rfl (by kernel_rfl) rfl ?_
     replace o_l:=o_l.cn ch196
     replace r192:=r192.cn ch196
     refine bf (α:=Int) (xs:=(gI l ((gI at1 kk)-1))) (ys:=([(e:Int)]:List Int)) g193 (J:=row 7 (Int.toNat ((gI at1 kk)-1)+1)) (S:=row 7 (Int.toNat ((gI at1 kk)-1)+1)) (7,Int.toNat ((gI at1 kk)-1)+1) rfl bv aj (by decide) rfl rfl rfl r192 o197.flat (by decide) (by(simp only[List.length_cons,List.length_nil];omega)) ?_
     intro g199 w200 v201 ch202 o203
     have o204:=o_l.rowchg ch202
     clear o_l cel191 r192
     have hs205:=hs198.seq (ch202.lr rfl)
     refine⟨hs205.same,?_⟩
     refine bu 17 rfl (by kernel_rfl) rfl ?_
     obtain⟨us206,hl207,r208⟩:=o204.vc
     try simp only[List.length_set,List.length_append,List.length_cons,List.length_nil] at hl207
     refine aL (v:=Value.pointer (some (bA l_v 1 (Int.toNat ((gI at1 kk)-1))))) (ad (α:=Vc) (xs:=us206) (v:=l_v) (i:=(gI at1 kk)-1) dd rfl rfl r208 rfl (by omega) (by omega)) ?_
     refine⟨hs205.same,?_⟩
     refine bu 18 rfl (by kernel_rfl) rfl (bM (r:=(gI at1 kk)-1) bN rfl rfl o204 o203 (by omega) (by omega) ?_)
     intro w212 ch213 o214
     clear o204 o203
     have hs215:=hs205.seq (ch213.l rfl)
     refine⟨hs215.same,?_⟩
     refine eE (by kernel_rfl) ?_
     have C216:=cg [7] (ch188.n.seq (ch196.n.seq ((ch202.lr rfl).seq (ch213.l rfl))))
     replace Rg:=Rg.cn ch188
     replace bx5:=bx5.cn ch188
     replace bx16:=bx16.cn ch188
     replace o23:=o23.cn ch188
     exact mid (g199) _ _ ⟨bH.ca C216,z43_3,z43_7,z43_8,z43_10,z43_11,z43_12,(Rg.ca hs215),(bx5.ca hs215),(bx16.ca hs215),(o23.ca hs215),(o30.ca hs215),o214⟩
    ·
     refine aC (α:=Int) g42 (is 10) (is 10) (10,0) rfl ([(e:Int)]:List Int) bv aj (by decide) (by decide) (vs:=[(0,vi ↑e)]) rfl rfl (.cons rfl .nil) ?_
     intro g217 w218 v219 ch220 o221
     have hs222:bD (inl [7]) _ _ _ _:=ch220.n
     refine⟨hs222.same,?_⟩
     refine bu 13 rfl (by kernel_rfl) rfl ?_
     replace o_l:=o_l.cn ch220
     obtain⟨v223,cel224,r225⟩:=bR (r:=(gI at1 kk)-1) o_l (by omega) (by omega)
     refine aL (v:=v223) (bF bN rfl cel224) ?_
     refine⟨hs222.same,?_⟩
     refine bu 16 rfl (by kernel_rfl) rfl (bf (α:=Int) (xs:=(gI l ((gI at1 kk)-1))) (ys:=([(e:Int)]:List Int)) g217 (J:=row 7 (Int.toNat ((gI at1 kk)-1)+1)) (S:=row 7 (Int.toNat ((gI at1 kk)-1)+1)) (7,Int.toNat ((gI at1 kk)-1)+1) rfl bv aj (by decide) rfl rfl rfl r225 o221.flat (by decide) (by(simp only[List.length_cons,List.length_nil];omega)) ?_)
     intro g226 w227 v228 ch229 o230
     have o231:=o_l.rowchg ch229
     clear o_l cel224 r225
     have hs232:=hs222.seq (ch229.lr rfl)
     refine⟨hs232.same,?_⟩
     refine bu 17 rfl (by kernel_rfl) rfl ?_
     obtain⟨us233,hl234,r235⟩:=o231.vc
     try simp only[List.length_set,List.length_append,List.length_cons,List.length_nil] at hl234
     refine aL (v:=Value.pointer (some (bA l_v 1 (Int.toNat ((gI at1 kk)-1))))) (ad (α:=Vc) (xs:=us233) (v:=l_v) (i:=(gI at1 kk)-1) dd rfl rfl r235 rfl (by omega) (by omega)) ?_
     refine⟨hs232.same,?_⟩
     refine bu 18 rfl (by kernel_rfl) rfl (bM (r:=(gI at1 kk)-1) bN rfl rfl o231 o230 (by omega) (by omega) ?_)
     intro w239 ch240 o241
     clear o231 o230
     have hs242:=hs232.seq (ch240.l rfl)
     refine⟨hs242.same,?_⟩
     refine eE (by kernel_rfl) ?_
     have C243:=cg [7] (ch188.n.seq (ch220.n.seq ((ch229.lr rfl).seq (ch240.l rfl))))
     replace Rg:=Rg.cn ch188
     replace bx5:=bx5.cn ch188
     replace bx16:=bx16.cn ch188
     replace o23:=o23.cn ch188
     exact mid (g226) _ _ ⟨bH.ca C243,z43_3,z43_7,z43_8,z43_10,z43_11,z43_12,(Rg.ca hs242),(bx5.ca hs242),(bx16.ca hs242),(o23.ca hs242),(o30.ca hs242),o241⟩
   ·
    refine aC (α:=Int) g42 (is 10) (is 10) (10,0) rfl ([(e:Int)]:List Int) bv aj (by decide) (by decide) (vs:=[(0,vi ↑e)]) rfl rfl (.cons rfl .nil) ?_
    intro g244 w245 v246 ch247 o248
    have hs249:bD (inl [7]) _ _ _ _:=ch247.n
    refine⟨hs249.same,?_⟩
    refine bu 12 rfl (by kernel_rfl) rfl ?_
    replace o_l:=(o_l.cn ch188).cn ch247
    refine aL (v:=Value.pointer (some (bA l_v 1 (Int.toNat ((gI at1 kk)-1))))) (ad (α:=List Int) (xs:=l) (v:=l_v) (i:=(gI at1 kk)-1) dd rfl rfl o_l.sl rfl (by omega) (by omega)) ?_
    refine⟨hs249.same,?_⟩
    refine bu 13 rfl (by kernel_rfl) rfl ?_
    obtain⟨v250,cel251,r252⟩:=bR (r:=(gI at1 kk)-1) o_l (by omega) (by omega)
    refine aL (v:=v250) (bF bN rfl cel251) ?_
    refine⟨hs249.same,?_⟩
    refine bu 16 rfl (by kernel_rfl) rfl (bf (α:=Int) (xs:=(gI l ((gI at1 kk)-1))) (ys:=([(e:Int)]:List Int)) g244 (J:=row 7 (Int.toNat ((gI at1 kk)-1)+1)) (S:=row 7 (Int.toNat ((gI at1 kk)-1)+1)) (7,Int.toNat ((gI at1 kk)-1)+1) rfl bv aj (by decide) rfl rfl rfl r252 o248.flat (by decide) (by(simp only[List.length_cons,List.length_nil];omega)) ?_)
    intro g253 w254 v255 ch256 o257
    have o258:=o_l.rowchg ch256
    clear o_l cel251 r252
    have hs259:=hs249.seq (ch256.lr rfl)
    refine⟨hs259.same,?_⟩
    refine bu 17 rfl (by kernel_rfl) rfl ?_
    obtain⟨us260,hl261,r262⟩:=o258.vc
    try simp only[List.length_set,List.length_append,List.length_cons,List.length_nil] at hl261
    refine aL (v:=Value.pointer (some (bA l_v 1 (Int.toNat ((gI at1 kk)-1))))) (ad (α:=Vc) (xs:=us260) (v:=l_v) (i:=(gI at1 kk)-1) dd rfl rfl r262 rfl (by omega) (by omega)) ?_
    refine⟨hs259.same,?_⟩
    refine bu 18 rfl (by kernel_rfl) rfl (bM (r:=(gI at1 kk)-1) bN rfl rfl o258 o257 (by omega) (by omega) ?_)
    intro w266 ch267 o268
    clear o258 o257
    have hs269:=hs259.seq (ch267.l rfl)
    refine⟨hs269.same,?_⟩
    refine eE (by kernel_rfl) ?_
    have C270:=cg [7] (ch188.n.seq (ch247.n.seq ((ch256.lr rfl).seq (ch267.l rfl))))
    replace Rg:=Rg.cn ch188
    replace bx5:=bx5.cn ch188
    replace bx16:=bx16.cn ch188
    replace o23:=o23.cn ch188
    exact mid (g253) _ _ ⟨bH.ca C270,z43_3,z43_7,z43_8,z43_10,z43_11,z43_12,(Rg.ca hs269),(bx5.ca hs269),(bx16.ca hs269),(o23.ca hs269),(o30.ca hs269),o268⟩
  clear Rg bx5 bx16 o23 o30 o_l bH
  rintro g273 f271 w272 ⟨bH,zs3,zs7,zs8,zs10,zs11,zs12,Rg,bx5,bx16,o23,o30,o214⟩
  refine am (a8 rfl (mz zs12 (lx (aI (m:=↑e) (n:=1) rfl rfl (by omega)) (ai ((e:Int)+1) (ab ?_)))))
  refine back8 (l_v,(List.set l (Int.toNat ((gI at1 kk)-1)) (gI l ((gI at1 kk)-1)++([(e:Int)]:List Int))),e+1,at1,g273) _ _ ⟨bH,zs3,zs7,zs8,zs10,zs11,rfl,Rg,bx5,bx16,o23,o30,o214,by omega,?_⟩ ?_
  · show nG g u v (e+1) (List.set l (Int.toNat ((gI at1 kk)-1)) (gI l ((gI at1 kk)-1)++([(e:Int)]:List Int))) at1
    exact hcd.old hK ‹_› rfl
  · show Int.toNat (((g.2.length:Int):Int)-((e+1):Int))<Int.toNat (((g.2.length:Int):Int)-(e:Int))
    omega
 refine ag rfl (df p8) (aH rfl (aa ?_))
 clear bx5 bx16 o23 o30
 refine a8 rfl (mz zs11 (ma l_v (ab (aD (vs:=[l_v]) Try.func19 (.tmp rfl .nil) ?_))))
 have e0:(l:fG)=(bE g u v):=by
   exact hcd.done (by omega) ‹_›
 exact⟨(fin w0 g34 (λn=>if n=7 then 1 else 0),l_v),(congrArg (a₁:=l) (λ(z0:fG)=>Ending.returned (l_v)) e0),bH.fresh _,(e0▸(o_l.glue (γ:=c0) (ren:=(λn=>if n=7 then 1 else 0)) (k:=1) bH.col rfl rfl))⟩
end TL
