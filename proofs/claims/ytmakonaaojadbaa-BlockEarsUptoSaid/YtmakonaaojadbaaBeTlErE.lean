import Derived.Test.YtmakonaaojadbaaBeTlP4
import Derived.Test.YtmakonaaojadbaaBeTlGmA
import Derived.Test.YtmakonaaojadbaaBeTlGenA
import Derived.Test.YtmakonaaojadbaaBeTlErC
import Derived.Test.YtmakonaaojadbaaBeTlErD
import Derived.Test.YtmakonaaojadbaaBeTlKeepA
import Derived.Test.YtmakonaaojadbaaBeTlBkG
import Derived.Test.YtmakonaaojadbaaProg
import Derived.Test.YtmakonaaojadbaaBeTlAli
set_option linter.all false
set_option maxRecDepth 20000
namespace TL
open Go Go.Proofs
theorem mH:Try.prog.follows .mixedOrders=true:=by kernel_rfl
theorem ux:Try.f8.body.isNone=false:=rfl
theorem uw:(Try.f8.name== "runtime.NumGoroutine")=false:=by decide+kernel
theorem un:Try.f9.body.isNone=false:=rfl
theorem uE:(Try.f9.name== "runtime.NumGoroutine")=false:=by decide+kernel
theorem sV:Try.f22.body.isNone=false:=rfl
theorem sf:(Try.f22.name== "runtime.NumGoroutine")=false:=by decide+kernel
theorem tC:Try.f25.body.isNone=false:=rfl
theorem tq:(Try.f25.name== "runtime.NumGoroutine")=false:=by decide+kernel
theorem tF:Try.f27.body.isNone=false:=rfl
theorem tf:(Try.f27.name== "runtime.NumGoroutine")=false:=by decide+kernel
theorem tw:Try.f28.body.isNone=false:=rfl
theorem sO:(Try.f28.name== "runtime.NumGoroutine")=false:=by decide+kernel
theorem nY:Try.f29.body.isNone=false:=rfl
theorem oB:(Try.f29.name== "runtime.NumGoroutine")=false:=by decide+kernel
theorem th:Try.f46.body.isNone=false:=rfl
theorem s6:(Try.f46.name== "runtime.NumGoroutine")=false:=by decide+kernel
set_option maxHeartbeats 8000000 in
theorem lg(w0:World)(g:(Int)×(List Pt))(g_v:Value)(hg_v:Ro w0 g_v g.2):
    Calls Try.prog 4 #[vg [vi g.1,g_v]] w0 (λee w=>ee= .returned (vb true)/\eB w0.heap.size w0 w):=by
 refine aB Try.func4 rfl nq ?_
 have bH:=bp.start w0
 have Rg:=hg_v.sl
 have hel:=ql g
 refine aa (a8 rfl (du rfl (dk c0 (is 1) (1,0) rfl rfl ?_)))
 intro g4 w1 b3 ch2 bx5
 replace bx5:Bx g4 (is 1) w1 b3 [vi g.1,g_v]:=bx5
 refine ma (vb false) (ag (aa (aa (a8 rfl (du rfl (cA (v:=vb true) (aX (vals:=[]) Try.func8 ux uw rfl) (pD w1) ?_))))))
 intro w6 hb7
 replace hb7:=aN hb7 g4
 refine lx (dV (b:=true) rfl) (ag (aj rfl rfl (aw (aa (aa (a8 rfl ?_))))))
 replace bx5:=bx5.cn hb7
 refine lx (aD (ds:=[vi g.1,g_v]) c7 rfl bx5 rfl rfl) ?_
 replace Rg:=(Rg.cn ch2).cn hb7
 refine lo (cA (v:=vb (decide (¬bf g\/(g.1<=40/\g.2.length<=60)))) (aX (vals:=[vg [vi g.1,g_v]]) Try.func9 un uE rfl) (pQ w6 g g_v (Rg).ro) ?_)
 intro w8 hb9
 replace hb9:=aN hb9 g4
 refine lx (dV (b:=(decide (¬bf g\/(g.1<=40/\g.2.length<=60)))) rfl) (ag ?_)
 by_cases p3:(decide (¬bf g\/(g.1<=40/\g.2.length<=60)))=true
 ·
  refine aj rfl (congrArg Bool.not p3) (aw (aa (a8 rfl ?_)))
  replace bx5:=bx5.cn hb9
  refine lx (aD (ds:=[vi g.1,g_v]) c7 rfl bx5 rfl rfl) ?_
  replace Rg:=Rg.cn hb9
  refine lo (cI (aX (vals:=[vg [vi g.1,g_v]]) Try.func26 lE lG rfl) (nc w8 g g_v (Rg).ro (by exact qj g)) ?_)
  rintro⟨d11,v13⟩ w10 ⟨fr12,o14⟩
  obtain⟨g15,ch16,G15⟩:=kR g4 fr12 (λn=>if n=1 then 2 else 0)
  replace o14:=o14.gl G15 2
  refine mv (vt [v13,vi ((bI g).2)]) (lx (aP rfl rfl) (lx (aP rfl rfl) (ma v13 (ai ((bI g).2) (ag (aa (av (aa (a8 rfl ?_)))))))))
  replace bx5:=bx5.cn ch16
  refine lx (aD (ds:=[vi g.1,g_v]) c7 rfl bx5 rfl rfl) ?_
  replace Rg:=Rg.cn ch16
  refine lo (cA (v:=vb (da g)) (aX (vals:=[vg [vi g.1,g_v]]) Try.func16 ot nT rfl) (oy w10 g g_v (Rg).ro) ?_)
  intro w17 hb18
  replace hb18:=aN hb18 g15
  refine lx (dV (b:=(da g)) rfl) (ma (vb (!(da g))) (ag ?_))
  by_cases p6:(da g)=true
  ·
   have hm:bf g:=of_decide_eq_true ‹_›
   obtain⟨hm1,hm2,hm3,hm4⟩:=id hm
   refine aj rfl (congrArg Bool.not p6) (aa (a8 rfl ?_))
   replace bx5:=bx5.cn hb18
   refine lx (aD (ds:=[vi g.1,g_v]) c7 rfl bx5 rfl rfl) ?_
   replace Rg:=Rg.cn hb18
   refine lo (cA (v:=vb (bL g)) (aX (vals:=[vg [vi g.1,g_v]]) Try.func22 sV sf rfl) (pB w17 g g_v (Rg).ro (by exact hm)) ?_)
   intro w19 hb20
   replace hb20:=aN hb20 g15
   refine lx (dV (b:=(bL g)) rfl) (ma (vb (!(bL g))) (ag ?_))
   by_cases p8:(bL g)=true
   ·
    refine aj rfl (congrArg Bool.not p8) (aa (a8 rfl (lx (ae dD rfl rfl rfl rfl) ?_)))
    replace bx5:=bx5.cn hb20
    refine lx (af bT rfl bx5 rfl) ?_
    replace Rg:=Rg.cn hb20
    have len21:=(Rg).small
    refine lx (bh eM rfl Rg) (lx (b7 (m:=(g.2.length:Int)) (n:=2) rfl rfl) (ma (vb (decide ((g.2.length:Int)<2))) (ag ?_)))
    by_cases p10:(g.2.length:Int)<2
    ·
     obtain⟨he1,he2⟩:=uk hm ‹_› (by omega)
     refine ao rfl (dt p10) (aa ?_)
     clear bx5
     refine a8 rfl (mi ((bI g).2) (lx (cq (m:=(bI g).2) (n:=9) rfl rfl) (mv (vb (decide (((bI g).2)=9))) ?_)))
     have q47:((bI g).2)=9:=by exact he1
     refine lv (v13) (wy (dt q47)) (au rfl) ?_
     replace o14:=(o14.cn hb18).cn hb20
     have len22:=(o14.sl).small
     refine lv (vi (List.length ((bI g).1):Int)) (wy (dt q47)) (bh dE rfl o14.sl) (lv (vb (decide ((List.length ((bI g).1):Int)=0))) (wy (dt q47)) (cq (m:=(List.length ((bI g).1):Int)) (n:=0) rfl rfl) (lw (vb (decide ((List.length ((bI g).1):Int)=0))) (aZ rfl (dt q47) rfl) (ma (vb (decide ((List.length ((bI g).1):Int)=0))) (ag (aH (vs:=[vb (decide ((List.length ((bI g).1):Int)=0))]) Try.func4 (.tmp rfl .nil) ?_)))))
     have e0:(decide ((List.length ((bI g).1):Int)=0):Bool)=(true):=by
       exact dt he2
     have C23:=cg [] (ch2.n.seq (hb7.n.seq (hb9.n.seq (ch16.n.seq (hb18.n.seq hb20.n)))))
     replace bH:=bH.ca C23
     exact⟨(congrArg (a₁:=decide ((List.length ((bI g).1):Int)=0)) (λ(z0:Bool)=>Ending.returned (vb z0)) e0),bH.below⟩
    obtain⟨hEF,he0⟩:=sS hm ‹_› (by omega)
    refine aj rfl (df p10) (aw (am (aa (a8 rfl (lw (vg [vn,vi 0]) (bG (vs:=[]) rfl (by kernel_rfl)) (lo (dk g15 (is 3) (3,0) rfl rfl ?_)))))))
    intro g27 w24 b26 ch25 bx28
    replace bx28:Bx g27 (is 3) w24 b26 [vn,vi 0]:=bx28
    refine ma (vp b26 0) (ag (aa (a8 rfl ?_)))
    replace bx5:=bx5.cn ch25
    refine lx (aD (ds:=[vi g.1,g_v]) c7 rfl bx5 rfl rfl) ?_
    replace Rg:=Rg.cn ch25
    refine lo (cI (aX (vals:=[vg [vi g.1,g_v]]) Try.func26 lE lG rfl) (nc w24 g g_v (Rg).ro (by exact qj g)) ?_)
    rintro⟨d30,v32⟩ w29 ⟨fr31,o33⟩
    obtain⟨g34,ch35,G34⟩:=kR g27 fr31 (λn=>if n=1 then 4 else 0)
    replace o33:=o33.gl G34 4
    refine mv (vt [v32,vi ((bI g).2)]) (lx (aP rfl rfl) (lx (aP rfl rfl) (ma v32 (ai ((bI g).2) (ag (aa (aa (a8 rfl (mi ((bI g).2) (lx (eQ (m:=(bI g).2) (n:=0) rfl rfl) (mv (vb (!(decide (((bI g).2)=0)))) ?_)))))))))))
    have q61:((bI g).2)=0:=by exact he0
    replace bx5:=bx5.cn ch35
    refine lv (vg [vi g.1,g_v]) (wy (congrArg Bool.not (dt q61))) (aD (ds:=[vi g.1,g_v]) c7 rfl bx5 rfl rfl) (lv (v13) (wy (congrArg Bool.not (dt q61))) (au rfl) ?_)
    replace Rg:=Rg.cn ch35
    have C36:=cg [] (hb18.n.seq (hb20.n.seq (ch25.n.seq ch35.n)))
    replace o14:=o14.ca C36
    refine du (wy (congrArg Bool.not (dt q61))) (cA (v:=vb true) (aX (vals:=[vg [vi g.1,g_v],v13]) Try.func27 tF tf rfl) (rc w29 g g_v (Rg).ro ((bI g).1) v13 (o14.sl).ro (by exact hm) (by exact hEF)) ?_)
    intro w37 hb38
    replace hb38:=aN hb38 g34
    refine lv (vb false) (wy (congrArg Bool.not (dt q61))) (dV (b:=true) rfl) (lw (vb false) (aV rfl (congrArg Bool.not (dt q61)) rfl) (mv (vb false) (lv (v13) (wy rfl) (au rfl) (lv (v32) (wy rfl) (au rfl) ?_))))
    replace o14:=o14.cn hb38
    replace o33:=o33.cn hb38
    refine du (wy rfl) (cA (v:=vb (decide (((bI g).1)=((bI g).1)))) (aX (vals:=[v13,v32]) Try.func28 tw sO rfl) (rt w37 ((bI g).1) v13 (o14.sl).ro ((bI g).1) v32 (o33.sl).ro) ?_)
    intro w39 hb40
    replace hb40:=aN hb40 g34
    refine lv (vb (!(decide (((bI g).1)=((bI g).1))))) (wy rfl) (dV (b:=(decide (((bI g).1)=((bI g).1)))) rfl) (lw (vb (!(decide (((bI g).1)=((bI g).1))))) (aV rfl rfl rfl) (ag ?_))
    have p14:(decide (((bI g).1)=((bI g).1)))=true:=by exact dt rfl
    refine aj rfl (congrArg Bool.not p14) (aw (aa ?_))
    clear bx5
    refine a8 rfl (mv (vp b26 0) (mv v13 (lo ?_)))
    have C41:=cg [] (ch35.n.seq (hb38.n.seq hb40.n))
    replace bx28:=bx28.ca C41
    replace o14:=o14.cn hb40
    refine cI (σ:=Value×fN×Int×aF) (V:=λ_=>vt []) (aX (vals:=[vp b26 0,v13]) Try.func29 nY oB rfl) (iI (γ:=g34) (q:=3) (i:=5) (k:=2) (K:=[]) (s:=0) bx28 cL.nil o14 (by exact gB.nil) (by omega) rfl rfl rfl) ?_
    rintro⟨v42,K43,s44,g45⟩ w46 ⟨ch47,o48,o49,hj50,r51⟩
    replace ch47:bg (j3 3 5 2) g34 w39 g45 w46:=ch47
    replace o48:Bx g45 (is 3) w46 b26 [v42,vi s44]:=o48
    replace o49:cL g45 5 w46 v42 K43:=o49
    replace hj50:gB K43 s44:=hj50
    replace r51:Sl g45 (uW 2 5) w46 v13 ((bI g).1):=r51
    obtain⟨hj50a,hj50b,hj50c⟩:=hj50.len
    clear o14 bx28
    refine ag (aa ?_)
    clear r51
    refine a8 rfl (mv (vp b26 0) (mv v32 (lo ?_)))
    replace o33:=(o33.cn hb40).chg ch47 (uV rfl rfl rfl)
    refine cI (σ:=Value×fN×Int×aF) (V:=λ_=>vt []) (aX (vals:=[vp b26 0,v32]) Try.func29 nY oB rfl) (iI (γ:=g45) (q:=3) (i:=5) (k:=4) (K:=K43) (s:=s44) o48 o49 o33 ‹_› (by omega) rfl rfl rfl) ?_
    rintro⟨v52,K53,s54,g55⟩ w56 ⟨ch57,o58,o59,hj60,r61⟩
    replace ch57:bg (j3 3 5 4) g45 w46 g55 w56:=ch57
    replace o58:Bx g55 (is 3) w56 b26 [v52,vi s54]:=o58
    replace o59:cL g55 5 w56 v52 K53:=o59
    replace hj60:gB K53 s54:=hj60
    replace r61:Sl g55 (uW 4 5) w56 v32 ((bI g).1):=r61
    obtain⟨hj60a,hj60b,hj60c⟩:=hj60.len
    clear o33 o48 o49
    refine ag (aa ?_)
    clear r61
    refine a8 rfl (mv (vp b26 0) (lo (bY (aX (vals:=[vp b26 0]) Try.func25 tC tq rfl) (aB Try.func25 rfl nq (aa (a8 rfl (ma (vb false) (ag (aa (aa (a8 rfl (ai 0 (ag ?_)))))))))))))
    refine av ?_
    refine aW (σ:=Nat×fN×aF) (λ⟨i_c1,L_c1,gq⟩ f w=>bp w0 gq w/\f 0=vp b26 0/\f 3=vi ↑i_c1/\Sl gq (is 0) w g_v g.2/\Bx gq (is 3) w b26 [v52,vi s54]/\cL gq 5 w v52 L_c1/\(jv L_c1 i_c1)) (λ⟨i_c1,L_c1,gq⟩=>List.length L_c1-i_c1) (0,K53,g55) ?_ ?_
    have C63:=cg [2,3,4,5] (hb38.n.seq (hb40.n.seq ((ch47.l3 rfl rfl rfl).seq (ch57.l3 rfl rfl rfl))))
    have C62:=ch2.n.seq (hb7.n.seq (hb9.n.seq (ch16.n.seq (hb18.n.seq (hb20.n.seq (ch25.n.seq (ch35.n.seq C63)))))))
    · exact⟨bH.ca C62,rfl,rfl,Rg.ca C63,o58,o59,by exact gB.ap ‹_›⟩
    clear Rg o58 o59 bH
    rintro⟨i_c1,L_c1,g66⟩ f64 w65 ⟨bH,zs0_c1,zs3_c1,Rg,o58,o59,ha_c1⟩ back2_c1
    have hale_c1:=ha_c1.le
    have hafew_c1:=ha_c1.few
    refine aa (aa (a8 rfl (mz zs3_c1 (mz zs0_c1 (lw (vp b26 0) (ar rfl) (lx (ae n8 rfl rfl rfl rfl) (lx (af cd rfl o58 rfl) ?_)))))))
    have len67:=(o59.sl).small
    refine lx (bh dE rfl o59.sl) (lx (b7 (m:=↑i_c1) (n:=(L_c1.length:Int)) rfl rfl) (ag ?_))
    by_cases p2_c1:(i_c1:Int)<(L_c1.length:Int)
    ·
     refine ao rfl (dt p2_c1) ?_
     have hares_c1:=ha_c1.rest i_c1 (Nat.le_refl _) (by omega)
     refine aw (aa (av (aa (aa (c6 g66 rfl mH (by kernel_rfl) ?_)))))
     intro w69 ch68
     refine qz zs0_c1 (qv (vp b26 0) (λw' hw'=>ar rfl) (qx (λw' hw'=>ae n8 rfl rfl rfl rfl) ?_))
     replace o58:=o58.cn ch68
     refine qx (λw' hw'=>af cd rfl (o58.bel hw') rfl) (qz zs3_c1 ?_)
     replace o59:=o59.cn ch68
     refine qx (λw' hw'=>ad (v:=v52) (i:=↑i_c1) dE rfl rfl (o59.sl.bel hw') rfl (by omega) (by omega)) ?_
     obtain⟨v70,cel71,r72⟩:=bJ (r:=(i_c1:Int)) o59 (by omega) (by omega)
     refine qx (λw' hw'=>bv bN rfl (dW cel71 hw')) ?_
     have len73:=(r72.row_sl).small
     refine qx (λw' hw'=>bh aY rfl (r72.row_sl.bel hw')) (qz zs0_c1 (qv (vp b26 0) (λw' hw'=>ar rfl) (qx (λw' hw'=>ae n8 rfl rfl rfl rfl) (qx (λw' hw'=>af cd rfl (o58.bel hw') rfl) (qz zs3_c1 (qx (λw' hw'=>ad (v:=v52) (i:=↑i_c1) dE rfl rfl (o59.sl.bel hw') rfl (by omega) (by omega)) ?_))))))
     obtain⟨v74,cel75,r76⟩:=bJ (r:=(i_c1:Int)) o59 (by omega) (by omega)
     refine qx (λw' hw'=>bv bN rfl (dW cel75 hw')) ?_
     have cap77:=Sl.cap r76.row_sl
     refine qv (vi (dq v74:Int)) (λw' hw'=>tY aY rfl (r76.row_sl.bel hw')) (dZ (v:=vi (min (dq v74:Int) ((List.length (gI L_c1 ↑i_c1):Int)+2000))) rfl (λw' hw'=>aX (vals:=[vi (List.length (gI L_c1 ↑i_c1):Int),vi (dq v74:Int)]) Try.func46 th s6 rfl) (λw' hw'=>(ox w' (List.length (gI L_c1 ↑i_c1):Int) (dq v74:Int) (by omega)).mono λe w2 h2=>⟨h2.1,hw'.trans (h2.2.mono hw'.size)⟩) (qv (vi (min (dq v74:Int) ((List.length (gI L_c1 ↑i_c1):Int)+2000))) (λw' hw'=>c9 rfl) (db ?_)))
     intro w78 hc79
     replace hc79:=aN hc79 g66
     refine av ?_
     clear cel71 r72 cel75 r76
     refine aW (σ:=fN×aF) (λ⟨L1_c1,gq⟩ f w=>bp w0 gq w/\f 0=vp b26 0/\f 3=vi ↑i_c1/\f 4=vi (min (dq v74:Int) ((List.length (gI L_c1 ↑i_c1):Int)+2000))/\Sl gq (is 0) w g_v g.2/\Bx gq (is 3) w b26 [v52,vi s54]/\cL gq 5 w v52 L1_c1/\(gK L1_c1 L_c1 i_c1 (min (dq v74:Int) ((List.length (gI L_c1 ↑i_c1):Int)+2000)))) (λ⟨L1_c1,gq⟩=>Int.toNat ((min (dq v74:Int) ((List.length (gI L_c1 ↑i_c1):Int)+2000))-(List.length (gI L1_c1 ↑i_c1):Int))) (L_c1,g66) ?_ ?_
     replace bH:=bH.cn ch68
     · exact⟨bH.cn hc79,zs0_c1,zs3_c1,rfl,(Rg.cn ch68).cn hc79,o58.cn hc79,o59.cn hc79,by exact gK.start ha_c1 ‹_›⟩
     clear Rg o58 o59 bH
     rintro⟨L1_c1,g82⟩ f80 w81 ⟨bH,zs0_c1,zs3_c1,zs4_c1,Rg,o58,o59,hg_c1⟩ back5_c1
     have hgl_c1:=hg_c1.len
     have hgle_c1:=hg_c1.le
     refine aa (aa (a8 rfl (mz zs0_c1 (lw (vp b26 0) (ar rfl) (lx (ae n8 rfl rfl rfl rfl) (lx (af cd rfl o58 rfl) (mz zs3_c1 (lx (ad (v:=v52) (i:=↑i_c1) dE rfl rfl o59.sl rfl (by omega) (by omega)) ?_))))))))
     obtain⟨v83,cel84,r85⟩:=bJ (r:=(i_c1:Int)) o59 (by omega) (by omega)
     refine lx (bv bN rfl cel84) ?_
     have len86:=(r85.row_sl).small
     refine lx (bh aY rfl r85.row_sl) (mz zs4_c1 (lx (b7 (m:=(List.length (gI L1_c1 ↑i_c1):Int)) (n:=min (dq v74:Int) ((List.length (gI L_c1 ↑i_c1):Int)+2000)) rfl rfl) (ag ?_)))
     by_cases p5_c1:(List.length (gI L1_c1 ↑i_c1):Int)<(min (dq v74:Int) ((List.length (gI L_c1 ↑i_c1):Int)+2000))
     ·
      refine ao rfl (dt p5_c1) (aw (av ?_))
      clear cel84 r85
      refine cV (σ:=aF) (λgq f w=>bp w0 gq w/\f 0=vp b26 0/\f 3=vi ↑i_c1/\f 4=vi (min (dq v74:Int) ((List.length (gI L_c1 ↑i_c1):Int)+2000))/\Sl gq (is 0) w g_v g.2/\Bx gq (is 3) w b26 [v52,vi s54]/\cL gq 5 w v52 (List.set L1_c1 (Int.toNat ↑i_c1) (gI L1_c1 ↑i_c1++[0]))) g82 [0,1,2,4,5,6,7,8,9,10,11,14] mH ?_ ?_
      ·
       intro mid
       intro w88 ch87
       refine xp (v:=vp b26 0) 0 rfl (λw=>au zs0_c1) (xp (v:=vp b26 0) 1 rfl (λw=>ar rfl) (xp 2 rfl (λw=>ae n8 rfl rfl rfl rfl) (xp (v:=vi ↑i_c1) 4 rfl (λw=>au zs3_c1) (xp (v:=vp b26 0) 5 rfl (λw=>au zs0_c1) (xp (v:=vp b26 0) 6 rfl (λw=>ar rfl) (xp 7 rfl (λw=>ae n8 rfl rfl rfl rfl) ?_))))))
       replace o58:=o58.cn ch87
       refine xh 8 [7,6,5,4,2,1,0,3,9,12] rfl (λw' hw'=>af cd rfl (o58.bel hw') rfl) (xp (v:=vi ↑i_c1) 9 rfl (λw=>au zs3_c1) ?_)
       replace o59:=o59.cn ch87
       refine xh 10 [9,8,7,6,5,4,2,1,0,3,12] rfl (λw' hw'=>ad (v:=v52) (i:=↑i_c1) dE rfl rfl (o59.sl.bel hw') rfl (by omega) (by omega)) ?_
       obtain⟨v89,cel90,r91⟩:=bJ (r:=(i_c1:Int)) o59 (by omega) (by omega)
       refine xh 11 [10,9,8,7,6,5,4,2,1,0,3,12] rfl (λw' hw'=>bv bN rfl (dW cel90 hw')) ?_
       refine fU 3 12 rfl rfl (by kernel_rfl) rfl rfl ?_ ?_
       ·
        refine az (v:=v52) (af cd rfl o58 rfl) (bn 12 rfl (by kernel_rfl) rfl (aM (α:=Int) g82 (is 6) (is 6) (6,0) rfl [0] aY ah (by decide) (by decide) (vs:=[(0,vi 0)]) rfl rfl (.cons rfl .nil) ?_))
        intro g92 w93 v94 ch95 o96
        refine bn 13 rfl (by kernel_rfl) rfl ?_
        replace o59:=o59.cn ch95
        replace r91:=r91.cn ch95
        refine bC (α:=Int) (xs:=(gI L1_c1 ↑i_c1)) (ys:=([0])) g92 (J:=row 5 (Int.toNat ↑i_c1+1)) (S:=row 5 (Int.toNat ↑i_c1+1)) (5,Int.toNat ↑i_c1+1) rfl aY ah (by decide) rfl rfl rfl r91 o96.flat (by decide) (by(simp;omega)) ?_
        intro g97 w98 v99 ch100 o101
        have o102:=o59.rowchg ch100
        clear o59 cel90 r91
        obtain⟨us103,hl104,r105⟩:=o102.vc
        try simp only[List.length_set,List.length_append,List.length_cons,List.length_nil] at hl104
        refine xv 14 [13,12,3,11,10,9,8,7,6,5,4,2,1,0] rfl (ad (v:=v52) (i:=↑i_c1) dE rfl rfl r105 rfl (by omega) (by omega)) (bn 15 rfl (by kernel_rfl) rfl (bX (r:=(i_c1:Int)) bN rfl rfl o102 o101 (by omega) (by omega) ?_))
        intro w109 ch110 o111
        clear o102 o101
        refine bQ (by kernel_rfl) ?_
        have C113:=cg [5] (ch95.n.seq ((ch100.lr rfl).seq (ch110.l rfl)))
        have C112:=ch87.n.seq C113
        exact mid (g97) _ _ ⟨bH.ca C112,zs0_c1,zs3_c1,zs4_c1,Rg.ca C112,o58.ca C113,o111⟩
       ·
        refine aM (α:=Int) g82 (is 6) (is 6) (6,0) rfl [0] aY ah (by decide) (by decide) (vs:=[(0,vi 0)]) rfl rfl (.cons rfl .nil) ?_
        intro g114 w115 v116 ch117 o118
        refine fU 3 13 rfl rfl (by kernel_rfl) rfl rfl ?_ ?_
        ·
         replace o58:=o58.cn ch117
         refine az (v:=v52) (af cd rfl o58 rfl) (bn 13 rfl (by kernel_rfl) rfl ?_)
         replace o59:=o59.cn ch117
         replace r91:=r91.cn ch117
         refine bC (α:=Int) (xs:=(gI L1_c1 ↑i_c1)) (ys:=([0])) g114 (J:=row 5 (Int.toNat ↑i_c1+1)) (S:=row 5 (Int.toNat ↑i_c1+1)) (5,Int.toNat ↑i_c1+1) rfl aY ah (by decide) rfl rfl rfl r91 o118.flat (by decide) (by(simp;omega)) ?_
         intro g119 w120 v121 ch122 o123
         have o124:=o59.rowchg ch122
         clear o59 cel90 r91
         obtain⟨us125,hl126,r127⟩:=o124.vc
         try simp only[List.length_set,List.length_append,List.length_cons,List.length_nil] at hl126
         refine xv 14 [13,3,12,11,10,9,8,7,6,5,4,2,1,0] rfl (ad (v:=v52) (i:=↑i_c1) dE rfl rfl r127 rfl (by omega) (by omega)) (bn 15 rfl (by kernel_rfl) rfl (bX (r:=(i_c1:Int)) bN rfl rfl o124 o123 (by omega) (by omega) ?_))
         intro w131 ch132 o133
         clear o124 o123
         refine bQ (by kernel_rfl) ?_
         have C134:=cg [5] (ch87.n.seq (ch117.n.seq ((ch122.lr rfl).seq (ch132.l rfl))))
         exact mid (g119) _ _ ⟨bH.ca C134,zs0_c1,zs3_c1,zs4_c1,Rg.ca C134,(o58.chg ch122 (h7 rfl)).ce ch132,o133⟩
        ·
         replace o59:=o59.cn ch117
         replace r91:=r91.cn ch117
         refine bC (α:=Int) (xs:=(gI L1_c1 ↑i_c1)) (ys:=([0])) g114 (J:=row 5 (Int.toNat ↑i_c1+1)) (S:=row 5 (Int.toNat ↑i_c1+1)) (5,Int.toNat ↑i_c1+1) rfl aY ah (by decide) rfl rfl rfl r91 o118.flat (by decide) (by(simp;omega)) ?_
         intro g135 w136 v137 ch138 o139
         have o140:=o59.rowchg ch138
         clear o59 cel90 r91
         replace o58:=(o58.cn ch117).chg ch138 (h7 rfl)
         refine bn 3 rfl (by kernel_rfl) rfl (az (v:=v52) (af cd rfl o58 rfl) ?_)
         obtain⟨us141,hl142,r143⟩:=o140.vc
         try simp only[List.length_set,List.length_append,List.length_cons,List.length_nil] at hl142
         refine xv 14 [3,13,12,11,10,9,8,7,6,5,4,2,1,0] rfl (ad (v:=v52) (i:=↑i_c1) dE rfl rfl r143 rfl (by omega) (by omega)) (bn 15 rfl (by kernel_rfl) rfl (bX (r:=(i_c1:Int)) bN rfl rfl o140 o139 (by omega) (by omega) ?_))
         intro w147 ch148 o149
         clear o140 o139
         refine bQ (by kernel_rfl) ?_
         have C150:=cg [5] (ch87.n.seq (ch117.n.seq ((ch138.lr rfl).seq (ch148.l rfl))))
         exact mid (g135) _ _ ⟨bH.ca C150,zs0_c1,zs3_c1,zs4_c1,Rg.ca C150,o58.ce ch148,o149⟩
      clear Rg o58 o59 bH
      rintro g153 f151 w152 ⟨bH,zs0_c1,zs3_c1,zs4_c1,Rg,o58,o109⟩
      refine am ?_
      refine back5_c1 ((List.set L1_c1 (Int.toNat ↑i_c1) (gI L1_c1 ↑i_c1++[0])),g153) _ _ ⟨bH,zs0_c1,zs3_c1,zs4_c1,Rg,o58,o109,?_⟩ ?_
      · show gK (List.set L1_c1 (Int.toNat ↑i_c1) (gI L1_c1 ↑i_c1++[0])) L_c1 i_c1 (min (dq v74:Int) ((List.length (gI L_c1 ↑i_c1):Int)+2000))
        exact hg_c1.next ‹_› ‹_› (by omega)
      · show Int.toNat ((min (dq v74:Int) ((List.length (gI L_c1 ↑i_c1):Int)+2000))-(List.length (gI (List.set L1_c1 (Int.toNat ↑i_c1) (gI L1_c1 ↑i_c1++[0])) (i_c1:Int)):Int))<Int.toNat ((min (dq v74:Int) ((List.length (gI L_c1 ↑i_c1):Int)+2000))-(List.length (gI L1_c1 ↑i_c1):Int))
        (have h1:=hg_c1.meas ‹_›;omega)
     refine aj rfl (df p5_c1) (aC rfl (aa ?_))
     clear cel84 r85
     refine a8 rfl (ai 0 (ag (av ?_)))
     refine aW (σ:=Nat×fN×aF) (λ⟨k_c1,L2_c1,gq⟩ f w=>bp w0 gq w/\f 0=vp b26 0/\f 3=vi ↑i_c1/\f 5=vi ↑k_c1/\Sl gq (is 0) w g_v g.2/\Bx gq (is 3) w b26 [v52,vi s54]/\cL gq 5 w v52 L2_c1/\(jq L2_c1 L_c1 i_c1 k_c1)) (λ⟨k_c1,L2_c1,gq⟩=>List.length (gI L2_c1 ↑i_c1)-k_c1) (0,L1_c1,g82) ?_ ?_
     · exact⟨bH,zs0_c1,zs3_c1,rfl,Rg,o58,o59,by exact hg_c1.wr⟩
     clear Rg o58 o59 bH
     rintro⟨k_c1,L2_c1,g156⟩ f154 w155 ⟨bH,zs0_c1,zs3_c1,zs5_c1,Rg,o58,o59,hw_c1⟩ back8_c1
     have hwl_c1:=hw_c1.len
     have hwle_c1:=hw_c1.le
     have hwf_c1:=hw_c1.few
     refine aa (aa (a8 rfl (mz zs5_c1 (mz zs0_c1 (lw (vp b26 0) (ar rfl) (lx (ae n8 rfl rfl rfl rfl) (lx (af cd rfl o58 rfl) (mz zs3_c1 (lx (ad (v:=v52) (i:=↑i_c1) dE rfl rfl o59.sl rfl (by omega) (by omega)) ?_)))))))))
     obtain⟨v157,cel158,r159⟩:=bJ (r:=(i_c1:Int)) o59 (by omega) (by omega)
     refine lx (bv bN rfl cel158) ?_
     have len160:=(r159.row_sl).small
     refine lx (bh aY rfl r159.row_sl) (lx (b7 (m:=↑k_c1) (n:=(List.length (gI L2_c1 ↑i_c1):Int)) rfl rfl) (ag ?_))
     by_cases p8_c1:(k_c1:Int)<(List.length (gI L2_c1 ↑i_c1):Int)
     ·
      refine ao rfl (dt p8_c1) (aw (aa (av ?_)))
      clear cel158 r159
      refine a8 rfl (mz zs0_c1 (lw (vp b26 0) (ar rfl) (lx (ae n8 rfl rfl rfl rfl) (lx (af cd rfl o58 rfl) (mz zs3_c1 (lx (ad (v:=v52) (i:=↑i_c1) dE rfl rfl o59.sl rfl (by omega) (by omega)) ?_))))))
      obtain⟨v161,cel162,r163⟩:=bJ (r:=(i_c1:Int)) o59 (by omega) (by omega)
      refine lx (bv bN rfl cel162) (mz zs5_c1 (mz zs3_c1 (lx (cT (m:= -1000) (n:=↑i_c1) rfl rfl (by omega)) (lx (ad (v:=v161) (i:=↑k_c1) aY rfl rfl r163.row_sl rfl (by omega) (by omega)) (lo (aA (i:=↑k_c1) ((-1000)-(i_c1:Int)) ah rfl rfl r163 (by omega) (by omega) rfl ?_))))))
      intro w167 ch168 r169
      obtain⟨o170,cel171⟩:=ui (r:=(i_c1:Int)) o59 (by omega) (by omega) ch168 cel162 r169
      clear o59 cel162 r163
      refine ag (am ?_)
      clear cel171 r169
      refine a8 rfl (mz zs5_c1 (lx (aE (m:=↑k_c1) (n:=1) rfl rfl (by omega)) (ai ((k_c1:Int)+1) (ag ?_))))
      refine back8_c1 (k_c1+1,(List.set L2_c1 (Int.toNat ↑i_c1) (List.set (gI L2_c1 ↑i_c1) (Int.toNat ↑k_c1) ((-1000)-(i_c1:Int)))),g156) _ _ ⟨bH.chg ch168 (h7 rfl),zs0_c1,zs3_c1,rfl,Rg.chg ch168 (h7 rfl),o58.chg ch168 (h7 rfl),o170,?_⟩ ?_
      · show jq (List.set L2_c1 (Int.toNat ↑i_c1) (List.set (gI L2_c1 ↑i_c1) (Int.toNat ↑k_c1) ((-1000)-(i_c1:Int)))) L_c1 i_c1 (k_c1+1)
        exact(hw_c1.next ‹_› ‹_›).1
      · show List.length (gI (List.set L2_c1 (Int.toNat ↑i_c1) (List.set (gI L2_c1 ↑i_c1) (Int.toNat ↑k_c1) ((-1000)-(i_c1:Int)))) (i_c1:Int))-(k_c1+1)<List.length (gI L2_c1 ↑i_c1)-k_c1
        (have h1:=(hw_c1.next ‹_› ‹_›).2;omega)
     refine aj rfl (df p8_c1) (aC rfl (am ?_))
     clear cel158 r159
     refine a8 rfl (mz zs3_c1 (lx (aE (m:=↑i_c1) (n:=1) rfl rfl (by omega)) (ai ((i_c1:Int)+1) (ag ?_))))
     refine back2_c1 (i_c1+1,L2_c1,g156) _ _ ⟨bH,zs0_c1,rfl,Rg,o58,o59,?_⟩ ?_
     · show jv L2_c1 (i_c1+1)
       exact hw_c1.fin ha_c1 ‹_› ‹_›
     · show List.length L2_c1-(i_c1+1)<List.length L_c1-i_c1
       (have h1:=hw_c1.len;omega)
    refine aj rfl (df p2_c1) (aC rfl (aa (aa (a8 rfl (ai 0 (ag (av ?_)))))))
    refine aW (σ:=Nat×aF) (λ⟨m_c1,gq⟩ f w=>bp w0 gq w/\f 0=vp b26 0/\f 6=vi ↑m_c1/\Sl gq (is 0) w g_v g.2/\Bx gq (is 3) w b26 [v52,vi s54]/\cL gq 5 w v52 L_c1/\(m_c1:Int)<=((L_c1.length:Int):Int)/\(True)) (λ⟨m_c1,gq⟩=>Int.toNat (((L_c1.length:Int):Int)-(m_c1:Int))) (0,g66) ?_ ?_
    · exact⟨bH,zs0_c1,rfl,Rg,o58,o59,by omega,by trivial⟩
    clear Rg o58 o59 bH
    rintro⟨m_c1,g174⟩ f172 w173 ⟨bH,zs0_c1,zs6_c1,Rg,o58,o59,hle_m_c1,hinv12_c1⟩ back12_c1
    refine aa (aa (a8 rfl (mz zs6_c1 (mz zs0_c1 (lw (vp b26 0) (ar rfl) (lx (ae n8 rfl rfl rfl rfl) (lx (af cd rfl o58 rfl) (lx (bh dE rfl o59.sl) (lx (b7 (m:=↑m_c1) (n:=(L_c1.length:Int)) rfl rfl) (ag ?_))))))))))
    by_cases p12_c1:(m_c1:Int)<(L_c1.length:Int)
    ·
     refine ao rfl (dt p12_c1) (aw (aa (av (aa (a8 rfl (ai 0 (ag (av ?_))))))))
     refine aW (σ:=Nat×aF) (λ⟨n_c1,gq⟩ f w=>bp w0 gq w/\f 0=vp b26 0/\f 6=vi ↑m_c1/\f 7=vi ↑n_c1/\Sl gq (is 0) w g_v g.2/\Bx gq (is 3) w b26 [v52,vi s54]/\cL gq 5 w v52 L_c1/\(n_c1:Int)<=((List.length (gI L_c1 ↑m_c1):Int):Int)/\(True)) (λ⟨n_c1,gq⟩=>Int.toNat (((List.length (gI L_c1 ↑m_c1):Int):Int)-(n_c1:Int))) (0,g174) ?_ ?_
     · exact⟨bH,zs0_c1,zs6_c1,rfl,Rg,o58,o59,by omega,by trivial⟩
     clear Rg o58 o59 bH
     rintro⟨n_c1,g177⟩ f175 w176 ⟨bH,zs0_c1,zs6_c1,zs7_c1,Rg,o58,o59,hle_n_c1,hinv15_c1⟩ back15_c1
     refine aa (aa (a8 rfl (mz zs7_c1 (mz zs0_c1 (lw (vp b26 0) (ar rfl) (lx (ae n8 rfl rfl rfl rfl) (lx (af cd rfl o58 rfl) (mz zs6_c1 (lx (ad (v:=v52) (i:=↑m_c1) dE rfl rfl o59.sl rfl (by omega) (by omega)) ?_)))))))))
     obtain⟨v178,cel179,r180⟩:=bJ (r:=(m_c1:Int)) o59 (by omega) (by omega)
     refine lx (bv bN rfl cel179) ?_
     have len181:=(r180.row_sl).small
     refine lx (bh aY rfl r180.row_sl) (lx (b7 (m:=↑n_c1) (n:=(List.length (gI L_c1 ↑m_c1):Int)) rfl rfl) (ag ?_))
     by_cases p15_c1:(n_c1:Int)<(List.length (gI L_c1 ↑m_c1):Int)
     ·
      refine ao rfl (dt p15_c1) (aw (aa (av (aa ?_))))
      clear cel179 r180
      refine a8 rfl (mz zs0_c1 (lw (vp b26 0) (ar rfl) (lx (ae n8 rfl rfl rfl rfl) (lx (af cd rfl o58 rfl) (mz zs6_c1 (lx (ad (v:=v52) (i:=↑m_c1) dE rfl rfl o59.sl rfl (by omega) (by omega)) ?_))))))
      obtain⟨v182,cel183,r184⟩:=bJ (r:=(m_c1:Int)) o59 (by omega) (by omega)
      refine lx (bv bN rfl cel183) (mz zs7_c1 (lx (ad (v:=v182) (i:=↑n_c1) aY rfl rfl r184.row_sl rfl (by omega) (by omega)) (lx (al (v:=v182) (i:=↑n_c1) ah rfl r184.row_sl (by omega) (by omega) (by decide) rfl) (mz zs6_c1 (lx (cT (m:= -1000) (n:=↑m_c1) rfl rfl (by omega)) (lx (eQ (m:=(gI (gI L_c1 ↑m_c1) ↑n_c1)) (n:=(-1000)-(m_c1:Int)) rfl rfl) (ag ?_)))))))
      have p17_c1:(gI (gI L_c1 ↑m_c1) ↑n_c1)=((-1000)-(m_c1:Int)):=by exact ha_c1.read (by omega) ‹_› ‹_›
      refine aj rfl (congrArg Bool.not (dt p17_c1)) (aw (am ?_))
      clear cel183 r184
      refine a8 rfl (mz zs7_c1 (lx (aE (m:=↑n_c1) (n:=1) rfl rfl (by omega)) (ai ((n_c1:Int)+1) (ag ?_))))
      refine back15_c1 (n_c1+1,g177) _ _ ⟨bH,zs0_c1,zs6_c1,rfl,Rg,o58,o59,by omega,?_⟩ ?_
      · show True
        trivial
      · show Int.toNat (((List.length (gI L_c1 ↑m_c1):Int):Int)-((n_c1+1):Int))<Int.toNat (((List.length (gI L_c1 ↑m_c1):Int):Int)-(n_c1:Int))
        omega
     refine aj rfl (df p15_c1) (aC rfl (am ?_))
     clear cel179 r180
     refine a8 rfl (mz zs6_c1 (lx (aE (m:=↑m_c1) (n:=1) rfl rfl (by omega)) (ai ((m_c1:Int)+1) (ag ?_))))
     refine back12_c1 (m_c1+1,g177) _ _ ⟨bH,zs0_c1,rfl,Rg,o58,o59,by omega,?_⟩ ?_
     · show True
       trivial
     · show Int.toNat (((L_c1.length:Int):Int)-((m_c1+1):Int))<Int.toNat (((L_c1.length:Int):Int)-(m_c1:Int))
       omega
    refine aj rfl (df p12_c1) (aC rfl (aa (a8 rfl (ma (vb true) (ag (aH (vs:=[vb true]) Try.func25 (.tmp rfl .nil) ?_))))))
    refine⟨vb true,rfl,?_⟩
    refine ma (vb true) (ag (aH (vs:=[vb true]) Try.func4 (.tmp rfl .nil) ?_))
    have e0:(true:Bool)=(true):=by
      rfl
    exact⟨rb e0,bH.below⟩
   obtain⟨he1,he2⟩:=uK hm ‹_›
   refine ao rfl (congrArg Bool.not (Bool.eq_false_iff.2 p8)) (aa ?_)
   clear bx5
   refine a8 rfl (mi ((bI g).2) (lx (cq (m:=(bI g).2) (n:=7) rfl rfl) (mv (vb (decide (((bI g).2)=7))) ?_)))
   have q35:((bI g).2)=7:=by exact he1
   refine lv (v13) (wy (dt q35)) (au rfl) ?_
   replace o14:=(o14.cn hb18).cn hb20
   have len185:=(o14.sl).small
   refine lv (vi (List.length ((bI g).1):Int)) (wy (dt q35)) (bh dE rfl o14.sl) (lv (vb (decide ((List.length ((bI g).1):Int)=0))) (wy (dt q35)) (cq (m:=(List.length ((bI g).1):Int)) (n:=0) rfl rfl) (lw (vb (decide ((List.length ((bI g).1):Int)=0))) (aZ rfl (dt q35) rfl) (ma (vb (decide ((List.length ((bI g).1):Int)=0))) (ag (aH (vs:=[vb (decide ((List.length ((bI g).1):Int)=0))]) Try.func4 (.tmp rfl .nil) ?_)))))
   have e0:(decide ((List.length ((bI g).1):Int)=0):Bool)=(true):=by
     exact dt he2
   have C186:=cg [] (ch2.n.seq (hb7.n.seq (hb9.n.seq (ch16.n.seq (hb18.n.seq hb20.n)))))
   replace bH:=bH.ca C186
   exact⟨(congrArg (a₁:=decide ((List.length ((bI g).1):Int)=0)) (λ(z0:Bool)=>Ending.returned (vb z0)) e0),bH.below⟩
  obtain⟨he1,he2⟩:=uI (g:=g) (λh=>absurd (dt h) ‹_›)
  refine ao rfl (congrArg Bool.not (Bool.eq_false_iff.2 p6)) (aa ?_)
  clear bx5
  refine a8 rfl (mi ((bI g).2) (lx (cq (m:=(bI g).2) (n:=1) rfl rfl) (mv (vb (decide (((bI g).2)=1))) ?_)))
  have q24:((bI g).2)=1:=by exact he1
  refine lv (v13) (wy (dt q24)) (au rfl) ?_
  replace o14:=o14.cn hb18
  have len187:=(o14.sl).small
  refine lv (vi (List.length ((bI g).1):Int)) (wy (dt q24)) (bh dE rfl o14.sl) (lv (vb (decide ((List.length ((bI g).1):Int)=0))) (wy (dt q24)) (cq (m:=(List.length ((bI g).1):Int)) (n:=0) rfl rfl) (lw (vb (decide ((List.length ((bI g).1):Int)=0))) (aZ rfl (dt q24) rfl) (ma (vb (decide ((List.length ((bI g).1):Int)=0))) (ag (aH (vs:=[vb (decide ((List.length ((bI g).1):Int)=0))]) Try.func4 (.tmp rfl .nil) ?_)))))
  have e0:(decide ((List.length ((bI g).1):Int)=0):Bool)=(true):=by
    exact dt he2
  have C188:=cg [] (ch2.n.seq (hb7.n.seq (hb9.n.seq (ch16.n.seq hb18.n))))
  replace bH:=bH.ca C188
  exact⟨(congrArg (a₁:=decide ((List.length ((bI g).1):Int)=0)) (λ(z0:Bool)=>Ending.returned (vb z0)) e0),bH.below⟩
 refine ao rfl (congrArg Bool.not (Bool.eq_false_iff.2 p3)) (aa ?_)
 clear bx5
 refine a8 rfl (ma (vb true) (ag (aH (vs:=[vb true]) Try.func4 (.tmp rfl .nil) ?_)))
 have e0:(true:Bool)=(true):=by
   rfl
 have C189:=cg [] (ch2.n.seq (hb7.n.seq hb9.n))
 replace bH:=bH.ca C189
 exact⟨rb e0,bH.below⟩
end TL
