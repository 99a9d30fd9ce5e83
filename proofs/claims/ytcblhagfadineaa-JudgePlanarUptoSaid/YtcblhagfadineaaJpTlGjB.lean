import Derived.Test.YtcblhagfadineaaJpTlP4
import Derived.Test.YtcblhagfadineaaJpTlGmA
import Derived.Test.YtcblhagfadineaaJpTlGmM
import Derived.Test.YtcblhagfadineaaJpTlGmR
import Derived.Test.YtcblhagfadineaaJpTlGenA
import Derived.Test.YtcblhagfadineaaJpTlGdA
import Derived.Test.YtcblhagfadineaaJpTlGjA
import Derived.Test.YtcblhagfadineaaProg
import Derived.Test.YtcblhagfadineaaJpTlAli
set_option linter.all false
set_option maxRecDepth 20000
namespace TL
open Go Go.Proofs
theorem jA:Try.prog.follows .mixedOrders=true:=by kernel_rfl
theorem cP:Tp Try.prog 28 true 2 48 (.agg #[.slice none 0 0,.slice none 0 0]):=Tp.of (by kernel_rfl)
theorem bx:Tp Try.prog 36 false 1 24 (.slice none 0 0):=Tp.of (by kernel_rfl)
theorem bB:Tp Try.prog 54 true 3 24 (.agg #[.int .i64 0,.int .i64 0,.int .i64 0]):=Tp.of (by kernel_rfl)
theorem rp:Try.f27.body.isNone=false:=rfl
theorem ru:(Try.f27.name== "runtime.NumGoroutine")=false:=by decide+kernel
theorem wQ:Try.f29.body.isNone=false:=rfl
theorem wN:(Try.f29.name== "runtime.NumGoroutine")=false:=by decide+kernel
theorem xh:Try.f30.body.isNone=false:=rfl
theorem vY:(Try.f30.name== "runtime.NumGoroutine")=false:=by decide+kernel
theorem wE:Try.f31.body.isNone=false:=rfl
theorem xg:(Try.f31.name== "runtime.NumGoroutine")=false:=by decide+kernel
theorem vv:Try.f32.body.isNone=false:=rfl
theorem wv:(Try.f32.name== "runtime.NumGoroutine")=false:=by decide+kernel
theorem de:Try.f44.body.isNone=false:=rfl
theorem dg:(Try.f44.name== "runtime.NumGoroutine")=false:=by decide+kernel
theorem wH:Try.f45.body.isNone=false:=rfl
theorem xk:(Try.f45.name== "runtime.NumGoroutine")=false:=by decide+kernel
theorem wZ:Try.f46.body.isNone=false:=rfl
theorem vL:(Try.f46.name== "runtime.NumGoroutine")=false:=by decide+kernel
theorem vw:Try.f47.body.isNone=false:=rfl
theorem ws:(Try.f47.name== "runtime.NumGoroutine")=false:=by decide+kernel
theorem wX:Try.f58.body.isNone=false:=rfl
theorem wK:(Try.f58.name== "runtime.NumGoroutine")=false:=by decide+kernel
theorem vu:Try.f59.body.isNone=false:=rfl
theorem vE:(Try.f59.name== "runtime.NumGoroutine")=false:=by decide+kernel
theorem nr:Try.f73.body.isNone=false:=rfl
theorem nB:(Try.f73.name== "runtime.NumGoroutine")=false:=by decide+kernel
set_option maxHeartbeats 8000000 in
theorem oK(w0:World)(g:(Int)×(List Pt))(g_v:Value)(hg_v:Ro w0 g_v g.2)(p:(List Pt)×(List (List Pt)))(p_v p_v1:Value)(hp_v:Ro w0 p_v p.1)(hp_v1:Ro w0 p_v1 p.2)(hmay:bF g):
    Calls Try.prog 16 #[vg [vi g.1,g_v],vg [p_v,p_v1]] w0 (λee w=>∃xx:aH×Value,ee= .returned ((λ⟨δ,rv0⟩=>rv0) xx)/\(λ(⟨δ,rv0⟩:aH×Value) (w:World)=>fI w0 δ w/\Ow δ (is 1) (is 1) w rv0 (cl g p)) xx w):=by
 refine av Try.func16 rfl nq ?_
 have bH:=aX.start w0
 have Rg:=hg_v.sl
 have Rp:=hp_v.sl
 have r_p_v1:=hp_v1.sl
 have hm0:=hmay
 obtain⟨hm1,hm2,hm3,hm4⟩:=hm0
 refine aa (a8 rfl (cj rfl (bj c0 (is 1) (1,0) rfl rfl ?_)))
 intro g4 w1 b3 ch2 bx5
 replace bx5:Bx g4 (is 1) w1 b3 [vi g.1,g_v]:=bx5
 refine lo (bj g4 (is 2) (2,0) rfl rfl ?_)
 intro g9 w6 b8 ch7 bx10
 replace bx10:Bx g9 (is 2) w6 b8 [p_v,p_v1]:=bx10
 refine ma vn (ab (aa (a8 rfl ?_)))
 replace bx5:=bx5.cn ch7
 refine lx (ak (ds:=[vi g.1,g_v]) cL rfl bx5 rfl rfl) (lx (ak (ds:=[p_v,p_v1]) cP rfl bx10 rfl rfl) ?_)
 replace Rg:=(Rg.cn ch2).cn ch7
 replace Rp:=(Rp.cn ch2).cn ch7
 replace r_p_v1:=(r_p_v1.cn ch2).cn ch7
 refine lw (vg [vi g.1,g_v,p_v,p_v1,vn]) (bQ (vs:=[(0,vg [vi g.1,g_v]),(1,vg [p_v,p_v1])]) rfl (by rw[Sl.form Rg,Sl.form Rp,Sl.form r_p_v1];kernel_rfl)) (lo (bj g9 (is 3) (3,0) rfl rfl ?_))
 intro g14 w11 b13 ch12 bx15
 replace bx15:Bx g14 (is 3) w11 b13 [vi g.1,g_v,p_v,p_v1,vn]:=bx15
 refine ma (vp b13 0) (ab (aa ?_))
 clear bx5 bx10
 refine a8 rfl (mv (vp b13 0) (lo ?_))
 refine c3 (σ:=Value×(List cv)×aH) (V:=λ⟨l_4_c1_v,l_4_c1,gq⟩=>vt []) (S:=λ⟨l_4_c1_v,l_4_c1,gq⟩ w=>aX w0 gq w/\Sl gq (is 0) w g_v g.2/\Sl gq (is 0) w p_v p.1/\Sl gq (is 0) w p_v1 p.2/\Bx gq (is 3) w b13 [vi g.1,g_v,p_v,p_v1,l_4_c1_v]/\Ow gq (is 7) (is 7) w l_4_c1_v l_4_c1/\(l_4_c1=bZ g p)) (aA (vals:=[vp b13 0]) Try.func27 rp ru rfl) ?_ ?_
 ·
  refine av Try.func27 rfl nq ?_
  replace Rg:=Rg.cn ch12
  replace Rp:=Rp.cn ch12
  replace r_p_v1:=r_p_v1.cn ch12
  refine aa (aa (cD g14 rfl jA (by kernel_rfl) ?_))
  intro w17 ch16
  refine qm (vp b13 0) (qv (vp b13 0) (λw' hw'=>aB rfl) (qx (λw' hw'=>ad dO rfl rfl rfl rfl) (qx (λw' hw'=>ad iK rfl rfl rfl rfl) ?_)))
  replace bx15:=bx15.cn ch16
  refine qx (λw' hw'=>af bO rfl (bx15.bel hw') rfl) ?_
  replace Rp:=Rp.cn ch16
  have len18:=(Rp).small
  refine qx (λw' hw'=>aT cX rfl (Rp.bel hw')) (qm (vp b13 0) (qv (vp b13 0) (λw' hw'=>aB rfl) (qx (λw' hw'=>ad dO rfl rfl rfl rfl) (qx (λw' hw'=>ad fV rfl rfl rfl rfl) (qx (λw' hw'=>af aI rfl (bx15.bel hw') rfl) (qx (λw' hw'=>dU (m:=(p.1.length:Int)) (n:=g.1) rfl rfl) (qm (vb (!(decide ((p.1.length:Int)=g.1)))) ?_)))))))
  by_cases q18_c1:(p.1.length:Int)=g.1
  ·
   refine aW (v:=vp b13 0) (wy (congrArg Bool.not (dt q18_c1))) (λw' hw'=>aD rfl) (aW (v:=vp b13 0) (wy (congrArg Bool.not (dt q18_c1))) (λw' hw'=>aB rfl) (aW (v:=vp b13 2) (wy (congrArg Bool.not (dt q18_c1))) (λw' hw'=>ad dO rfl rfl rfl rfl) (aW (v:=vp b13 3) (wy (congrArg Bool.not (dt q18_c1))) (λw' hw'=>ad iK rfl rfl rfl rfl) (aW (v:=p_v1) (wy (congrArg Bool.not (dt q18_c1))) (λw' hw'=>af d3 rfl (bx15.bel hw') rfl) ?_))))
   replace r_p_v1:=r_p_v1.cn ch16
   have len19:=(r_p_v1).small
   refine aW (v:=vi (p.2.length:Int)) (wy (congrArg Bool.not (dt q18_c1))) (λw' hw'=>aT kM rfl (r_p_v1.bel hw')) (aW (v:=vp b13 0) (wy (congrArg Bool.not (dt q18_c1))) (λw' hw'=>aD rfl) (aW (v:=vp b13 0) (wy (congrArg Bool.not (dt q18_c1))) (λw' hw'=>aB rfl) (aW (v:=vp b13 0) (wy (congrArg Bool.not (dt q18_c1))) (λw' hw'=>ad dO rfl rfl rfl rfl) (aW (v:=vp b13 1) (wy (congrArg Bool.not (dt q18_c1))) (λw' hw'=>ad fV rfl rfl rfl rfl) ?_))))
   refine aW (v:=g_v) (wy (congrArg Bool.not (dt q18_c1))) (λw' hw'=>af cw rfl (bx15.bel hw') rfl) ?_
   replace Rg:=Rg.cn ch16
   have len20:=(Rg).small
   refine aW (v:=vi (g.2.length:Int)) (wy (congrArg Bool.not (dt q18_c1))) (λw' hw'=>aT jQ rfl (Rg.bel hw')) (aW (v:=vb (!(decide ((p.2.length:Int)=(g.2.length:Int))))) (wy (congrArg Bool.not (dt q18_c1))) (λw' hw'=>dU (m:=(p.2.length:Int)) (n:=(g.2.length:Int)) rfl rfl) (qv (vb (!(decide ((p.2.length:Int)=(g.2.length:Int))))) (λw' hw'=>aC rfl (congrArg Bool.not (dt q18_c1)) rfl) (dH ?_)))
   intro w21 hc22
   replace hc22:=ar hc22 g14
   by_cases p0_c1:(p.2.length:Int)=(g.2.length:Int)
   ·
    refine aj rfl (congrArg Bool.not (dt p0_c1)) (am (aa (aa (a8 rfl (mv (vp b13 0) (lw (vp b13 0) (aB rfl) (lx (ad dO rfl rfl rfl rfl) (lx (ad iK rfl rfl rfl rfl) ?_))))))))
    replace bx15:=bx15.cn hc22
    refine lx (af bO rfl bx15 rfl) ?_
    replace Rp:=Rp.cn hc22
    refine lx (aT cX rfl Rp) (mi 0 (ab (aq ?_)))
    refine aQ (σ:=Nat×Value×(List cv)×aH) (λ⟨vS,FS_v,FS,gq⟩ f w=>aX w0 gq w/\f 0=vp b13 0/\f 39=p_v/\f 40=vi (p.1.length:Int)/\f 41=vi ↑vS/\Sl gq (is 0) w g_v g.2/\Sl gq (is 0) w p_v p.1/\Sl gq (is 0) w p_v1 p.2/\Bx gq (is 3) w b13 [vi g.1,g_v,p_v,p_v1,FS_v]/\Ow gq (is 7) (is 7) w FS_v FS/\(vS:Int)<=((p.1.length:Int):Int)/\(FS=bg (kX p) vS)) (λ⟨vS,FS_v,FS,gq⟩=>Int.toNat (((p.1.length:Int):Int)-(vS:Int))) (0,vn,[],g14) ?_ ?_
    have C23:=cg [] (ch2.n.seq (ch7.n.seq (ch12.n.seq (ch16.n.seq hc22.n))))
    · exact⟨bH.ca C23,rfl,rfl,rfl,rfl,Rg.cn hc22,Rp,r_p_v1.cn hc22,bx15,Ow.nil,by omega,by rfl⟩
    clear Rg Rp r_p_v1 bx15 bH
    rintro⟨vS,FS_v,FS,g26⟩ f24 w25 ⟨bH,zs0_c1,zs39_c1,zs40_c1,zs41_c1,Rg,Rp,r_p_v1,bx15,o_FS,hle_vS,haS⟩ back3_c1
    have halS:=rf haS
    refine aa (a8 rfl (lx (b6 (m:=↑vS) (n:=(p.1.length:Int)) zs41_c1 zs40_c1) (ab (aa ?_))))
    by_cases p3_c1:(vS:Int)<(p.1.length:Int)
    ·
     refine ag rfl (dt p3_c1) (am (aa (aq (aa (a8 rfl (mz zs41_c1 (lx (al (v:=p_v) (i:=↑vS) cX rfl zs39_c1 Rp zs41_c1 (by omega) (by omega)) (lw (vg [vi ((gI p.1 ↑vS).1),vi ((gI p.1 ↑vS).2)]) (aJ (v:=p_v) (i:=↑vS) ah rfl Rp (by omega) (by omega) rfl) (lo (aY g26 (is 4) (4,0) rfl ah ?_))))))))))
     intro g30 w27 b29 ch28 bx31
     replace bx31:Bx g30 (is 4) w27 b29 [vi 0,vi 0]:=bx31
     refine ai (vS:Int) (lo (aw (cs':=[vi ((gI p.1 ↑vS).1),vi ((gI p.1 ↑vS).2)]) ah rfl rfl bx31 rfl nq (AllOne.all (.cons rfl (.cons rfl .nil))) rfl ?_))
     intro w32 ch33 bx34
     clear bx31
     refine ab (aa (a8 rfl (lx (ak (ds:=[vi ((gI p.1 ↑vS).1),vi ((gI p.1 ↑vS).2)]) ah rfl bx34 rfl rfl) (lo (aF (α:=Pt) g30 (is 5) (is 5) (5,0) rfl [(gI p.1 ↑vS)] cX ah (by decide) (by decide) (vs:=[(0,vg [vi ((gI p.1 ↑vS).1),vi ((gI p.1 ↑vS).2)])]) rfl rfl (.cons rfl .nil) ?_)))))
     intro g35 w36 v37 ch38 o39
     refine lo (aK (v:=vb (decide (dW ([(gI p.1 ↑vS)])))) (aA (vals:=[v37]) Try.func33 fA fF rfl) (fC w36 ([(gI p.1 ↑vS)]) v37 (o39.flat).ro) ?_)
     intro w40 hb41
     replace hb41:=ar hb41 g35
     refine lx (dj (b:=(decide (dW ([(gI p.1 ↑vS)])))) rfl) (ab ?_)
     by_cases p5_c1:(decide (dW ([(gI p.1 ↑vS)])))=true
     ·
      refine aj rfl (congrArg Bool.not p5_c1) (am (ao ?_))
      clear bx34 o39
      refine a8 rfl (lx (aP (m:=↑vS) (n:=1) zs41_c1 rfl (by omega)) (mi ((vS:Int)+1) (ab ?_)))
      have C42:=cg [4] (ch28.n.seq ((ch33.l rfl).seq (ch38.n.seq hb41.n)))
      refine back3_c1 (vS+1,FS_v,FS,g35) _ _ ⟨bH.ca C42,zs0_c1,zs39_c1,zs40_c1,rfl,Rg.ca C42,Rp.ca C42,r_p_v1.ca C42,bx15.ca C42,o_FS.ca C42,by omega,?_⟩ ?_
      · show FS=bg (kX p) (vS+1)
        exact qF haS (sY ‹_›)
      · show Int.toNat (((p.1.length:Int):Int)-((vS+1):Int))<Int.toNat (((p.1.length:Int):Int)-(vS:Int))
        omega
     refine ag rfl (congrArg Bool.not (Bool.eq_false_iff.2 p5_c1)) ?_
     clear bx34 o39
     refine a8 rfl (mz zs0_c1 (mi ↑vS (lo (bT (aA (vals:=[vp b13 0,vi 2,vi ↑vS,vi 0]) Try.func44 de dg rfl) (av Try.func44 rfl nq ?_)))))
     have C43:=cg [4] (ch28.n.seq ((ch33.l rfl).seq (ch38.n.seq hb41.n)))
     replace Rg:=Rg.ca C43
     replace Rp:=Rp.ca C43
     replace r_p_v1:=r_p_v1.ca C43
     replace o_FS:=o_FS.ca C43
     refine a8 rfl (mv (vp b13 0) (mv (vp b13 0) (lw (vp b13 0) (aB rfl) (lx (ad dO rfl rfl rfl rfl) ?_))))
     replace bx15:=bx15.ca C43
     refine lx (af bx rfl bx15 rfl) (mi 2 (mi ↑vS (mi 0 (lw (vg [vi 2,vi ↑vS,vi 0]) (bQ (vs:=[(0,vi 2),(1,vi ↑vS),(2,vi 0)]) rfl (by kernel_rfl)) (lo (aF (α:=cv) g35 (is 6) (is 6) (6,0) rfl [(2,(vS:Int),0)] gB bB (by decide) (by decide) (vs:=[(0,vg [vi 2,vi ↑vS,vi 0])]) rfl rfl (.cons rfl .nil) ?_))))))
     intro g44 w45 v46 ch47 o48
     refine lo ?_
     replace o_FS:=o_FS.cn ch47
     refine b9 (α:=cv) (xs:=FS) (ys:=([(2,(vS:Int),0)])) g44 (J:=is 7) (S:=is 7) (7,0) rfl gB bB (by decide) rfl rfl rfl o_FS o48.flat (by decide) (by(simp;omega)) ?_
     intro g49 w50 v51 ch52 o53
     clear o_FS
     refine lw (vp b13 0) (aB rfl) (lx (ad dO rfl rfl rfl rfl) (lo ?_))
     replace bx15:=(bx15.cn ch47).ce ch52
     refine bL (cs':=[vi g.1,g_v,p_v,p_v1,v51]) bx rfl rfl bx15 (bK o53.flat) nq (cz o53.flat) rfl ?_
     intro w54 ch55 bx56
     clear bx15
     refine ab (ct (vs:=[]) Try.func44 .nil ?_)
     refine⟨vt [],rfl,?_⟩
     refine ab (ao ?_)
     clear o48
     refine a8 rfl (lx (aP (m:=↑vS) (n:=1) zs41_c1 rfl (by omega)) (mi ((vS:Int)+1) (ab ?_)))
     have C57:=cg [3,4,7] (ch28.n.seq ((ch33.l rfl).seq (ch38.n.seq (hb41.n.seq (ch47.n.seq ((ch52.l rfl).seq (ch55.l rfl)))))))
     have C58:=cg [3,7] (ch47.n.seq ((ch52.l rfl).seq (ch55.l rfl)))
     refine back3_c1 (vS+1,v51,(FS++[(2,(vS:Int),0)]),g49) _ _ ⟨bH.ca C57,zs0_c1,zs39_c1,zs40_c1,rfl,Rg.ca C58,Rp.ca C58,r_p_v1.ca C58,bx56,o53.ce ch55,by omega,?_⟩ ?_
     · show(FS++[(2,(vS:Int),0)])=bg (kX p) (vS+1)
       exact nN haS (u5 ‹_›)
     · show Int.toNat (((p.1.length:Int):Int)-((vS+1):Int))<Int.toNat (((p.1.length:Int):Int)-(vS:Int))
       omega
    refine aj rfl (df p3_c1) (aM rfl (aa (a8 rfl (mz zs0_c1 (lw (vp b13 0) (aB rfl) (lx (ad dO rfl rfl rfl rfl) (lx (ad iK rfl rfl rfl rfl) (lx (af d3 rfl bx15 rfl) (lx (aT kM rfl r_p_v1) (mi 0 ?_))))))))))
    refine ab (aq ?_)
    refine aQ (σ:=Value×(List cv)×Nat×aH) (λ⟨GS_v,GS,eS,gq⟩ f w=>aX w0 gq w/\f 0=vp b13 0/\f 58=p_v1/\f 59=vi (p.2.length:Int)/\f 60=vi ↑eS/\Sl gq (is 0) w g_v g.2/\Sl gq (is 0) w p_v p.1/\Sl gq (is 0) w p_v1 p.2/\Bx gq (is 3) w b13 [vi g.1,g_v,p_v,p_v1,GS_v]/\Ow gq (is 7) (is 7) w GS_v GS/\(eS:Int)<=((p.2.length:Int):Int)/\(GS=bg (kX p) p.1.length++bg (nJ p) eS)) (λ⟨GS_v,GS,eS,gq⟩=>Int.toNat (((p.2.length:Int):Int)-(eS:Int))) (FS_v,FS,0,g26) ?_ ?_
    · exact⟨bH,zs0_c1,rfl,rfl,rfl,Rg,Rp,r_p_v1,bx15,o_FS,by omega,by exact og haS (by omega)⟩
    clear Rg Rp r_p_v1 bx15 o_FS bH
    rintro⟨GS_v,GS,eS,g61⟩ f59 w60 ⟨bH,zs0_c1,zs58_c1,zs59_c1,zs60_c1,Rg,Rp,r_p_v1,bx15,o_GS,hle_eS,hbS⟩ back9_c1
    have hblS:=qU hbS
    refine aa (a8 rfl (lx (b6 (m:=↑eS) (n:=(p.2.length:Int)) zs60_c1 zs59_c1) (ab (aa ?_))))
    by_cases p9_c1:(eS:Int)<(p.2.length:Int)
    ·
     refine ag rfl (dt p9_c1) (am (aa (aq (aa (a8 rfl (mz zs60_c1 (lx (al (v:=p_v1) (i:=↑eS) kM rfl zs58_c1 r_p_v1 zs60_c1 (by omega) (by omega)) ?_)))))))
     obtain⟨v62,cel63,r64⟩:=dh (r:=(eS:Int)) r_p_v1 (by omega) (by omega)
     refine lx (bD bO rfl cel63) (ai (eS:Int) (ma v62 (ab (aa (a8 rfl (mv v62 ?_))))))
     have len65:=(r64).small
     refine lx (aT cX rfl r64) (lx (b6 (m:=(List.length (gI p.2 ↑eS):Int)) (n:=2) rfl rfl) (mv (vb (decide ((List.length (gI p.2 ↑eS):Int)<2))) ?_))
     by_cases q68_c1:(List.length (gI p.2 ↑eS):Int)<2
     ·
      refine ae (wn (dt q68_c1)) (ae (wn (dt q68_c1)) (ae (wn (dt q68_c1)) (lw (vb true) (aE rfl (dt q68_c1) rfl) (ab (ag rfl rfl ?_)))))
      clear r64
      refine a8 rfl (mz zs0_c1 (mi ↑eS (lo (bT (aA (vals:=[vp b13 0,vi 3,vi ↑eS,vi 0]) Try.func44 de dg rfl) (av Try.func44 rfl nq (a8 rfl (mv (vp b13 0) (mv (vp b13 0) (lw (vp b13 0) (aB rfl) ?_)))))))))
      refine lx (ad dO rfl rfl rfl rfl) (lx (af bx rfl bx15 rfl) (mi 3 (mi ↑eS (mi 0 (lw (vg [vi 3,vi ↑eS,vi 0]) (bQ (vs:=[(0,vi 3),(1,vi ↑eS),(2,vi 0)]) rfl (by kernel_rfl)) (lo (aF (α:=cv) g61 (is 8) (is 8) (8,0) rfl [(3,(eS:Int),0)] gB bB (by decide) (by decide) (vs:=[(0,vg [vi 3,vi ↑eS,vi 0])]) rfl rfl (.cons rfl .nil) ?_)))))))
      intro g66 w67 v68 ch69 o70
      refine lo ?_
      replace o_GS:=o_GS.cn ch69
      refine b9 (α:=cv) (xs:=GS) (ys:=([(3,(eS:Int),0)])) g66 (J:=is 7) (S:=is 7) (7,0) rfl gB bB (by decide) rfl rfl rfl o_GS o70.flat (by decide) (by(simp;omega)) ?_
      intro g71 w72 v73 ch74 o75
      clear o_GS
      refine lw (vp b13 0) (aB rfl) (lx (ad dO rfl rfl rfl rfl) (lo ?_))
      replace bx15:=(bx15.cn ch69).ce ch74
      refine bL (cs':=[vi g.1,g_v,p_v,p_v1,v73]) bx rfl rfl bx15 (bK o75.flat) nq (cz o75.flat) rfl ?_
      intro w76 ch77 bx78
      clear bx15
      refine ab (ct (vs:=[]) Try.func44 .nil ?_)
      refine⟨vt [],rfl,?_⟩
      refine ab (ao ?_)
      clear o70
      refine a8 rfl (lx (aP (m:=↑eS) (n:=1) zs60_c1 rfl (by omega)) (mi ((eS:Int)+1) (ab ?_)))
      have C79:=cg [3,7] (ch69.n.seq ((ch74.l rfl).seq (ch77.l rfl)))
      refine back9_c1 (v73,(GS++[(3,(eS:Int),0)]),eS+1,g71) _ _ ⟨bH.ca C79,zs0_c1,zs58_c1,zs59_c1,rfl,Rg.ca C79,Rp.ca C79,r_p_v1.ca C79,bx78,o75.ce ch77,by omega,?_⟩ ?_
      · show(GS++[(3,(eS:Int),0)])=bg (kX p) p.1.length++bg (nJ p) (eS+1)
        exact gL hbS (y3 ‹_›)
      · show Int.toNat (((p.2.length:Int):Int)-((eS+1):Int))<Int.toNat (((p.2.length:Int):Int)-(eS:Int))
        omega
     refine lv (v62) (wy (df q68_c1)) (aD rfl) (cj (wy (df q68_c1)) (aK (v:=vb (decide (dW (gI p.2 ↑eS)))) (aA (vals:=[v62]) Try.func33 fA fF rfl) (fC w60 (gI p.2 ↑eS) v62 (r64).ro) ?_))
     intro w80 hb81
     replace hb81:=ar hb81 g61
     refine lv (vb (!(decide (dW (gI p.2 ↑eS))))) (wy (df q68_c1)) (dj (b:=(decide (dW (gI p.2 ↑eS)))) rfl) (lw (vb (!(decide (dW (gI p.2 ↑eS))))) (aC rfl (df q68_c1) rfl) (ab ?_))
     by_cases p11_c1:(decide (dW (gI p.2 ↑eS)))=true
     ·
      refine aj rfl (congrArg Bool.not p11_c1) (am (ao ?_))
      clear r64
      refine a8 rfl (lx (aP (m:=↑eS) (n:=1) zs60_c1 rfl (by omega)) (mi ((eS:Int)+1) (ab ?_)))
      refine back9_c1 (GS_v,GS,eS+1,g61) _ _ ⟨bH.cn hb81,zs0_c1,zs58_c1,zs59_c1,rfl,Rg.cn hb81,Rp.cn hb81,r_p_v1.cn hb81,bx15.cn hb81,o_GS.cn hb81,by omega,?_⟩ ?_
      · show GS=bg (kX p) p.1.length++bg (nJ p) (eS+1)
        exact iU hbS (xS ‹_› ‹_›)
      · show Int.toNat (((p.2.length:Int):Int)-((eS+1):Int))<Int.toNat (((p.2.length:Int):Int)-(eS:Int))
        omega
     refine ag rfl (congrArg Bool.not (Bool.eq_false_iff.2 p11_c1)) ?_
     clear r64
     refine a8 rfl (mz zs0_c1 (mi ↑eS (lo (bT (aA (vals:=[vp b13 0,vi 3,vi ↑eS,vi 0]) Try.func44 de dg rfl) (av Try.func44 rfl nq ?_)))))
     replace Rg:=Rg.cn hb81
     replace Rp:=Rp.cn hb81
     replace r_p_v1:=r_p_v1.cn hb81
     replace o_GS:=o_GS.cn hb81
     refine a8 rfl (mv (vp b13 0) (mv (vp b13 0) (lw (vp b13 0) (aB rfl) (lx (ad dO rfl rfl rfl rfl) ?_))))
     replace bx15:=bx15.cn hb81
     refine lx (af bx rfl bx15 rfl) (mi 3 (mi ↑eS (mi 0 (lw (vg [vi 3,vi ↑eS,vi 0]) (bQ (vs:=[(0,vi 3),(1,vi ↑eS),(2,vi 0)]) rfl (by kernel_rfl)) (lo (aF (α:=cv) g61 (is 9) (is 9) (9,0) rfl [(3,(eS:Int),0)] gB bB (by decide) (by decide) (vs:=[(0,vg [vi 3,vi ↑eS,vi 0])]) rfl rfl (.cons rfl .nil) ?_))))))
     intro g82 w83 v84 ch85 o86
     refine lo ?_
     replace o_GS:=o_GS.cn ch85
     refine b9 (α:=cv) (xs:=GS) (ys:=([(3,(eS:Int),0)])) g82 (J:=is 7) (S:=is 7) (7,0) rfl gB bB (by decide) rfl rfl rfl o_GS o86.flat (by decide) (by(simp;omega)) ?_
     intro g87 w88 v89 ch90 o91
     clear o_GS
     refine lw (vp b13 0) (aB rfl) (lx (ad dO rfl rfl rfl rfl) (lo ?_))
     replace bx15:=(bx15.cn ch85).ce ch90
     refine bL (cs':=[vi g.1,g_v,p_v,p_v1,v89]) bx rfl rfl bx15 (bK o91.flat) nq (cz o91.flat) rfl ?_
     intro w92 ch93 bx94
     clear bx15
     refine ab (ct (vs:=[]) Try.func44 .nil ?_)
     refine⟨vt [],rfl,?_⟩
     refine ab (ao ?_)
     clear o86
     refine a8 rfl (lx (aP (m:=↑eS) (n:=1) zs60_c1 rfl (by omega)) (mi ((eS:Int)+1) (ab ?_)))
     have C96:=cg [3,7] (ch85.n.seq ((ch90.l rfl).seq (ch93.l rfl)))
     have C95:=hb81.n.seq C96
     refine back9_c1 (v89,(GS++[(3,(eS:Int),0)]),eS+1,g87) _ _ ⟨bH.ca C95,zs0_c1,zs58_c1,zs59_c1,rfl,Rg.ca C96,Rp.ca C96,r_p_v1.ca C96,bx94,o91.ce ch93,by omega,?_⟩ ?_
     · show(GS++[(3,(eS:Int),0)])=bg (kX p) p.1.length++bg (nJ p) (eS+1)
       exact gL hbS (xL ‹_›)
     · show Int.toNat (((p.2.length:Int):Int)-((eS+1):Int))<Int.toNat (((p.2.length:Int):Int)-(eS:Int))
       omega
    refine aj rfl (df p9_c1) (aM rfl (ct (vs:=[]) Try.func27 .nil ?_))
    refine⟨(GS_v,GS,g61),rfl,bH,Rg,Rp,r_p_v1,bx15,o_GS,?_⟩
    show GS=bZ g p
    exact xI ‹_› ‹_› hbS (by omega)
   refine ag rfl (congrArg Bool.not (df p0_c1)) (aa (a8 rfl (mv (vp b13 0) (lo (bT (aA (vals:=[vp b13 0,vi 1,vi 0,vi 0]) Try.func44 de dg rfl) (av Try.func44 rfl nq ?_))))))
   replace Rg:=Rg.cn hc22
   replace Rp:=Rp.cn hc22
   replace r_p_v1:=r_p_v1.cn hc22
   refine a8 rfl (mv (vp b13 0) (mv (vp b13 0) (lw (vp b13 0) (aB rfl) (lx (ad dO rfl rfl rfl rfl) ?_))))
   replace bx15:=bx15.cn hc22
   refine lx (af bx rfl bx15 rfl) (mi 1 (mi 0 (mi 0 (lw (vg [vi 1,vi 0,vi 0]) (bQ (vs:=[(0,vi 1),(1,vi 0),(2,vi 0)]) rfl (by kernel_rfl)) (lo (aF (α:=cv) g14 (is 10) (is 10) (10,0) rfl [(1,0,0)] gB bB (by decide) (by decide) (vs:=[(0,vg [vi 1,vi 0,vi 0])]) rfl rfl (.cons rfl .nil) ?_))))))
   intro g97 w98 v99 ch100 o101
   refine lo (b9 (α:=cv) (xs:=([])) (ys:=([(1,0,0)])) g97 (J:=is 7) (S:=is 7) (7,0) rfl gB bB (by decide) rfl rfl rfl Ow.nil o101.flat (by decide) (by(simp;done)) ?_)
   intro g102 w103 v104 ch105 o106
   replace o106:Ow g102 (is 7) (is 7) w103 v104 ([(1,0,0)]:List cv):=o106
   refine lw (vp b13 0) (aB rfl) (lx (ad dO rfl rfl rfl rfl) (lo ?_))
   replace bx15:=(bx15.cn ch100).ce ch105
   refine bL (cs':=[vi g.1,g_v,p_v,p_v1,v104]) bx rfl rfl bx15 (bK o106.flat) nq (cz o106.flat) rfl ?_
   intro w107 ch108 bx109
   clear bx15
   refine ab (ct (vs:=[]) Try.func44 .nil ?_)
   refine⟨vt [],rfl,?_⟩
   refine ab (au (vs:=[]) Try.func27 .nil ?_)
   have C111:=cg [3,7] (ch100.n.seq ((ch105.l rfl).seq (ch108.l rfl)))
   have C110:=ch2.n.seq (ch7.n.seq (ch12.n.seq (ch16.n.seq (hc22.n.seq C111))))
   replace bH:=bH.ca C110
   replace Rg:=Rg.ca C111
   replace Rp:=Rp.ca C111
   replace r_p_v1:=r_p_v1.ca C111
   replace o106:=o106.ce ch108
   refine⟨(v104,[(1,0,0)],g102),rfl,bH,Rg,Rp,r_p_v1,bx109,o106,?_⟩
   show([(1,0,0)])=bZ g p
   exact xW ‹_›
  refine aN (wn (congrArg Bool.not (df q18_c1))) (aN (wn (congrArg Bool.not (df q18_c1))) (aN (wn (congrArg Bool.not (df q18_c1))) (aN (wn (congrArg Bool.not (df q18_c1))) (aN (wn (congrArg Bool.not (df q18_c1))) (aN (wn (congrArg Bool.not (df q18_c1))) (aN (wn (congrArg Bool.not (df q18_c1))) (aN (wn (congrArg Bool.not (df q18_c1))) (aN (wn (congrArg Bool.not (df q18_c1))) (aN (wn (congrArg Bool.not (df q18_c1))) ?_)))))))))
  refine aN (wn (congrArg Bool.not (df q18_c1))) (aN (wn (congrArg Bool.not (df q18_c1))) (aN (wn (congrArg Bool.not (df q18_c1))) (qv (vb true) (λw' hw'=>aE rfl (congrArg Bool.not (df q18_c1)) rfl) (dH ?_))))
  intro w112 hc113
  replace hc113:=ar hc113 g14
  refine ag rfl rfl (aa (a8 rfl (mv (vp b13 0) (lo (bT (aA (vals:=[vp b13 0,vi 1,vi 0,vi 0]) Try.func44 de dg rfl) (av Try.func44 rfl nq ?_))))))
  replace Rg:=(Rg.cn ch16).cn hc113
  replace Rp:=Rp.cn hc113
  replace r_p_v1:=(r_p_v1.cn ch16).cn hc113
  refine a8 rfl (mv (vp b13 0) (mv (vp b13 0) (lw (vp b13 0) (aB rfl) (lx (ad dO rfl rfl rfl rfl) ?_))))
  replace bx15:=bx15.cn hc113
  refine lx (af bx rfl bx15 rfl) (mi 1 (mi 0 (mi 0 (lw (vg [vi 1,vi 0,vi 0]) (bQ (vs:=[(0,vi 1),(1,vi 0),(2,vi 0)]) rfl (by kernel_rfl)) (lo (aF (α:=cv) g14 (is 11) (is 11) (11,0) rfl [(1,0,0)] gB bB (by decide) (by decide) (vs:=[(0,vg [vi 1,vi 0,vi 0])]) rfl rfl (.cons rfl .nil) ?_))))))
  intro g114 w115 v116 ch117 o118
  refine lo (b9 (α:=cv) (xs:=([])) (ys:=([(1,0,0)])) g114 (J:=is 7) (S:=is 7) (7,0) rfl gB bB (by decide) rfl rfl rfl Ow.nil o118.flat (by decide) (by(simp;done)) ?_)
  intro g119 w120 v121 ch122 o123
  replace o123:Ow g119 (is 7) (is 7) w120 v121 ([(1,0,0)]:List cv):=o123
  refine lw (vp b13 0) (aB rfl) (lx (ad dO rfl rfl rfl rfl) (lo ?_))
  replace bx15:=(bx15.cn ch117).ce ch122
  refine bL (cs':=[vi g.1,g_v,p_v,p_v1,v121]) bx rfl rfl bx15 (bK o123.flat) nq (cz o123.flat) rfl ?_
  intro w124 ch125 bx126
  clear bx15
  refine ab (ct (vs:=[]) Try.func44 .nil ?_)
  refine⟨vt [],rfl,?_⟩
  refine ab (au (vs:=[]) Try.func27 .nil ?_)
  have C128:=cg [3,7] (ch117.n.seq ((ch122.l rfl).seq (ch125.l rfl)))
  have C127:=ch2.n.seq (ch7.n.seq (ch12.n.seq (ch16.n.seq (hc113.n.seq C128))))
  replace bH:=bH.ca C127
  replace Rg:=Rg.ca C128
  replace Rp:=Rp.ca C128
  replace r_p_v1:=r_p_v1.ca C128
  replace o123:=o123.ce ch125
  refine⟨(v121,[(1,0,0)],g119),rfl,bH,Rg,Rp,r_p_v1,bx126,o123,?_⟩
  show([(1,0,0)])=bZ g p
  exact xP ‹_›
 clear Rg Rp r_p_v1 bx15 bH
 rintro⟨l_4_c1_v,l_4_c1,g130⟩ w129 ⟨bH,Rg,Rp,r_p_v1,bx15,o_l_4_c1,hsh⟩
 have hshl:=lL (p:=p) hmay
 rw[<-hsh] at hshl
 refine ab (aa (aa (a8 rfl (mv (vp b13 0) (lw (vp b13 0) (aB rfl) (lx (ad dO rfl rfl rfl rfl) (lx (af bx rfl bx15 rfl) ?_)))))))
 have len131:=(o_l_4_c1.flat).small
 refine lx (aT gB rfl o_l_4_c1.flat) (lx (e8 (m:=(l_4_c1.length:Int)) (n:=0) rfl rfl) (ab ?_))
 by_cases p3:0<(l_4_c1.length:Int)
 ·
  refine ag rfl (dt p3) (aa (a8 rfl (mv (vp b13 0) (lw (vp b13 0) (aB rfl) (lx (ad dO rfl rfl rfl rfl) (lx (af bx rfl bx15 rfl) (ma l_4_c1_v (ab (au (vs:=[l_4_c1_v]) Try.func16 (.tmp rfl .nil) ?_)))))))))
  have e0:(l_4_c1:List cv)=(cl g p):=by
    exact uJ hsh ‹_›
  exact⟨(fin w0 g130 (λn=>if n=7 then 1 else 0),l_4_c1_v),(congrArg (a₁:=l_4_c1) (λ(z0:List cv)=>Ending.returned (l_4_c1_v)) e0),bH.fresh _,(e0▸(o_l_4_c1.glue (γ:=c0) (ren:=(λn=>if n=7 then 1 else 0)) (k:=1) bH.col rfl rfl))⟩
 obtain⟨hF0,hsn,hs⟩:=tO hsh p3
 have hs1:=hs.n
 have hs2:=hs.m
 refine aj rfl (df p3) (am (aa (a8 rfl (mv (vp b13 0) (lo (bT (aA (vals:=[vp b13 0]) Try.func29 wQ wN rfl) (av Try.func29 rfl nq (aa (a8 rfl (cj rfl (pK (α:=Int) g130 12 ?_)))))))))))
 intro g132 w133 v134 ch135 m136
 refine ma v134 (ab (aa (aa (a8 rfl (mv (vp b13 0) (lw (vp b13 0) (aB rfl) (lx (ad dO rfl rfl rfl rfl) (lx (ad iK rfl rfl rfl rfl) ?_))))))))
 replace bx15:=bx15.cn ch135
 refine lx (af bO rfl bx15 rfl) ?_
 replace Rp:=Rp.cn ch135
 have len137:=(Rp).small
 refine lx (aT cX rfl Rp) (mi 0 (ab (aq ?_)))
 refine aQ (σ:=Nat×(Pt->List Int)×aH) (λ⟨iP,first_,gq⟩ f w=>aX w0 gq w/\f 0=vp b13 0/\f 2=v134/\f 14=p_v/\f 15=vi (p.1.length:Int)/\f 16=vi ↑iP/\Sl gq (is 0) w g_v g.2/\Sl gq (is 0) w p_v p.1/\Sl gq (is 0) w p_v1 p.2/\Bx gq (is 3) w b13 [vi g.1,g_v,p_v,p_v1,l_4_c1_v]/\Ow gq (is 7) (is 7) w l_4_c1_v l_4_c1/\Ml gq 12 w v134 first_/\(iP:Int)<=((p.1.length:Int):Int)/\(first_=λq=>m6 p.1 q iP)) (λ⟨iP,first_,gq⟩=>Int.toNat (((p.1.length:Int):Int)-(iP:Int))) (0,(λ_=>([]:List Int)),g132) ?_ ?_
 · exact⟨bH.cn ch135,rfl,rfl,rfl,rfl,rfl,Rg.cn ch135,Rp,r_p_v1.cn ch135,bx15,o_l_4_c1.cn ch135,m136,by omega,by rfl⟩
 clear Rg Rp r_p_v1 bx15 o_l_4_c1 m136 bH
 rintro⟨iP,first_,g140⟩ f138 w139 ⟨bH,zs0_c7,zs2_c7,zs14_c7,zs15_c7,zs16_c7,Rg,Rp,r_p_v1,bx15,o_l_4_c1,m136,hle_iP,haP⟩ back2_c7
 refine aa (a8 rfl (lx (b6 (m:=↑iP) (n:=(p.1.length:Int)) zs16_c7 zs15_c7) (ab (aa ?_))))
 by_cases p2_c7:(iP:Int)<(p.1.length:Int)
 ·
  refine ag rfl (dt p2_c7) ?_
  have halP:(first_ (gI p.1 ↑iP)).length<=iP:=by rw[haP];exact r3 _ _ _
  refine am (aa (aq (aa (a8 rfl (mz zs16_c7 (lx (al (v:=p_v) (i:=↑iP) cX rfl zs14_c7 Rp zs16_c7 (by omega) (by omega)) (lw (vg [vi ((gI p.1 ↑iP).1),vi ((gI p.1 ↑iP).2)]) (aJ (v:=p_v) (i:=↑iP) ah rfl Rp (by omega) (by omega) rfl) (lo (aY g140 (is 13) (13,0) rfl ah ?_)))))))))
  intro g144 w141 b143 ch142 bx145
  replace bx145:Bx g144 (is 13) w141 b143 [vi 0,vi 0]:=bx145
  refine ai (iP:Int) (lo (aw (cs':=[vi ((gI p.1 ↑iP).1),vi ((gI p.1 ↑iP).2)]) ah rfl rfl bx145 rfl nq (AllOne.all (.cons rfl (.cons rfl .nil))) rfl ?_))
  intro w146 ch147 bx148
  clear bx145
  refine ab (a8 rfl (mz zs2_c7 (lx (ak (ds:=[vi ((gI p.1 ↑iP).1),vi ((gI p.1 ↑iP).2)]) ah rfl bx148 rfl rfl) (mi ↑iP (lo (aF (α:=Int) g144 (is 14) (is 14) (14,0) rfl [(iP:Int)] dl aI (by decide) (by decide) (vs:=[(0,vi ↑iP)]) rfl rfl (.cons rfl .nil) ?_))))))
  intro g149 w150 v151 ch152 o153
  refine lo ?_
  have C160:=cg [13] (ch142.n.seq ((ch147.l rfl).seq ch152.n))
  replace m136:=m136.ca C160
  refine oM (gI p.1 ↑iP) At (om dw rfl rfl rfl rfl (by decide+kernel) (by decide+kernel) U3 aI (by kernel_rfl)) el rfl m136 rfl rfl ?_
  intro w154 s157 v158 ch155 m156 o159
  clear m136
  refine lx (aV rfl rfl) (lo ?_)
  replace o153:=o153.chg ch155 (kv rfl) (kv rfl)
  refine b9 (α:=Int) (xs:=(first_ (gI p.1 ↑iP))) (ys:=([(iP:Int)])) g149 (J:=row 12 (iL (gI p.1 ↑iP)+1)) (S:=row 12 (iL (gI p.1 ↑iP)+1)) (12,iL (gI p.1 ↑iP)+1) rfl dl aI (by decide) rfl rfl rfl o159 o153.flat (by decide) (by(simp;omega)) ?_
  intro g161 w162 v163 ch164 o165
  have m166:=m156.rowchg ch164
  clear m156 o159
  refine lx (aV rfl rfl) (lo (m8 rfl m166 rfl rfl o165 ?_))
  intro w167 ch168 m169
  clear m166 o165
  refine ab (ao ?_)
  clear bx148 o153
  refine a8 rfl (lx (aP (m:=↑iP) (n:=1) zs16_c7 rfl (by omega)) (mi ((iP:Int)+1) (ab ?_)))
  have C170:=cg [12,13] (ch142.n.seq ((ch147.l rfl).seq (ch152.n.seq ((ch155.lr rfl).seq ((ch164.lr rfl).seq (ch168.lr rfl))))))
  refine back2_c7 (iP+1,(λq=>if q=(gI p.1 ↑iP) then((first_ (gI p.1 ↑iP))++[(iP:Int)]) else first_ q),g161) _ _ ⟨bH.ca C170,zs0_c7,zs2_c7,zs14_c7,zs15_c7,rfl,Rg.ca C170,Rp.ca C170,r_p_v1.ca C170,bx15.ca C170,o_l_4_c1.ca C170,m169,by omega,?_⟩ ?_
  · show(λq=>if q=(gI p.1 ↑iP) then((first_ (gI p.1 ↑iP))++[(iP:Int)]) else first_ q)=λq=>m6 p.1 q (iP+1)
    exact th haP
  · show Int.toNat (((p.1.length:Int):Int)-((iP+1):Int))<Int.toNat (((p.1.length:Int):Int)-(iP:Int))
    omega
 refine aj rfl (df p2_c7) (aM rfl (aa (a8 rfl (mz zs0_c7 (lw (vp b13 0) (aB rfl) (lx (ad dO rfl rfl rfl rfl) (lx (ad iK rfl rfl rfl rfl) (lx (af bO rfl bx15 rfl) (lx (aT cX rfl Rp) (mi 0 ?_))))))))))
 refine ab (aq ?_)
 refine aQ (σ:=Value×(List cv)×Nat×aH) (λ⟨FP_v,FP,vP,gq⟩ f w=>aX w0 gq w/\f 0=vp b13 0/\f 2=v134/\f 34=p_v/\f 35=vi (p.1.length:Int)/\f 36=vi ↑vP/\Sl gq (is 0) w g_v g.2/\Sl gq (is 0) w p_v p.1/\Sl gq (is 0) w p_v1 p.2/\Bx gq (is 3) w b13 [vi g.1,g_v,p_v,p_v1,FP_v]/\Ml gq 12 w v134 first_/\Ow gq (is 7) (is 7) w FP_v FP/\(vP:Int)<=((p.1.length:Int):Int)/\(FP=bg (gw p) vP)) (λ⟨FP_v,FP,vP,gq⟩=>Int.toNat (((p.1.length:Int):Int)-(vP:Int))) (l_4_c1_v,l_4_c1,0,g140) ?_ ?_
 · exact⟨bH,zs0_c7,zs2_c7,rfl,rfl,rfl,Rg,Rp,r_p_v1,bx15,m136,o_l_4_c1,by omega,by exact hF0⟩
 clear Rg Rp r_p_v1 bx15 o_l_4_c1 m136 bH
 rintro⟨FP_v,FP,vP,g173⟩ f171 w172 ⟨bH,zs0_c7,zs2_c7,zs34_c7,zs35_c7,zs36_c7,Rg,Rp,r_p_v1,bx15,m136,o_FP,hle_vP,hbP⟩ back7_c7
 refine aa (a8 rfl (lx (b6 (m:=↑vP) (n:=(p.1.length:Int)) zs36_c7 zs35_c7) (ab (aa ?_))))
 by_cases p7_c7:(vP:Int)<(p.1.length:Int)
 ·
  refine ag rfl (dt p7_c7) ?_
  have holP:(first_ (gI p.1 ↑vP)).length<=iP:=by rw[haP];exact r3 _ _ _
  refine am (aa (aq (aa (a8 rfl (mz zs36_c7 (lx (al (v:=p_v) (i:=↑vP) cX rfl zs34_c7 Rp zs36_c7 (by omega) (by omega)) (lw (vg [vi ((gI p.1 ↑vP).1),vi ((gI p.1 ↑vP).2)]) (aJ (v:=p_v) (i:=↑vP) ah rfl Rp (by omega) (by omega) rfl) (lo (aY g173 (is 15) (15,0) rfl ah ?_)))))))))
  intro g177 w174 b176 ch175 bx178
  replace bx178:Bx g177 (is 15) w174 b176 [vi 0,vi 0]:=bx178
  refine ai (vP:Int) (lo (aw (cs':=[vi ((gI p.1 ↑vP).1),vi ((gI p.1 ↑vP).2)]) ah rfl rfl bx178 rfl nq (AllOne.all (.cons rfl (.cons rfl .nil))) rfl ?_))
  intro w179 ch180 bx181
  clear bx178
  refine ab (aa (a8 rfl (mz zs2_c7 (lx (ak (ds:=[vi ((gI p.1 ↑vP).1),vi ((gI p.1 ↑vP).2)]) ah rfl bx181 rfl rfl) ?_))))
  replace m136:=(m136.cn ch175).ce ch180
  obtain⟨F182,hF183,r184⟩:=yN m136 (gI p.1 ↑vP)
  refine lw ((F182 (gI p.1 ↑vP))) (sf (gI p.1 ↑vP) At (om dw rfl rfl rfl rfl (by decide+kernel) (by decide+kernel) U3 aI (by kernel_rfl)) el rfl hF183 rfl rfl) ?_
  have len185:=(r184).small
  refine lx (aT dl rfl r184) (mi 0 (ab (aq ?_)))
  clear bx181
  refine aQ (σ:=Value×(List cv)×Nat×aH) (λ⟨GP_v,GP,qP,gq⟩ f w=>aX w0 gq w/\f 0=vp b13 0/\f 2=v134/\f 5=vi ↑vP/\f 34=p_v/\f 35=vi (p.1.length:Int)/\f 36=vi ↑vP/\f 43=(F182 (gI p.1 ↑vP))/\f 44=vi (List.length (first_ (gI p.1 ↑vP)):Int)/\f 45=vi ↑qP/\Sl gq (is 0) w g_v g.2/\Sl gq (is 0) w p_v p.1/\Sl gq (is 0) w p_v1 p.2/\Bx gq (is 3) w b13 [vi g.1,g_v,p_v,p_v1,GP_v]/\Ml gq 12 w v134 first_/\Sl gq (is 12) w (F182 (gI p.1 ↑vP)) (first_ (gI p.1 ↑vP))/\Ow gq (is 7) (is 7) w GP_v GP/\(qP:Int)<=((List.length (first_ (gI p.1 ↑vP)):Int):Int)/\(GP=bg (gw p) vP++((first_ (gI p.1 ↑vP)).take qP).flatMap (iH vP))) (λ⟨GP_v,GP,qP,gq⟩=>Int.toNat (((List.length (first_ (gI p.1 ↑vP)):Int):Int)-(qP:Int))) (FP_v,FP,0,g177) ?_ ?_
  replace bH:=bH.cn ch175
  · exact⟨bH.ce ch180,zs0_c7,zs2_c7,rfl,zs34_c7,zs35_c7,zs36_c7,rfl,rfl,rfl,(Rg.cn ch175).ce ch180,(Rp.cn ch175).ce ch180,(r_p_v1.cn ch175).ce ch180,(bx15.cn ch175).ce ch180,m136,r184,(o_FP.cn ch175).ce ch180,by omega,by exact tP hbP⟩
  clear Rg Rp r_p_v1 bx15 m136 o_FP r184 bH
  rintro⟨GP_v,GP,qP,g188⟩ f186 w187 ⟨bH,zs0_c7,zs2_c7,zs5_c7,zs34_c7,zs35_c7,zs36_c7,zs43_c7,zs44_c7,zs45_c7,Rg,Rp,r_p_v1,bx15,m136,r184,o_GP,hle_qP,hcP⟩ back10_c7
  have hclP:=x7 (by omega) (by omega) hcP (by omega)
  refine aa (a8 rfl (lx (b6 (m:=↑qP) (n:=(List.length (first_ (gI p.1 ↑vP)):Int)) zs45_c7 zs44_c7) (ab (aa ?_))))
  by_cases p10_c7:(qP:Int)<(List.length (first_ (gI p.1 ↑vP)):Int)
  ·
   refine ag rfl (dt p10_c7) (am (aa (aq (aa (a8 rfl (lx (al (v:=(F182 (gI p.1 ↑vP))) (i:=↑qP) dl rfl zs43_c7 r184 zs45_c7 (by omega) (by omega)) (lx (br (v:=(F182 (gI p.1 ↑vP))) (i:=↑qP) aI rfl r184 (by omega) (by omega) (by decide) rfl) (ai (gI (first_ (gI p.1 ↑vP)) (qP:Int)) (ab (aa (a8 rfl (mi (gI (first_ (gI p.1 ↑vP)) (qP:Int)) ?_))))))))))))
   refine mz zs5_c7 (lx (e8 (m:=(gI (first_ (gI p.1 ↑vP)) (qP:Int))) (n:=↑vP) rfl rfl) (ab ?_))
   by_cases p12_c7:(vP:Int)<(gI (first_ (gI p.1 ↑vP)) (qP:Int))
   ·
    refine ag rfl (dt p12_c7) (a8 rfl (mz zs0_c7 (mz zs5_c7 (mi (gI (first_ (gI p.1 ↑vP)) (qP:Int)) (lo (bT (aA (vals:=[vp b13 0,vi 4,vi ↑vP,vi (gI (first_ (gI p.1 ↑vP)) (qP:Int))]) Try.func44 de dg rfl) (av Try.func44 rfl nq (a8 rfl (mv (vp b13 0) ?_)))))))))
    refine mv (vp b13 0) (lw (vp b13 0) (aB rfl) (lx (ad dO rfl rfl rfl rfl) (lx (af bx rfl bx15 rfl) (mi 4 (mi ↑vP (mi (gI (first_ (gI p.1 ↑vP)) (qP:Int)) (lw (vg [vi 4,vi ↑vP,vi (gI (first_ (gI p.1 ↑vP)) (qP:Int))]) (bQ (vs:=[(0,vi 4),(1,vi ↑vP),(2,vi (gI (first_ (gI p.1 ↑vP)) (qP:Int)))]) rfl (by kernel_rfl)) (lo ?_))))))))
    refine aF (α:=cv) g188 (is 16) (is 16) (16,0) rfl [(4,(vP:Int),(gI (first_ (gI p.1 ↑vP)) (qP:Int)))] gB bB (by decide) (by decide) (vs:=[(0,vg [vi 4,vi ↑vP,vi (gI (first_ (gI p.1 ↑vP)) (qP:Int))])]) rfl rfl (.cons rfl .nil) ?_
    intro g189 w190 v191 ch192 o193
    refine lo ?_
    replace o_GP:=o_GP.cn ch192
    refine b9 (α:=cv) (xs:=GP) (ys:=([(4,(vP:Int),(gI (first_ (gI p.1 ↑vP)) (qP:Int)))])) g189 (J:=is 7) (S:=is 7) (7,0) rfl gB bB (by decide) rfl rfl rfl o_GP o193.flat (by decide) (by(simp;omega)) ?_
    intro g194 w195 v196 ch197 o198
    clear o_GP
    refine lw (vp b13 0) (aB rfl) (lx (ad dO rfl rfl rfl rfl) (lo ?_))
    replace bx15:=(bx15.cn ch192).ce ch197
    refine bL (cs':=[vi g.1,g_v,p_v,p_v1,v196]) bx rfl rfl bx15 (bK o198.flat) nq (cz o198.flat) rfl ?_
    intro w199 ch200 bx201
    clear bx15
    refine ab (ct (vs:=[]) Try.func44 .nil ?_)
    refine⟨vt [],rfl,?_⟩
    refine ab (ao ?_)
    clear o193
    refine a8 rfl (lx (aP (m:=↑qP) (n:=1) zs45_c7 rfl (by omega)) (mi ((qP:Int)+1) (ab ?_)))
    have C202:=cg [3,7] (ch192.n.seq ((ch197.l rfl).seq (ch200.l rfl)))
    refine back10_c7 (v196,(GP++[(4,(vP:Int),(gI (first_ (gI p.1 ↑vP)) (qP:Int)))]),qP+1,g194) _ _ ⟨bH.ca C202,zs0_c7,zs2_c7,zs5_c7,zs34_c7,zs35_c7,zs36_c7,zs43_c7,zs44_c7,rfl,Rg.ca C202,Rp.ca C202,r_p_v1.ca C202,bx201,m136.ca C202,r184.ca C202,o198.ce ch200,by omega,?_⟩ ?_
    · show(GP++[(4,(vP:Int),(gI (first_ (gI p.1 ↑vP)) (qP:Int)))])=bg (gw p) vP++((first_ (gI p.1 ↑vP)).take (qP+1)).flatMap (iH vP)
      exact xe hcP ‹_› ‹_›
    · show Int.toNat (((List.length (first_ (gI p.1 ↑vP)):Int):Int)-((qP+1):Int))<Int.toNat (((List.length (first_ (gI p.1 ↑vP)):Int):Int)-(qP:Int))
      omega
   refine aj rfl (df p12_c7) (am (ao (a8 rfl (lx (aP (m:=↑qP) (n:=1) zs45_c7 rfl (by omega)) (mi ((qP:Int)+1) (ab ?_))))))
   refine back10_c7 (GP_v,GP,qP+1,g188) _ _ ⟨bH,zs0_c7,zs2_c7,zs5_c7,zs34_c7,zs35_c7,zs36_c7,zs43_c7,zs44_c7,rfl,Rg,Rp,r_p_v1,bx15,m136,r184,o_GP,by omega,?_⟩ ?_
   · show GP=bg (gw p) vP++((first_ (gI p.1 ↑vP)).take (qP+1)).flatMap (iH vP)
     exact yx hcP ‹_› ‹_›
   · show Int.toNat (((List.length (first_ (gI p.1 ↑vP)):Int):Int)-((qP+1):Int))<Int.toNat (((List.length (first_ (gI p.1 ↑vP)):Int):Int)-(qP:Int))
     omega
  refine aj rfl (df p10_c7) (aM rfl (ao ?_))
  clear r184
  refine a8 rfl (lx (aP (m:=↑vP) (n:=1) zs36_c7 rfl (by omega)) (mi ((vP:Int)+1) (ab ?_)))
  refine back7_c7 (GP_v,GP,vP+1,g188) _ _ ⟨bH,zs0_c7,zs2_c7,zs34_c7,zs35_c7,rfl,Rg,Rp,r_p_v1,bx15,m136,o_GP,by omega,?_⟩ ?_
  · show GP=bg (gw p) (vP+1)
    exact sV haP (by omega) hcP ‹_›
  · show Int.toNat (((p.1.length:Int):Int)-((vP+1):Int))<Int.toNat (((p.1.length:Int):Int)-(vP:Int))
    omega
 refine aj rfl (df p7_c7) (aM rfl (ct (vs:=[]) Try.func29 .nil ?_))
 refine⟨vt [],rfl,?_⟩
 refine ab (aa (aa ?_))
 clear m136
 refine a8 rfl (mv (vp b13 0) (lo (bT (aA (vals:=[vp b13 0]) Try.func30 xh vY rfl) (av Try.func30 rfl nq (aa (a8 rfl (ma (vb false) (ab (aa (a8 rfl (ma (vb true) (ab (aa (aa (a8 rfl ?_)))))))))))))))
 refine mv (vp b13 0) (lw (vp b13 0) (aB rfl) (lx (ad dO rfl rfl rfl rfl) (lx (ad iK rfl rfl rfl rfl) (lx (af d3 rfl bx15 rfl) ?_))))
 have len203:=(r_p_v1).small
 refine lx (aT kM rfl r_p_v1) (mi 0 (ab (aq ?_)))
 refine aQ (σ:=Nat×Value×(List cv)×Bool×aH) (λ⟨eL,FL_v,FL,fine_,gq⟩ f w=>aX w0 gq w/\f 0=vp b13 0/\f 3=vb fine_/\f 15=p_v1/\f 16=vi (p.2.length:Int)/\f 17=vi ↑eL/\Sl gq (is 0) w g_v g.2/\Sl gq (is 0) w p_v p.1/\Sl gq (is 0) w p_v1 p.2/\Bx gq (is 3) w b13 [vi g.1,g_v,p_v,p_v1,FL_v]/\Ow gq (is 7) (is 7) w FL_v FL/\(eL:Int)<=((p.2.length:Int):Int)/\(FL=c9 p++bg (cT g p) eL/\fine_=decide (bg (cT g p) eL=[]))) (λ⟨eL,FL_v,FL,fine_,gq⟩=>Int.toNat (((p.2.length:Int):Int)-(eL:Int))) (0,FP_v,FP,true,g173) ?_ ?_
 · exact⟨bH,rfl,rfl,rfl,rfl,rfl,Rg,Rp,r_p_v1,bx15,o_FP,by omega,by exact sx hbP (by omega)⟩
 clear Rg Rp r_p_v1 bx15 o_FP bH
 rintro⟨eL,FL_v,FL,fine_,g206⟩ f204 w205 ⟨bH,zs0_c9,zs3_c9,zs15_c9,zs16_c9,zs17_c9,Rg,Rp,r_p_v1,bx15,o_FL,hle_eL,hdL⟩ back3_c9
 have hdlL:=vh (by omega) (by omega) hdL.1
 refine aa (a8 rfl (lx (b6 (m:=↑eL) (n:=(p.2.length:Int)) zs17_c9 zs16_c9) (ab (aa ?_))))
 by_cases p3_c9:(eL:Int)<(p.2.length:Int)
 ·
  refine ag rfl (dt p3_c9) ?_
  obtain⟨hl1L,hl2L,hl3L⟩:=hs.ln (eL:Int) (by omega) (by omega)
  obtain⟨⟨he1L,he2L⟩,he3L,he4L⟩:=l7 (e:=(eL:Int)) hmay (by omega) (by omega)
  refine am (aa (aq (aa (a8 rfl (mz zs17_c9 (lx (al (v:=p_v1) (i:=↑eL) kM rfl zs15_c9 r_p_v1 zs17_c9 (by omega) (by omega)) ?_))))))
  obtain⟨v207,cel208,r209⟩:=dh (r:=(eL:Int)) r_p_v1 (by omega) (by omega)
  refine lx (bD bO rfl cel208) (ai (eL:Int) (ma v207 (ab (aa (a8 rfl (mz zs0_c9 (lw (vp b13 0) (aB rfl) (lx (ad dO rfl rfl rfl rfl) (lx (ad fV rfl rfl rfl rfl) (lx (af cw rfl bx15 rfl) (mi ↑eL ?_)))))))))))
  refine lx (al (v:=g_v) (i:=↑eL) jQ rfl rfl Rg rfl (by omega) (by omega)) (lw (vg [vi ((gI g.2 ↑eL).1),vi ((gI g.2 ↑eL).2)]) (aJ (v:=g_v) (i:=↑eL) dY rfl Rg (by omega) (by omega) rfl) (lo (aY g206 (is 17) (17,0) rfl dY ?_)))
  intro g213 w210 b212 ch211 bx214
  replace bx214:Bx g213 (is 17) w210 b212 [vi 0,vi 0]:=bx214
  refine lo (aw (cs':=[vi ((gI g.2 ↑eL).1),vi ((gI g.2 ↑eL).2)]) dY rfl rfl bx214 rfl nq (AllOne.all (.cons rfl (.cons rfl .nil))) rfl ?_)
  intro w215 ch216 bx217
  clear bx214
  refine ab (aa (cD g213 rfl jA (by kernel_rfl) ?_))
  intro w219 ch218
  refine qm v207 ?_
  have C220:=cg [17] (ch211.n.seq ((ch216.l rfl).seq ch218.n))
  replace r209:=r209.ca C220
  refine qx (λw' hw'=>al (v:=v207) (i:=0) cX rfl rfl (r209.bel hw') rfl (by omega) (by omega)) (qv (vg [vi ((gI (gI p.2 ↑eL) 0).1),vi ((gI (gI p.2 ↑eL) 0).2)]) (λw' hw'=>aJ (v:=v207) (i:=0) ah rfl (r209.bel hw') (by omega) (by omega) rfl) (qz zs0_c9 (qv (vp b13 0) (λw' hw'=>aB rfl) (qx (λw' hw'=>ad dO rfl rfl rfl rfl) (qx (λw' hw'=>ad iK rfl rfl rfl rfl) ?_)))))
  replace bx15:=bx15.ca C220
  refine qx (λw' hw'=>af bO rfl (bx15.bel hw') rfl) (qx (λw' hw'=>dA m9 rfl rfl rfl (by decide) (by decide) rfl) ?_)
  replace bx217:=bx217.cn ch218
  refine qx (λw' hw'=>af aI rfl (bx217.bel hw') rfl) ?_
  replace Rp:=Rp.ca C220
  refine qx (λw' hw'=>al (v:=p_v) (i:=(gI g.2 ↑eL).1) cX rfl rfl (Rp.bel hw') rfl (by omega) (by omega)) (qv (vg [vi ((gI p.1 ((gI g.2 ↑eL).1)).1),vi ((gI p.1 ((gI g.2 ↑eL).1)).2)]) (λw' hw'=>aJ (v:=p_v) (i:=(gI g.2 ↑eL).1) ah rfl (Rp.bel hw') (by omega) (by omega) rfl) ?_)
  refine qv (vb (!(decide ((gI (gI p.2 ↑eL) 0)=(gI p.1 ((gI g.2 ↑eL).1)))))) (λw' hw'=>jS (bs:=[decide (((gI (gI p.2 ↑eL) 0).1)=((gI p.1 ((gI g.2 ↑eL).1)).1)),decide (((gI (gI p.2 ↑eL) 0).2)=((gI p.1 ((gI g.2 ↑eL).1)).2))]) dw (by kernel_rfl) (by kernel_rfl) rfl rfl (.cons (by decide+kernel) aI rfl rfl (.int U3) (.cons (by decide+kernel) aI rfl rfl (.int U3) .nil)) (by simp[Prod.ext_iff,Bool.decide_and,Bool.and_assoc])) (qm (vb (!(decide ((gI (gI p.2 ↑eL) 0)=(gI p.1 ((gI g.2 ↑eL).1)))))) ?_)
  by_cases q43_c9:(gI (gI p.2 ↑eL) 0)=(gI p.1 ((gI g.2 ↑eL).1))
  ·
   refine aW (v:=v207) (wy (congrArg Bool.not (dt q43_c9))) (λw' hw'=>aD rfl) (aW (v:=v207) (wy (congrArg Bool.not (dt q43_c9))) (λw' hw'=>aD rfl) ?_)
   have len221:=(r209).small
   refine aW (v:=vi (List.length (gI p.2 ↑eL):Int)) (wy (congrArg Bool.not (dt q43_c9))) (λw' hw'=>aT cX rfl (r209.bel hw')) (aW (v:=vi ((List.length (gI p.2 ↑eL):Int)-1)) (wy (congrArg Bool.not (dt q43_c9))) (λw' hw'=>dD (m:=(List.length (gI p.2 ↑eL):Int)) (n:=1) rfl rfl (by omega)) (aW (v:=Value.pointer (some (bu v207 2 (Int.toNat ((List.length (gI p.2 ↑eL):Int)-1))))) (wy (congrArg Bool.not (dt q43_c9))) (λw' hw'=>al (α:=Pt) (xs:=gI p.2 ↑eL) (v:=v207) (i:=(List.length (gI p.2 ↑eL):Int)-1) cX rfl rfl (r209.bel hw') rfl (by omega) (by omega)) ?_))
   refine aW (v:=vg [vi ((gI (gI p.2 ↑eL) ((List.length (gI p.2 ↑eL):Int)-1)).1),vi ((gI (gI p.2 ↑eL) ((List.length (gI p.2 ↑eL):Int)-1)).2)]) (wy (congrArg Bool.not (dt q43_c9))) (λw' hw'=>aJ (α:=Pt) (xs:=gI p.2 ↑eL) (v:=v207) (i:=(List.length (gI p.2 ↑eL):Int)-1) ah rfl (r209.bel hw') (by omega) (by omega) rfl) (aW (v:=vp b13 0) (wy (congrArg Bool.not (dt q43_c9))) (λw' hw'=>aD zs0_c9) (aW (v:=vp b13 0) (wy (congrArg Bool.not (dt q43_c9))) (λw' hw'=>aB rfl) ?_))
   refine aW (v:=vp b13 2) (wy (congrArg Bool.not (dt q43_c9))) (λw' hw'=>ad dO rfl rfl rfl rfl) (aW (v:=vp b13 2) (wy (congrArg Bool.not (dt q43_c9))) (λw' hw'=>ad iK rfl rfl rfl rfl) (aW (v:=p_v) (wy (congrArg Bool.not (dt q43_c9))) (λw' hw'=>af bO rfl (bx15.bel hw') rfl) (aW (v:=vp b212 1) (wy (congrArg Bool.not (dt q43_c9))) (λw' hw'=>dA m9 rfl rfl rfl (by decide) (by decide) rfl) (aW (v:=vi ((gI g.2 ↑eL).2)) (wy (congrArg Bool.not (dt q43_c9))) (λw' hw'=>af aI rfl (bx217.bel hw') rfl) ?_))))
   refine aW (v:=Value.pointer (some (bu p_v 2 (Int.toNat ((gI g.2 ↑eL).2))))) (wy (congrArg Bool.not (dt q43_c9))) (λw' hw'=>al (α:=Pt) (xs:=p.1) (v:=p_v) (i:=(gI g.2 ↑eL).2) cX rfl rfl (Rp.bel hw') rfl (by omega) (by omega)) (aW (v:=vg [vi ((gI p.1 ((gI g.2 ↑eL).2)).1),vi ((gI p.1 ((gI g.2 ↑eL).2)).2)]) (wy (congrArg Bool.not (dt q43_c9))) (λw' hw'=>aJ (α:=Pt) (xs:=p.1) (v:=p_v) (i:=(gI g.2 ↑eL).2) ah rfl (Rp.bel hw') (by omega) (by omega) rfl) ?_)
   refine aW (v:=vb (!(decide ((gI (gI p.2 ↑eL) ((List.length (gI p.2 ↑eL):Int)-1))=(gI p.1 ((gI g.2 ↑eL).2)))))) (wy (congrArg Bool.not (dt q43_c9))) (λw' hw'=>jS (bs:=[decide (((gI (gI p.2 ↑eL) ((List.length (gI p.2 ↑eL):Int)-1)).1)=((gI p.1 ((gI g.2 ↑eL).2)).1)),decide (((gI (gI p.2 ↑eL) ((List.length (gI p.2 ↑eL):Int)-1)).2)=((gI p.1 ((gI g.2 ↑eL).2)).2))]) dw (by kernel_rfl) (by kernel_rfl) rfl rfl (.cons (by decide+kernel) aI rfl rfl (.int U3) (.cons (by decide+kernel) aI rfl rfl (.int U3) .nil)) (by simp[Prod.ext_iff,Bool.decide_and,Bool.and_assoc])) ?_
   refine qv (vb (!(decide ((gI (gI p.2 ↑eL) ((List.length (gI p.2 ↑eL):Int)-1))=(gI p.1 ((gI g.2 ↑eL).2)))))) (λw' hw'=>aC rfl (congrArg Bool.not (dt q43_c9)) rfl) (dH ?_)
   intro w222 hc223
   replace hc223:=ar hc223 g213
   by_cases p6_c9:(gI (gI p.2 ↑eL) ((List.length (gI p.2 ↑eL):Int)-1))=(gI p.1 ((gI g.2 ↑eL).2))
   ·
    refine aj rfl (congrArg Bool.not (dt p6_c9)) (am (ao ?_))
    clear r209 bx217
    refine a8 rfl (lx (aP (m:=↑eL) (n:=1) zs17_c9 rfl (by omega)) (mi ((eL:Int)+1) (ab ?_)))
    have C224:=cg [17] (ch211.n.seq ((ch216.l rfl).seq (ch218.n.seq hc223.n)))
    refine back3_c9 (eL+1,FL_v,FL,fine_,g213) _ _ ⟨bH.ca C224,zs0_c9,zs3_c9,zs15_c9,zs16_c9,rfl,Rg.ca C224,Rp.cn hc223,r_p_v1.ca C224,bx15.cn hc223,o_FL.ca C224,by omega,?_⟩ ?_
    · show FL=c9 p++bg (cT g p) (eL+1)/\fine_=decide (bg (cT g p) (eL+1)=[])
      exact x6 hdL ⟨by assumption,by assumption⟩
    · show Int.toNat (((p.2.length:Int):Int)-((eL+1):Int))<Int.toNat (((p.2.length:Int):Int)-(eL:Int))
      omega
   refine ag rfl (congrArg Bool.not (df p6_c9)) (aa ?_)
   clear r209 bx217
   refine a8 rfl (mz zs0_c9 (mi ↑eL (lo (bT (aA (vals:=[vp b13 0,vi 5,vi ↑eL,vi 0]) Try.func44 de dg rfl) (av Try.func44 rfl nq ?_)))))
   have C225:=cg [17] (ch211.n.seq ((ch216.l rfl).seq (ch218.n.seq hc223.n)))
   replace Rg:=Rg.ca C225
   replace Rp:=Rp.cn hc223
   replace r_p_v1:=r_p_v1.ca C225
   replace o_FL:=o_FL.ca C225
   refine a8 rfl (mv (vp b13 0) (mv (vp b13 0) (lw (vp b13 0) (aB rfl) (lx (ad dO rfl rfl rfl rfl) ?_))))
   replace bx15:=bx15.cn hc223
   refine lx (af bx rfl bx15 rfl) (mi 5 (mi ↑eL (mi 0 (lw (vg [vi 5,vi ↑eL,vi 0]) (bQ (vs:=[(0,vi 5),(1,vi ↑eL),(2,vi 0)]) rfl (by kernel_rfl)) (lo (aF (α:=cv) g213 (is 18) (is 18) (18,0) rfl [(5,(eL:Int),0)] gB bB (by decide) (by decide) (vs:=[(0,vg [vi 5,vi ↑eL,vi 0])]) rfl rfl (.cons rfl .nil) ?_))))))
   intro g226 w227 v228 ch229 o230
   refine lo ?_
   replace o_FL:=o_FL.cn ch229
   refine b9 (α:=cv) (xs:=FL) (ys:=([(5,(eL:Int),0)])) g226 (J:=is 7) (S:=is 7) (7,0) rfl gB bB (by decide) rfl rfl rfl o_FL o230.flat (by decide) (by(simp;omega)) ?_
   intro g231 w232 v233 ch234 o235
   clear o_FL
   refine lw (vp b13 0) (aB rfl) (lx (ad dO rfl rfl rfl rfl) (lo ?_))
   replace bx15:=(bx15.cn ch229).ce ch234
   refine bL (cs':=[vi g.1,g_v,p_v,p_v1,v233]) bx rfl rfl bx15 (bK o235.flat) nq (cz o235.flat) rfl ?_
   intro w236 ch237 bx238
   clear bx15
   refine ab (ct (vs:=[]) Try.func44 .nil ?_)
   refine⟨vt [],rfl,?_⟩
   refine ab ?_
   clear o230
   refine a8 rfl (ma (vb false) (ab (ao (a8 rfl (lx (aP (m:=↑eL) (n:=1) zs17_c9 rfl (by omega)) (mi ((eL:Int)+1) (ab ?_)))))))
   have C239:=cg [3,7,17] (ch211.n.seq ((ch216.l rfl).seq (ch218.n.seq (hc223.n.seq (ch229.n.seq ((ch234.l rfl).seq (ch237.l rfl)))))))
   have C240:=cg [3,7] (ch229.n.seq ((ch234.l rfl).seq (ch237.l rfl)))
   refine back3_c9 (eL+1,v233,(FL++[(5,(eL:Int),0)]),false,g231) _ _ ⟨bH.ca C239,zs0_c9,rfl,zs15_c9,zs16_c9,rfl,Rg.ca C240,Rp.ca C240,r_p_v1.ca C240,bx238,o235.ce ch237,by omega,?_⟩ ?_
   · show(FL++[(5,(eL:Int),0)])=c9 p++bg (cT g p) (eL+1)/\false=decide (bg (cT g p) (eL+1)=[])
     exact oy hdL (λc=>absurd c.2 ‹_›)
   · show Int.toNat (((p.2.length:Int):Int)-((eL+1):Int))<Int.toNat (((p.2.length:Int):Int)-(eL:Int))
     omega
  refine aN (wn (congrArg Bool.not (df q43_c9))) (aN (wn (congrArg Bool.not (df q43_c9))) (aN (wn (congrArg Bool.not (df q43_c9))) (aN (wn (congrArg Bool.not (df q43_c9))) (aN (wn (congrArg Bool.not (df q43_c9))) (aN (wn (congrArg Bool.not (df q43_c9))) (aN (wn (congrArg Bool.not (df q43_c9))) (aN (wn (congrArg Bool.not (df q43_c9))) (aN (wn (congrArg Bool.not (df q43_c9))) (aN (wn (congrArg Bool.not (df q43_c9))) ?_)))))))))
  refine aN (wn (congrArg Bool.not (df q43_c9))) (aN (wn (congrArg Bool.not (df q43_c9))) (aN (wn (congrArg Bool.not (df q43_c9))) (aN (wn (congrArg Bool.not (df q43_c9))) (aN (wn (congrArg Bool.not (df q43_c9))) (aN (wn (congrArg Bool.not (df q43_c9))) (qv (vb true) (λw' hw'=>aE rfl (congrArg Bool.not (df q43_c9)) rfl) (dH ?_)))))))
  intro w241 hc242
  replace hc242:=ar hc242 g213
  refine ag rfl rfl (aa ?_)
  clear r209 bx217
  refine a8 rfl (mz zs0_c9 (mi ↑eL (lo (bT (aA (vals:=[vp b13 0,vi 5,vi ↑eL,vi 0]) Try.func44 de dg rfl) (av Try.func44 rfl nq ?_)))))
  have C243:=cg [17] (ch211.n.seq ((ch216.l rfl).seq (ch218.n.seq hc242.n)))
  replace Rg:=Rg.ca C243
  replace Rp:=Rp.cn hc242
  replace r_p_v1:=r_p_v1.ca C243
  replace o_FL:=o_FL.ca C243
  refine a8 rfl (mv (vp b13 0) (mv (vp b13 0) (lw (vp b13 0) (aB rfl) (lx (ad dO rfl rfl rfl rfl) ?_))))
  replace bx15:=bx15.cn hc242
  refine lx (af bx rfl bx15 rfl) (mi 5 (mi ↑eL (mi 0 (lw (vg [vi 5,vi ↑eL,vi 0]) (bQ (vs:=[(0,vi 5),(1,vi ↑eL),(2,vi 0)]) rfl (by kernel_rfl)) (lo (aF (α:=cv) g213 (is 19) (is 19) (19,0) rfl [(5,(eL:Int),0)] gB bB (by decide) (by decide) (vs:=[(0,vg [vi 5,vi ↑eL,vi 0])]) rfl rfl (.cons rfl .nil) ?_))))))
  intro g244 w245 v246 ch247 o248
  refine lo ?_
  replace o_FL:=o_FL.cn ch247
  refine b9 (α:=cv) (xs:=FL) (ys:=([(5,(eL:Int),0)])) g244 (J:=is 7) (S:=is 7) (7,0) rfl gB bB (by decide) rfl rfl rfl o_FL o248.flat (by decide) (by(simp;omega)) ?_
  intro g249 w250 v251 ch252 o253
  clear o_FL
  refine lw (vp b13 0) (aB rfl) (lx (ad dO rfl rfl rfl rfl) (lo ?_))
  replace bx15:=(bx15.cn ch247).ce ch252
  refine bL (cs':=[vi g.1,g_v,p_v,p_v1,v251]) bx rfl rfl bx15 (bK o253.flat) nq (cz o253.flat) rfl ?_
  intro w254 ch255 bx256
  clear bx15
  refine ab (ct (vs:=[]) Try.func44 .nil ?_)
  refine⟨vt [],rfl,?_⟩
  refine ab ?_
  clear o248
  refine a8 rfl (ma (vb false) (ab (ao (a8 rfl (lx (aP (m:=↑eL) (n:=1) zs17_c9 rfl (by omega)) (mi ((eL:Int)+1) (ab ?_)))))))
  have C257:=cg [3,7,17] (ch211.n.seq ((ch216.l rfl).seq (ch218.n.seq (hc242.n.seq (ch247.n.seq ((ch252.l rfl).seq (ch255.l rfl)))))))
  have C258:=cg [3,7] (ch247.n.seq ((ch252.l rfl).seq (ch255.l rfl)))
  refine back3_c9 (eL+1,v251,(FL++[(5,(eL:Int),0)]),false,g249) _ _ ⟨bH.ca C257,zs0_c9,rfl,zs15_c9,zs16_c9,rfl,Rg.ca C258,Rp.ca C258,r_p_v1.ca C258,bx256,o253.ce ch255,by omega,?_⟩ ?_
  · show(FL++[(5,(eL:Int),0)])=c9 p++bg (cT g p) (eL+1)/\false=decide (bg (cT g p) (eL+1)=[])
    exact oy hdL (λc=>absurd c.1 ‹_›)
  · show Int.toNat (((p.2.length:Int):Int)-((eL+1):Int))<Int.toNat (((p.2.length:Int):Int)-(eL:Int))
    omega
 refine aj rfl (df p3_c9) (aM rfl (aa (aa (a8 rfl (mz zs0_c9 (lw (vp b13 0) (aB rfl) (lx (ad dO rfl rfl rfl rfl) (lx (ad iK rfl rfl rfl rfl) (lx (af d3 rfl bx15 rfl) (lx (aT kM rfl r_p_v1) (mi 0 ?_)))))))))))
 refine ab (aq ?_)
 refine aQ (σ:=Nat×Value×(List cv)×Bool×aH) (λ⟨dL,GL_v,GL,finL,gq⟩ f w=>aX w0 gq w/\f 0=vp b13 0/\f 3=vb finL/\f 69=p_v1/\f 70=vi (p.2.length:Int)/\f 71=vi ↑dL/\Sl gq (is 0) w g_v g.2/\Sl gq (is 0) w p_v p.1/\Sl gq (is 0) w p_v1 p.2/\Bx gq (is 3) w b13 [vi g.1,g_v,p_v,p_v1,GL_v]/\Ow gq (is 7) (is 7) w GL_v GL/\(dL:Int)<=((p.2.length:Int):Int)/\(GL=c9 p++(bg (cT g p) p.2.length++bg (fB p) dL)/\finL=decide (bg (cT g p) p.2.length++bg (fB p) dL=[]))) (λ⟨dL,GL_v,GL,finL,gq⟩=>Int.toNat (((p.2.length:Int):Int)-(dL:Int))) (0,FL_v,FL,fine_,g206) ?_ ?_
 · exact⟨bH,zs0_c9,zs3_c9,rfl,rfl,rfl,Rg,Rp,r_p_v1,bx15,o_FL,by omega,by exact ue hdL (by omega)⟩
 clear Rg Rp r_p_v1 bx15 o_FL bH
 rintro⟨dL,GL_v,GL,finL,g261⟩ f259 w260 ⟨bH,zs0_c9,zs3_c9,zs69_c9,zs70_c9,zs71_c9,Rg,Rp,r_p_v1,bx15,o_GL,hle_dL,hfL⟩ back11_c9
 have hflL:=qw (by omega) (by omega) (by omega) hfL.1
 refine aa (a8 rfl (lx (b6 (m:=↑dL) (n:=(p.2.length:Int)) zs71_c9 zs70_c9) (ab (aa ?_))))
 by_cases p11_c9:(dL:Int)<(p.2.length:Int)
 ·
  refine ag rfl (dt p11_c9) ?_
  obtain⟨hl1L,hl2L,hl3L⟩:=hs.ln (dL:Int) (by omega) (by omega)
  have hseL:=dx (ps:=gI p.2 ↑dL) (by omega) ⟨hl2L,hl3L⟩
  have hsfL:(dP (gI p.2 ↑dL)).1=decide (kP (gI p.2 ↑dL)):=congrArg Prod.fst hseL
  refine am (aa (aq (aa (a8 rfl (mz zs71_c9 (lx (al (v:=p_v1) (i:=↑dL) kM rfl zs69_c9 r_p_v1 zs71_c9 (by omega) (by omega)) ?_))))))
  obtain⟨v262,cel263,r264⟩:=dh (r:=(dL:Int)) r_p_v1 (by omega) (by omega)
  refine lx (bD bO rfl cel263) (ai (dL:Int) (ma v262 (ab (aa (a8 rfl (mv v262 (lo (aK (v:=vt [vb ((dP (gI p.2 ↑dL)).1),vi ((dP (gI p.2 ↑dL)).2)]) (aA (vals:=[v262]) Try.func45 wH xk rfl) (sI w260 (gI p.2 ↑dL) v262 (r264).ro (by omega)) ?_))))))))
  intro w265 hb266
  replace hb266:=ar hb266 g261
  refine mv (vt [vb ((dP (gI p.2 ↑dL)).1),vi ((dP (gI p.2 ↑dL)).2)]) (lx (aV rfl rfl) (lx (aV rfl rfl) (ma (vb ((dP (gI p.2 ↑dL)).1)) (ai ((dP (gI p.2 ↑dL)).2) (ab (aa ?_))))))
  clear r264
  refine a8 rfl (mv (vb ((dP (gI p.2 ↑dL)).1)) (lx (dj (b:=((dP (gI p.2 ↑dL)).1)) rfl) (ab ?_)))
  by_cases p14_c9:((dP (gI p.2 ↑dL)).1)=true
  ·
   refine aj rfl (congrArg Bool.not p14_c9) (am (ao (a8 rfl (lx (aP (m:=↑dL) (n:=1) zs71_c9 rfl (by omega)) (mi ((dL:Int)+1) (ab ?_))))))
   refine back11_c9 (dL+1,GL_v,GL,finL,g261) _ _ ⟨bH.cn hb266,zs0_c9,zs3_c9,zs69_c9,zs70_c9,rfl,Rg.cn hb266,Rp.cn hb266,r_p_v1.cn hb266,bx15.cn hb266,o_GL.cn hb266,by omega,?_⟩ ?_
   · show GL=c9 p++(bg (cT g p) p.2.length++bg (fB p) (dL+1))/\finL=decide (bg (cT g p) p.2.length++bg (fB p) (dL+1)=[])
     exact x8 hfL (of_decide_eq_true (hsfL.symm.trans ‹_›))
   · show Int.toNat (((p.2.length:Int):Int)-((dL+1):Int))<Int.toNat (((p.2.length:Int):Int)-(dL:Int))
     omega
  refine ag rfl (congrArg Bool.not (Bool.eq_false_iff.2 p14_c9)) (aa (a8 rfl (mz zs0_c9 (mi ↑dL (lo (bT (aA (vals:=[vp b13 0,vi 6,vi ↑dL,vi 0]) Try.func44 de dg rfl) (av Try.func44 rfl nq ?_)))))))
  replace Rg:=Rg.cn hb266
  replace Rp:=Rp.cn hb266
  replace r_p_v1:=r_p_v1.cn hb266
  replace o_GL:=o_GL.cn hb266
  refine a8 rfl (mv (vp b13 0) (mv (vp b13 0) (lw (vp b13 0) (aB rfl) (lx (ad dO rfl rfl rfl rfl) ?_))))
  replace bx15:=bx15.cn hb266
  refine lx (af bx rfl bx15 rfl) (mi 6 (mi ↑dL (mi 0 (lw (vg [vi 6,vi ↑dL,vi 0]) (bQ (vs:=[(0,vi 6),(1,vi ↑dL),(2,vi 0)]) rfl (by kernel_rfl)) (lo (aF (α:=cv) g261 (is 20) (is 20) (20,0) rfl [(6,(dL:Int),0)] gB bB (by decide) (by decide) (vs:=[(0,vg [vi 6,vi ↑dL,vi 0])]) rfl rfl (.cons rfl .nil) ?_))))))
  intro g267 w268 v269 ch270 o271
  refine lo ?_
  replace o_GL:=o_GL.cn ch270
  refine b9 (α:=cv) (xs:=GL) (ys:=([(6,(dL:Int),0)])) g267 (J:=is 7) (S:=is 7) (7,0) rfl gB bB (by decide) rfl rfl rfl o_GL o271.flat (by decide) (by(simp;omega)) ?_
  intro g272 w273 v274 ch275 o276
  clear o_GL
  refine lw (vp b13 0) (aB rfl) (lx (ad dO rfl rfl rfl rfl) (lo ?_))
  replace bx15:=(bx15.cn ch270).ce ch275
  refine bL (cs':=[vi g.1,g_v,p_v,p_v1,v274]) bx rfl rfl bx15 (bK o276.flat) nq (cz o276.flat) rfl ?_
  intro w277 ch278 bx279
  clear bx15
  refine ab (ct (vs:=[]) Try.func44 .nil ?_)
  refine⟨vt [],rfl,?_⟩
  refine ab ?_
  clear o271
  refine a8 rfl (ma (vb false) (ab (ao (a8 rfl (lx (aP (m:=↑dL) (n:=1) zs71_c9 rfl (by omega)) (mi ((dL:Int)+1) (ab ?_)))))))
  have C281:=cg [3,7] (ch270.n.seq ((ch275.l rfl).seq (ch278.l rfl)))
  have C280:=hb266.n.seq C281
  refine back11_c9 (dL+1,v274,(GL++[(6,(dL:Int),0)]),false,g272) _ _ ⟨bH.ca C280,zs0_c9,rfl,zs69_c9,zs70_c9,rfl,Rg.ca C281,Rp.ca C281,r_p_v1.ca C281,bx279,o276.ce ch278,by omega,?_⟩ ?_
  · show(GL++[(6,(dL:Int),0)])=c9 p++(bg (cT g p) p.2.length++bg (fB p) (dL+1))/\false=decide (bg (cT g p) p.2.length++bg (fB p) (dL+1)=[])
    exact sT hfL (λc=>(by assumption:¬_) (hsfL.trans (dt c)))
  · show Int.toNat (((p.2.length:Int):Int)-((dL+1):Int))<Int.toNat (((p.2.length:Int):Int)-(dL:Int))
    omega
 refine aj rfl (df p11_c9) (aM rfl (aa (a8 rfl (mz zs3_c9 (ma (vb finL) (ab (au (vs:=[vb finL]) Try.func30 (.tmp rfl .nil) ?_)))))))
 refine⟨vb finL,rfl,?_⟩
 refine ab ?_
 by_cases p6:finL=true
 ·
  have hlf:=mx hfL (by omega)
  refine ag rfl p6 (aa (a8 rfl (mv (vp b13 0) (lo (bT (aA (vals:=[vp b13 0]) Try.func31 wE xg rfl) (av Try.func31 rfl nq (aa (a8 rfl (mv (vp b13 0) (lw (vp b13 0) (aB rfl) (lx (ad dO rfl rfl rfl rfl) ?_)))))))))))
  refine lx (ad iK rfl rfl rfl rfl) (lx (af d3 rfl bx15 rfl) (lx (aT kM rfl r_p_v1) (mi 0 (ab (aq ?_)))))
  refine aQ (σ:=Value×(List cv)×Nat×aH) (λ⟨FN_v,FN,eN,gq⟩ f w=>aX w0 gq w/\f 0=vp b13 0/\f 11=p_v1/\f 12=vi (p.2.length:Int)/\f 13=vi ↑eN/\Sl gq (is 0) w g_v g.2/\Sl gq (is 0) w p_v p.1/\Sl gq (is 0) w p_v1 p.2/\Bx gq (is 3) w b13 [vi g.1,g_v,p_v,p_v1,FN_v]/\Ow gq (is 7) (is 7) w FN_v FN/\(eN:Int)<=((p.2.length:Int):Int)/\(FN=dm g p++bg (iZ g p) eN)) (λ⟨FN_v,FN,eN,gq⟩=>Int.toNat (((p.2.length:Int):Int)-(eN:Int))) (GL_v,GL,0,g261) ?_ ?_
  · exact⟨bH,rfl,rfl,rfl,rfl,Rg,Rp,r_p_v1,bx15,o_GL,by omega,by exact pF hlf.1⟩
  clear Rg Rp r_p_v1 bx15 o_GL bH
  rintro⟨FN_v,FN,eN,g284⟩ f282 w283 ⟨bH,zs0_c13,zs11_c13,zs12_c13,zs13_c13,Rg,Rp,r_p_v1,bx15,o_FN,hle_eN,hgN⟩ back1_c13
  refine aa (a8 rfl (lx (b6 (m:=↑eN) (n:=(p.2.length:Int)) zs13_c13 zs12_c13) (ab (aa ?_))))
  by_cases p1_c13:(eN:Int)<(p.2.length:Int)
  ·
   refine ag rfl (dt p1_c13) ?_
   obtain⟨hl1N,hl2N,hl3N⟩:=hs.ln (eN:Int) (by omega) (by omega)
   refine am (aa (aq (aa (a8 rfl (mz zs13_c13 (lx (al (v:=p_v1) (i:=↑eN) kM rfl zs11_c13 r_p_v1 zs13_c13 (by omega) (by omega)) ?_))))))
   obtain⟨v285,cel286,r287⟩:=dh (r:=(eN:Int)) r_p_v1 (by omega) (by omega)
   refine lx (bD bO rfl cel286) (ai (eN:Int) (ma v285 (ab (aa (a8 rfl (mz zs0_c13 (lw (vp b13 0) (aB rfl) (lx (ad dO rfl rfl rfl rfl) (lx (ad fV rfl rfl rfl rfl) (lx (af cw rfl bx15 rfl) (mi ↑eN ?_)))))))))))
   refine lx (al (v:=g_v) (i:=↑eN) jQ rfl rfl Rg rfl (by omega) (by omega)) (lw (vg [vi ((gI g.2 ↑eN).1),vi ((gI g.2 ↑eN).2)]) (aJ (v:=g_v) (i:=↑eN) dY rfl Rg (by omega) (by omega) rfl) (lo (aY g284 (is 21) (21,0) rfl dY ?_)))
   intro g291 w288 b290 ch289 bx292
   replace bx292:Bx g291 (is 21) w288 b290 [vi 0,vi 0]:=bx292
   refine lo (aw (cs':=[vi ((gI g.2 ↑eN).1),vi ((gI g.2 ↑eN).2)]) dY rfl rfl bx292 rfl nq (AllOne.all (.cons rfl (.cons rfl .nil))) rfl ?_)
   intro w293 ch294 bx295
   clear bx292
   refine ab (aa (a8 rfl (mz zs0_c13 (lw (vp b13 0) (aB rfl) (lx (ad dO rfl rfl rfl rfl) (lx (ad iK rfl rfl rfl rfl) ?_))))))
   replace bx15:=(bx15.cn ch289).ce ch294
   refine lx (af bO rfl bx15 rfl) ?_
   replace Rp:=(Rp.cn ch289).ce ch294
   refine lx (aT cX rfl Rp) (mi 0 (ab (aq ?_)))
   refine aQ (σ:=Nat×Value×(List cv)×aH) (λ⟨vN,GN_v,GN,gq⟩ f w=>aX w0 gq w/\f 0=vp b13 0/\f 2=vi ↑eN/\f 3=v285/\f 4=vp b290 0/\f 11=p_v1/\f 12=vi (p.2.length:Int)/\f 13=vi ↑eN/\f 30=p_v/\f 31=vi (p.1.length:Int)/\f 32=vi ↑vN/\Sl gq (is 0) w g_v g.2/\Sl gq (is 0) w p_v p.1/\Sl gq (is 0) w p_v1 p.2/\Bx gq (is 3) w b13 [vi g.1,g_v,p_v,p_v1,GN_v]/\Sl gq (is 0) w v285 (gI p.2 ↑eN)/\Bx gq (is 21) w b290 [vi ((gI g.2 ↑eN).1),vi ((gI g.2 ↑eN).2)]/\Ow gq (is 7) (is 7) w GN_v GN/\(vN:Int)<=((p.1.length:Int):Int)/\(GN=(dm g p++bg (iZ g p) eN)++bg (fS g p eN) vN)) (λ⟨vN,GN_v,GN,gq⟩=>Int.toNat (((p.1.length:Int):Int)-(vN:Int))) (0,FN_v,FN,g291) ?_ ?_
   replace bH:=bH.cn ch289
   · exact⟨bH.ce ch294,zs0_c13,rfl,rfl,rfl,zs11_c13,zs12_c13,zs13_c13,rfl,rfl,rfl,(Rg.cn ch289).ce ch294,Rp,(r_p_v1.cn ch289).ce ch294,bx15,(r287.cn ch289).ce ch294,bx295,(o_FN.cn ch289).ce ch294,by omega,by(rw[hgN];simp[bg])⟩
   clear Rg Rp r_p_v1 bx15 o_FN r287 bx295 bH
   rintro⟨vN,GN_v,GN,g298⟩ f296 w297 ⟨bH,zs0_c13,zs2_c13,zs3_c13,zs4_c13,zs11_c13,zs12_c13,zs13_c13,zs30_c13,zs31_c13,zs32_c13,Rg,Rp,r_p_v1,bx15,r287,bx295,o_GN,hle_vN,hkN⟩ back5_c13
   have hklN:=sA (by omega) (by omega) (by omega) (by omega) hkN
   refine aa (a8 rfl (lx (b6 (m:=↑vN) (n:=(p.1.length:Int)) zs32_c13 zs31_c13) (ab (aa ?_))))
   by_cases p5_c13:(vN:Int)<(p.1.length:Int)
   ·
    refine ag rfl (dt p5_c13) (am (aa (aq (aa (a8 rfl (mz zs32_c13 (lx (al (v:=p_v) (i:=↑vN) cX rfl zs30_c13 Rp zs32_c13 (by omega) (by omega)) (lw (vg [vi ((gI p.1 ↑vN).1),vi ((gI p.1 ↑vN).2)]) (aJ (v:=p_v) (i:=↑vN) ah rfl Rp (by omega) (by omega) rfl) (lo (aY g298 (is 22) (22,0) rfl ah ?_))))))))))
    intro g302 w299 b301 ch300 bx303
    replace bx303:Bx g302 (is 22) w299 b301 [vi 0,vi 0]:=bx303
    refine ai (vN:Int) (lo (aw (cs':=[vi ((gI p.1 ↑vN).1),vi ((gI p.1 ↑vN).2)]) ah rfl rfl bx303 rfl nq (AllOne.all (.cons rfl (.cons rfl .nil))) rfl ?_))
    intro w304 ch305 bx306
    clear bx303
    refine ab (aa (a8 rfl (mi ↑vN (lx (dA m9 rfl zs4_c13 rfl (by decide) (by decide) rfl) ?_))))
    replace bx295:=(bx295.cn ch300).ce ch305
    refine lx (af aI rfl bx295 rfl) (lx (dU (m:=↑vN) (n:=(gI g.2 ↑eN).1) rfl rfl) (mv (vb (!(decide ((vN:Int)=((gI g.2 ↑eN).1))))) ?_))
    by_cases q41_c13:(vN:Int)=((gI g.2 ↑eN).1)
    ·
     refine ae (wn (congrArg Bool.not (dt q41_c13))) (ae (wn (congrArg Bool.not (dt q41_c13))) (ae (wn (congrArg Bool.not (dt q41_c13))) (ae (wn (congrArg Bool.not (dt q41_c13))) (lw (vb false) (aC rfl (congrArg Bool.not (dt q41_c13)) rfl) (mv (vb false) (ae (wn rfl) (ae (wn rfl) (ae (wn rfl) (lw (vb false) (aC rfl rfl rfl) (ab (aj rfl rfl ?_)))))))))))
     refine am (ao ?_)
     clear bx306
     refine a8 rfl (lx (aP (m:=↑vN) (n:=1) zs32_c13 rfl (by omega)) (mi ((vN:Int)+1) (ab ?_)))
     replace bH:=bH.cn ch300
     refine back5_c13 (vN+1,GN_v,GN,g302) _ _ ⟨bH.ce ch305,zs0_c13,zs2_c13,zs3_c13,zs4_c13,zs11_c13,zs12_c13,zs13_c13,zs30_c13,zs31_c13,rfl,(Rg.cn ch300).ce ch305,(Rp.cn ch300).ce ch305,(r_p_v1.cn ch300).ce ch305,(bx15.cn ch300).ce ch305,(r287.cn ch300).ce ch305,bx295,(o_GN.cn ch300).ce ch305,by omega,?_⟩ ?_
     · show GN=(dm g p++bg (iZ g p) eN)++bg (fS g p eN) (vN+1)
       exact iU hkN (wd ‹_›)
     · show Int.toNat (((p.1.length:Int):Int)-((vN+1):Int))<Int.toNat (((p.1.length:Int):Int)-(vN:Int))
       omega
    refine lv (vi ↑vN) (wy (congrArg Bool.not (df q41_c13))) (aD rfl) (lv (vp b290 1) (wy (congrArg Bool.not (df q41_c13))) (dA m9 rfl zs4_c13 rfl (by decide) (by decide) rfl) (lv (vi ((gI g.2 ↑eN).2)) (wy (congrArg Bool.not (df q41_c13))) (af aI rfl bx295 rfl) (lv (vb (!(decide ((vN:Int)=((gI g.2 ↑eN).2))))) (wy (congrArg Bool.not (df q41_c13))) (dU (m:=↑vN) (n:=(gI g.2 ↑eN).2) rfl rfl) (lw (vb (!(decide ((vN:Int)=((gI g.2 ↑eN).2))))) (aE rfl (congrArg Bool.not (df q41_c13)) rfl) (mv (vb (!(decide ((vN:Int)=((gI g.2 ↑eN).2))))) ?_)))))
    by_cases q47_c13:(vN:Int)=((gI g.2 ↑eN).2)
    ·
     refine ae (wn (congrArg Bool.not (dt q47_c13))) (ae (wn (congrArg Bool.not (dt q47_c13))) (ae (wn (congrArg Bool.not (dt q47_c13))) (lw (vb false) (aC rfl (congrArg Bool.not (dt q47_c13)) rfl) (ab (aj rfl rfl (am (ao ?_)))))))
     clear bx306
     refine a8 rfl (lx (aP (m:=↑vN) (n:=1) zs32_c13 rfl (by omega)) (mi ((vN:Int)+1) (ab ?_)))
     replace bH:=bH.cn ch300
     refine back5_c13 (vN+1,GN_v,GN,g302) _ _ ⟨bH.ce ch305,zs0_c13,zs2_c13,zs3_c13,zs4_c13,zs11_c13,zs12_c13,zs13_c13,zs30_c13,zs31_c13,rfl,(Rg.cn ch300).ce ch305,(Rp.cn ch300).ce ch305,(r_p_v1.cn ch300).ce ch305,(bx15.cn ch300).ce ch305,(r287.cn ch300).ce ch305,bx295,(o_GN.cn ch300).ce ch305,by omega,?_⟩ ?_
     · show GN=(dm g p++bg (iZ g p) eN)++bg (fS g p eN) (vN+1)
       exact iU hkN (wq ‹_›)
     · show Int.toNat (((p.1.length:Int):Int)-((vN+1):Int))<Int.toNat (((p.1.length:Int):Int)-(vN:Int))
       omega
    refine lv (v285) (wy (congrArg Bool.not (df q47_c13))) (aD zs3_c13) (lv (vg [vi ((gI p.1 ↑vN).1),vi ((gI p.1 ↑vN).2)]) (wy (congrArg Bool.not (df q47_c13))) (ak (ds:=[vi ((gI p.1 ↑vN).1),vi ((gI p.1 ↑vN).2)]) ah rfl bx306 rfl rfl) ?_)
    replace r287:=(r287.cn ch300).ce ch305
    refine cj (wy (congrArg Bool.not (df q47_c13))) (aK (v:=vb (decide (fp (gI p.2 ↑eN) (gI p.1 ↑vN)))) (aA (vals:=[v285,vg [vi ((gI p.1 ↑vN).1),vi ((gI p.1 ↑vN).2)]]) Try.func46 wZ vL rfl) (wo w304 (gI p.2 ↑eN) v285 (r287).ro (gI p.1 ↑vN) (by omega) (by exact⟨hl2N,hl3N⟩) (by exact hs.pt _ (by omega) (by omega))) ?_)
    intro w307 hb308
    replace hb308:=ar hb308 g302
    refine lw (vb (decide (fp (gI p.2 ↑eN) (gI p.1 ↑vN)))) (aE rfl (congrArg Bool.not (df q47_c13)) rfl) (ab ?_)
    by_cases p7_c13:(decide (fp (gI p.2 ↑eN) (gI p.1 ↑vN)))=true
    ·
     refine ag rfl p7_c13 ?_
     clear bx306
     refine a8 rfl (mz zs0_c13 (mz zs2_c13 (mi ↑vN (lo (bT (aA (vals:=[vp b13 0,vi 7,vi ↑eN,vi ↑vN]) Try.func44 de dg rfl) (av Try.func44 rfl nq ?_))))))
     have C309:=cg [22] (ch300.n.seq ((ch305.l rfl).seq hb308.n))
     replace Rg:=Rg.ca C309
     replace Rp:=Rp.ca C309
     replace r_p_v1:=r_p_v1.ca C309
     replace o_GN:=o_GN.ca C309
     refine a8 rfl (mv (vp b13 0) (mv (vp b13 0) (lw (vp b13 0) (aB rfl) (lx (ad dO rfl rfl rfl rfl) ?_))))
     replace bx15:=bx15.ca C309
     refine lx (af bx rfl bx15 rfl) (mi 7 (mi ↑eN (mi ↑vN (lw (vg [vi 7,vi ↑eN,vi ↑vN]) (bQ (vs:=[(0,vi 7),(1,vi ↑eN),(2,vi ↑vN)]) rfl (by kernel_rfl)) (lo (aF (α:=cv) g302 (is 23) (is 23) (23,0) rfl [(7,(eN:Int),(vN:Int))] gB bB (by decide) (by decide) (vs:=[(0,vg [vi 7,vi ↑eN,vi ↑vN])]) rfl rfl (.cons rfl .nil) ?_))))))
     intro g310 w311 v312 ch313 o314
     refine lo ?_
     replace o_GN:=o_GN.cn ch313
     refine b9 (α:=cv) (xs:=GN) (ys:=([(7,(eN:Int),(vN:Int))])) g310 (J:=is 7) (S:=is 7) (7,0) rfl gB bB (by decide) rfl rfl rfl o_GN o314.flat (by decide) (by(simp;omega)) ?_
     intro g315 w316 v317 ch318 o319
     clear o_GN
     refine lw (vp b13 0) (aB rfl) (lx (ad dO rfl rfl rfl rfl) (lo ?_))
     replace bx15:=(bx15.cn ch313).ce ch318
     refine bL (cs':=[vi g.1,g_v,p_v,p_v1,v317]) bx rfl rfl bx15 (bK o319.flat) nq (cz o319.flat) rfl ?_
     intro w320 ch321 bx322
     clear bx15
     refine ab (ct (vs:=[]) Try.func44 .nil ?_)
     refine⟨vt [],rfl,?_⟩
     refine ab (ao ?_)
     clear o314
     refine a8 rfl (lx (aP (m:=↑vN) (n:=1) zs32_c13 rfl (by omega)) (mi ((vN:Int)+1) (ab ?_)))
     have C323:=cg [3,7,22] (ch300.n.seq ((ch305.l rfl).seq (hb308.n.seq (ch313.n.seq ((ch318.l rfl).seq (ch321.l rfl))))))
     have C324:=cg [3,7] (ch313.n.seq ((ch318.l rfl).seq (ch321.l rfl)))
     have C325:=hb308.n.seq C324
     refine back5_c13 (vN+1,v317,(GN++[(7,(eN:Int),(vN:Int))]),g315) _ _ ⟨bH.ca C323,zs0_c13,zs2_c13,zs3_c13,zs4_c13,zs11_c13,zs12_c13,zs13_c13,zs30_c13,zs31_c13,rfl,Rg.ca C324,Rp.ca C324,r_p_v1.ca C324,bx322,r287.ca C325,bx295.ca C325,o319.ce ch321,by omega,?_⟩ ?_
     · show(GN++[(7,(eN:Int),(vN:Int))])=(dm g p++bg (iZ g p) eN)++bg (fS g p eN) (vN+1)
       exact gL hkN (wF ‹_› ‹_› ‹_›)
     · show Int.toNat (((p.1.length:Int):Int)-((vN+1):Int))<Int.toNat (((p.1.length:Int):Int)-(vN:Int))
       omega
    refine aj rfl (Bool.eq_false_iff.2 p7_c13) (am (ao ?_))
    clear bx306
    refine a8 rfl (lx (aP (m:=↑vN) (n:=1) zs32_c13 rfl (by omega)) (mi ((vN:Int)+1) (ab ?_)))
    have C326:=cg [22] (ch300.n.seq ((ch305.l rfl).seq hb308.n))
    refine back5_c13 (vN+1,GN_v,GN,g302) _ _ ⟨bH.ca C326,zs0_c13,zs2_c13,zs3_c13,zs4_c13,zs11_c13,zs12_c13,zs13_c13,zs30_c13,zs31_c13,rfl,Rg.ca C326,Rp.ca C326,r_p_v1.ca C326,bx15.ca C326,r287.cn hb308,bx295.cn hb308,o_GN.ca C326,by omega,?_⟩ ?_
    · show GN=(dm g p++bg (iZ g p) eN)++bg (fS g p eN) (vN+1)
      exact iU hkN (vX ‹_›)
    · show Int.toNat (((p.1.length:Int):Int)-((vN+1):Int))<Int.toNat (((p.1.length:Int):Int)-(vN:Int))
      omega
   refine aj rfl (df p5_c13) (aM rfl (ao ?_))
   clear r287 bx295
   refine a8 rfl (lx (aP (m:=↑eN) (n:=1) zs13_c13 rfl (by omega)) (mi ((eN:Int)+1) (ab ?_)))
   refine back1_c13 (GN_v,GN,eN+1,g298) _ _ ⟨bH,zs0_c13,zs11_c13,zs12_c13,rfl,Rg,Rp,r_p_v1,bx15,o_GN,by omega,?_⟩ ?_
   · show GN=dm g p++bg (iZ g p) (eN+1)
     exact rS hkN (by omega)
   · show Int.toNat (((p.2.length:Int):Int)-((eN+1):Int))<Int.toNat (((p.2.length:Int):Int)-(eN:Int))
     omega
  refine aj rfl (df p1_c13) (aM rfl (ct (vs:=[]) Try.func31 .nil ?_))
  refine⟨vt [],rfl,?_⟩
  refine ab (a8 rfl (mv (vp b13 0) (lo (bT (aA (vals:=[vp b13 0]) Try.func32 vv wv rfl) (av Try.func32 rfl nq (aa (a8 rfl (mv (vp b13 0) (lw (vp b13 0) (aB rfl) (lx (ad dO rfl rfl rfl rfl) (lx (ad iK rfl rfl rfl rfl) ?_)))))))))))
  refine lx (af d3 rfl bx15 rfl) (lx (aT kM rfl r_p_v1) (mi 0 (ab (aq ?_))))
  refine aQ (σ:=Value×(List cv)×Nat×aH) (λ⟨FQ_v,FQ,eQ,gq⟩ f w=>aX w0 gq w/\f 0=vp b13 0/\f 9=vi (p.2.length:Int)/\f 10=vi ↑eQ/\Sl gq (is 0) w g_v g.2/\Sl gq (is 0) w p_v p.1/\Sl gq (is 0) w p_v1 p.2/\Bx gq (is 3) w b13 [vi g.1,g_v,p_v,p_v1,FQ_v]/\Ow gq (is 7) (is 7) w FQ_v FQ/\(eQ:Int)<=((p.2.length:Int):Int)/\(FQ=(dm g p++eo g p)++bg (jl g p) eQ)) (λ⟨FQ_v,FQ,eQ,gq⟩=>Int.toNat (((p.2.length:Int):Int)-(eQ:Int))) (FN_v,FN,0,g284) ?_ ?_
  · exact⟨bH,rfl,rfl,rfl,Rg,Rp,r_p_v1,bx15,o_FN,by omega,by exact pm hgN (by omega)⟩
  clear Rg Rp r_p_v1 bx15 o_FN bH
  rintro⟨FQ_v,FQ,eQ,g329⟩ f327 w328 ⟨bH,zs0_c15,zs9_c15,zs10_c15,Rg,Rp,r_p_v1,bx15,o_FQ,hle_eQ,hmQ⟩ back1_c15
  refine aa (a8 rfl (lx (b6 (m:=↑eQ) (n:=(p.2.length:Int)) zs10_c15 zs9_c15) (ab (aa ?_))))
  by_cases p1_c15:(eQ:Int)<(p.2.length:Int)
  ·
   refine ag rfl (dt p1_c15) (am (aa (aq (aa (a8 rfl (mz zs10_c15 (ai (eQ:Int) (ab (aa (a8 rfl (mi ↑eQ (lx (aP (m:=↑eQ) (n:=1) rfl rfl (by omega)) ?_))))))))))))
   refine ai ((eQ:Int)+1) (ab (aq ?_))
   refine aQ (σ:=Nat×Value×(List cv)×aH) (λ⟨fQ,GQ_v,GQ,gq⟩ f w=>aX w0 gq w/\f 0=vp b13 0/\f 2=vi ↑eQ/\f 3=vi ↑fQ/\f 9=vi (p.2.length:Int)/\f 10=vi ↑eQ/\Sl gq (is 0) w g_v g.2/\Sl gq (is 0) w p_v p.1/\Sl gq (is 0) w p_v1 p.2/\Bx gq (is 3) w b13 [vi g.1,g_v,p_v,p_v1,GQ_v]/\Ow gq (is 7) (is 7) w GQ_v GQ/\(fQ:Int)<=((p.2.length:Int):Int)/\(GQ=((dm g p++eo g p)++bg (jl g p) eQ)++bg (eW g p eQ) fQ/\eQ<fQ)) (λ⟨fQ,GQ_v,GQ,gq⟩=>Int.toNat (((p.2.length:Int):Int)-(fQ:Int))) (eQ+1,FQ_v,FQ,g329) ?_ ?_
   · exact⟨bH,zs0_c15,rfl,rfl,zs9_c15,zs10_c15,Rg,Rp,r_p_v1,bx15,o_FQ,by omega,by exact pY hmQ⟩
   clear Rg Rp r_p_v1 bx15 o_FQ bH
   rintro⟨fQ,GQ_v,GQ,g332⟩ f330 w331 ⟨bH,zs0_c15,zs2_c15,zs3_c15,zs9_c15,zs10_c15,Rg,Rp,r_p_v1,bx15,o_GQ,hle_fQ,hnQ⟩ back4_c15
   have hnlQ:=rV (by omega) (by omega) (by omega) (by omega) hnQ.1
   have hefQ:=hnQ.2
   refine aa (aa (a8 rfl (mz zs3_c15 (mz zs0_c15 (lw (vp b13 0) (aB rfl) (lx (ad dO rfl rfl rfl rfl) (lx (ad iK rfl rfl rfl rfl) (lx (af d3 rfl bx15 rfl) (lx (aT kM rfl r_p_v1) (lx (b6 (m:=↑fQ) (n:=(p.2.length:Int)) rfl rfl) (ab ?_)))))))))))
   by_cases p4_c15:(fQ:Int)<(p.2.length:Int)
   ·
    refine ag rfl (dt p4_c15) (am (aa (aq (aa (a8 rfl (mz zs0_c15 (mz zs2_c15 (mz zs3_c15 (lo ?_)))))))))
    refine c3 (σ:=Bool×aH) (V:=λ⟨rr_c16,gq⟩=>vb rr_c16) (S:=λ⟨rr_c16,gq⟩ w=>aX w0 gq w/\Sl gq (is 0) w g_v g.2/\Sl gq (is 0) w p_v p.1/\Sl gq (is 0) w p_v1 p.2/\Bx gq (is 3) w b13 [vi g.1,g_v,p_v,p_v1,GQ_v]/\Ow gq (is 7) (is 7) w GQ_v GQ/\(rr_c16=decide (kg (gI p.2 ↑eQ) (gI p.2 ↑fQ) (jF g p (eQ:Int) (fQ:Int))))) (aA (vals:=[vp b13 0,vi ↑eQ,vi ↑fQ]) Try.func47 vw ws rfl) ?_ ?_
    ·
     refine av Try.func47 rfl nq ?_
     obtain⟨hx1A,hx2A,hx3A⟩:=hs.ln (eQ:Int) (by omega) (by omega)
     obtain⟨hy1A,hy2A,hy3A⟩:=hs.ln (fQ:Int) (by omega) (by omega)
     refine aa (a8 rfl (ma (vb false) (ab (aa (a8 rfl (mv (vp b13 0) (mi ↑eQ (mi ↑fQ (lo ?_)))))))))
     refine c3 (σ:=Value×(List Pt)×aH) (V:=λ⟨someA_v,someA,gq⟩=>someA_v) (S:=λ⟨someA_v,someA,gq⟩ w=>aX w0 gq w/\Sl gq (is 0) w g_v g.2/\Sl gq (is 0) w p_v p.1/\Sl gq (is 0) w p_v1 p.2/\Bx gq (is 3) w b13 [vi g.1,g_v,p_v,p_v1,GQ_v]/\Ow gq (is 7) (is 7) w GQ_v GQ/\Ow gq (is 25) (is 25) w someA_v someA/\(someA=jF g p (eQ:Int) (fQ:Int))) (aA (vals:=[vp b13 0,vi ↑eQ,vi ↑fQ]) Try.func58 wX wK rfl) ?_ ?_
     ·
      refine av Try.func58 rfl nq ?_
      obtain⟨⟨he1_c17,he2_c17⟩,he3_c17,he4_c17⟩:=l7 (e:=(eQ:Int)) hmay (by omega) (by omega)
      refine aa (a8 rfl (ma vn (ab (aa (a8 rfl (ma vn (ab (aa (aa (a8 rfl (mv (vp b13 0) (lw (vp b13 0) (aB rfl) (lx (ad dO rfl rfl rfl rfl) (lx (ad fV rfl rfl rfl rfl) (lx (af cw rfl bx15 rfl) ?_)))))))))))))))
      refine mi ↑eQ (lx (al (v:=g_v) (i:=↑eQ) jQ rfl rfl Rg rfl (by omega) (by omega)) (lw (vg [vi ((gI g.2 ↑eQ).1),vi ((gI g.2 ↑eQ).2)]) (aJ (v:=g_v) (i:=↑eQ) dY rfl Rg (by omega) (by omega) rfl) (mi 0 (ab (aq (gy (aa (a8 rfl (lx (b6 (m:=0) (n:=2) rfl rfl) (ab (aa ?_)))))))))))
      refine ag rfl rfl (am (aa (aq (aa (a8 rfl (lw (vi ((gI g.2 ↑eQ).1)) (dM m9 aI rfl rfl (by decide) (by decide) rfl) (ai ((gI g.2 ↑eQ).1) (ab (aa (a8 rfl (mv (vp b13 0) (lw (vp b13 0) (aB rfl) ?_))))))))))))
      refine lx (ad dO rfl rfl rfl rfl) (lx (ad fV rfl rfl rfl rfl) (lx (af cw rfl bx15 rfl) (mi ↑fQ (lx (al (v:=g_v) (i:=↑fQ) jQ rfl rfl Rg rfl (by omega) (by omega)) (lw ((sK g_v (Int.toNat ↑fQ))) (hZ m9 rfl rfl) ?_)))))
      have r333:=pk Rg (i:=↑fQ) (by omega) (by omega)
      refine mi ((gI g.2 ↑eQ).1) (lo (aK (v:=vb (decide (((gI g.2 ↑eQ).1)∈([(gI g.2 ↑fQ).1,(gI g.2 ↑fQ).2])))) (aA (vals:=[(sK g_v (Int.toNat ↑fQ)),vi ((gI g.2 ↑eQ).1)]) Try.func73 nr nB rfl) (ie w331 ([(gI g.2 ↑fQ).1,(gI g.2 ↑fQ).2]) (sK g_v (Int.toNat ↑fQ)) (r333).ro ((gI g.2 ↑eQ).1)) ?_))
      intro w334 hb335
      replace hb335:=ar hb335 g332
      refine ab ?_
      by_cases p5_c17:(decide (((gI g.2 ↑eQ).1)∈([(gI g.2 ↑fQ).1,(gI g.2 ↑fQ).2])))=true
      ·
       refine ag rfl p5_c17 ?_
       clear r333
       refine a8 rfl (mv vn (mv (vp b13 0) (lw (vp b13 0) (aB rfl) (lx (ad dO rfl rfl rfl rfl) (lx (ad iK rfl rfl rfl rfl) ?_)))))
       replace bx15:=bx15.cn hb335
       refine lx (af bO rfl bx15 rfl) (mi ((gI g.2 ↑eQ).1) ?_)
       replace Rp:=Rp.cn hb335
       refine lx (al (v:=p_v) (i:=(gI g.2 ↑eQ).1) cX rfl rfl Rp rfl (by omega) (by omega)) (lw (vg [vi ((gI p.1 ((gI g.2 ↑eQ).1)).1),vi ((gI p.1 ((gI g.2 ↑eQ).1)).2)]) (aJ (v:=p_v) (i:=(gI g.2 ↑eQ).1) ah rfl Rp (by omega) (by omega) rfl) (lo (aF (α:=Pt) g332 (is 24) (is 24) (24,0) rfl [(gI p.1 ((gI g.2 ↑eQ).1))] cX ah (by decide) (by decide) (vs:=[(0,vg [vi ((gI p.1 ((gI g.2 ↑eQ).1)).1),vi ((gI p.1 ((gI g.2 ↑eQ).1)).2)])]) rfl rfl (.cons rfl .nil) ?_)))
       intro g336 w337 v338 ch339 o340
       refine lo (b9 (α:=Pt) (xs:=([])) (ys:=([(gI p.1 ((gI g.2 ↑eQ).1))])) g336 (J:=is 25) (S:=is 25) (25,0) rfl cX ah (by decide) rfl rfl rfl Ow.nil o340.flat (by decide) (by(simp;done)) ?_)
       intro g341 w342 v343 ch344 o345
       replace o345:Ow g341 (is 25) (is 25) w342 v343 ([(gI p.1 ((gI g.2 ↑eQ).1))]:List Pt):=o345
       refine ma v343 (ab (ao ?_))
       clear o340
       refine a8 rfl (lx (aP (m:=0) (n:=1) rfl rfl (by omega)) (mi 1 (ab (cm (aa (a8 rfl (lx (b6 (m:=1) (n:=2) rfl rfl) (ab (aa (ag rfl rfl (am ?_)))))))))))
       refine aa (aq (aa (a8 rfl (lw (vi ((gI g.2 ↑eQ).2)) (dM m9 aI rfl rfl (by decide) (by decide) rfl) (ai ((gI g.2 ↑eQ).2) (ab (aa (a8 rfl (mv (vp b13 0) (lw (vp b13 0) (aB rfl) (lx (ad dO rfl rfl rfl rfl) (lx (ad fV rfl rfl rfl rfl) ?_))))))))))))
       replace bx15:=(bx15.cn ch339).ce ch344
       refine lx (af cw rfl bx15 rfl) (mi ↑fQ ?_)
       have C346:=cg [25] (hb335.n.seq (ch339.n.seq (ch344.l rfl)))
       replace Rg:=Rg.ca C346
       refine lx (al (v:=g_v) (i:=↑fQ) jQ rfl rfl Rg rfl (by omega) (by omega)) (lw ((sK g_v (Int.toNat ↑fQ))) (hZ m9 rfl rfl) ?_)
       have r347:=pk Rg (i:=↑fQ) (by omega) (by omega)
       refine mi ((gI g.2 ↑eQ).2) (lo (aK (v:=vb (decide (((gI g.2 ↑eQ).2)∈([(gI g.2 ↑fQ).1,(gI g.2 ↑fQ).2])))) (aA (vals:=[(sK g_v (Int.toNat ↑fQ)),vi ((gI g.2 ↑eQ).2)]) Try.func73 nr nB rfl) (ie w342 ([(gI g.2 ↑fQ).1,(gI g.2 ↑fQ).2]) (sK g_v (Int.toNat ↑fQ)) (r347).ro ((gI g.2 ↑eQ).2)) ?_))
       intro w348 hb349
       replace hb349:=ar hb349 g341
       refine ab ?_
       by_cases p5_c17_350:(decide (((gI g.2 ↑eQ).2)∈([(gI g.2 ↑fQ).1,(gI g.2 ↑fQ).2])))=true
       ·
        refine ag rfl p5_c17_350 ?_
        clear r347
        refine a8 rfl (mv v343 (mv (vp b13 0) (lw (vp b13 0) (aB rfl) (lx (ad dO rfl rfl rfl rfl) (lx (ad iK rfl rfl rfl rfl) ?_)))))
        replace bx15:=bx15.cn hb349
        refine lx (af bO rfl bx15 rfl) (mi ((gI g.2 ↑eQ).2) ?_)
        have C351:=cg [25] (ch339.n.seq ((ch344.l rfl).seq hb349.n))
        replace Rp:=Rp.ca C351
        refine lx (al (v:=p_v) (i:=(gI g.2 ↑eQ).2) cX rfl rfl Rp rfl (by omega) (by omega)) (lw (vg [vi ((gI p.1 ((gI g.2 ↑eQ).2)).1),vi ((gI p.1 ((gI g.2 ↑eQ).2)).2)]) (aJ (v:=p_v) (i:=(gI g.2 ↑eQ).2) ah rfl Rp (by omega) (by omega) rfl) (lo (aF (α:=Pt) g341 (is 24) (is 24) (24,0) rfl [(gI p.1 ((gI g.2 ↑eQ).2))] cX ah (by decide) (by decide) (vs:=[(0,vg [vi ((gI p.1 ((gI g.2 ↑eQ).2)).1),vi ((gI p.1 ((gI g.2 ↑eQ).2)).2)])]) rfl rfl (.cons rfl .nil) ?_)))
        intro g352 w353 v354 ch355 o356
        refine lo ?_
        replace o345:=(o345.cn hb349).cn ch355
        refine b9 (α:=Pt) (xs:=([(gI p.1 ((gI g.2 ↑eQ).1))])) (ys:=([(gI p.1 ((gI g.2 ↑eQ).2))])) g352 (J:=is 25) (S:=is 25) (25,0) rfl cX ah (by decide) rfl rfl rfl o345 o356.flat (by decide) (by(simp;done)) ?_
        intro g357 w358 v359 ch360 o361
        clear o345
        refine ma v359 (ab (ao ?_))
        clear o356
        refine a8 rfl (lx (aP (m:=1) (n:=1) rfl rfl (by omega)) (mi 2 (ab (cm (aa (a8 rfl (lx (b6 (m:=2) (n:=2) rfl rfl) (ab (aa (aj rfl rfl (aM rfl ?_)))))))))))
        refine aa (a8 rfl (mv v359 (ma v359 (ab (au (vs:=[v359]) Try.func58 (.tmp rfl .nil) ?_)))))
        have C363:=cg [25] (hb349.n.seq (ch355.n.seq (ch360.l rfl)))
        have C362:=hb335.n.seq (ch339.n.seq ((ch344.l rfl).seq C363))
        replace bH:=bH.ca C362
        replace Rg:=Rg.ca C363
        replace Rp:=(Rp.cn ch355).ce ch360
        replace r_p_v1:=r_p_v1.ca C362
        replace bx15:=(bx15.cn ch355).ce ch360
        replace o_GQ:=o_GQ.ca C362
        refine⟨(v359,([(gI p.1 ((gI g.2 ↑eQ).1))]++[(gI p.1 ((gI g.2 ↑eQ).2))]),g357),rfl,bH,Rg,Rp,r_p_v1,bx15,o_GQ,o361,?_⟩
        show([(gI p.1 ((gI g.2 ↑eQ).1))]++[(gI p.1 ((gI g.2 ↑eQ).2))])=jF g p (eQ:Int) (fQ:Int)
        exact A1 ‹_› ‹_›
       refine aj rfl (Bool.eq_false_iff.2 p5_c17_350) (am (ao ?_))
       clear r347
       refine a8 rfl (lx (aP (m:=1) (n:=1) rfl rfl (by omega)) (mi 2 (ab (cm (aa (a8 rfl (lx (b6 (m:=2) (n:=2) rfl rfl) (ab (aa (aj rfl rfl (aM rfl ?_)))))))))))
       refine aa (a8 rfl (mv v343 (ma v343 (ab (au (vs:=[v343]) Try.func58 (.tmp rfl .nil) ?_)))))
       have C365:=cg [25] (ch339.n.seq ((ch344.l rfl).seq hb349.n))
       have C364:=hb335.n.seq C365
       replace bH:=bH.ca C364
       replace Rg:=Rg.cn hb349
       replace Rp:=Rp.ca C365
       replace r_p_v1:=r_p_v1.ca C364
       replace bx15:=bx15.cn hb349
       replace o_GQ:=o_GQ.ca C364
       replace o345:=o345.cn hb349
       refine⟨(v343,[(gI p.1 ((gI g.2 ↑eQ).1))],g341),rfl,bH,Rg,Rp,r_p_v1,bx15,o_GQ,o345,?_⟩
       show([(gI p.1 ((gI g.2 ↑eQ).1))])=jF g p (eQ:Int) (fQ:Int)
       exact A0 ‹_› ‹_›
      refine aj rfl (Bool.eq_false_iff.2 p5_c17) (am (ao ?_))
      clear r333
      refine a8 rfl (lx (aP (m:=0) (n:=1) rfl rfl (by omega)) (mi 1 (ab (cm (aa (a8 rfl (lx (b6 (m:=1) (n:=2) rfl rfl) (ab (aa (ag rfl rfl (am ?_)))))))))))
      refine aa (aq (aa (a8 rfl (lw (vi ((gI g.2 ↑eQ).2)) (dM m9 aI rfl rfl (by decide) (by decide) rfl) (ai ((gI g.2 ↑eQ).2) (ab (aa (a8 rfl (mv (vp b13 0) (lw (vp b13 0) (aB rfl) (lx (ad dO rfl rfl rfl rfl) (lx (ad fV rfl rfl rfl rfl) ?_))))))))))))
      replace bx15:=bx15.cn hb335
      refine lx (af cw rfl bx15 rfl) (mi ↑fQ ?_)
      replace Rg:=Rg.cn hb335
      refine lx (al (v:=g_v) (i:=↑fQ) jQ rfl rfl Rg rfl (by omega) (by omega)) (lw ((sK g_v (Int.toNat ↑fQ))) (hZ m9 rfl rfl) ?_)
      have r366:=pk Rg (i:=↑fQ) (by omega) (by omega)
      refine mi ((gI g.2 ↑eQ).2) (lo (aK (v:=vb (decide (((gI g.2 ↑eQ).2)∈([(gI g.2 ↑fQ).1,(gI g.2 ↑fQ).2])))) (aA (vals:=[(sK g_v (Int.toNat ↑fQ)),vi ((gI g.2 ↑eQ).2)]) Try.func73 nr nB rfl) (ie w334 ([(gI g.2 ↑fQ).1,(gI g.2 ↑fQ).2]) (sK g_v (Int.toNat ↑fQ)) (r366).ro ((gI g.2 ↑eQ).2)) ?_))
      intro w367 hb368
      replace hb368:=ar hb368 g332
      refine ab ?_
      by_cases p5_c17_369:(decide (((gI g.2 ↑eQ).2)∈([(gI g.2 ↑fQ).1,(gI g.2 ↑fQ).2])))=true
      ·
       refine ag rfl p5_c17_369 ?_
       clear r366
       refine a8 rfl (mv vn (mv (vp b13 0) (lw (vp b13 0) (aB rfl) (lx (ad dO rfl rfl rfl rfl) (lx (ad iK rfl rfl rfl rfl) ?_)))))
       replace bx15:=bx15.cn hb368
       refine lx (af bO rfl bx15 rfl) (mi ((gI g.2 ↑eQ).2) ?_)
       replace Rp:=(Rp.cn hb335).cn hb368
       refine lx (al (v:=p_v) (i:=(gI g.2 ↑eQ).2) cX rfl rfl Rp rfl (by omega) (by omega)) (lw (vg [vi ((gI p.1 ((gI g.2 ↑eQ).2)).1),vi ((gI p.1 ((gI g.2 ↑eQ).2)).2)]) (aJ (v:=p_v) (i:=(gI g.2 ↑eQ).2) ah rfl Rp (by omega) (by omega) rfl) (lo (aF (α:=Pt) g332 (is 24) (is 24) (24,0) rfl [(gI p.1 ((gI g.2 ↑eQ).2))] cX ah (by decide) (by decide) (vs:=[(0,vg [vi ((gI p.1 ((gI g.2 ↑eQ).2)).1),vi ((gI p.1 ((gI g.2 ↑eQ).2)).2)])]) rfl rfl (.cons rfl .nil) ?_)))
       intro g370 w371 v372 ch373 o374
       refine lo (b9 (α:=Pt) (xs:=([])) (ys:=([(gI p.1 ((gI g.2 ↑eQ).2))])) g370 (J:=is 25) (S:=is 25) (25,0) rfl cX ah (by decide) rfl rfl rfl Ow.nil o374.flat (by decide) (by(simp;done)) ?_)
       intro g375 w376 v377 ch378 o379
       replace o379:Ow g375 (is 25) (is 25) w376 v377 ([(gI p.1 ((gI g.2 ↑eQ).2))]:List Pt):=o379
       refine ma v377 (ab (ao ?_))
       clear o374
       refine a8 rfl (lx (aP (m:=1) (n:=1) rfl rfl (by omega)) (mi 2 (ab (cm (aa (a8 rfl (lx (b6 (m:=2) (n:=2) rfl rfl) (ab (aa (aj rfl rfl (aM rfl ?_)))))))))))
       refine aa (a8 rfl (mv v377 (ma v377 (ab (au (vs:=[v377]) Try.func58 (.tmp rfl .nil) ?_)))))
       have C381:=cg [25] (hb368.n.seq (ch373.n.seq (ch378.l rfl)))
       have C380:=hb335.n.seq C381
       replace bH:=bH.ca C380
       replace Rg:=Rg.ca C381
       replace Rp:=(Rp.cn ch373).ce ch378
       replace r_p_v1:=r_p_v1.ca C380
       replace bx15:=(bx15.cn ch373).ce ch378
       replace o_GQ:=o_GQ.ca C380
       refine⟨(v377,[(gI p.1 ((gI g.2 ↑eQ).2))],g375),rfl,bH,Rg,Rp,r_p_v1,bx15,o_GQ,o379,?_⟩
       show([(gI p.1 ((gI g.2 ↑eQ).2))])=jF g p (eQ:Int) (fQ:Int)
       exact zR ‹_› ‹_›
      refine aj rfl (Bool.eq_false_iff.2 p5_c17_369) (am (ao ?_))
      clear r366
      refine a8 rfl (lx (aP (m:=1) (n:=1) rfl rfl (by omega)) (mi 2 (ab (cm (aa (a8 rfl (lx (b6 (m:=2) (n:=2) rfl rfl) (ab (aa (aj rfl rfl (aM rfl ?_)))))))))))
      refine aa (a8 rfl (mv vn (ma vn (ab (au (vs:=[vn]) Try.func58 (.tmp rfl .nil) ?_)))))
      replace bH:=bH.cn hb335
      replace bH:=bH.cn hb368
      replace Rg:=Rg.cn hb368
      replace Rp:=(Rp.cn hb335).cn hb368
      replace r_p_v1:=(r_p_v1.cn hb335).cn hb368
      replace bx15:=bx15.cn hb368
      replace o_GQ:=(o_GQ.cn hb335).cn hb368
      refine⟨(vn,[],g332),rfl,bH,Rg,Rp,r_p_v1,bx15,o_GQ,Ow.nil,?_⟩
      show([])=jF g p (eQ:Int) (fQ:Int)
      exact zH ‹_› ‹_›
     clear Rg Rp r_p_v1 bx15 o_GQ bH
     rintro⟨someA_v,someA,g383⟩ w382 ⟨bH,Rg,Rp,r_p_v1,bx15,o_GQ,o_someA,hsa⟩
     have hsl_c17:someA.length<=2:=by rw[hsa];exact yc
     have hso_c17:∀x∈someA,cI x:=by rw[hsa];exact zN hmay hs (by omega) (by omega)
     refine ma someA_v (ab (aa (cD g383 rfl jA (by kernel_rfl) ?_)))
     intro w385 ch384
     refine qm (vp b13 0) (qv (vp b13 0) (λw' hw'=>aB rfl) (qx (λw' hw'=>ad dO rfl rfl rfl rfl) (qx (λw' hw'=>ad iK rfl rfl rfl rfl) ?_)))
     replace bx15:=bx15.cn ch384
     refine qx (λw' hw'=>af d3 rfl (bx15.bel hw') rfl) (qm (vi ↑eQ) ?_)
     replace r_p_v1:=r_p_v1.cn ch384
     refine qx (λw' hw'=>al (v:=p_v1) (i:=↑eQ) kM rfl rfl (r_p_v1.bel hw') rfl (by omega) (by omega)) ?_
     obtain⟨v386,cel387,r388⟩:=dh (r:=(eQ:Int)) r_p_v1 (by omega) (by omega)
     refine qx (λw' hw'=>bD bO rfl (nC cel387 hw')) (qm (vp b13 0) (qv (vp b13 0) (λw' hw'=>aB rfl) (qx (λw' hw'=>ad dO rfl rfl rfl rfl) (qx (λw' hw'=>ad iK rfl rfl rfl rfl) (qx (λw' hw'=>af d3 rfl (bx15.bel hw') rfl) (qm (vi ↑fQ) (qx (λw' hw'=>al (v:=p_v1) (i:=↑fQ) kM rfl rfl (r_p_v1.bel hw') rfl (by omega) (by omega)) ?_)))))))
     obtain⟨v389,cel390,r391⟩:=dh (r:=(fQ:Int)) r_p_v1 (by omega) (by omega)
     refine qx (λw' hw'=>bD bO rfl (nC cel390 hw')) (qv (v386) (λw' hw'=>bS rfl) (qv (v389) (λw' hw'=>bS rfl) (dH ?_)))
     intro w392 hc393
     replace hc393:=ar hc393 g383
     refine aa (aa (a8 rfl (ai 1 (ab (aq ?_)))))
     refine aQ (σ:=Nat×aH) (λ⟨iA,gq⟩ f w=>aX w0 gq w/\f 7=someA_v/\f 8=v386/\f 9=v389/\f 10=vi ↑iA/\Sl gq (is 0) w g_v g.2/\Sl gq (is 0) w p_v p.1/\Sl gq (is 0) w p_v1 p.2/\Bx gq (is 3) w b13 [vi g.1,g_v,p_v,p_v1,GQ_v]/\Ow gq (is 7) (is 7) w GQ_v GQ/\Ow gq (is 25) (is 25) w someA_v someA/\Sl gq (is 0) w v386 (gI p.2 ↑eQ)/\Sl gq (is 0) w v389 (gI p.2 ↑fQ)/\(iA:Int)<=((List.length (gI p.2 ↑eQ):Int):Int)/\(1<=iA/\∀j:Nat,j+1<iA->∀q:Nat,q+1<(gI p.2 ↑fQ).length->cV (gI (gI p.2 ↑eQ) ↑j,gI (gI p.2 ↑eQ) ((j:Int)+1)) (gI (gI p.2 ↑fQ) ↑q,gI (gI p.2 ↑fQ) ((q:Int)+1)) someA)) (λ⟨iA,gq⟩=>List.length (gI p.2 ↑eQ)-iA) (1,g383) ?_ ?_
     replace bH:=bH.cn ch384
     · exact⟨bH.cn hc393,rfl,rfl,rfl,rfl,(Rg.cn ch384).cn hc393,(Rp.cn ch384).cn hc393,r_p_v1.cn hc393,bx15.cn hc393,(o_GQ.cn ch384).cn hc393,(o_someA.cn ch384).cn hc393,r388.cn hc393,r391.cn hc393,by omega,by exact⟨Nat.le_refl _,λj hj=>by omega⟩⟩
     clear Rg Rp r_p_v1 bx15 o_GQ o_someA r388 r391 bH
     rintro⟨iA,g396⟩ f394 w395 ⟨bH,zs7_c16,zs8_c16,zs9_c16,zs10_c16,Rg,Rp,r_p_v1,bx15,o_GQ,o_someA,r388,r391,hle_iA,hiA⟩ back4_c16
     have hi1A:=hiA.1
     refine aa (aa (a8 rfl (mz zs10_c16 (mz zs8_c16 ?_))))
     have len397:=(r388).small
     refine lx (aT cX rfl r388) (lx (b6 (m:=↑iA) (n:=(List.length (gI p.2 ↑eQ):Int)) rfl rfl) (ab ?_))
     by_cases p4_c16:(iA:Int)<(List.length (gI p.2 ↑eQ):Int)
     ·
      refine ag rfl (dt p4_c16) (am (aa (aq (aa (a8 rfl (ai 1 (ab (aq ?_))))))))
      refine aQ (σ:=Nat×aH) (λ⟨kA,gq⟩ f w=>aX w0 gq w/\f 7=someA_v/\f 8=v386/\f 9=v389/\f 10=vi ↑iA/\f 11=vi ↑kA/\Sl gq (is 0) w g_v g.2/\Sl gq (is 0) w p_v p.1/\Sl gq (is 0) w p_v1 p.2/\Bx gq (is 3) w b13 [vi g.1,g_v,p_v,p_v1,GQ_v]/\Ow gq (is 7) (is 7) w GQ_v GQ/\Ow gq (is 25) (is 25) w someA_v someA/\Sl gq (is 0) w v386 (gI p.2 ↑eQ)/\Sl gq (is 0) w v389 (gI p.2 ↑fQ)/\(kA:Int)<=((List.length (gI p.2 ↑fQ):Int):Int)/\(1<=kA/\∀q:Nat,q+1<kA->cV (gI (gI p.2 ↑eQ) ((iA:Int)-1),gI (gI p.2 ↑eQ) ↑iA) (gI (gI p.2 ↑fQ) ↑q,gI (gI p.2 ↑fQ) ((q:Int)+1)) someA)) (λ⟨kA,gq⟩=>List.length (gI p.2 ↑fQ)-kA) (1,g396) ?_ ?_
      · exact⟨bH,zs7_c16,zs8_c16,zs9_c16,zs10_c16,rfl,Rg,Rp,r_p_v1,bx15,o_GQ,o_someA,r388,r391,by omega,by exact⟨Nat.le_refl _,λj hj=>by omega⟩⟩
      clear Rg Rp r_p_v1 bx15 o_GQ o_someA r388 r391 bH
      rintro⟨kA,g400⟩ f398 w399 ⟨bH,zs7_c16,zs8_c16,zs9_c16,zs10_c16,zs11_c16,Rg,Rp,r_p_v1,bx15,o_GQ,o_someA,r388,r391,hle_kA,hqA⟩ back7_c16
      have hq1A:=hqA.1
      refine aa (aa (a8 rfl (mz zs11_c16 (mz zs9_c16 ?_))))
      have len401:=(r391).small
      refine lx (aT cX rfl r391) (lx (b6 (m:=↑kA) (n:=(List.length (gI p.2 ↑fQ):Int)) rfl rfl) (ab ?_))
      by_cases p7_c16:(kA:Int)<(List.length (gI p.2 ↑fQ):Int)
      ·
       refine ag rfl (dt p7_c16) (am (aa (aq (aa (cD g400 rfl jA (by kernel_rfl) ?_)))))
       intro w403 ch402
       refine qz zs8_c16 (qz zs10_c16 (qx (λw' hw'=>dD (m:=↑iA) (n:=1) rfl rfl (by omega)) ?_))
       replace r388:=r388.cn ch402
       refine qx (λw' hw'=>al (v:=v386) (i:=(iA:Int)-1) cX rfl rfl (r388.bel hw') rfl (by omega) (by omega)) (qv (vg [vi ((gI (gI p.2 ↑eQ) ((iA:Int)-1)).1),vi ((gI (gI p.2 ↑eQ) ((iA:Int)-1)).2)]) (λw' hw'=>aJ (v:=v386) (i:=(iA:Int)-1) ah rfl (r388.bel hw') (by omega) (by omega) rfl) (qz zs8_c16 (qz zs10_c16 (qx (λw' hw'=>al (v:=v386) (i:=↑iA) cX rfl rfl (r388.bel hw') rfl (by omega) (by omega)) (qv (vg [vi ((gI (gI p.2 ↑eQ) ↑iA).1),vi ((gI (gI p.2 ↑eQ) ↑iA).2)]) (λw' hw'=>aJ (v:=v386) (i:=↑iA) ah rfl (r388.bel hw') (by omega) (by omega) rfl) (qz zs9_c16 (qz zs11_c16 ?_)))))))
       refine qx (λw' hw'=>dD (m:=↑kA) (n:=1) rfl rfl (by omega)) ?_
       replace r391:=r391.cn ch402
       refine qx (λw' hw'=>al (v:=v389) (i:=(kA:Int)-1) cX rfl rfl (r391.bel hw') rfl (by omega) (by omega)) (qv (vg [vi ((gI (gI p.2 ↑fQ) ((kA:Int)-1)).1),vi ((gI (gI p.2 ↑fQ) ((kA:Int)-1)).2)]) (λw' hw'=>aJ (v:=v389) (i:=(kA:Int)-1) ah rfl (r391.bel hw') (by omega) (by omega) rfl) (qz zs9_c16 (qz zs11_c16 (qx (λw' hw'=>al (v:=v389) (i:=↑kA) cX rfl rfl (r391.bel hw') rfl (by omega) (by omega)) (qv (vg [vi ((gI (gI p.2 ↑fQ) ↑kA).1),vi ((gI (gI p.2 ↑fQ) ↑kA).2)]) (λw' hw'=>aJ (v:=v389) (i:=↑kA) ah rfl (r391.bel hw') (by omega) (by omega) rfl) (qz zs7_c16 ?_))))))
       replace o_someA:=o_someA.cn ch402
       refine eZ (v:=vb (decide (cV ((gI (gI p.2 ↑eQ) ((iA:Int)-1)),(gI (gI p.2 ↑eQ) ↑iA)) ((gI (gI p.2 ↑fQ) ((kA:Int)-1)),(gI (gI p.2 ↑fQ) ↑kA)) someA))) rfl (λw' hw'=>aA (vals:=[vg [vi ((gI (gI p.2 ↑eQ) ((iA:Int)-1)).1),vi ((gI (gI p.2 ↑eQ) ((iA:Int)-1)).2)],vg [vi ((gI (gI p.2 ↑eQ) ↑iA).1),vi ((gI (gI p.2 ↑eQ) ↑iA).2)],vg [vi ((gI (gI p.2 ↑fQ) ((kA:Int)-1)).1),vi ((gI (gI p.2 ↑fQ) ((kA:Int)-1)).2)],vg [vi ((gI (gI p.2 ↑fQ) ↑kA).1),vi ((gI (gI p.2 ↑fQ) ↑kA).2)],someA_v]) Try.func59 vu vE rfl) (λw' hw'=>(ww w' (gI (gI p.2 ↑eQ) ((iA:Int)-1)) (gI (gI p.2 ↑eQ) ↑iA) (gI (gI p.2 ↑fQ) ((kA:Int)-1)) (gI (gI p.2 ↑fQ) ↑kA) someA someA_v ((o_someA.flat.bel hw')).ro (by exact hx3A _ (aR (by omega) (by omega))) (by exact hx3A _ (aR (by omega) (by omega))) (by exact hy3A _ (aR (by omega) (by omega))) (by exact hy3A _ (aR (by omega) (by omega))) ‹_›).mono λe w2 h2=>⟨h2.1,hw'.trans (h2.2.mono hw'.size)⟩) ?_
       refine qx (λw' hw'=>dj (b:=(decide (cV ((gI (gI p.2 ↑eQ) ((iA:Int)-1)),(gI (gI p.2 ↑eQ) ↑iA)) ((gI (gI p.2 ↑fQ) ((kA:Int)-1)),(gI (gI p.2 ↑fQ) ↑kA)) someA))) rfl) (dH ?_)
       intro w404 hc405
       replace hc405:=ar hc405 g400
       by_cases p9_c16:(decide (cV ((gI (gI p.2 ↑eQ) ((iA:Int)-1)),(gI (gI p.2 ↑eQ) ↑iA)) ((gI (gI p.2 ↑fQ) ((kA:Int)-1)),(gI (gI p.2 ↑fQ) ↑kA)) someA))=true
       ·
        refine aj rfl (congrArg Bool.not p9_c16) (am (ao (a8 rfl (mz zs11_c16 (lx (aP (m:=↑kA) (n:=1) rfl rfl (by omega)) (ai ((kA:Int)+1) (ab ?_)))))))
        replace bH:=bH.cn ch402
        refine back7_c16 (kA+1,g400) _ _ ⟨bH.cn hc405,zs7_c16,zs8_c16,zs9_c16,zs10_c16,rfl,(Rg.cn ch402).cn hc405,(Rp.cn ch402).cn hc405,(r_p_v1.cn ch402).cn hc405,(bx15.cn ch402).cn hc405,(o_GQ.cn ch402).cn hc405,o_someA.cn hc405,r388.cn hc405,r391.cn hc405,by omega,?_⟩ ?_
        · show 1<=(kA+1)/\∀q:Nat,q+1<(kA+1)->cV (gI (gI p.2 ↑eQ) ((iA:Int)-1),gI (gI p.2 ↑eQ) ↑iA) (gI (gI p.2 ↑fQ) ↑q,gI (gI p.2 ↑fQ) ((q:Int)+1)) someA
          exact tE hqA ‹_›
        · show List.length (gI p.2 ↑fQ)-(kA+1)<List.length (gI p.2 ↑fQ)-kA
          omega
       refine ag rfl (congrArg Bool.not (Bool.eq_false_iff.2 p9_c16)) (aa ?_)
       clear o_someA r388 r391
       refine a8 rfl (ma (vb false) (ab (au (vs:=[vb false]) Try.func47 (.tmp rfl .nil) ?_)))
       replace bH:=bH.cn ch402
       replace bH:=bH.cn hc405
       replace Rg:=(Rg.cn ch402).cn hc405
       replace Rp:=(Rp.cn ch402).cn hc405
       replace r_p_v1:=(r_p_v1.cn ch402).cn hc405
       replace bx15:=(bx15.cn ch402).cn hc405
       replace o_GQ:=(o_GQ.cn ch402).cn hc405
       refine⟨(false,g400),rfl,bH,Rg,Rp,r_p_v1,bx15,o_GQ,?_⟩
       show false=decide (kg (gI p.2 ↑eQ) (gI p.2 ↑fQ) (jF g p (eQ:Int) (fQ:Int)))
       (rw[<-hsa];exact yS hi1A ‹_› hq1A ‹_› ‹_›)
      refine aj rfl (df p7_c16) (aM rfl (ao (a8 rfl (mz zs10_c16 (lx (aP (m:=↑iA) (n:=1) rfl rfl (by omega)) (ai ((iA:Int)+1) (ab ?_)))))))
      refine back4_c16 (iA+1,g400) _ _ ⟨bH,zs7_c16,zs8_c16,zs9_c16,rfl,Rg,Rp,r_p_v1,bx15,o_GQ,o_someA,r388,r391,by omega,?_⟩ ?_
      · show 1<=(iA+1)/\∀j:Nat,j+1<(iA+1)->∀q:Nat,q+1<(gI p.2 ↑fQ).length->cV (gI (gI p.2 ↑eQ) ↑j,gI (gI p.2 ↑eQ) ((j:Int)+1)) (gI (gI p.2 ↑fQ) ↑q,gI (gI p.2 ↑fQ) ((q:Int)+1)) someA
        exact wj hiA hqA ‹_›
      · show List.length (gI p.2 ↑eQ)-(iA+1)<List.length (gI p.2 ↑eQ)-iA
        omega
     refine aj rfl (df p4_c16) (aM rfl (aa ?_))
     clear o_someA r388 r391
     refine a8 rfl (ma (vb true) (ab (au (vs:=[vb true]) Try.func47 (.tmp rfl .nil) ?_)))
     refine⟨(true,g396),rfl,bH,Rg,Rp,r_p_v1,bx15,o_GQ,?_⟩
     show true=decide (kg (gI p.2 ↑eQ) (gI p.2 ↑fQ) (jF g p (eQ:Int) (fQ:Int)))
     (rw[<-hsa];exact vz hiA ‹_›)
    clear Rg Rp r_p_v1 bx15 o_GQ bH
    rintro⟨rr_c16,g407⟩ w406 ⟨bH,Rg,Rp,r_p_v1,bx15,o_GQ,hapA⟩
    refine lx (dj (b:=rr_c16) rfl) (ab ?_)
    by_cases p6_c15:rr_c16=true
    ·
     refine aj rfl (congrArg Bool.not p6_c15) (am (ao (a8 rfl (mz zs3_c15 (lx (aP (m:=↑fQ) (n:=1) rfl rfl (by omega)) (ai ((fQ:Int)+1) (ab ?_)))))))
     refine back4_c15 (fQ+1,GQ_v,GQ,g407) _ _ ⟨bH,zs0_c15,zs2_c15,rfl,zs9_c15,zs10_c15,Rg,Rp,r_p_v1,bx15,o_GQ,by omega,?_⟩ ?_
     · show GQ=((dm g p++eo g p)++bg (jl g p) eQ)++bg (eW g p eQ) (fQ+1)/\eQ<(fQ+1)
       exact⟨iU hnQ.1 (rY ‹_› ‹_›),by omega⟩
     · show Int.toNat (((p.2.length:Int):Int)-((fQ+1):Int))<Int.toNat (((p.2.length:Int):Int)-(fQ:Int))
       omega
    refine ag rfl (congrArg Bool.not (Bool.eq_false_iff.2 p6_c15)) (a8 rfl (mz zs0_c15 (mz zs2_c15 (mz zs3_c15 (lo (bT (aA (vals:=[vp b13 0,vi 8,vi ↑eQ,vi ↑fQ]) Try.func44 de dg rfl) (av Try.func44 rfl nq (a8 rfl (mv (vp b13 0) ?_)))))))))
    refine mv (vp b13 0) (lw (vp b13 0) (aB rfl) (lx (ad dO rfl rfl rfl rfl) (lx (af bx rfl bx15 rfl) (mi 8 (mi ↑eQ (mi ↑fQ (lw (vg [vi 8,vi ↑eQ,vi ↑fQ]) (bQ (vs:=[(0,vi 8),(1,vi ↑eQ),(2,vi ↑fQ)]) rfl (by kernel_rfl)) (lo (aF (α:=cv) g407 (is 27) (is 27) (27,0) rfl [(8,(eQ:Int),(fQ:Int))] gB bB (by decide) (by decide) (vs:=[(0,vg [vi 8,vi ↑eQ,vi ↑fQ])]) rfl rfl (.cons rfl .nil) ?_)))))))))
    intro g408 w409 v410 ch411 o412
    refine lo ?_
    replace o_GQ:=o_GQ.cn ch411
    refine b9 (α:=cv) (xs:=GQ) (ys:=([(8,(eQ:Int),(fQ:Int))])) g408 (J:=is 7) (S:=is 7) (7,0) rfl gB bB (by decide) rfl rfl rfl o_GQ o412.flat (by decide) (by(simp;omega)) ?_
    intro g413 w414 v415 ch416 o417
    clear o_GQ
    refine lw (vp b13 0) (aB rfl) (lx (ad dO rfl rfl rfl rfl) (lo ?_))
    replace bx15:=(bx15.cn ch411).ce ch416
    refine bL (cs':=[vi g.1,g_v,p_v,p_v1,v415]) bx rfl rfl bx15 (bK o417.flat) nq (cz o417.flat) rfl ?_
    intro w418 ch419 bx420
    clear bx15
    refine ab (ct (vs:=[]) Try.func44 .nil ?_)
    refine⟨vt [],rfl,?_⟩
    refine ab (ao ?_)
    clear o412
    refine a8 rfl (mz zs3_c15 (lx (aP (m:=↑fQ) (n:=1) rfl rfl (by omega)) (ai ((fQ:Int)+1) (ab ?_))))
    have C421:=cg [3,7] (ch411.n.seq ((ch416.l rfl).seq (ch419.l rfl)))
    refine back4_c15 (fQ+1,v415,(GQ++[(8,(eQ:Int),(fQ:Int))]),g413) _ _ ⟨bH.ca C421,zs0_c15,zs2_c15,rfl,zs9_c15,zs10_c15,Rg.ca C421,Rp.ca C421,r_p_v1.ca C421,bx420,o417.ce ch419,by omega,?_⟩ ?_
    · show(GQ++[(8,(eQ:Int),(fQ:Int))])=((dm g p++eo g p)++bg (jl g p) eQ)++bg (eW g p eQ) (fQ+1)/\eQ<(fQ+1)
      exact⟨gL hnQ.1 (qk hefQ ‹_› ‹_›),by omega⟩
    · show Int.toNat (((p.2.length:Int):Int)-((fQ+1):Int))<Int.toNat (((p.2.length:Int):Int)-(fQ:Int))
      omega
   refine aj rfl (df p4_c15) (aM rfl (ao (a8 rfl (lx (aP (m:=↑eQ) (n:=1) zs10_c15 rfl (by omega)) (mi ((eQ:Int)+1) (ab ?_))))))
   refine back1_c15 (GQ_v,GQ,eQ+1,g332) _ _ ⟨bH,zs0_c15,zs9_c15,rfl,Rg,Rp,r_p_v1,bx15,o_GQ,by omega,?_⟩ ?_
   · show GQ=(dm g p++eo g p)++bg (jl g p) (eQ+1)
     exact sG hnQ.1 (by omega)
   · show Int.toNat (((p.2.length:Int):Int)-((eQ+1):Int))<Int.toNat (((p.2.length:Int):Int)-(eQ:Int))
     omega
  refine aj rfl (df p1_c15) (aM rfl (ct (vs:=[]) Try.func32 .nil ?_))
  refine⟨vt [],rfl,?_⟩
  refine ab (aa (a8 rfl (mv (vp b13 0) (lw (vp b13 0) (aB rfl) (lx (ad dO rfl rfl rfl rfl) (lx (af bx rfl bx15 rfl) (ma FQ_v (ab (au (vs:=[FQ_v]) Try.func16 (.tmp rfl .nil) ?_)))))))))
  have e0:(FQ:List cv)=(cl g p):=by
    exact sy hsn hlf.2 ‹_› hmQ (by omega)
  exact⟨(fin w0 g329 (λn=>if n=7 then 1 else 0),FQ_v),(congrArg (a₁:=FQ) (λ(z0:List cv)=>Ending.returned (FQ_v)) e0),bH.fresh _,(e0▸(o_FQ.glue (γ:=c0) (ren:=(λn=>if n=7 then 1 else 0)) (k:=1) bH.col rfl rfl))⟩
 have hlf:=mx hfL (by omega)
 refine aj rfl (Bool.eq_false_iff.2 p6) (am (aa (a8 rfl (mv (vp b13 0) (lw (vp b13 0) (aB rfl) (lx (ad dO rfl rfl rfl rfl) (lx (af bx rfl bx15 rfl) (ma GL_v (ab (au (vs:=[GL_v]) Try.func16 (.tmp rfl .nil) ?_))))))))))
 have e0:(GL:List cv)=(cl g p):=by
   exact uQ hsn hlf.1 hlf.2 ‹_›
 exact⟨(fin w0 g261 (λn=>if n=7 then 1 else 0),GL_v),(congrArg (a₁:=GL) (λ(z0:List cv)=>Ending.returned (GL_v)) e0),bH.fresh _,(e0▸(o_GL.glue (γ:=c0) (ren:=(λn=>if n=7 then 1 else 0)) (k:=1) bH.col rfl rfl))⟩
end TL
