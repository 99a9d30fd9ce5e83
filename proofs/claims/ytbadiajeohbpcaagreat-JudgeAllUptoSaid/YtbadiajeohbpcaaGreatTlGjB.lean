import Derived.Test.YtbadiajeohbpcaaGreatTlP3
import Derived.Test.YtbadiajeohbpcaaGreatTlGmA
import Derived.Test.YtbadiajeohbpcaaGreatTlGmM
import Derived.Test.YtbadiajeohbpcaaGreatTlGmR
import Derived.Test.YtbadiajeohbpcaaGreatTlGenA
import Derived.Test.YtbadiajeohbpcaaGreatTlGdA
import Derived.Test.YtbadiajeohbpcaaGreatTlGjA
import Derived.Test.YtbadiajeohbpcaaGreatProg
import Derived.Test.YtbadiajeohbpcaaGreatTlAli
set_option linter.all false
set_option maxRecDepth 20000
namespace TL
open Go Go.Proofs
theorem k8:Tryz.prog.follows .mixedOrders=true:=by kernel_rfl
theorem dP:Tp Tryz.prog 28 true 2 48 (.agg #[.slice none 0 0,.slice none 0 0]):=Tp.of (by kernel_rfl)
theorem bP:Tp Tryz.prog 38 false 1 24 (.slice none 0 0):=Tp.of (by kernel_rfl)
theorem bU:Tp Tryz.prog 66 true 3 24 (.agg #[.int .i64 0,.int .i64 0,.int .i64 0]):=Tp.of (by kernel_rfl)
theorem s4:Tryz.f36.body.isNone=false:=rfl
theorem sg:(Tryz.f36.name== "runtime.NumGoroutine")=false:=by decide+kernel
theorem xE:Tryz.f58.body.isNone=false:=rfl
theorem wo:(Tryz.f58.name== "runtime.NumGoroutine")=false:=by decide+kernel
theorem wP:Tryz.f59.body.isNone=false:=rfl
theorem wQ:(Tryz.f59.name== "runtime.NumGoroutine")=false:=by decide+kernel
theorem xd:Tryz.f60.body.isNone=false:=rfl
theorem wz:(Tryz.f60.name== "runtime.NumGoroutine")=false:=by decide+kernel
theorem xI:Tryz.f61.body.isNone=false:=rfl
theorem xz:(Tryz.f61.name== "runtime.NumGoroutine")=false:=by decide+kernel
theorem dC:Tryz.f74.body.isNone=false:=rfl
theorem dB:(Tryz.f74.name== "runtime.NumGoroutine")=false:=by decide+kernel
theorem yd:Tryz.f83.body.isNone=false:=rfl
theorem wG:(Tryz.f83.name== "runtime.NumGoroutine")=false:=by decide+kernel
theorem xk:Tryz.f84.body.isNone=false:=rfl
theorem yj:(Tryz.f84.name== "runtime.NumGoroutine")=false:=by decide+kernel
theorem xF:Tryz.f85.body.isNone=false:=rfl
theorem xn:(Tryz.f85.name== "runtime.NumGoroutine")=false:=by decide+kernel
theorem u8:Tryz.f101.body.isNone=false:=rfl
theorem tP:(Tryz.f101.name== "runtime.NumGoroutine")=false:=by decide+kernel
theorem vh:Tryz.f102.body.isNone=false:=rfl
theorem uL:(Tryz.f102.name== "runtime.NumGoroutine")=false:=by decide+kernel
theorem lX:Tryz.f116.body.isNone=false:=rfl
theorem mb:(Tryz.f116.name== "runtime.NumGoroutine")=false:=by decide+kernel
set_option maxHeartbeats 8000000 in
theorem pu(w0:World)(g:(Int)×(List Pt))(g_v:Value)(hg_v:Ro w0 g_v g.2)(p:(List Pt)×(List (List Pt)))(p_v p_v1:Value)(hp_v:Ro w0 p_v p.1)(hp_v1:Ro w0 p_v1 p.2)(hmay:c8 g):
    Calls Tryz.prog 28 #[vg [vi g.1,g_v],vg [p_v,p_v1]] w0 (λee w=>∃xx:aK×Value,ee= .returned ((λ⟨δ,rv0⟩=>rv0) xx)/\(λ(⟨δ,rv0⟩:aK×Value) (w:World)=>em w0 δ w/\Ow δ (is 1) (is 1) w rv0 (bT g p)) xx w):=by
 refine au Tryz.func28 rfl nq ?_
 have bH:=aT.start w0
 have Rg:=hg_v.sl
 have Rp:=hp_v.sl
 have r_p_v1:=hp_v1.sl
 have hm0:=hmay
 obtain⟨hm1,hm2,hm3,hm4⟩:=hm0
 refine a7 (a6 rfl (bW rfl (bh c0 (is 1) (1,0) rfl rfl ?_)))
 intro g4 w1 b3 ch2 bx5
 replace bx5:Bx g4 (is 1) w1 b3 [vi g.1,g_v]:=bx5
 refine lo (bh g4 (is 2) (2,0) rfl rfl ?_)
 intro g9 w6 b8 ch7 bx10
 replace bx10:Bx g9 (is 2) w6 b8 [p_v,p_v1]:=bx10
 refine ma vn (aa (a7 (a6 rfl ?_)))
 replace bx5:=bx5.cn ch7
 refine lx (aj (ds:=[vi g.1,g_v]) db rfl bx5 rfl rfl) (lx (aj (ds:=[p_v,p_v1]) dP rfl bx10 rfl rfl) ?_)
 replace Rg:=(Rg.cn ch2).cn ch7
 replace Rp:=(Rp.cn ch2).cn ch7
 replace r_p_v1:=(r_p_v1.cn ch2).cn ch7
 refine lw (vg [vi g.1,g_v,p_v,p_v1,vn]) (bw (vs:=[(0,vg [vi g.1,g_v]),(1,vg [p_v,p_v1])]) rfl (by rw[Sl.form Rg,Sl.form Rp,Sl.form r_p_v1];kernel_rfl)) (lo (bh g9 (is 3) (3,0) rfl rfl ?_))
 intro g14 w11 b13 ch12 bx15
 replace bx15:Bx g14 (is 3) w11 b13 [vi g.1,g_v,p_v,p_v1,vn]:=bx15
 refine ma (vp b13 0) (aa (a7 ?_))
 clear bx5 bx10
 refine a6 rfl (mv (vp b13 0) (lo ?_))
 refine bi (σ:=Value×(List bX)×aK) (V:=λ⟨l_4_c1_v,l_4_c1,gq⟩=>vt []) (S:=λ⟨l_4_c1_v,l_4_c1,gq⟩ w=>aT w0 gq w/\Sl gq (is 0) w g_v g.2/\Sl gq (is 0) w p_v p.1/\Sl gq (is 0) w p_v1 p.2/\Bx gq (is 3) w b13 [vi g.1,g_v,p_v,p_v1,l_4_c1_v]/\Ow gq (is 7) (is 7) w l_4_c1_v l_4_c1/\(l_4_c1=bL g p)) (aA (vals:=[vp b13 0]) Tryz.func36 s4 sg rfl) ?_ ?_
 ·
  refine au Tryz.func36 rfl nq ?_
  replace Rg:=Rg.cn ch12
  replace Rp:=Rp.cn ch12
  replace r_p_v1:=r_p_v1.cn ch12
  refine a7 (a7 (bz g14 rfl k8 (by kernel_rfl) ?_))
  intro w17 ch16
  refine qm (vp b13 0) (qv (vp b13 0) (λw' hw'=>aI rfl) (qx (λw' hw'=>a8 eo rfl rfl rfl rfl) (qx (λw' hw'=>a8 ef rfl rfl rfl rfl) ?_)))
  replace bx15:=bx15.cn ch16
  refine qx (λw' hw'=>ab cI rfl (bx15.bel hw') rfl) ?_
  replace Rp:=Rp.cn ch16
  have len18:=(Rp).small
  refine qx (λw' hw'=>aQ bS rfl (Rp.bel hw')) (qm (vp b13 0) (qv (vp b13 0) (λw' hw'=>aI rfl) (qx (λw' hw'=>a8 eo rfl rfl rfl rfl) (qx (λw' hw'=>a8 dY rfl rfl rfl rfl) (qx (λw' hw'=>ab az rfl (bx15.bel hw') rfl) (qx (λw' hw'=>c5 (m:=(p.1.length:Int)) (n:=g.1) rfl rfl) (qm (vb (!(decide ((p.1.length:Int)=g.1)))) ?_)))))))
  by_cases q18_c1:(p.1.length:Int)=g.1
  ·
   refine aH (v:=vp b13 0) (wy (congrArg Bool.not (dt q18_c1))) (λw' hw'=>aq rfl) (aH (v:=vp b13 0) (wy (congrArg Bool.not (dt q18_c1))) (λw' hw'=>aI rfl) (aH (v:=vp b13 2) (wy (congrArg Bool.not (dt q18_c1))) (λw' hw'=>a8 eo rfl rfl rfl rfl) (aH (v:=vp b13 3) (wy (congrArg Bool.not (dt q18_c1))) (λw' hw'=>a8 ef rfl rfl rfl rfl) (aH (v:=p_v1) (wy (congrArg Bool.not (dt q18_c1))) (λw' hw'=>ab dw rfl (bx15.bel hw') rfl) ?_))))
   replace r_p_v1:=r_p_v1.cn ch16
   have len19:=(r_p_v1).small
   refine aH (v:=vi (p.2.length:Int)) (wy (congrArg Bool.not (dt q18_c1))) (λw' hw'=>aQ fg rfl (r_p_v1.bel hw')) (aH (v:=vp b13 0) (wy (congrArg Bool.not (dt q18_c1))) (λw' hw'=>aq rfl) (aH (v:=vp b13 0) (wy (congrArg Bool.not (dt q18_c1))) (λw' hw'=>aI rfl) (aH (v:=vp b13 0) (wy (congrArg Bool.not (dt q18_c1))) (λw' hw'=>a8 eo rfl rfl rfl rfl) (aH (v:=vp b13 1) (wy (congrArg Bool.not (dt q18_c1))) (λw' hw'=>a8 dY rfl rfl rfl rfl) ?_))))
   refine aH (v:=g_v) (wy (congrArg Bool.not (dt q18_c1))) (λw' hw'=>ab bO rfl (bx15.bel hw') rfl) ?_
   replace Rg:=Rg.cn ch16
   have len20:=(Rg).small
   refine aH (v:=vi (g.2.length:Int)) (wy (congrArg Bool.not (dt q18_c1))) (λw' hw'=>aQ fm rfl (Rg.bel hw')) (aH (v:=vb (!(decide ((p.2.length:Int)=(g.2.length:Int))))) (wy (congrArg Bool.not (dt q18_c1))) (λw' hw'=>c5 (m:=(p.2.length:Int)) (n:=(g.2.length:Int)) rfl rfl) (qv (vb (!(decide ((p.2.length:Int)=(g.2.length:Int))))) (λw' hw'=>aB rfl (congrArg Bool.not (dt q18_c1)) rfl) (bN ?_)))
   intro w21 hc22
   replace hc22:=ao hc22 g14
   by_cases p0_c1:(p.2.length:Int)=(g.2.length:Int)
   ·
    refine ag rfl (congrArg Bool.not (dt p0_c1)) (ak (a7 (a7 (a6 rfl (mv (vp b13 0) (lw (vp b13 0) (aI rfl) (lx (a8 eo rfl rfl rfl rfl) (lx (a8 ef rfl rfl rfl rfl) ?_))))))))
    replace bx15:=bx15.cn hc22
    refine lx (ab cI rfl bx15 rfl) ?_
    replace Rp:=Rp.cn hc22
    refine lx (aQ bS rfl Rp) (mi 0 (aa (am ?_)))
    refine aN (σ:=Nat×Value×(List bX)×aK) (λ⟨vS,FS_v,FS,gq⟩ f w=>aT w0 gq w/\f 0=vp b13 0/\f 39=p_v/\f 40=vi (p.1.length:Int)/\f 41=vi ↑vS/\Sl gq (is 0) w g_v g.2/\Sl gq (is 0) w p_v p.1/\Sl gq (is 0) w p_v1 p.2/\Bx gq (is 3) w b13 [vi g.1,g_v,p_v,p_v1,FS_v]/\Ow gq (is 7) (is 7) w FS_v FS/\(vS:Int)<=((p.1.length:Int):Int)/\(FS=bt (jc p) vS)) (λ⟨vS,FS_v,FS,gq⟩=>Int.toNat (((p.1.length:Int):Int)-(vS:Int))) (0,vn,[],g14) ?_ ?_
    have C23:=cg [] (ch2.n.seq (ch7.n.seq (ch12.n.seq (ch16.n.seq hc22.n))))
    · exact⟨bH.ca C23,rfl,rfl,rfl,rfl,Rg.cn hc22,Rp,r_p_v1.cn hc22,bx15,Ow.nil,by omega,by rfl⟩
    clear Rg Rp r_p_v1 bx15 bH
    rintro⟨vS,FS_v,FS,g26⟩ f24 w25 ⟨bH,zs0_c1,zs39_c1,zs40_c1,zs41_c1,Rg,Rp,r_p_v1,bx15,o_FS,hle_vS,haS⟩ back3_c1
    have halS:=nP haS
    refine a7 (a6 rfl (lx (aZ (m:=↑vS) (n:=(p.1.length:Int)) zs41_c1 zs40_c1) (aa (a7 ?_))))
    by_cases p3_c1:(vS:Int)<(p.1.length:Int)
    ·
     refine af rfl (dt p3_c1) (ak (a7 (am (a7 (a6 rfl (mz zs41_c1 (lx (ad (v:=p_v) (i:=↑vS) bS rfl zs39_c1 Rp zs41_c1 (by omega) (by omega)) (lw (vg [vi ((gI p.1 ↑vS).1),vi ((gI p.1 ↑vS).2)]) (aF (v:=p_v) (i:=↑vS) ah rfl Rp (by omega) (by omega) rfl) (lo (aS g26 (is 4) (4,0) rfl ah ?_))))))))))
     intro g30 w27 b29 ch28 bx31
     replace bx31:Bx g30 (is 4) w27 b29 [vi 0,vi 0]:=bx31
     refine ai (vS:Int) (lo (aw (cs':=[vi ((gI p.1 ↑vS).1),vi ((gI p.1 ↑vS).2)]) ah rfl rfl bx31 rfl nq (AllOne.all (.cons rfl (.cons rfl .nil))) rfl ?_))
     intro w32 ch33 bx34
     clear bx31
     refine aa (a7 (a6 rfl (lx (aj (ds:=[vi ((gI p.1 ↑vS).1),vi ((gI p.1 ↑vS).2)]) ah rfl bx34 rfl rfl) (lo (aG (α:=Pt) g30 (is 5) (is 5) (5,0) rfl [(gI p.1 ↑vS)] bS ah (by decide) (by decide) (vs:=[(0,vg [vi ((gI p.1 ↑vS).1),vi ((gI p.1 ↑vS).2)])]) rfl rfl (.cons rfl .nil) ?_)))))
     intro g35 w36 v37 ch38 o39
     refine lo (aO (v:=vb (decide (dy ([(gI p.1 ↑vS)])))) (aA (vals:=[v37]) Tryz.func62 fT fP rfl) (fO w36 ([(gI p.1 ↑vS)]) v37 (o39.flat).ro) ?_)
     intro w40 hb41
     replace hb41:=ao hb41 g35
     refine lx (bZ (b:=(decide (dy ([(gI p.1 ↑vS)])))) rfl) (aa ?_)
     by_cases p5_c1:(decide (dy ([(gI p.1 ↑vS)])))=true
     ·
      refine ag rfl (congrArg Bool.not p5_c1) (ak (al ?_))
      clear bx34 o39
      refine a6 rfl (lx (aM (m:=↑vS) (n:=1) zs41_c1 rfl (by omega)) (mi ((vS:Int)+1) (aa ?_)))
      have C42:=cg [4] (ch28.n.seq ((ch33.l rfl).seq (ch38.n.seq hb41.n)))
      refine back3_c1 (vS+1,FS_v,FS,g35) _ _ ⟨bH.ca C42,zs0_c1,zs39_c1,zs40_c1,rfl,Rg.ca C42,Rp.ca C42,r_p_v1.ca C42,bx15.ca C42,o_FS.ca C42,by omega,?_⟩ ?_
      · show FS=bt (jc p) (vS+1)
        exact n5 haS (u9 ‹_›)
      · show Int.toNat (((p.1.length:Int):Int)-((vS+1):Int))<Int.toNat (((p.1.length:Int):Int)-(vS:Int))
        omega
     refine af rfl (congrArg Bool.not (Bool.eq_false_iff.2 p5_c1)) ?_
     clear bx34 o39
     refine a6 rfl (mz zs0_c1 (mi ↑vS (lo (co (aA (vals:=[vp b13 0,vi 2,vi ↑vS,vi 0]) Tryz.func74 dC dB rfl) (au Tryz.func74 rfl nq ?_)))))
     have C43:=cg [4] (ch28.n.seq ((ch33.l rfl).seq (ch38.n.seq hb41.n)))
     replace Rg:=Rg.ca C43
     replace Rp:=Rp.ca C43
     replace r_p_v1:=r_p_v1.ca C43
     replace o_FS:=o_FS.ca C43
     refine a6 rfl (mv (vp b13 0) (mv (vp b13 0) (lw (vp b13 0) (aI rfl) (lx (a8 eo rfl rfl rfl rfl) ?_))))
     replace bx15:=bx15.ca C43
     refine lx (ab bP rfl bx15 rfl) (mi 2 (mi ↑vS (mi 0 (lw (vg [vi 2,vi ↑vS,vi 0]) (bw (vs:=[(0,vi 2),(1,vi ↑vS),(2,vi 0)]) rfl (by kernel_rfl)) (lo (aG (α:=bX) g35 (is 6) (is 6) (6,0) rfl [(2,(vS:Int),0)] eH bU (by decide) (by decide) (vs:=[(0,vg [vi 2,vi ↑vS,vi 0])]) rfl rfl (.cons rfl .nil) ?_))))))
     intro g44 w45 v46 ch47 o48
     refine lo ?_
     replace o_FS:=o_FS.cn ch47
     refine aV (α:=bX) (xs:=FS) (ys:=([(2,(vS:Int),0)])) g44 (J:=is 7) (S:=is 7) (7,0) rfl eH bU (by decide) rfl rfl rfl o_FS o48.flat (by decide) (by(simp;omega)) ?_
     intro g49 w50 v51 ch52 o53
     clear o_FS
     refine lw (vp b13 0) (aI rfl) (lx (a8 eo rfl rfl rfl rfl) (lo ?_))
     replace bx15:=(bx15.cn ch47).ce ch52
     refine bQ (cs':=[vi g.1,g_v,p_v,p_v1,v51]) bP rfl rfl bx15 (bK o53.flat) nq (bu o53.flat) rfl ?_
     intro w54 ch55 bx56
     clear bx15
     refine aa (cL (vs:=[]) Tryz.func74 .nil ?_)
     refine⟨vt [],rfl,?_⟩
     refine aa (al ?_)
     clear o48
     refine a6 rfl (lx (aM (m:=↑vS) (n:=1) zs41_c1 rfl (by omega)) (mi ((vS:Int)+1) (aa ?_)))
     have C57:=cg [3,4,7] (ch28.n.seq ((ch33.l rfl).seq (ch38.n.seq (hb41.n.seq (ch47.n.seq ((ch52.l rfl).seq (ch55.l rfl)))))))
     have C58:=cg [3,7] (ch47.n.seq ((ch52.l rfl).seq (ch55.l rfl)))
     refine back3_c1 (vS+1,v51,(FS++[(2,(vS:Int),0)]),g49) _ _ ⟨bH.ca C57,zs0_c1,zs39_c1,zs40_c1,rfl,Rg.ca C58,Rp.ca C58,r_p_v1.ca C58,bx56,o53.ce ch55,by omega,?_⟩ ?_
     · show(FS++[(2,(vS:Int),0)])=bt (jc p) (vS+1)
       exact lP haS (vE ‹_›)
     · show Int.toNat (((p.1.length:Int):Int)-((vS+1):Int))<Int.toNat (((p.1.length:Int):Int)-(vS:Int))
       omega
    refine ag rfl (df p3_c1) (aJ rfl (a7 (a6 rfl (mz zs0_c1 (lw (vp b13 0) (aI rfl) (lx (a8 eo rfl rfl rfl rfl) (lx (a8 ef rfl rfl rfl rfl) (lx (ab dw rfl bx15 rfl) (lx (aQ fg rfl r_p_v1) (mi 0 ?_))))))))))
    refine aa (am ?_)
    refine aN (σ:=Value×(List bX)×Nat×aK) (λ⟨GS_v,GS,eS,gq⟩ f w=>aT w0 gq w/\f 0=vp b13 0/\f 58=p_v1/\f 59=vi (p.2.length:Int)/\f 60=vi ↑eS/\Sl gq (is 0) w g_v g.2/\Sl gq (is 0) w p_v p.1/\Sl gq (is 0) w p_v1 p.2/\Bx gq (is 3) w b13 [vi g.1,g_v,p_v,p_v1,GS_v]/\Ow gq (is 7) (is 7) w GS_v GS/\(eS:Int)<=((p.2.length:Int):Int)/\(GS=bt (jc p) p.1.length++bt (mm p) eS)) (λ⟨GS_v,GS,eS,gq⟩=>Int.toNat (((p.2.length:Int):Int)-(eS:Int))) (FS_v,FS,0,g26) ?_ ?_
    · exact⟨bH,zs0_c1,rfl,rfl,rfl,Rg,Rp,r_p_v1,bx15,o_FS,by omega,by exact mg haS (by omega)⟩
    clear Rg Rp r_p_v1 bx15 o_FS bH
    rintro⟨GS_v,GS,eS,g61⟩ f59 w60 ⟨bH,zs0_c1,zs58_c1,zs59_c1,zs60_c1,Rg,Rp,r_p_v1,bx15,o_GS,hle_eS,hbS⟩ back9_c1
    have hblS:=nb hbS
    refine a7 (a6 rfl (lx (aZ (m:=↑eS) (n:=(p.2.length:Int)) zs60_c1 zs59_c1) (aa (a7 ?_))))
    by_cases p9_c1:(eS:Int)<(p.2.length:Int)
    ·
     refine af rfl (dt p9_c1) (ak (a7 (am (a7 (a6 rfl (mz zs60_c1 (lx (ad (v:=p_v1) (i:=↑eS) fg rfl zs58_c1 r_p_v1 zs60_c1 (by omega) (by omega)) ?_)))))))
     obtain⟨v62,cel63,r64⟩:=cA (r:=(eS:Int)) r_p_v1 (by omega) (by omega)
     refine lx (ba cI rfl cel63) (ai (eS:Int) (ma v62 (aa (a7 (a6 rfl (mv v62 ?_))))))
     have len65:=(r64).small
     refine lx (aQ bS rfl r64) (lx (aZ (m:=(List.length (gI p.2 ↑eS):Int)) (n:=2) rfl rfl) (mv (vb (decide ((List.length (gI p.2 ↑eS):Int)<2))) ?_))
     by_cases q68_c1:(List.length (gI p.2 ↑eS):Int)<2
     ·
      refine ae (wn (dt q68_c1)) (ae (wn (dt q68_c1)) (ae (wn (dt q68_c1)) (lw (vb true) (aD rfl (dt q68_c1) rfl) (aa (af rfl rfl ?_)))))
      clear r64
      refine a6 rfl (mz zs0_c1 (mi ↑eS (lo (co (aA (vals:=[vp b13 0,vi 3,vi ↑eS,vi 0]) Tryz.func74 dC dB rfl) (au Tryz.func74 rfl nq (a6 rfl (mv (vp b13 0) (mv (vp b13 0) (lw (vp b13 0) (aI rfl) ?_)))))))))
      refine lx (a8 eo rfl rfl rfl rfl) (lx (ab bP rfl bx15 rfl) (mi 3 (mi ↑eS (mi 0 (lw (vg [vi 3,vi ↑eS,vi 0]) (bw (vs:=[(0,vi 3),(1,vi ↑eS),(2,vi 0)]) rfl (by kernel_rfl)) (lo (aG (α:=bX) g61 (is 8) (is 8) (8,0) rfl [(3,(eS:Int),0)] eH bU (by decide) (by decide) (vs:=[(0,vg [vi 3,vi ↑eS,vi 0])]) rfl rfl (.cons rfl .nil) ?_)))))))
      intro g66 w67 v68 ch69 o70
      refine lo ?_
      replace o_GS:=o_GS.cn ch69
      refine aV (α:=bX) (xs:=GS) (ys:=([(3,(eS:Int),0)])) g66 (J:=is 7) (S:=is 7) (7,0) rfl eH bU (by decide) rfl rfl rfl o_GS o70.flat (by decide) (by(simp;omega)) ?_
      intro g71 w72 v73 ch74 o75
      clear o_GS
      refine lw (vp b13 0) (aI rfl) (lx (a8 eo rfl rfl rfl rfl) (lo ?_))
      replace bx15:=(bx15.cn ch69).ce ch74
      refine bQ (cs':=[vi g.1,g_v,p_v,p_v1,v73]) bP rfl rfl bx15 (bK o75.flat) nq (bu o75.flat) rfl ?_
      intro w76 ch77 bx78
      clear bx15
      refine aa (cL (vs:=[]) Tryz.func74 .nil ?_)
      refine⟨vt [],rfl,?_⟩
      refine aa (al ?_)
      clear o70
      refine a6 rfl (lx (aM (m:=↑eS) (n:=1) zs60_c1 rfl (by omega)) (mi ((eS:Int)+1) (aa ?_)))
      have C79:=cg [3,7] (ch69.n.seq ((ch74.l rfl).seq (ch77.l rfl)))
      refine back9_c1 (v73,(GS++[(3,(eS:Int),0)]),eS+1,g71) _ _ ⟨bH.ca C79,zs0_c1,zs58_c1,zs59_c1,rfl,Rg.ca C79,Rp.ca C79,r_p_v1.ca C79,bx78,o75.ce ch77,by omega,?_⟩ ?_
      · show(GS++[(3,(eS:Int),0)])=bt (jc p) p.1.length++bt (mm p) (eS+1)
        exact ew hbS (uB ‹_›)
      · show Int.toNat (((p.2.length:Int):Int)-((eS+1):Int))<Int.toNat (((p.2.length:Int):Int)-(eS:Int))
        omega
     refine lv (v62) (wy (df q68_c1)) (aq rfl) (bW (wy (df q68_c1)) (aO (v:=vb (decide (dy (gI p.2 ↑eS)))) (aA (vals:=[v62]) Tryz.func62 fT fP rfl) (fO w60 (gI p.2 ↑eS) v62 (r64).ro) ?_))
     intro w80 hb81
     replace hb81:=ao hb81 g61
     refine lv (vb (!(decide (dy (gI p.2 ↑eS))))) (wy (df q68_c1)) (bZ (b:=(decide (dy (gI p.2 ↑eS)))) rfl) (lw (vb (!(decide (dy (gI p.2 ↑eS))))) (aB rfl (df q68_c1) rfl) (aa ?_))
     by_cases p11_c1:(decide (dy (gI p.2 ↑eS)))=true
     ·
      refine ag rfl (congrArg Bool.not p11_c1) (ak (al ?_))
      clear r64
      refine a6 rfl (lx (aM (m:=↑eS) (n:=1) zs60_c1 rfl (by omega)) (mi ((eS:Int)+1) (aa ?_)))
      refine back9_c1 (GS_v,GS,eS+1,g61) _ _ ⟨bH.cn hb81,zs0_c1,zs58_c1,zs59_c1,rfl,Rg.cn hb81,Rp.cn hb81,r_p_v1.cn hb81,bx15.cn hb81,o_GS.cn hb81,by omega,?_⟩ ?_
      · show GS=bt (jc p) p.1.length++bt (mm p) (eS+1)
        exact ff hbS (uw ‹_› ‹_›)
      · show Int.toNat (((p.2.length:Int):Int)-((eS+1):Int))<Int.toNat (((p.2.length:Int):Int)-(eS:Int))
        omega
     refine af rfl (congrArg Bool.not (Bool.eq_false_iff.2 p11_c1)) ?_
     clear r64
     refine a6 rfl (mz zs0_c1 (mi ↑eS (lo (co (aA (vals:=[vp b13 0,vi 3,vi ↑eS,vi 0]) Tryz.func74 dC dB rfl) (au Tryz.func74 rfl nq ?_)))))
     replace Rg:=Rg.cn hb81
     replace Rp:=Rp.cn hb81
     replace r_p_v1:=r_p_v1.cn hb81
     replace o_GS:=o_GS.cn hb81
     refine a6 rfl (mv (vp b13 0) (mv (vp b13 0) (lw (vp b13 0) (aI rfl) (lx (a8 eo rfl rfl rfl rfl) ?_))))
     replace bx15:=bx15.cn hb81
     refine lx (ab bP rfl bx15 rfl) (mi 3 (mi ↑eS (mi 0 (lw (vg [vi 3,vi ↑eS,vi 0]) (bw (vs:=[(0,vi 3),(1,vi ↑eS),(2,vi 0)]) rfl (by kernel_rfl)) (lo (aG (α:=bX) g61 (is 9) (is 9) (9,0) rfl [(3,(eS:Int),0)] eH bU (by decide) (by decide) (vs:=[(0,vg [vi 3,vi ↑eS,vi 0])]) rfl rfl (.cons rfl .nil) ?_))))))
     intro g82 w83 v84 ch85 o86
     refine lo ?_
     replace o_GS:=o_GS.cn ch85
     refine aV (α:=bX) (xs:=GS) (ys:=([(3,(eS:Int),0)])) g82 (J:=is 7) (S:=is 7) (7,0) rfl eH bU (by decide) rfl rfl rfl o_GS o86.flat (by decide) (by(simp;omega)) ?_
     intro g87 w88 v89 ch90 o91
     clear o_GS
     refine lw (vp b13 0) (aI rfl) (lx (a8 eo rfl rfl rfl rfl) (lo ?_))
     replace bx15:=(bx15.cn ch85).ce ch90
     refine bQ (cs':=[vi g.1,g_v,p_v,p_v1,v89]) bP rfl rfl bx15 (bK o91.flat) nq (bu o91.flat) rfl ?_
     intro w92 ch93 bx94
     clear bx15
     refine aa (cL (vs:=[]) Tryz.func74 .nil ?_)
     refine⟨vt [],rfl,?_⟩
     refine aa (al ?_)
     clear o86
     refine a6 rfl (lx (aM (m:=↑eS) (n:=1) zs60_c1 rfl (by omega)) (mi ((eS:Int)+1) (aa ?_)))
     have C96:=cg [3,7] (ch85.n.seq ((ch90.l rfl).seq (ch93.l rfl)))
     have C95:=hb81.n.seq C96
     refine back9_c1 (v89,(GS++[(3,(eS:Int),0)]),eS+1,g87) _ _ ⟨bH.ca C95,zs0_c1,zs58_c1,zs59_c1,rfl,Rg.ca C96,Rp.ca C96,r_p_v1.ca C96,bx94,o91.ce ch93,by omega,?_⟩ ?_
     · show(GS++[(3,(eS:Int),0)])=bt (jc p) p.1.length++bt (mm p) (eS+1)
       exact ew hbS (ve ‹_›)
     · show Int.toNat (((p.2.length:Int):Int)-((eS+1):Int))<Int.toNat (((p.2.length:Int):Int)-(eS:Int))
       omega
    refine ag rfl (df p9_c1) (aJ rfl (cL (vs:=[]) Tryz.func36 .nil ?_))
    refine⟨(GS_v,GS,g61),rfl,bH,Rg,Rp,r_p_v1,bx15,o_GS,?_⟩
    show GS=bL g p
    exact u6 ‹_› ‹_› hbS (by omega)
   refine af rfl (congrArg Bool.not (df p0_c1)) (a7 (a6 rfl (mv (vp b13 0) (lo (co (aA (vals:=[vp b13 0,vi 1,vi 0,vi 0]) Tryz.func74 dC dB rfl) (au Tryz.func74 rfl nq ?_))))))
   replace Rg:=Rg.cn hc22
   replace Rp:=Rp.cn hc22
   replace r_p_v1:=r_p_v1.cn hc22
   refine a6 rfl (mv (vp b13 0) (mv (vp b13 0) (lw (vp b13 0) (aI rfl) (lx (a8 eo rfl rfl rfl rfl) ?_))))
   replace bx15:=bx15.cn hc22
   refine lx (ab bP rfl bx15 rfl) (mi 1 (mi 0 (mi 0 (lw (vg [vi 1,vi 0,vi 0]) (bw (vs:=[(0,vi 1),(1,vi 0),(2,vi 0)]) rfl (by kernel_rfl)) (lo (aG (α:=bX) g14 (is 10) (is 10) (10,0) rfl [(1,0,0)] eH bU (by decide) (by decide) (vs:=[(0,vg [vi 1,vi 0,vi 0])]) rfl rfl (.cons rfl .nil) ?_))))))
   intro g97 w98 v99 ch100 o101
   refine lo (aV (α:=bX) (xs:=([])) (ys:=([(1,0,0)])) g97 (J:=is 7) (S:=is 7) (7,0) rfl eH bU (by decide) rfl rfl rfl Ow.nil o101.flat (by decide) (by(simp;done)) ?_)
   intro g102 w103 v104 ch105 o106
   replace o106:Ow g102 (is 7) (is 7) w103 v104 ([(1,0,0)]:List bX):=o106
   refine lw (vp b13 0) (aI rfl) (lx (a8 eo rfl rfl rfl rfl) (lo ?_))
   replace bx15:=(bx15.cn ch100).ce ch105
   refine bQ (cs':=[vi g.1,g_v,p_v,p_v1,v104]) bP rfl rfl bx15 (bK o106.flat) nq (bu o106.flat) rfl ?_
   intro w107 ch108 bx109
   clear bx15
   refine aa (cL (vs:=[]) Tryz.func74 .nil ?_)
   refine⟨vt [],rfl,?_⟩
   refine aa (ar (vs:=[]) Tryz.func36 .nil ?_)
   have C111:=cg [3,7] (ch100.n.seq ((ch105.l rfl).seq (ch108.l rfl)))
   have C110:=ch2.n.seq (ch7.n.seq (ch12.n.seq (ch16.n.seq (hc22.n.seq C111))))
   replace bH:=bH.ca C110
   replace Rg:=Rg.ca C111
   replace Rp:=Rp.ca C111
   replace r_p_v1:=r_p_v1.ca C111
   replace o106:=o106.ce ch108
   refine⟨(v104,[(1,0,0)],g102),rfl,bH,Rg,Rp,r_p_v1,bx109,o106,?_⟩
   show([(1,0,0)])=bL g p
   exact uh ‹_›
  refine av (wn (congrArg Bool.not (df q18_c1))) (av (wn (congrArg Bool.not (df q18_c1))) (av (wn (congrArg Bool.not (df q18_c1))) (av (wn (congrArg Bool.not (df q18_c1))) (av (wn (congrArg Bool.not (df q18_c1))) (av (wn (congrArg Bool.not (df q18_c1))) (av (wn (congrArg Bool.not (df q18_c1))) (av (wn (congrArg Bool.not (df q18_c1))) (av (wn (congrArg Bool.not (df q18_c1))) (av (wn (congrArg Bool.not (df q18_c1))) ?_)))))))))
  refine av (wn (congrArg Bool.not (df q18_c1))) (av (wn (congrArg Bool.not (df q18_c1))) (av (wn (congrArg Bool.not (df q18_c1))) (qv (vb true) (λw' hw'=>aD rfl (congrArg Bool.not (df q18_c1)) rfl) (bN ?_))))
  intro w112 hc113
  replace hc113:=ao hc113 g14
  refine af rfl rfl (a7 (a6 rfl (mv (vp b13 0) (lo (co (aA (vals:=[vp b13 0,vi 1,vi 0,vi 0]) Tryz.func74 dC dB rfl) (au Tryz.func74 rfl nq ?_))))))
  replace Rg:=(Rg.cn ch16).cn hc113
  replace Rp:=Rp.cn hc113
  replace r_p_v1:=(r_p_v1.cn ch16).cn hc113
  refine a6 rfl (mv (vp b13 0) (mv (vp b13 0) (lw (vp b13 0) (aI rfl) (lx (a8 eo rfl rfl rfl rfl) ?_))))
  replace bx15:=bx15.cn hc113
  refine lx (ab bP rfl bx15 rfl) (mi 1 (mi 0 (mi 0 (lw (vg [vi 1,vi 0,vi 0]) (bw (vs:=[(0,vi 1),(1,vi 0),(2,vi 0)]) rfl (by kernel_rfl)) (lo (aG (α:=bX) g14 (is 11) (is 11) (11,0) rfl [(1,0,0)] eH bU (by decide) (by decide) (vs:=[(0,vg [vi 1,vi 0,vi 0])]) rfl rfl (.cons rfl .nil) ?_))))))
  intro g114 w115 v116 ch117 o118
  refine lo (aV (α:=bX) (xs:=([])) (ys:=([(1,0,0)])) g114 (J:=is 7) (S:=is 7) (7,0) rfl eH bU (by decide) rfl rfl rfl Ow.nil o118.flat (by decide) (by(simp;done)) ?_)
  intro g119 w120 v121 ch122 o123
  replace o123:Ow g119 (is 7) (is 7) w120 v121 ([(1,0,0)]:List bX):=o123
  refine lw (vp b13 0) (aI rfl) (lx (a8 eo rfl rfl rfl rfl) (lo ?_))
  replace bx15:=(bx15.cn ch117).ce ch122
  refine bQ (cs':=[vi g.1,g_v,p_v,p_v1,v121]) bP rfl rfl bx15 (bK o123.flat) nq (bu o123.flat) rfl ?_
  intro w124 ch125 bx126
  clear bx15
  refine aa (cL (vs:=[]) Tryz.func74 .nil ?_)
  refine⟨vt [],rfl,?_⟩
  refine aa (ar (vs:=[]) Tryz.func36 .nil ?_)
  have C128:=cg [3,7] (ch117.n.seq ((ch122.l rfl).seq (ch125.l rfl)))
  have C127:=ch2.n.seq (ch7.n.seq (ch12.n.seq (ch16.n.seq (hc113.n.seq C128))))
  replace bH:=bH.ca C127
  replace Rg:=Rg.ca C128
  replace Rp:=Rp.ca C128
  replace r_p_v1:=r_p_v1.ca C128
  replace o123:=o123.ce ch125
  refine⟨(v121,[(1,0,0)],g119),rfl,bH,Rg,Rp,r_p_v1,bx126,o123,?_⟩
  show([(1,0,0)])=bL g p
  exact u3 ‹_›
 clear Rg Rp r_p_v1 bx15 bH
 rintro⟨l_4_c1_v,l_4_c1,g130⟩ w129 ⟨bH,Rg,Rp,r_p_v1,bx15,o_l_4_c1,hsh⟩
 have hshl:=lG (p:=p) hmay
 rw[<-hsh] at hshl
 refine aa (a7 (a7 (a6 rfl (mv (vp b13 0) (lw (vp b13 0) (aI rfl) (lx (a8 eo rfl rfl rfl rfl) (lx (ab bP rfl bx15 rfl) ?_)))))))
 have len131:=(o_l_4_c1.flat).small
 refine lx (aQ eH rfl o_l_4_c1.flat) (lx (d8 (m:=(l_4_c1.length:Int)) (n:=0) rfl rfl) (aa ?_))
 by_cases p3:0<(l_4_c1.length:Int)
 ·
  refine af rfl (dt p3) (a7 (a6 rfl (mv (vp b13 0) (lw (vp b13 0) (aI rfl) (lx (a8 eo rfl rfl rfl rfl) (lx (ab bP rfl bx15 rfl) (ma l_4_c1_v (aa (ar (vs:=[l_4_c1_v]) Tryz.func28 (.tmp rfl .nil) ?_)))))))))
  have e0:(l_4_c1:List bX)=(bT g p):=by
    exact pc hsh ‹_›
  exact⟨(fin w0 g130 (λn=>if n=7 then 1 else 0),l_4_c1_v),(congrArg (a₁:=l_4_c1) (λ(z0:List bX)=>Ending.returned (l_4_c1_v)) e0),bH.fresh _,(e0▸(o_l_4_c1.glue (γ:=c0) (ren:=(λn=>if n=7 then 1 else 0)) (k:=1) bH.col rfl rfl))⟩
 obtain⟨hF0,hsn,hs⟩:=nc hsh p3
 have hs1:=hs.n
 have hs2:=hs.m
 refine ag rfl (df p3) (ak (a7 (a6 rfl (mv (vp b13 0) (lo (co (aA (vals:=[vp b13 0]) Tryz.func58 xE wo rfl) (au Tryz.func58 rfl nq (a7 (a6 rfl (bW rfl (pZ (α:=Int) g130 12 ?_)))))))))))
 intro g132 w133 v134 ch135 m136
 refine ma v134 (aa (a7 (a7 (a6 rfl (mv (vp b13 0) (lw (vp b13 0) (aI rfl) (lx (a8 eo rfl rfl rfl rfl) (lx (a8 ef rfl rfl rfl rfl) ?_))))))))
 replace bx15:=bx15.cn ch135
 refine lx (ab cI rfl bx15 rfl) ?_
 replace Rp:=Rp.cn ch135
 have len137:=(Rp).small
 refine lx (aQ bS rfl Rp) (mi 0 (aa (am ?_)))
 refine aN (σ:=Nat×(Pt->List Int)×aK) (λ⟨iP,first_,gq⟩ f w=>aT w0 gq w/\f 0=vp b13 0/\f 2=v134/\f 14=p_v/\f 15=vi (p.1.length:Int)/\f 16=vi ↑iP/\Sl gq (is 0) w g_v g.2/\Sl gq (is 0) w p_v p.1/\Sl gq (is 0) w p_v1 p.2/\Bx gq (is 3) w b13 [vi g.1,g_v,p_v,p_v1,l_4_c1_v]/\Ow gq (is 7) (is 7) w l_4_c1_v l_4_c1/\Ml gq 12 w v134 first_/\(iP:Int)<=((p.1.length:Int):Int)/\(first_=λq=>mr p.1 q iP)) (λ⟨iP,first_,gq⟩=>Int.toNat (((p.1.length:Int):Int)-(iP:Int))) (0,(λ_=>([]:List Int)),g132) ?_ ?_
 · exact⟨bH.cn ch135,rfl,rfl,rfl,rfl,rfl,Rg.cn ch135,Rp,r_p_v1.cn ch135,bx15,o_l_4_c1.cn ch135,m136,by omega,by rfl⟩
 clear Rg Rp r_p_v1 bx15 o_l_4_c1 m136 bH
 rintro⟨iP,first_,g140⟩ f138 w139 ⟨bH,zs0_c7,zs2_c7,zs14_c7,zs15_c7,zs16_c7,Rg,Rp,r_p_v1,bx15,o_l_4_c1,m136,hle_iP,haP⟩ back2_c7
 refine a7 (a6 rfl (lx (aZ (m:=↑iP) (n:=(p.1.length:Int)) zs16_c7 zs15_c7) (aa (a7 ?_))))
 by_cases p2_c7:(iP:Int)<(p.1.length:Int)
 ·
  refine af rfl (dt p2_c7) ?_
  have halP:(first_ (gI p.1 ↑iP)).length<=iP:=by rw[haP];exact qS _ _ _
  refine ak (a7 (am (a7 (a6 rfl (mz zs16_c7 (lx (ad (v:=p_v) (i:=↑iP) bS rfl zs14_c7 Rp zs16_c7 (by omega) (by omega)) (lw (vg [vi ((gI p.1 ↑iP).1),vi ((gI p.1 ↑iP).2)]) (aF (v:=p_v) (i:=↑iP) ah rfl Rp (by omega) (by omega) rfl) (lo (aS g140 (is 13) (13,0) rfl ah ?_)))))))))
  intro g144 w141 b143 ch142 bx145
  replace bx145:Bx g144 (is 13) w141 b143 [vi 0,vi 0]:=bx145
  refine ai (iP:Int) (lo (aw (cs':=[vi ((gI p.1 ↑iP).1),vi ((gI p.1 ↑iP).2)]) ah rfl rfl bx145 rfl nq (AllOne.all (.cons rfl (.cons rfl .nil))) rfl ?_))
  intro w146 ch147 bx148
  clear bx145
  refine aa (a6 rfl (mz zs2_c7 (lx (aj (ds:=[vi ((gI p.1 ↑iP).1),vi ((gI p.1 ↑iP).2)]) ah rfl bx148 rfl rfl) (mi ↑iP (lo (aG (α:=Int) g144 (is 14) (is 14) (14,0) rfl [(iP:Int)] cS az (by decide) (by decide) (vs:=[(0,vi ↑iP)]) rfl rfl (.cons rfl .nil) ?_))))))
  intro g149 w150 v151 ch152 o153
  refine lo ?_
  have C160:=cg [13] (ch142.n.seq ((ch147.l rfl).seq ch152.n))
  replace m136:=m136.ca C160
  refine pg (gI p.1 ↑iP) Am (oS cj rfl rfl rfl rfl (by decide+kernel) (by decide+kernel) U3 az (by kernel_rfl)) c4 rfl m136 rfl rfl ?_
  intro w154 s157 v158 ch155 m156 o159
  clear m136
  refine lx (b6 rfl rfl) (lo ?_)
  replace o153:=o153.chg ch155 (ed rfl) (ed rfl)
  refine aV (α:=Int) (xs:=(first_ (gI p.1 ↑iP))) (ys:=([(iP:Int)])) g149 (J:=row 12 (jf (gI p.1 ↑iP)+1)) (S:=row 12 (jf (gI p.1 ↑iP)+1)) (12,jf (gI p.1 ↑iP)+1) rfl cS az (by decide) rfl rfl rfl o159 o153.flat (by decide) (by(simp;omega)) ?_
  intro g161 w162 v163 ch164 o165
  have m166:=m156.rowchg ch164
  clear m156 o159
  refine lx (b6 rfl rfl) (lo (mo rfl m166 rfl rfl o165 ?_))
  intro w167 ch168 m169
  clear m166 o165
  refine aa (al ?_)
  clear bx148 o153
  refine a6 rfl (lx (aM (m:=↑iP) (n:=1) zs16_c7 rfl (by omega)) (mi ((iP:Int)+1) (aa ?_)))
  have C170:=cg [12,13] (ch142.n.seq ((ch147.l rfl).seq (ch152.n.seq ((ch155.lr rfl).seq ((ch164.lr rfl).seq (ch168.lr rfl))))))
  refine back2_c7 (iP+1,(λq=>if q=(gI p.1 ↑iP) then((first_ (gI p.1 ↑iP))++[(iP:Int)]) else first_ q),g161) _ _ ⟨bH.ca C170,zs0_c7,zs2_c7,zs14_c7,zs15_c7,rfl,Rg.ca C170,Rp.ca C170,r_p_v1.ca C170,bx15.ca C170,o_l_4_c1.ca C170,m169,by omega,?_⟩ ?_
  · show(λq=>if q=(gI p.1 ↑iP) then((first_ (gI p.1 ↑iP))++[(iP:Int)]) else first_ q)=λq=>mr p.1 q (iP+1)
    exact uf haP
  · show Int.toNat (((p.1.length:Int):Int)-((iP+1):Int))<Int.toNat (((p.1.length:Int):Int)-(iP:Int))
    omega
 refine ag rfl (df p2_c7) (aJ rfl (a7 (a6 rfl (mz zs0_c7 (lw (vp b13 0) (aI rfl) (lx (a8 eo rfl rfl rfl rfl) (lx (a8 ef rfl rfl rfl rfl) (lx (ab cI rfl bx15 rfl) (lx (aQ bS rfl Rp) (mi 0 ?_))))))))))
 refine aa (am ?_)
 refine aN (σ:=Value×(List bX)×Nat×aK) (λ⟨FP_v,FP,vP,gq⟩ f w=>aT w0 gq w/\f 0=vp b13 0/\f 2=v134/\f 34=p_v/\f 35=vi (p.1.length:Int)/\f 36=vi ↑vP/\Sl gq (is 0) w g_v g.2/\Sl gq (is 0) w p_v p.1/\Sl gq (is 0) w p_v1 p.2/\Bx gq (is 3) w b13 [vi g.1,g_v,p_v,p_v1,FP_v]/\Ml gq 12 w v134 first_/\Ow gq (is 7) (is 7) w FP_v FP/\(vP:Int)<=((p.1.length:Int):Int)/\(FP=bt (el p) vP)) (λ⟨FP_v,FP,vP,gq⟩=>Int.toNat (((p.1.length:Int):Int)-(vP:Int))) (l_4_c1_v,l_4_c1,0,g140) ?_ ?_
 · exact⟨bH,zs0_c7,zs2_c7,rfl,rfl,rfl,Rg,Rp,r_p_v1,bx15,m136,o_l_4_c1,by omega,by exact hF0⟩
 clear Rg Rp r_p_v1 bx15 o_l_4_c1 m136 bH
 rintro⟨FP_v,FP,vP,g173⟩ f171 w172 ⟨bH,zs0_c7,zs2_c7,zs34_c7,zs35_c7,zs36_c7,Rg,Rp,r_p_v1,bx15,m136,o_FP,hle_vP,hbP⟩ back7_c7
 refine a7 (a6 rfl (lx (aZ (m:=↑vP) (n:=(p.1.length:Int)) zs36_c7 zs35_c7) (aa (a7 ?_))))
 by_cases p7_c7:(vP:Int)<(p.1.length:Int)
 ·
  refine af rfl (dt p7_c7) ?_
  have holP:(first_ (gI p.1 ↑vP)).length<=iP:=by rw[haP];exact qS _ _ _
  refine ak (a7 (am (a7 (a6 rfl (mz zs36_c7 (lx (ad (v:=p_v) (i:=↑vP) bS rfl zs34_c7 Rp zs36_c7 (by omega) (by omega)) (lw (vg [vi ((gI p.1 ↑vP).1),vi ((gI p.1 ↑vP).2)]) (aF (v:=p_v) (i:=↑vP) ah rfl Rp (by omega) (by omega) rfl) (lo (aS g173 (is 15) (15,0) rfl ah ?_)))))))))
  intro g177 w174 b176 ch175 bx178
  replace bx178:Bx g177 (is 15) w174 b176 [vi 0,vi 0]:=bx178
  refine ai (vP:Int) (lo (aw (cs':=[vi ((gI p.1 ↑vP).1),vi ((gI p.1 ↑vP).2)]) ah rfl rfl bx178 rfl nq (AllOne.all (.cons rfl (.cons rfl .nil))) rfl ?_))
  intro w179 ch180 bx181
  clear bx178
  refine aa (a7 (a6 rfl (mz zs2_c7 (lx (aj (ds:=[vi ((gI p.1 ↑vP).1),vi ((gI p.1 ↑vP).2)]) ah rfl bx181 rfl rfl) ?_))))
  replace m136:=(m136.cn ch175).ce ch180
  obtain⟨F182,hF183,r184⟩:=zl m136 (gI p.1 ↑vP)
  refine lw ((F182 (gI p.1 ↑vP))) (td (gI p.1 ↑vP) Am (oS cj rfl rfl rfl rfl (by decide+kernel) (by decide+kernel) U3 az (by kernel_rfl)) c4 rfl hF183 rfl rfl) ?_
  have len185:=(r184).small
  refine lx (aQ cS rfl r184) (mi 0 (aa (am ?_)))
  clear bx181
  refine aN (σ:=Value×(List bX)×Nat×aK) (λ⟨GP_v,GP,qP,gq⟩ f w=>aT w0 gq w/\f 0=vp b13 0/\f 2=v134/\f 5=vi ↑vP/\f 34=p_v/\f 35=vi (p.1.length:Int)/\f 36=vi ↑vP/\f 43=(F182 (gI p.1 ↑vP))/\f 44=vi (List.length (first_ (gI p.1 ↑vP)):Int)/\f 45=vi ↑qP/\Sl gq (is 0) w g_v g.2/\Sl gq (is 0) w p_v p.1/\Sl gq (is 0) w p_v1 p.2/\Bx gq (is 3) w b13 [vi g.1,g_v,p_v,p_v1,GP_v]/\Ml gq 12 w v134 first_/\Sl gq (is 12) w (F182 (gI p.1 ↑vP)) (first_ (gI p.1 ↑vP))/\Ow gq (is 7) (is 7) w GP_v GP/\(qP:Int)<=((List.length (first_ (gI p.1 ↑vP)):Int):Int)/\(GP=bt (el p) vP++((first_ (gI p.1 ↑vP)).take qP).flatMap (ja vP))) (λ⟨GP_v,GP,qP,gq⟩=>Int.toNat (((List.length (first_ (gI p.1 ↑vP)):Int):Int)-(qP:Int))) (FP_v,FP,0,g177) ?_ ?_
  replace bH:=bH.cn ch175
  · exact⟨bH.ce ch180,zs0_c7,zs2_c7,rfl,zs34_c7,zs35_c7,zs36_c7,rfl,rfl,rfl,(Rg.cn ch175).ce ch180,(Rp.cn ch175).ce ch180,(r_p_v1.cn ch175).ce ch180,(bx15.cn ch175).ce ch180,m136,r184,(o_FP.cn ch175).ce ch180,by omega,by exact u7 hbP⟩
  clear Rg Rp r_p_v1 bx15 m136 o_FP r184 bH
  rintro⟨GP_v,GP,qP,g188⟩ f186 w187 ⟨bH,zs0_c7,zs2_c7,zs5_c7,zs34_c7,zs35_c7,zs36_c7,zs43_c7,zs44_c7,zs45_c7,Rg,Rp,r_p_v1,bx15,m136,r184,o_GP,hle_qP,hcP⟩ back10_c7
  have hclP:=wY (by omega) (by omega) hcP (by omega)
  refine a7 (a6 rfl (lx (aZ (m:=↑qP) (n:=(List.length (first_ (gI p.1 ↑vP)):Int)) zs45_c7 zs44_c7) (aa (a7 ?_))))
  by_cases p10_c7:(qP:Int)<(List.length (first_ (gI p.1 ↑vP)):Int)
  ·
   refine af rfl (dt p10_c7) (ak (a7 (am (a7 (a6 rfl (lx (ad (v:=(F182 (gI p.1 ↑vP))) (i:=↑qP) cS rfl zs43_c7 r184 zs45_c7 (by omega) (by omega)) (lx (bA (v:=(F182 (gI p.1 ↑vP))) (i:=↑qP) az rfl r184 (by omega) (by omega) (by decide) rfl) (ai (gI (first_ (gI p.1 ↑vP)) (qP:Int)) (aa (a7 (a6 rfl (mi (gI (first_ (gI p.1 ↑vP)) (qP:Int)) ?_))))))))))))
   refine mz zs5_c7 (lx (d8 (m:=(gI (first_ (gI p.1 ↑vP)) (qP:Int))) (n:=↑vP) rfl rfl) (aa ?_))
   by_cases p12_c7:(vP:Int)<(gI (first_ (gI p.1 ↑vP)) (qP:Int))
   ·
    refine af rfl (dt p12_c7) (a6 rfl (mz zs0_c7 (mz zs5_c7 (mi (gI (first_ (gI p.1 ↑vP)) (qP:Int)) (lo (co (aA (vals:=[vp b13 0,vi 4,vi ↑vP,vi (gI (first_ (gI p.1 ↑vP)) (qP:Int))]) Tryz.func74 dC dB rfl) (au Tryz.func74 rfl nq (a6 rfl (mv (vp b13 0) ?_)))))))))
    refine mv (vp b13 0) (lw (vp b13 0) (aI rfl) (lx (a8 eo rfl rfl rfl rfl) (lx (ab bP rfl bx15 rfl) (mi 4 (mi ↑vP (mi (gI (first_ (gI p.1 ↑vP)) (qP:Int)) (lw (vg [vi 4,vi ↑vP,vi (gI (first_ (gI p.1 ↑vP)) (qP:Int))]) (bw (vs:=[(0,vi 4),(1,vi ↑vP),(2,vi (gI (first_ (gI p.1 ↑vP)) (qP:Int)))]) rfl (by kernel_rfl)) (lo ?_))))))))
    refine aG (α:=bX) g188 (is 16) (is 16) (16,0) rfl [(4,(vP:Int),(gI (first_ (gI p.1 ↑vP)) (qP:Int)))] eH bU (by decide) (by decide) (vs:=[(0,vg [vi 4,vi ↑vP,vi (gI (first_ (gI p.1 ↑vP)) (qP:Int))])]) rfl rfl (.cons rfl .nil) ?_
    intro g189 w190 v191 ch192 o193
    refine lo ?_
    replace o_GP:=o_GP.cn ch192
    refine aV (α:=bX) (xs:=GP) (ys:=([(4,(vP:Int),(gI (first_ (gI p.1 ↑vP)) (qP:Int)))])) g189 (J:=is 7) (S:=is 7) (7,0) rfl eH bU (by decide) rfl rfl rfl o_GP o193.flat (by decide) (by(simp;omega)) ?_
    intro g194 w195 v196 ch197 o198
    clear o_GP
    refine lw (vp b13 0) (aI rfl) (lx (a8 eo rfl rfl rfl rfl) (lo ?_))
    replace bx15:=(bx15.cn ch192).ce ch197
    refine bQ (cs':=[vi g.1,g_v,p_v,p_v1,v196]) bP rfl rfl bx15 (bK o198.flat) nq (bu o198.flat) rfl ?_
    intro w199 ch200 bx201
    clear bx15
    refine aa (cL (vs:=[]) Tryz.func74 .nil ?_)
    refine⟨vt [],rfl,?_⟩
    refine aa (al ?_)
    clear o193
    refine a6 rfl (lx (aM (m:=↑qP) (n:=1) zs45_c7 rfl (by omega)) (mi ((qP:Int)+1) (aa ?_)))
    have C202:=cg [3,7] (ch192.n.seq ((ch197.l rfl).seq (ch200.l rfl)))
    refine back10_c7 (v196,(GP++[(4,(vP:Int),(gI (first_ (gI p.1 ↑vP)) (qP:Int)))]),qP+1,g194) _ _ ⟨bH.ca C202,zs0_c7,zs2_c7,zs5_c7,zs34_c7,zs35_c7,zs36_c7,zs43_c7,zs44_c7,rfl,Rg.ca C202,Rp.ca C202,r_p_v1.ca C202,bx201,m136.ca C202,r184.ca C202,o198.ce ch200,by omega,?_⟩ ?_
    · show(GP++[(4,(vP:Int),(gI (first_ (gI p.1 ↑vP)) (qP:Int)))])=bt (el p) vP++((first_ (gI p.1 ↑vP)).take (qP+1)).flatMap (ja vP)
      exact wC hcP ‹_› ‹_›
    · show Int.toNat (((List.length (first_ (gI p.1 ↑vP)):Int):Int)-((qP+1):Int))<Int.toNat (((List.length (first_ (gI p.1 ↑vP)):Int):Int)-(qP:Int))
      omega
   refine ag rfl (df p12_c7) (ak (al (a6 rfl (lx (aM (m:=↑qP) (n:=1) zs45_c7 rfl (by omega)) (mi ((qP:Int)+1) (aa ?_))))))
   refine back10_c7 (GP_v,GP,qP+1,g188) _ _ ⟨bH,zs0_c7,zs2_c7,zs5_c7,zs34_c7,zs35_c7,zs36_c7,zs43_c7,zs44_c7,rfl,Rg,Rp,r_p_v1,bx15,m136,r184,o_GP,by omega,?_⟩ ?_
   · show GP=bt (el p) vP++((first_ (gI p.1 ↑vP)).take (qP+1)).flatMap (ja vP)
     exact A1 hcP ‹_› ‹_›
   · show Int.toNat (((List.length (first_ (gI p.1 ↑vP)):Int):Int)-((qP+1):Int))<Int.toNat (((List.length (first_ (gI p.1 ↑vP)):Int):Int)-(qP:Int))
     omega
  refine ag rfl (df p10_c7) (aJ rfl (al ?_))
  clear r184
  refine a6 rfl (lx (aM (m:=↑vP) (n:=1) zs36_c7 rfl (by omega)) (mi ((vP:Int)+1) (aa ?_)))
  refine back7_c7 (GP_v,GP,vP+1,g188) _ _ ⟨bH,zs0_c7,zs2_c7,zs34_c7,zs35_c7,rfl,Rg,Rp,r_p_v1,bx15,m136,o_GP,by omega,?_⟩ ?_
  · show GP=bt (el p) (vP+1)
    exact tw haP (by omega) hcP ‹_›
  · show Int.toNat (((p.1.length:Int):Int)-((vP+1):Int))<Int.toNat (((p.1.length:Int):Int)-(vP:Int))
    omega
 refine ag rfl (df p7_c7) (aJ rfl (cL (vs:=[]) Tryz.func58 .nil ?_))
 refine⟨vt [],rfl,?_⟩
 refine aa (a7 (a7 ?_))
 clear m136
 refine a6 rfl (mv (vp b13 0) (lo (co (aA (vals:=[vp b13 0]) Tryz.func59 wP wQ rfl) (au Tryz.func59 rfl nq (a7 (a6 rfl (ma (vb false) (aa (a7 (a6 rfl (ma (vb true) (aa (a7 (a7 (a6 rfl ?_)))))))))))))))
 refine mv (vp b13 0) (lw (vp b13 0) (aI rfl) (lx (a8 eo rfl rfl rfl rfl) (lx (a8 ef rfl rfl rfl rfl) (lx (ab dw rfl bx15 rfl) ?_))))
 have len203:=(r_p_v1).small
 refine lx (aQ fg rfl r_p_v1) (mi 0 (aa (am ?_)))
 refine aN (σ:=Nat×Value×(List bX)×Bool×aK) (λ⟨eL,FL_v,FL,fine_,gq⟩ f w=>aT w0 gq w/\f 0=vp b13 0/\f 3=vb fine_/\f 15=p_v1/\f 16=vi (p.2.length:Int)/\f 17=vi ↑eL/\Sl gq (is 0) w g_v g.2/\Sl gq (is 0) w p_v p.1/\Sl gq (is 0) w p_v1 p.2/\Bx gq (is 3) w b13 [vi g.1,g_v,p_v,p_v1,FL_v]/\Ow gq (is 7) (is 7) w FL_v FL/\(eL:Int)<=((p.2.length:Int):Int)/\(FL=cw p++bt (cH g p) eL/\fine_=decide (bt (cH g p) eL=[]))) (λ⟨eL,FL_v,FL,fine_,gq⟩=>Int.toNat (((p.2.length:Int):Int)-(eL:Int))) (0,FP_v,FP,true,g173) ?_ ?_
 · exact⟨bH,rfl,rfl,rfl,rfl,rfl,Rg,Rp,r_p_v1,bx15,o_FP,by omega,by exact mK hbP (by omega)⟩
 clear Rg Rp r_p_v1 bx15 o_FP bH
 rintro⟨eL,FL_v,FL,fine_,g206⟩ f204 w205 ⟨bH,zs0_c9,zs3_c9,zs15_c9,zs16_c9,zs17_c9,Rg,Rp,r_p_v1,bx15,o_FL,hle_eL,hdL⟩ back3_c9
 have hdlL:=pE (by omega) (by omega) hdL.1
 refine a7 (a6 rfl (lx (aZ (m:=↑eL) (n:=(p.2.length:Int)) zs17_c9 zs16_c9) (aa (a7 ?_))))
 by_cases p3_c9:(eL:Int)<(p.2.length:Int)
 ·
  refine af rfl (dt p3_c9) ?_
  obtain⟨hl1L,hl2L,hl3L⟩:=hs.ln (eL:Int) (by omega) (by omega)
  obtain⟨⟨he1L,he2L⟩,he3L,he4L⟩:=iX (e:=(eL:Int)) hmay (by omega) (by omega)
  refine ak (a7 (am (a7 (a6 rfl (mz zs17_c9 (lx (ad (v:=p_v1) (i:=↑eL) fg rfl zs15_c9 r_p_v1 zs17_c9 (by omega) (by omega)) ?_))))))
  obtain⟨v207,cel208,r209⟩:=cA (r:=(eL:Int)) r_p_v1 (by omega) (by omega)
  refine lx (ba cI rfl cel208) (ai (eL:Int) (ma v207 (aa (a7 (a6 rfl (mz zs0_c9 (lw (vp b13 0) (aI rfl) (lx (a8 eo rfl rfl rfl rfl) (lx (a8 dY rfl rfl rfl rfl) (lx (ab bO rfl bx15 rfl) (mi ↑eL ?_)))))))))))
  refine lx (ad (v:=g_v) (i:=↑eL) fm rfl rfl Rg rfl (by omega) (by omega)) (lw (vg [vi ((gI g.2 ↑eL).1),vi ((gI g.2 ↑eL).2)]) (aF (v:=g_v) (i:=↑eL) dc rfl Rg (by omega) (by omega) rfl) (lo (aS g206 (is 17) (17,0) rfl dc ?_)))
  intro g213 w210 b212 ch211 bx214
  replace bx214:Bx g213 (is 17) w210 b212 [vi 0,vi 0]:=bx214
  refine lo (aw (cs':=[vi ((gI g.2 ↑eL).1),vi ((gI g.2 ↑eL).2)]) dc rfl rfl bx214 rfl nq (AllOne.all (.cons rfl (.cons rfl .nil))) rfl ?_)
  intro w215 ch216 bx217
  clear bx214
  refine aa (a7 (bz g213 rfl k8 (by kernel_rfl) ?_))
  intro w219 ch218
  refine qm v207 ?_
  have C220:=cg [17] (ch211.n.seq ((ch216.l rfl).seq ch218.n))
  replace r209:=r209.ca C220
  refine qx (λw' hw'=>ad (v:=v207) (i:=0) bS rfl rfl (r209.bel hw') rfl (by omega) (by omega)) (qv (vg [vi ((gI (gI p.2 ↑eL) 0).1),vi ((gI (gI p.2 ↑eL) 0).2)]) (λw' hw'=>aF (v:=v207) (i:=0) ah rfl (r209.bel hw') (by omega) (by omega) rfl) (qz zs0_c9 (qv (vp b13 0) (λw' hw'=>aI rfl) (qx (λw' hw'=>a8 eo rfl rfl rfl rfl) (qx (λw' hw'=>a8 ef rfl rfl rfl rfl) ?_)))))
  replace bx15:=bx15.ca C220
  refine qx (λw' hw'=>ab cI rfl (bx15.bel hw') rfl) (qx (λw' hw'=>dU jC rfl rfl rfl (by decide) (by decide) rfl) ?_)
  replace bx217:=bx217.cn ch218
  refine qx (λw' hw'=>ab az rfl (bx217.bel hw') rfl) ?_
  replace Rp:=Rp.ca C220
  refine qx (λw' hw'=>ad (v:=p_v) (i:=(gI g.2 ↑eL).1) bS rfl rfl (Rp.bel hw') rfl (by omega) (by omega)) (qv (vg [vi ((gI p.1 ((gI g.2 ↑eL).1)).1),vi ((gI p.1 ((gI g.2 ↑eL).1)).2)]) (λw' hw'=>aF (v:=p_v) (i:=(gI g.2 ↑eL).1) ah rfl (Rp.bel hw') (by omega) (by omega) rfl) ?_)
  refine qv (vb (!(decide ((gI (gI p.2 ↑eL) 0)=(gI p.1 ((gI g.2 ↑eL).1)))))) (λw' hw'=>de (bs:=[decide (((gI (gI p.2 ↑eL) 0).1)=((gI p.1 ((gI g.2 ↑eL).1)).1)),decide (((gI (gI p.2 ↑eL) 0).2)=((gI p.1 ((gI g.2 ↑eL).1)).2))]) cj (by kernel_rfl) (by kernel_rfl) rfl rfl (.cons (by decide+kernel) az rfl rfl (.int U3) (.cons (by decide+kernel) az rfl rfl (.int U3) .nil)) (by simp[Prod.ext_iff,Bool.decide_and,Bool.and_assoc])) (qm (vb (!(decide ((gI (gI p.2 ↑eL) 0)=(gI p.1 ((gI g.2 ↑eL).1)))))) ?_)
  by_cases q43_c9:(gI (gI p.2 ↑eL) 0)=(gI p.1 ((gI g.2 ↑eL).1))
  ·
   refine aH (v:=v207) (wy (congrArg Bool.not (dt q43_c9))) (λw' hw'=>aq rfl) (aH (v:=v207) (wy (congrArg Bool.not (dt q43_c9))) (λw' hw'=>aq rfl) ?_)
   have len221:=(r209).small
   refine aH (v:=vi (List.length (gI p.2 ↑eL):Int)) (wy (congrArg Bool.not (dt q43_c9))) (λw' hw'=>aQ bS rfl (r209.bel hw')) (aH (v:=vi ((List.length (gI p.2 ↑eL):Int)-1)) (wy (congrArg Bool.not (dt q43_c9))) (λw' hw'=>c3 (m:=(List.length (gI p.2 ↑eL):Int)) (n:=1) rfl rfl (by omega)) (aH (v:=Value.pointer (some (aR v207 2 (Int.toNat ((List.length (gI p.2 ↑eL):Int)-1))))) (wy (congrArg Bool.not (dt q43_c9))) (λw' hw'=>ad (α:=Pt) (xs:=gI p.2 ↑eL) (v:=v207) (i:=(List.length (gI p.2 ↑eL):Int)-1) bS rfl rfl (r209.bel hw') rfl (by omega) (by omega)) ?_))
   refine aH (v:=vg [vi ((gI (gI p.2 ↑eL) ((List.length (gI p.2 ↑eL):Int)-1)).1),vi ((gI (gI p.2 ↑eL) ((List.length (gI p.2 ↑eL):Int)-1)).2)]) (wy (congrArg Bool.not (dt q43_c9))) (λw' hw'=>aF (α:=Pt) (xs:=gI p.2 ↑eL) (v:=v207) (i:=(List.length (gI p.2 ↑eL):Int)-1) ah rfl (r209.bel hw') (by omega) (by omega) rfl) (aH (v:=vp b13 0) (wy (congrArg Bool.not (dt q43_c9))) (λw' hw'=>aq zs0_c9) (aH (v:=vp b13 0) (wy (congrArg Bool.not (dt q43_c9))) (λw' hw'=>aI rfl) ?_))
   refine aH (v:=vp b13 2) (wy (congrArg Bool.not (dt q43_c9))) (λw' hw'=>a8 eo rfl rfl rfl rfl) (aH (v:=vp b13 2) (wy (congrArg Bool.not (dt q43_c9))) (λw' hw'=>a8 ef rfl rfl rfl rfl) (aH (v:=p_v) (wy (congrArg Bool.not (dt q43_c9))) (λw' hw'=>ab cI rfl (bx15.bel hw') rfl) (aH (v:=vp b212 1) (wy (congrArg Bool.not (dt q43_c9))) (λw' hw'=>dU jC rfl rfl rfl (by decide) (by decide) rfl) (aH (v:=vi ((gI g.2 ↑eL).2)) (wy (congrArg Bool.not (dt q43_c9))) (λw' hw'=>ab az rfl (bx217.bel hw') rfl) ?_))))
   refine aH (v:=Value.pointer (some (aR p_v 2 (Int.toNat ((gI g.2 ↑eL).2))))) (wy (congrArg Bool.not (dt q43_c9))) (λw' hw'=>ad (α:=Pt) (xs:=p.1) (v:=p_v) (i:=(gI g.2 ↑eL).2) bS rfl rfl (Rp.bel hw') rfl (by omega) (by omega)) (aH (v:=vg [vi ((gI p.1 ((gI g.2 ↑eL).2)).1),vi ((gI p.1 ((gI g.2 ↑eL).2)).2)]) (wy (congrArg Bool.not (dt q43_c9))) (λw' hw'=>aF (α:=Pt) (xs:=p.1) (v:=p_v) (i:=(gI g.2 ↑eL).2) ah rfl (Rp.bel hw') (by omega) (by omega) rfl) ?_)
   refine aH (v:=vb (!(decide ((gI (gI p.2 ↑eL) ((List.length (gI p.2 ↑eL):Int)-1))=(gI p.1 ((gI g.2 ↑eL).2)))))) (wy (congrArg Bool.not (dt q43_c9))) (λw' hw'=>de (bs:=[decide (((gI (gI p.2 ↑eL) ((List.length (gI p.2 ↑eL):Int)-1)).1)=((gI p.1 ((gI g.2 ↑eL).2)).1)),decide (((gI (gI p.2 ↑eL) ((List.length (gI p.2 ↑eL):Int)-1)).2)=((gI p.1 ((gI g.2 ↑eL).2)).2))]) cj (by kernel_rfl) (by kernel_rfl) rfl rfl (.cons (by decide+kernel) az rfl rfl (.int U3) (.cons (by decide+kernel) az rfl rfl (.int U3) .nil)) (by simp[Prod.ext_iff,Bool.decide_and,Bool.and_assoc])) ?_
   refine qv (vb (!(decide ((gI (gI p.2 ↑eL) ((List.length (gI p.2 ↑eL):Int)-1))=(gI p.1 ((gI g.2 ↑eL).2)))))) (λw' hw'=>aB rfl (congrArg Bool.not (dt q43_c9)) rfl) (bN ?_)
   intro w222 hc223
   replace hc223:=ao hc223 g213
   by_cases p6_c9:(gI (gI p.2 ↑eL) ((List.length (gI p.2 ↑eL):Int)-1))=(gI p.1 ((gI g.2 ↑eL).2))
   ·
    refine ag rfl (congrArg Bool.not (dt p6_c9)) (ak (al ?_))
    clear r209 bx217
    refine a6 rfl (lx (aM (m:=↑eL) (n:=1) zs17_c9 rfl (by omega)) (mi ((eL:Int)+1) (aa ?_)))
    have C224:=cg [17] (ch211.n.seq ((ch216.l rfl).seq (ch218.n.seq hc223.n)))
    refine back3_c9 (eL+1,FL_v,FL,fine_,g213) _ _ ⟨bH.ca C224,zs0_c9,zs3_c9,zs15_c9,zs16_c9,rfl,Rg.ca C224,Rp.cn hc223,r_p_v1.ca C224,bx15.cn hc223,o_FL.ca C224,by omega,?_⟩ ?_
    · show FL=cw p++bt (cH g p) (eL+1)/\fine_=decide (bt (cH g p) (eL+1)=[])
      exact rI hdL ⟨by assumption,by assumption⟩
    · show Int.toNat (((p.2.length:Int):Int)-((eL+1):Int))<Int.toNat (((p.2.length:Int):Int)-(eL:Int))
      omega
   refine af rfl (congrArg Bool.not (df p6_c9)) (a7 ?_)
   clear r209 bx217
   refine a6 rfl (mz zs0_c9 (mi ↑eL (lo (co (aA (vals:=[vp b13 0,vi 5,vi ↑eL,vi 0]) Tryz.func74 dC dB rfl) (au Tryz.func74 rfl nq ?_)))))
   have C225:=cg [17] (ch211.n.seq ((ch216.l rfl).seq (ch218.n.seq hc223.n)))
   replace Rg:=Rg.ca C225
   replace Rp:=Rp.cn hc223
   replace r_p_v1:=r_p_v1.ca C225
   replace o_FL:=o_FL.ca C225
   refine a6 rfl (mv (vp b13 0) (mv (vp b13 0) (lw (vp b13 0) (aI rfl) (lx (a8 eo rfl rfl rfl rfl) ?_))))
   replace bx15:=bx15.cn hc223
   refine lx (ab bP rfl bx15 rfl) (mi 5 (mi ↑eL (mi 0 (lw (vg [vi 5,vi ↑eL,vi 0]) (bw (vs:=[(0,vi 5),(1,vi ↑eL),(2,vi 0)]) rfl (by kernel_rfl)) (lo (aG (α:=bX) g213 (is 18) (is 18) (18,0) rfl [(5,(eL:Int),0)] eH bU (by decide) (by decide) (vs:=[(0,vg [vi 5,vi ↑eL,vi 0])]) rfl rfl (.cons rfl .nil) ?_))))))
   intro g226 w227 v228 ch229 o230
   refine lo ?_
   replace o_FL:=o_FL.cn ch229
   refine aV (α:=bX) (xs:=FL) (ys:=([(5,(eL:Int),0)])) g226 (J:=is 7) (S:=is 7) (7,0) rfl eH bU (by decide) rfl rfl rfl o_FL o230.flat (by decide) (by(simp;omega)) ?_
   intro g231 w232 v233 ch234 o235
   clear o_FL
   refine lw (vp b13 0) (aI rfl) (lx (a8 eo rfl rfl rfl rfl) (lo ?_))
   replace bx15:=(bx15.cn ch229).ce ch234
   refine bQ (cs':=[vi g.1,g_v,p_v,p_v1,v233]) bP rfl rfl bx15 (bK o235.flat) nq (bu o235.flat) rfl ?_
   intro w236 ch237 bx238
   clear bx15
   refine aa (cL (vs:=[]) Tryz.func74 .nil ?_)
   refine⟨vt [],rfl,?_⟩
   refine aa ?_
   clear o230
   refine a6 rfl (ma (vb false) (aa (al (a6 rfl (lx (aM (m:=↑eL) (n:=1) zs17_c9 rfl (by omega)) (mi ((eL:Int)+1) (aa ?_)))))))
   have C239:=cg [3,7,17] (ch211.n.seq ((ch216.l rfl).seq (ch218.n.seq (hc223.n.seq (ch229.n.seq ((ch234.l rfl).seq (ch237.l rfl)))))))
   have C240:=cg [3,7] (ch229.n.seq ((ch234.l rfl).seq (ch237.l rfl)))
   refine back3_c9 (eL+1,v233,(FL++[(5,(eL:Int),0)]),false,g231) _ _ ⟨bH.ca C239,zs0_c9,rfl,zs15_c9,zs16_c9,rfl,Rg.ca C240,Rp.ca C240,r_p_v1.ca C240,bx238,o235.ce ch237,by omega,?_⟩ ?_
   · show(FL++[(5,(eL:Int),0)])=cw p++bt (cH g p) (eL+1)/\false=decide (bt (cH g p) (eL+1)=[])
     exact jG hdL (λc=>absurd c.2 ‹_›)
   · show Int.toNat (((p.2.length:Int):Int)-((eL+1):Int))<Int.toNat (((p.2.length:Int):Int)-(eL:Int))
     omega
  refine av (wn (congrArg Bool.not (df q43_c9))) (av (wn (congrArg Bool.not (df q43_c9))) (av (wn (congrArg Bool.not (df q43_c9))) (av (wn (congrArg Bool.not (df q43_c9))) (av (wn (congrArg Bool.not (df q43_c9))) (av (wn (congrArg Bool.not (df q43_c9))) (av (wn (congrArg Bool.not (df q43_c9))) (av (wn (congrArg Bool.not (df q43_c9))) (av (wn (congrArg Bool.not (df q43_c9))) (av (wn (congrArg Bool.not (df q43_c9))) ?_)))))))))
  refine av (wn (congrArg Bool.not (df q43_c9))) (av (wn (congrArg Bool.not (df q43_c9))) (av (wn (congrArg Bool.not (df q43_c9))) (av (wn (congrArg Bool.not (df q43_c9))) (av (wn (congrArg Bool.not (df q43_c9))) (av (wn (congrArg Bool.not (df q43_c9))) (qv (vb true) (λw' hw'=>aD rfl (congrArg Bool.not (df q43_c9)) rfl) (bN ?_)))))))
  intro w241 hc242
  replace hc242:=ao hc242 g213
  refine af rfl rfl (a7 ?_)
  clear r209 bx217
  refine a6 rfl (mz zs0_c9 (mi ↑eL (lo (co (aA (vals:=[vp b13 0,vi 5,vi ↑eL,vi 0]) Tryz.func74 dC dB rfl) (au Tryz.func74 rfl nq ?_)))))
  have C243:=cg [17] (ch211.n.seq ((ch216.l rfl).seq (ch218.n.seq hc242.n)))
  replace Rg:=Rg.ca C243
  replace Rp:=Rp.cn hc242
  replace r_p_v1:=r_p_v1.ca C243
  replace o_FL:=o_FL.ca C243
  refine a6 rfl (mv (vp b13 0) (mv (vp b13 0) (lw (vp b13 0) (aI rfl) (lx (a8 eo rfl rfl rfl rfl) ?_))))
  replace bx15:=bx15.cn hc242
  refine lx (ab bP rfl bx15 rfl) (mi 5 (mi ↑eL (mi 0 (lw (vg [vi 5,vi ↑eL,vi 0]) (bw (vs:=[(0,vi 5),(1,vi ↑eL),(2,vi 0)]) rfl (by kernel_rfl)) (lo (aG (α:=bX) g213 (is 19) (is 19) (19,0) rfl [(5,(eL:Int),0)] eH bU (by decide) (by decide) (vs:=[(0,vg [vi 5,vi ↑eL,vi 0])]) rfl rfl (.cons rfl .nil) ?_))))))
  intro g244 w245 v246 ch247 o248
  refine lo ?_
  replace o_FL:=o_FL.cn ch247
  refine aV (α:=bX) (xs:=FL) (ys:=([(5,(eL:Int),0)])) g244 (J:=is 7) (S:=is 7) (7,0) rfl eH bU (by decide) rfl rfl rfl o_FL o248.flat (by decide) (by(simp;omega)) ?_
  intro g249 w250 v251 ch252 o253
  clear o_FL
  refine lw (vp b13 0) (aI rfl) (lx (a8 eo rfl rfl rfl rfl) (lo ?_))
  replace bx15:=(bx15.cn ch247).ce ch252
  refine bQ (cs':=[vi g.1,g_v,p_v,p_v1,v251]) bP rfl rfl bx15 (bK o253.flat) nq (bu o253.flat) rfl ?_
  intro w254 ch255 bx256
  clear bx15
  refine aa (cL (vs:=[]) Tryz.func74 .nil ?_)
  refine⟨vt [],rfl,?_⟩
  refine aa ?_
  clear o248
  refine a6 rfl (ma (vb false) (aa (al (a6 rfl (lx (aM (m:=↑eL) (n:=1) zs17_c9 rfl (by omega)) (mi ((eL:Int)+1) (aa ?_)))))))
  have C257:=cg [3,7,17] (ch211.n.seq ((ch216.l rfl).seq (ch218.n.seq (hc242.n.seq (ch247.n.seq ((ch252.l rfl).seq (ch255.l rfl)))))))
  have C258:=cg [3,7] (ch247.n.seq ((ch252.l rfl).seq (ch255.l rfl)))
  refine back3_c9 (eL+1,v251,(FL++[(5,(eL:Int),0)]),false,g249) _ _ ⟨bH.ca C257,zs0_c9,rfl,zs15_c9,zs16_c9,rfl,Rg.ca C258,Rp.ca C258,r_p_v1.ca C258,bx256,o253.ce ch255,by omega,?_⟩ ?_
  · show(FL++[(5,(eL:Int),0)])=cw p++bt (cH g p) (eL+1)/\false=decide (bt (cH g p) (eL+1)=[])
    exact jG hdL (λc=>absurd c.1 ‹_›)
  · show Int.toNat (((p.2.length:Int):Int)-((eL+1):Int))<Int.toNat (((p.2.length:Int):Int)-(eL:Int))
    omega
 refine ag rfl (df p3_c9) (aJ rfl (a7 (a7 (a6 rfl (mz zs0_c9 (lw (vp b13 0) (aI rfl) (lx (a8 eo rfl rfl rfl rfl) (lx (a8 ef rfl rfl rfl rfl) (lx (ab dw rfl bx15 rfl) (lx (aQ fg rfl r_p_v1) (mi 0 ?_)))))))))))
 refine aa (am ?_)
 refine aN (σ:=Nat×Value×(List bX)×Bool×aK) (λ⟨dL,GL_v,GL,finL,gq⟩ f w=>aT w0 gq w/\f 0=vp b13 0/\f 3=vb finL/\f 69=p_v1/\f 70=vi (p.2.length:Int)/\f 71=vi ↑dL/\Sl gq (is 0) w g_v g.2/\Sl gq (is 0) w p_v p.1/\Sl gq (is 0) w p_v1 p.2/\Bx gq (is 3) w b13 [vi g.1,g_v,p_v,p_v1,GL_v]/\Ow gq (is 7) (is 7) w GL_v GL/\(dL:Int)<=((p.2.length:Int):Int)/\(GL=cw p++(bt (cH g p) p.2.length++bt (eZ p) dL)/\finL=decide (bt (cH g p) p.2.length++bt (eZ p) dL=[]))) (λ⟨dL,GL_v,GL,finL,gq⟩=>Int.toNat (((p.2.length:Int):Int)-(dL:Int))) (0,FL_v,FL,fine_,g206) ?_ ?_
 · exact⟨bH,zs0_c9,zs3_c9,rfl,rfl,rfl,Rg,Rp,r_p_v1,bx15,o_FL,by omega,by exact oD hdL (by omega)⟩
 clear Rg Rp r_p_v1 bx15 o_FL bH
 rintro⟨dL,GL_v,GL,finL,g261⟩ f259 w260 ⟨bH,zs0_c9,zs3_c9,zs69_c9,zs70_c9,zs71_c9,Rg,Rp,r_p_v1,bx15,o_GL,hle_dL,hfL⟩ back11_c9
 have hflL:=mY (by omega) (by omega) (by omega) hfL.1
 refine a7 (a6 rfl (lx (aZ (m:=↑dL) (n:=(p.2.length:Int)) zs71_c9 zs70_c9) (aa (a7 ?_))))
 by_cases p11_c9:(dL:Int)<(p.2.length:Int)
 ·
  refine af rfl (dt p11_c9) ?_
  obtain⟨hl1L,hl2L,hl3L⟩:=hs.ln (dL:Int) (by omega) (by omega)
  have hseL:=dO (ps:=gI p.2 ↑dL) (by omega) ⟨hl2L,hl3L⟩
  have hsfL:(ex (gI p.2 ↑dL)).1=decide (fp (gI p.2 ↑dL)):=congrArg Prod.fst hseL
  refine ak (a7 (am (a7 (a6 rfl (mz zs71_c9 (lx (ad (v:=p_v1) (i:=↑dL) fg rfl zs69_c9 r_p_v1 zs71_c9 (by omega) (by omega)) ?_))))))
  obtain⟨v262,cel263,r264⟩:=cA (r:=(dL:Int)) r_p_v1 (by omega) (by omega)
  refine lx (ba cI rfl cel263) (ai (dL:Int) (ma v262 (aa (a7 (a6 rfl (mv v262 (lo (aO (v:=vt [vb ((ex (gI p.2 ↑dL)).1),vi ((ex (gI p.2 ↑dL)).2)]) (aA (vals:=[v262]) Tryz.func83 yd wG rfl) (tc w260 (gI p.2 ↑dL) v262 (r264).ro (by omega)) ?_))))))))
  intro w265 hb266
  replace hb266:=ao hb266 g261
  refine mv (vt [vb ((ex (gI p.2 ↑dL)).1),vi ((ex (gI p.2 ↑dL)).2)]) (lx (b6 rfl rfl) (lx (b6 rfl rfl) (ma (vb ((ex (gI p.2 ↑dL)).1)) (ai ((ex (gI p.2 ↑dL)).2) (aa (a7 ?_))))))
  clear r264
  refine a6 rfl (mv (vb ((ex (gI p.2 ↑dL)).1)) (lx (bZ (b:=((ex (gI p.2 ↑dL)).1)) rfl) (aa ?_)))
  by_cases p14_c9:((ex (gI p.2 ↑dL)).1)=true
  ·
   refine ag rfl (congrArg Bool.not p14_c9) (ak (al (a6 rfl (lx (aM (m:=↑dL) (n:=1) zs71_c9 rfl (by omega)) (mi ((dL:Int)+1) (aa ?_))))))
   refine back11_c9 (dL+1,GL_v,GL,finL,g261) _ _ ⟨bH.cn hb266,zs0_c9,zs3_c9,zs69_c9,zs70_c9,rfl,Rg.cn hb266,Rp.cn hb266,r_p_v1.cn hb266,bx15.cn hb266,o_GL.cn hb266,by omega,?_⟩ ?_
   · show GL=cw p++(bt (cH g p) p.2.length++bt (eZ p) (dL+1))/\finL=decide (bt (cH g p) p.2.length++bt (eZ p) (dL+1)=[])
     exact sj hfL (of_decide_eq_true (hsfL.symm.trans ‹_›))
   · show Int.toNat (((p.2.length:Int):Int)-((dL+1):Int))<Int.toNat (((p.2.length:Int):Int)-(dL:Int))
     omega
  refine af rfl (congrArg Bool.not (Bool.eq_false_iff.2 p14_c9)) (a7 (a6 rfl (mz zs0_c9 (mi ↑dL (lo (co (aA (vals:=[vp b13 0,vi 6,vi ↑dL,vi 0]) Tryz.func74 dC dB rfl) (au Tryz.func74 rfl nq ?_)))))))
  replace Rg:=Rg.cn hb266
  replace Rp:=Rp.cn hb266
  replace r_p_v1:=r_p_v1.cn hb266
  replace o_GL:=o_GL.cn hb266
  refine a6 rfl (mv (vp b13 0) (mv (vp b13 0) (lw (vp b13 0) (aI rfl) (lx (a8 eo rfl rfl rfl rfl) ?_))))
  replace bx15:=bx15.cn hb266
  refine lx (ab bP rfl bx15 rfl) (mi 6 (mi ↑dL (mi 0 (lw (vg [vi 6,vi ↑dL,vi 0]) (bw (vs:=[(0,vi 6),(1,vi ↑dL),(2,vi 0)]) rfl (by kernel_rfl)) (lo (aG (α:=bX) g261 (is 20) (is 20) (20,0) rfl [(6,(dL:Int),0)] eH bU (by decide) (by decide) (vs:=[(0,vg [vi 6,vi ↑dL,vi 0])]) rfl rfl (.cons rfl .nil) ?_))))))
  intro g267 w268 v269 ch270 o271
  refine lo ?_
  replace o_GL:=o_GL.cn ch270
  refine aV (α:=bX) (xs:=GL) (ys:=([(6,(dL:Int),0)])) g267 (J:=is 7) (S:=is 7) (7,0) rfl eH bU (by decide) rfl rfl rfl o_GL o271.flat (by decide) (by(simp;omega)) ?_
  intro g272 w273 v274 ch275 o276
  clear o_GL
  refine lw (vp b13 0) (aI rfl) (lx (a8 eo rfl rfl rfl rfl) (lo ?_))
  replace bx15:=(bx15.cn ch270).ce ch275
  refine bQ (cs':=[vi g.1,g_v,p_v,p_v1,v274]) bP rfl rfl bx15 (bK o276.flat) nq (bu o276.flat) rfl ?_
  intro w277 ch278 bx279
  clear bx15
  refine aa (cL (vs:=[]) Tryz.func74 .nil ?_)
  refine⟨vt [],rfl,?_⟩
  refine aa ?_
  clear o271
  refine a6 rfl (ma (vb false) (aa (al (a6 rfl (lx (aM (m:=↑dL) (n:=1) zs71_c9 rfl (by omega)) (mi ((dL:Int)+1) (aa ?_)))))))
  have C281:=cg [3,7] (ch270.n.seq ((ch275.l rfl).seq (ch278.l rfl)))
  have C280:=hb266.n.seq C281
  refine back11_c9 (dL+1,v274,(GL++[(6,(dL:Int),0)]),false,g272) _ _ ⟨bH.ca C280,zs0_c9,rfl,zs69_c9,zs70_c9,rfl,Rg.ca C281,Rp.ca C281,r_p_v1.ca C281,bx279,o276.ce ch278,by omega,?_⟩ ?_
  · show(GL++[(6,(dL:Int),0)])=cw p++(bt (cH g p) p.2.length++bt (eZ p) (dL+1))/\false=decide (bt (cH g p) p.2.length++bt (eZ p) (dL+1)=[])
    exact od hfL (λc=>(by assumption:¬_) (hsfL.trans (dt c)))
  · show Int.toNat (((p.2.length:Int):Int)-((dL+1):Int))<Int.toNat (((p.2.length:Int):Int)-(dL:Int))
    omega
 refine ag rfl (df p11_c9) (aJ rfl (a7 (a6 rfl (mz zs3_c9 (ma (vb finL) (aa (ar (vs:=[vb finL]) Tryz.func59 (.tmp rfl .nil) ?_)))))))
 refine⟨vb finL,rfl,?_⟩
 refine aa ?_
 by_cases p6:finL=true
 ·
  have hlf:=kG hfL (by omega)
  refine af rfl p6 (a7 (a6 rfl (mv (vp b13 0) (lo (co (aA (vals:=[vp b13 0]) Tryz.func60 xd wz rfl) (au Tryz.func60 rfl nq (a7 (a6 rfl (mv (vp b13 0) (lw (vp b13 0) (aI rfl) (lx (a8 eo rfl rfl rfl rfl) ?_)))))))))))
  refine lx (a8 ef rfl rfl rfl rfl) (lx (ab dw rfl bx15 rfl) (lx (aQ fg rfl r_p_v1) (mi 0 (aa (am ?_)))))
  refine aN (σ:=Value×(List bX)×Nat×aK) (λ⟨FN_v,FN,eN,gq⟩ f w=>aT w0 gq w/\f 0=vp b13 0/\f 11=p_v1/\f 12=vi (p.2.length:Int)/\f 13=vi ↑eN/\Sl gq (is 0) w g_v g.2/\Sl gq (is 0) w p_v p.1/\Sl gq (is 0) w p_v1 p.2/\Bx gq (is 3) w b13 [vi g.1,g_v,p_v,p_v1,FN_v]/\Ow gq (is 7) (is 7) w FN_v FN/\(eN:Int)<=((p.2.length:Int):Int)/\(FN=cN g p++bt (gw g p) eN)) (λ⟨FN_v,FN,eN,gq⟩=>Int.toNat (((p.2.length:Int):Int)-(eN:Int))) (GL_v,GL,0,g261) ?_ ?_
  · exact⟨bH,rfl,rfl,rfl,rfl,Rg,Rp,r_p_v1,bx15,o_GL,by omega,by exact lN hlf.1⟩
  clear Rg Rp r_p_v1 bx15 o_GL bH
  rintro⟨FN_v,FN,eN,g284⟩ f282 w283 ⟨bH,zs0_c13,zs11_c13,zs12_c13,zs13_c13,Rg,Rp,r_p_v1,bx15,o_FN,hle_eN,hgN⟩ back1_c13
  refine a7 (a6 rfl (lx (aZ (m:=↑eN) (n:=(p.2.length:Int)) zs13_c13 zs12_c13) (aa (a7 ?_))))
  by_cases p1_c13:(eN:Int)<(p.2.length:Int)
  ·
   refine af rfl (dt p1_c13) ?_
   obtain⟨hl1N,hl2N,hl3N⟩:=hs.ln (eN:Int) (by omega) (by omega)
   refine ak (a7 (am (a7 (a6 rfl (mz zs13_c13 (lx (ad (v:=p_v1) (i:=↑eN) fg rfl zs11_c13 r_p_v1 zs13_c13 (by omega) (by omega)) ?_))))))
   obtain⟨v285,cel286,r287⟩:=cA (r:=(eN:Int)) r_p_v1 (by omega) (by omega)
   refine lx (ba cI rfl cel286) (ai (eN:Int) (ma v285 (aa (a7 (a6 rfl (mz zs0_c13 (lw (vp b13 0) (aI rfl) (lx (a8 eo rfl rfl rfl rfl) (lx (a8 dY rfl rfl rfl rfl) (lx (ab bO rfl bx15 rfl) (mi ↑eN ?_)))))))))))
   refine lx (ad (v:=g_v) (i:=↑eN) fm rfl rfl Rg rfl (by omega) (by omega)) (lw (vg [vi ((gI g.2 ↑eN).1),vi ((gI g.2 ↑eN).2)]) (aF (v:=g_v) (i:=↑eN) dc rfl Rg (by omega) (by omega) rfl) (lo (aS g284 (is 21) (21,0) rfl dc ?_)))
   intro g291 w288 b290 ch289 bx292
   replace bx292:Bx g291 (is 21) w288 b290 [vi 0,vi 0]:=bx292
   refine lo (aw (cs':=[vi ((gI g.2 ↑eN).1),vi ((gI g.2 ↑eN).2)]) dc rfl rfl bx292 rfl nq (AllOne.all (.cons rfl (.cons rfl .nil))) rfl ?_)
   intro w293 ch294 bx295
   clear bx292
   refine aa (a7 (a6 rfl (mz zs0_c13 (lw (vp b13 0) (aI rfl) (lx (a8 eo rfl rfl rfl rfl) (lx (a8 ef rfl rfl rfl rfl) ?_))))))
   replace bx15:=(bx15.cn ch289).ce ch294
   refine lx (ab cI rfl bx15 rfl) ?_
   replace Rp:=(Rp.cn ch289).ce ch294
   refine lx (aQ bS rfl Rp) (mi 0 (aa (am ?_)))
   refine aN (σ:=Nat×Value×(List bX)×aK) (λ⟨vN,GN_v,GN,gq⟩ f w=>aT w0 gq w/\f 0=vp b13 0/\f 2=vi ↑eN/\f 3=v285/\f 4=vp b290 0/\f 11=p_v1/\f 12=vi (p.2.length:Int)/\f 13=vi ↑eN/\f 30=p_v/\f 31=vi (p.1.length:Int)/\f 32=vi ↑vN/\Sl gq (is 0) w g_v g.2/\Sl gq (is 0) w p_v p.1/\Sl gq (is 0) w p_v1 p.2/\Bx gq (is 3) w b13 [vi g.1,g_v,p_v,p_v1,GN_v]/\Sl gq (is 0) w v285 (gI p.2 ↑eN)/\Bx gq (is 21) w b290 [vi ((gI g.2 ↑eN).1),vi ((gI g.2 ↑eN).2)]/\Ow gq (is 7) (is 7) w GN_v GN/\(vN:Int)<=((p.1.length:Int):Int)/\(GN=(cN g p++bt (gw g p) eN)++bt (eX g p eN) vN)) (λ⟨vN,GN_v,GN,gq⟩=>Int.toNat (((p.1.length:Int):Int)-(vN:Int))) (0,FN_v,FN,g291) ?_ ?_
   replace bH:=bH.cn ch289
   · exact⟨bH.ce ch294,zs0_c13,rfl,rfl,rfl,zs11_c13,zs12_c13,zs13_c13,rfl,rfl,rfl,(Rg.cn ch289).ce ch294,Rp,(r_p_v1.cn ch289).ce ch294,bx15,(r287.cn ch289).ce ch294,bx295,(o_FN.cn ch289).ce ch294,by omega,by(rw[hgN];simp[bt])⟩
   clear Rg Rp r_p_v1 bx15 o_FN r287 bx295 bH
   rintro⟨vN,GN_v,GN,g298⟩ f296 w297 ⟨bH,zs0_c13,zs2_c13,zs3_c13,zs4_c13,zs11_c13,zs12_c13,zs13_c13,zs30_c13,zs31_c13,zs32_c13,Rg,Rp,r_p_v1,bx15,r287,bx295,o_GN,hle_vN,hkN⟩ back5_c13
   have hklN:=mH (by omega) (by omega) (by omega) (by omega) hkN
   refine a7 (a6 rfl (lx (aZ (m:=↑vN) (n:=(p.1.length:Int)) zs32_c13 zs31_c13) (aa (a7 ?_))))
   by_cases p5_c13:(vN:Int)<(p.1.length:Int)
   ·
    refine af rfl (dt p5_c13) (ak (a7 (am (a7 (a6 rfl (mz zs32_c13 (lx (ad (v:=p_v) (i:=↑vN) bS rfl zs30_c13 Rp zs32_c13 (by omega) (by omega)) (lw (vg [vi ((gI p.1 ↑vN).1),vi ((gI p.1 ↑vN).2)]) (aF (v:=p_v) (i:=↑vN) ah rfl Rp (by omega) (by omega) rfl) (lo (aS g298 (is 22) (22,0) rfl ah ?_))))))))))
    intro g302 w299 b301 ch300 bx303
    replace bx303:Bx g302 (is 22) w299 b301 [vi 0,vi 0]:=bx303
    refine ai (vN:Int) (lo (aw (cs':=[vi ((gI p.1 ↑vN).1),vi ((gI p.1 ↑vN).2)]) ah rfl rfl bx303 rfl nq (AllOne.all (.cons rfl (.cons rfl .nil))) rfl ?_))
    intro w304 ch305 bx306
    clear bx303
    refine aa (a7 (a6 rfl (mi ↑vN (lx (dU jC rfl zs4_c13 rfl (by decide) (by decide) rfl) ?_))))
    replace bx295:=(bx295.cn ch300).ce ch305
    refine lx (ab az rfl bx295 rfl) (lx (c5 (m:=↑vN) (n:=(gI g.2 ↑eN).1) rfl rfl) (mv (vb (!(decide ((vN:Int)=((gI g.2 ↑eN).1))))) ?_))
    by_cases q41_c13:(vN:Int)=((gI g.2 ↑eN).1)
    ·
     refine ae (wn (congrArg Bool.not (dt q41_c13))) (ae (wn (congrArg Bool.not (dt q41_c13))) (ae (wn (congrArg Bool.not (dt q41_c13))) (ae (wn (congrArg Bool.not (dt q41_c13))) (lw (vb false) (aB rfl (congrArg Bool.not (dt q41_c13)) rfl) (mv (vb false) (ae (wn rfl) (ae (wn rfl) (ae (wn rfl) (lw (vb false) (aB rfl rfl rfl) (aa (ag rfl rfl ?_)))))))))))
     refine ak (al ?_)
     clear bx306
     refine a6 rfl (lx (aM (m:=↑vN) (n:=1) zs32_c13 rfl (by omega)) (mi ((vN:Int)+1) (aa ?_)))
     replace bH:=bH.cn ch300
     refine back5_c13 (vN+1,GN_v,GN,g302) _ _ ⟨bH.ce ch305,zs0_c13,zs2_c13,zs3_c13,zs4_c13,zs11_c13,zs12_c13,zs13_c13,zs30_c13,zs31_c13,rfl,(Rg.cn ch300).ce ch305,(Rp.cn ch300).ce ch305,(r_p_v1.cn ch300).ce ch305,(bx15.cn ch300).ce ch305,(r287.cn ch300).ce ch305,bx295,(o_GN.cn ch300).ce ch305,by omega,?_⟩ ?_
     · show GN=(cN g p++bt (gw g p) eN)++bt (eX g p eN) (vN+1)
       exact ff hkN (rn ‹_›)
     · show Int.toNat (((p.1.length:Int):Int)-((vN+1):Int))<Int.toNat (((p.1.length:Int):Int)-(vN:Int))
       omega
    refine lv (vi ↑vN) (wy (congrArg Bool.not (df q41_c13))) (aq rfl) (lv (vp b290 1) (wy (congrArg Bool.not (df q41_c13))) (dU jC rfl zs4_c13 rfl (by decide) (by decide) rfl) (lv (vi ((gI g.2 ↑eN).2)) (wy (congrArg Bool.not (df q41_c13))) (ab az rfl bx295 rfl) (lv (vb (!(decide ((vN:Int)=((gI g.2 ↑eN).2))))) (wy (congrArg Bool.not (df q41_c13))) (c5 (m:=↑vN) (n:=(gI g.2 ↑eN).2) rfl rfl) (lw (vb (!(decide ((vN:Int)=((gI g.2 ↑eN).2))))) (aD rfl (congrArg Bool.not (df q41_c13)) rfl) (mv (vb (!(decide ((vN:Int)=((gI g.2 ↑eN).2))))) ?_)))))
    by_cases q47_c13:(vN:Int)=((gI g.2 ↑eN).2)
    ·
     refine ae (wn (congrArg Bool.not (dt q47_c13))) (ae (wn (congrArg Bool.not (dt q47_c13))) (ae (wn (congrArg Bool.not (dt q47_c13))) (lw (vb false) (aB rfl (congrArg Bool.not (dt q47_c13)) rfl) (aa (ag rfl rfl (ak (al ?_)))))))
     clear bx306
     refine a6 rfl (lx (aM (m:=↑vN) (n:=1) zs32_c13 rfl (by omega)) (mi ((vN:Int)+1) (aa ?_)))
     replace bH:=bH.cn ch300
     refine back5_c13 (vN+1,GN_v,GN,g302) _ _ ⟨bH.ce ch305,zs0_c13,zs2_c13,zs3_c13,zs4_c13,zs11_c13,zs12_c13,zs13_c13,zs30_c13,zs31_c13,rfl,(Rg.cn ch300).ce ch305,(Rp.cn ch300).ce ch305,(r_p_v1.cn ch300).ce ch305,(bx15.cn ch300).ce ch305,(r287.cn ch300).ce ch305,bx295,(o_GN.cn ch300).ce ch305,by omega,?_⟩ ?_
     · show GN=(cN g p++bt (gw g p) eN)++bt (eX g p eN) (vN+1)
       exact ff hkN (rv ‹_›)
     · show Int.toNat (((p.1.length:Int):Int)-((vN+1):Int))<Int.toNat (((p.1.length:Int):Int)-(vN:Int))
       omega
    refine lv (v285) (wy (congrArg Bool.not (df q47_c13))) (aq zs3_c13) (lv (vg [vi ((gI p.1 ↑vN).1),vi ((gI p.1 ↑vN).2)]) (wy (congrArg Bool.not (df q47_c13))) (aj (ds:=[vi ((gI p.1 ↑vN).1),vi ((gI p.1 ↑vN).2)]) ah rfl bx306 rfl rfl) ?_)
    replace r287:=(r287.cn ch300).ce ch305
    refine bW (wy (congrArg Bool.not (df q47_c13))) (aO (v:=vb (decide (e9 (gI p.2 ↑eN) (gI p.1 ↑vN)))) (aA (vals:=[v285,vg [vi ((gI p.1 ↑vN).1),vi ((gI p.1 ↑vN).2)]]) Tryz.func84 xk yj rfl) (wJ w304 (gI p.2 ↑eN) v285 (r287).ro (gI p.1 ↑vN) (by omega) (by exact⟨hl2N,hl3N⟩) (by exact hs.pt _ (by omega) (by omega))) ?_)
    intro w307 hb308
    replace hb308:=ao hb308 g302
    refine lw (vb (decide (e9 (gI p.2 ↑eN) (gI p.1 ↑vN)))) (aD rfl (congrArg Bool.not (df q47_c13)) rfl) (aa ?_)
    by_cases p7_c13:(decide (e9 (gI p.2 ↑eN) (gI p.1 ↑vN)))=true
    ·
     refine af rfl p7_c13 ?_
     clear bx306
     refine a6 rfl (mz zs0_c13 (mz zs2_c13 (mi ↑vN (lo (co (aA (vals:=[vp b13 0,vi 7,vi ↑eN,vi ↑vN]) Tryz.func74 dC dB rfl) (au Tryz.func74 rfl nq ?_))))))
     have C309:=cg [22] (ch300.n.seq ((ch305.l rfl).seq hb308.n))
     replace Rg:=Rg.ca C309
     replace Rp:=Rp.ca C309
     replace r_p_v1:=r_p_v1.ca C309
     replace o_GN:=o_GN.ca C309
     refine a6 rfl (mv (vp b13 0) (mv (vp b13 0) (lw (vp b13 0) (aI rfl) (lx (a8 eo rfl rfl rfl rfl) ?_))))
     replace bx15:=bx15.ca C309
     refine lx (ab bP rfl bx15 rfl) (mi 7 (mi ↑eN (mi ↑vN (lw (vg [vi 7,vi ↑eN,vi ↑vN]) (bw (vs:=[(0,vi 7),(1,vi ↑eN),(2,vi ↑vN)]) rfl (by kernel_rfl)) (lo (aG (α:=bX) g302 (is 23) (is 23) (23,0) rfl [(7,(eN:Int),(vN:Int))] eH bU (by decide) (by decide) (vs:=[(0,vg [vi 7,vi ↑eN,vi ↑vN])]) rfl rfl (.cons rfl .nil) ?_))))))
     intro g310 w311 v312 ch313 o314
     refine lo ?_
     replace o_GN:=o_GN.cn ch313
     refine aV (α:=bX) (xs:=GN) (ys:=([(7,(eN:Int),(vN:Int))])) g310 (J:=is 7) (S:=is 7) (7,0) rfl eH bU (by decide) rfl rfl rfl o_GN o314.flat (by decide) (by(simp;omega)) ?_
     intro g315 w316 v317 ch318 o319
     clear o_GN
     refine lw (vp b13 0) (aI rfl) (lx (a8 eo rfl rfl rfl rfl) (lo ?_))
     replace bx15:=(bx15.cn ch313).ce ch318
     refine bQ (cs':=[vi g.1,g_v,p_v,p_v1,v317]) bP rfl rfl bx15 (bK o319.flat) nq (bu o319.flat) rfl ?_
     intro w320 ch321 bx322
     clear bx15
     refine aa (cL (vs:=[]) Tryz.func74 .nil ?_)
     refine⟨vt [],rfl,?_⟩
     refine aa (al ?_)
     clear o314
     refine a6 rfl (lx (aM (m:=↑vN) (n:=1) zs32_c13 rfl (by omega)) (mi ((vN:Int)+1) (aa ?_)))
     have C323:=cg [3,7,22] (ch300.n.seq ((ch305.l rfl).seq (hb308.n.seq (ch313.n.seq ((ch318.l rfl).seq (ch321.l rfl))))))
     have C324:=cg [3,7] (ch313.n.seq ((ch318.l rfl).seq (ch321.l rfl)))
     have C325:=hb308.n.seq C324
     refine back5_c13 (vN+1,v317,(GN++[(7,(eN:Int),(vN:Int))]),g315) _ _ ⟨bH.ca C323,zs0_c13,zs2_c13,zs3_c13,zs4_c13,zs11_c13,zs12_c13,zs13_c13,zs30_c13,zs31_c13,rfl,Rg.ca C324,Rp.ca C324,r_p_v1.ca C324,bx322,r287.ca C325,bx295.ca C325,o319.ce ch321,by omega,?_⟩ ?_
     · show(GN++[(7,(eN:Int),(vN:Int))])=(cN g p++bt (gw g p) eN)++bt (eX g p eN) (vN+1)
       exact ew hkN (qX ‹_› ‹_› ‹_›)
     · show Int.toNat (((p.1.length:Int):Int)-((vN+1):Int))<Int.toNat (((p.1.length:Int):Int)-(vN:Int))
       omega
    refine ag rfl (Bool.eq_false_iff.2 p7_c13) (ak (al ?_))
    clear bx306
    refine a6 rfl (lx (aM (m:=↑vN) (n:=1) zs32_c13 rfl (by omega)) (mi ((vN:Int)+1) (aa ?_)))
    have C326:=cg [22] (ch300.n.seq ((ch305.l rfl).seq hb308.n))
    refine back5_c13 (vN+1,GN_v,GN,g302) _ _ ⟨bH.ca C326,zs0_c13,zs2_c13,zs3_c13,zs4_c13,zs11_c13,zs12_c13,zs13_c13,zs30_c13,zs31_c13,rfl,Rg.ca C326,Rp.ca C326,r_p_v1.ca C326,bx15.ca C326,r287.cn hb308,bx295.cn hb308,o_GN.ca C326,by omega,?_⟩ ?_
    · show GN=(cN g p++bt (gw g p) eN)++bt (eX g p eN) (vN+1)
      exact ff hkN (rk ‹_›)
    · show Int.toNat (((p.1.length:Int):Int)-((vN+1):Int))<Int.toNat (((p.1.length:Int):Int)-(vN:Int))
      omega
   refine ag rfl (df p5_c13) (aJ rfl (al ?_))
   clear r287 bx295
   refine a6 rfl (lx (aM (m:=↑eN) (n:=1) zs13_c13 rfl (by omega)) (mi ((eN:Int)+1) (aa ?_)))
   refine back1_c13 (GN_v,GN,eN+1,g298) _ _ ⟨bH,zs0_c13,zs11_c13,zs12_c13,rfl,Rg,Rp,r_p_v1,bx15,o_GN,by omega,?_⟩ ?_
   · show GN=cN g p++bt (gw g p) (eN+1)
     exact mw hkN (by omega)
   · show Int.toNat (((p.2.length:Int):Int)-((eN+1):Int))<Int.toNat (((p.2.length:Int):Int)-(eN:Int))
     omega
  refine ag rfl (df p1_c13) (aJ rfl (cL (vs:=[]) Tryz.func60 .nil ?_))
  refine⟨vt [],rfl,?_⟩
  refine aa (a6 rfl (mv (vp b13 0) (lo (co (aA (vals:=[vp b13 0]) Tryz.func61 xI xz rfl) (au Tryz.func61 rfl nq (a7 (a6 rfl (mv (vp b13 0) (lw (vp b13 0) (aI rfl) (lx (a8 eo rfl rfl rfl rfl) (lx (a8 ef rfl rfl rfl rfl) ?_)))))))))))
  refine lx (ab dw rfl bx15 rfl) (lx (aQ fg rfl r_p_v1) (mi 0 (aa (am ?_))))
  refine aN (σ:=Value×(List bX)×Nat×aK) (λ⟨FQ_v,FQ,eQ,gq⟩ f w=>aT w0 gq w/\f 0=vp b13 0/\f 9=vi (p.2.length:Int)/\f 10=vi ↑eQ/\Sl gq (is 0) w g_v g.2/\Sl gq (is 0) w p_v p.1/\Sl gq (is 0) w p_v1 p.2/\Bx gq (is 3) w b13 [vi g.1,g_v,p_v,p_v1,FQ_v]/\Ow gq (is 7) (is 7) w FQ_v FQ/\(eQ:Int)<=((p.2.length:Int):Int)/\(FQ=(cN g p++dG g p)++bt (hP g p) eQ)) (λ⟨FQ_v,FQ,eQ,gq⟩=>Int.toNat (((p.2.length:Int):Int)-(eQ:Int))) (FN_v,FN,0,g284) ?_ ?_
  · exact⟨bH,rfl,rfl,rfl,Rg,Rp,r_p_v1,bx15,o_FN,by omega,by exact m6 hgN (by omega)⟩
  clear Rg Rp r_p_v1 bx15 o_FN bH
  rintro⟨FQ_v,FQ,eQ,g329⟩ f327 w328 ⟨bH,zs0_c15,zs9_c15,zs10_c15,Rg,Rp,r_p_v1,bx15,o_FQ,hle_eQ,hmQ⟩ back1_c15
  refine a7 (a6 rfl (lx (aZ (m:=↑eQ) (n:=(p.2.length:Int)) zs10_c15 zs9_c15) (aa (a7 ?_))))
  by_cases p1_c15:(eQ:Int)<(p.2.length:Int)
  ·
   refine af rfl (dt p1_c15) (ak (a7 (am (a7 (a6 rfl (mz zs10_c15 (ai (eQ:Int) (aa (a7 (a6 rfl (mi ↑eQ (lx (aM (m:=↑eQ) (n:=1) rfl rfl (by omega)) ?_))))))))))))
   refine ai ((eQ:Int)+1) (aa (am ?_))
   refine aN (σ:=Nat×Value×(List bX)×aK) (λ⟨fQ,GQ_v,GQ,gq⟩ f w=>aT w0 gq w/\f 0=vp b13 0/\f 2=vi ↑eQ/\f 3=vi ↑fQ/\f 9=vi (p.2.length:Int)/\f 10=vi ↑eQ/\Sl gq (is 0) w g_v g.2/\Sl gq (is 0) w p_v p.1/\Sl gq (is 0) w p_v1 p.2/\Bx gq (is 3) w b13 [vi g.1,g_v,p_v,p_v1,GQ_v]/\Ow gq (is 7) (is 7) w GQ_v GQ/\(fQ:Int)<=((p.2.length:Int):Int)/\(GQ=((cN g p++dG g p)++bt (hP g p) eQ)++bt (dX g p eQ) fQ/\eQ<fQ)) (λ⟨fQ,GQ_v,GQ,gq⟩=>Int.toNat (((p.2.length:Int):Int)-(fQ:Int))) (eQ+1,FQ_v,FQ,g329) ?_ ?_
   · exact⟨bH,zs0_c15,rfl,rfl,zs9_c15,zs10_c15,Rg,Rp,r_p_v1,bx15,o_FQ,by omega,by exact m8 hmQ⟩
   clear Rg Rp r_p_v1 bx15 o_FQ bH
   rintro⟨fQ,GQ_v,GQ,g332⟩ f330 w331 ⟨bH,zs0_c15,zs2_c15,zs3_c15,zs9_c15,zs10_c15,Rg,Rp,r_p_v1,bx15,o_GQ,hle_fQ,hnQ⟩ back4_c15
   have hnlQ:=mJ (by omega) (by omega) (by omega) (by omega) hnQ.1
   have hefQ:=hnQ.2
   refine a7 (a7 (a6 rfl (mz zs3_c15 (mz zs0_c15 (lw (vp b13 0) (aI rfl) (lx (a8 eo rfl rfl rfl rfl) (lx (a8 ef rfl rfl rfl rfl) (lx (ab dw rfl bx15 rfl) (lx (aQ fg rfl r_p_v1) (lx (aZ (m:=↑fQ) (n:=(p.2.length:Int)) rfl rfl) (aa ?_)))))))))))
   by_cases p4_c15:(fQ:Int)<(p.2.length:Int)
   ·
    refine af rfl (dt p4_c15) (ak (a7 (am (a7 (a6 rfl (mz zs0_c15 (mz zs2_c15 (mz zs3_c15 (lo ?_)))))))))
    refine bi (σ:=Bool×aK) (V:=λ⟨rr_c16,gq⟩=>vb rr_c16) (S:=λ⟨rr_c16,gq⟩ w=>aT w0 gq w/\Sl gq (is 0) w g_v g.2/\Sl gq (is 0) w p_v p.1/\Sl gq (is 0) w p_v1 p.2/\Bx gq (is 3) w b13 [vi g.1,g_v,p_v,p_v1,GQ_v]/\Ow gq (is 7) (is 7) w GQ_v GQ/\(rr_c16=decide (ke (gI p.2 ↑eQ) (gI p.2 ↑fQ) (ko g p (eQ:Int) (fQ:Int))))) (aA (vals:=[vp b13 0,vi ↑eQ,vi ↑fQ]) Tryz.func85 xF xn rfl) ?_ ?_
    ·
     refine au Tryz.func85 rfl nq ?_
     obtain⟨hx1A,hx2A,hx3A⟩:=hs.ln (eQ:Int) (by omega) (by omega)
     obtain⟨hy1A,hy2A,hy3A⟩:=hs.ln (fQ:Int) (by omega) (by omega)
     refine a7 (a6 rfl (ma (vb false) (aa (a7 (a6 rfl (mv (vp b13 0) (mi ↑eQ (mi ↑fQ (lo ?_)))))))))
     refine bi (σ:=Value×(List Pt)×aK) (V:=λ⟨someA_v,someA,gq⟩=>someA_v) (S:=λ⟨someA_v,someA,gq⟩ w=>aT w0 gq w/\Sl gq (is 0) w g_v g.2/\Sl gq (is 0) w p_v p.1/\Sl gq (is 0) w p_v1 p.2/\Bx gq (is 3) w b13 [vi g.1,g_v,p_v,p_v1,GQ_v]/\Ow gq (is 7) (is 7) w GQ_v GQ/\Ow gq (is 25) (is 25) w someA_v someA/\(someA=ko g p (eQ:Int) (fQ:Int))) (aA (vals:=[vp b13 0,vi ↑eQ,vi ↑fQ]) Tryz.func101 u8 tP rfl) ?_ ?_
     ·
      refine au Tryz.func101 rfl nq ?_
      obtain⟨⟨he1_c17,he2_c17⟩,he3_c17,he4_c17⟩:=iX (e:=(eQ:Int)) hmay (by omega) (by omega)
      refine a7 (a6 rfl (ma vn (aa (a7 (a6 rfl (ma vn (aa (a7 (a7 (a6 rfl (mv (vp b13 0) (lw (vp b13 0) (aI rfl) (lx (a8 eo rfl rfl rfl rfl) (lx (a8 dY rfl rfl rfl rfl) (lx (ab bO rfl bx15 rfl) ?_)))))))))))))))
      refine mi ↑eQ (lx (ad (v:=g_v) (i:=↑eQ) fm rfl rfl Rg rfl (by omega) (by omega)) (lw (vg [vi ((gI g.2 ↑eQ).1),vi ((gI g.2 ↑eQ).2)]) (aF (v:=g_v) (i:=↑eQ) dc rfl Rg (by omega) (by omega) rfl) (mi 0 (aa (am (fX (a7 (a6 rfl (lx (aZ (m:=0) (n:=2) rfl rfl) (aa (a7 ?_)))))))))))
      refine af rfl rfl (ak (a7 (am (a7 (a6 rfl (lw (vi ((gI g.2 ↑eQ).1)) (eb jC az rfl rfl (by decide) (by decide) rfl) (ai ((gI g.2 ↑eQ).1) (aa (a7 (a6 rfl (mv (vp b13 0) (lw (vp b13 0) (aI rfl) ?_))))))))))))
      refine lx (a8 eo rfl rfl rfl rfl) (lx (a8 dY rfl rfl rfl rfl) (lx (ab bO rfl bx15 rfl) (mi ↑fQ (lx (ad (v:=g_v) (i:=↑fQ) fm rfl rfl Rg rfl (by omega) (by omega)) (lw ((tn g_v (Int.toNat ↑fQ))) (ir jC rfl rfl) ?_)))))
      have r333:=qD Rg (i:=↑fQ) (by omega) (by omega)
      refine mi ((gI g.2 ↑eQ).1) (lo (aO (v:=vb (decide (((gI g.2 ↑eQ).1)∈([(gI g.2 ↑fQ).1,(gI g.2 ↑fQ).2])))) (aA (vals:=[(tn g_v (Int.toNat ↑fQ)),vi ((gI g.2 ↑eQ).1)]) Tryz.func116 lX mb rfl) (io w331 ([(gI g.2 ↑fQ).1,(gI g.2 ↑fQ).2]) (tn g_v (Int.toNat ↑fQ)) (r333).ro ((gI g.2 ↑eQ).1)) ?_))
      intro w334 hb335
      replace hb335:=ao hb335 g332
      refine aa ?_
      by_cases p5_c17:(decide (((gI g.2 ↑eQ).1)∈([(gI g.2 ↑fQ).1,(gI g.2 ↑fQ).2])))=true
      ·
       refine af rfl p5_c17 ?_
       clear r333
       refine a6 rfl (mv vn (mv (vp b13 0) (lw (vp b13 0) (aI rfl) (lx (a8 eo rfl rfl rfl rfl) (lx (a8 ef rfl rfl rfl rfl) ?_)))))
       replace bx15:=bx15.cn hb335
       refine lx (ab cI rfl bx15 rfl) (mi ((gI g.2 ↑eQ).1) ?_)
       replace Rp:=Rp.cn hb335
       refine lx (ad (v:=p_v) (i:=(gI g.2 ↑eQ).1) bS rfl rfl Rp rfl (by omega) (by omega)) (lw (vg [vi ((gI p.1 ((gI g.2 ↑eQ).1)).1),vi ((gI p.1 ((gI g.2 ↑eQ).1)).2)]) (aF (v:=p_v) (i:=(gI g.2 ↑eQ).1) ah rfl Rp (by omega) (by omega) rfl) (lo (aG (α:=Pt) g332 (is 24) (is 24) (24,0) rfl [(gI p.1 ((gI g.2 ↑eQ).1))] bS ah (by decide) (by decide) (vs:=[(0,vg [vi ((gI p.1 ((gI g.2 ↑eQ).1)).1),vi ((gI p.1 ((gI g.2 ↑eQ).1)).2)])]) rfl rfl (.cons rfl .nil) ?_)))
       intro g336 w337 v338 ch339 o340
       refine lo (aV (α:=Pt) (xs:=([])) (ys:=([(gI p.1 ((gI g.2 ↑eQ).1))])) g336 (J:=is 25) (S:=is 25) (25,0) rfl bS ah (by decide) rfl rfl rfl Ow.nil o340.flat (by decide) (by(simp;done)) ?_)
       intro g341 w342 v343 ch344 o345
       replace o345:Ow g341 (is 25) (is 25) w342 v343 ([(gI p.1 ((gI g.2 ↑eQ).1))]:List Pt):=o345
       refine ma v343 (aa (al ?_))
       clear o340
       refine a6 rfl (lx (aM (m:=0) (n:=1) rfl rfl (by omega)) (mi 1 (aa (cM (a7 (a6 rfl (lx (aZ (m:=1) (n:=2) rfl rfl) (aa (a7 (af rfl rfl (ak ?_)))))))))))
       refine a7 (am (a7 (a6 rfl (lw (vi ((gI g.2 ↑eQ).2)) (eb jC az rfl rfl (by decide) (by decide) rfl) (ai ((gI g.2 ↑eQ).2) (aa (a7 (a6 rfl (mv (vp b13 0) (lw (vp b13 0) (aI rfl) (lx (a8 eo rfl rfl rfl rfl) (lx (a8 dY rfl rfl rfl rfl) ?_))))))))))))
       replace bx15:=(bx15.cn ch339).ce ch344
       refine lx (ab bO rfl bx15 rfl) (mi ↑fQ ?_)
       have C346:=cg [25] (hb335.n.seq (ch339.n.seq (ch344.l rfl)))
       replace Rg:=Rg.ca C346
       refine lx (ad (v:=g_v) (i:=↑fQ) fm rfl rfl Rg rfl (by omega) (by omega)) (lw ((tn g_v (Int.toNat ↑fQ))) (ir jC rfl rfl) ?_)
       have r347:=qD Rg (i:=↑fQ) (by omega) (by omega)
       refine mi ((gI g.2 ↑eQ).2) (lo (aO (v:=vb (decide (((gI g.2 ↑eQ).2)∈([(gI g.2 ↑fQ).1,(gI g.2 ↑fQ).2])))) (aA (vals:=[(tn g_v (Int.toNat ↑fQ)),vi ((gI g.2 ↑eQ).2)]) Tryz.func116 lX mb rfl) (io w342 ([(gI g.2 ↑fQ).1,(gI g.2 ↑fQ).2]) (tn g_v (Int.toNat ↑fQ)) (r347).ro ((gI g.2 ↑eQ).2)) ?_))
       intro w348 hb349
       replace hb349:=ao hb349 g341
       refine aa ?_
       by_cases p5_c17_350:(decide (((gI g.2 ↑eQ).2)∈([(gI g.2 ↑fQ).1,(gI g.2 ↑fQ).2])))=true
       ·
        refine af rfl p5_c17_350 ?_
        clear r347
        refine a6 rfl (mv v343 (mv (vp b13 0) (lw (vp b13 0) (aI rfl) (lx (a8 eo rfl rfl rfl rfl) (lx (a8 ef rfl rfl rfl rfl) ?_)))))
        replace bx15:=bx15.cn hb349
        refine lx (ab cI rfl bx15 rfl) (mi ((gI g.2 ↑eQ).2) ?_)
        have C351:=cg [25] (ch339.n.seq ((ch344.l rfl).seq hb349.n))
        replace Rp:=Rp.ca C351
        refine lx (ad (v:=p_v) (i:=(gI g.2 ↑eQ).2) bS rfl rfl Rp rfl (by omega) (by omega)) (lw (vg [vi ((gI p.1 ((gI g.2 ↑eQ).2)).1),vi ((gI p.1 ((gI g.2 ↑eQ).2)).2)]) (aF (v:=p_v) (i:=(gI g.2 ↑eQ).2) ah rfl Rp (by omega) (by omega) rfl) (lo (aG (α:=Pt) g341 (is 24) (is 24) (24,0) rfl [(gI p.1 ((gI g.2 ↑eQ).2))] bS ah (by decide) (by decide) (vs:=[(0,vg [vi ((gI p.1 ((gI g.2 ↑eQ).2)).1),vi ((gI p.1 ((gI g.2 ↑eQ).2)).2)])]) rfl rfl (.cons rfl .nil) ?_)))
        intro g352 w353 v354 ch355 o356
        refine lo ?_
        replace o345:=(o345.cn hb349).cn ch355
        refine aV (α:=Pt) (xs:=([(gI p.1 ((gI g.2 ↑eQ).1))])) (ys:=([(gI p.1 ((gI g.2 ↑eQ).2))])) g352 (J:=is 25) (S:=is 25) (25,0) rfl bS ah (by decide) rfl rfl rfl o345 o356.flat (by decide) (by(simp;done)) ?_
        intro g357 w358 v359 ch360 o361
        clear o345
        refine ma v359 (aa (al ?_))
        clear o356
        refine a6 rfl (lx (aM (m:=1) (n:=1) rfl rfl (by omega)) (mi 2 (aa (cM (a7 (a6 rfl (lx (aZ (m:=2) (n:=2) rfl rfl) (aa (a7 (ag rfl rfl (aJ rfl ?_)))))))))))
        refine a7 (a6 rfl (mv v359 (ma v359 (aa (ar (vs:=[v359]) Tryz.func101 (.tmp rfl .nil) ?_)))))
        have C363:=cg [25] (hb349.n.seq (ch355.n.seq (ch360.l rfl)))
        have C362:=hb335.n.seq (ch339.n.seq ((ch344.l rfl).seq C363))
        replace bH:=bH.ca C362
        replace Rg:=Rg.ca C363
        replace Rp:=(Rp.cn ch355).ce ch360
        replace r_p_v1:=r_p_v1.ca C362
        replace bx15:=(bx15.cn ch355).ce ch360
        replace o_GQ:=o_GQ.ca C362
        refine⟨(v359,([(gI p.1 ((gI g.2 ↑eQ).1))]++[(gI p.1 ((gI g.2 ↑eQ).2))]),g357),rfl,bH,Rg,Rp,r_p_v1,bx15,o_GQ,o361,?_⟩
        show([(gI p.1 ((gI g.2 ↑eQ).1))]++[(gI p.1 ((gI g.2 ↑eQ).2))])=ko g p (eQ:Int) (fQ:Int)
        exact An ‹_› ‹_›
       refine ag rfl (Bool.eq_false_iff.2 p5_c17_350) (ak (al ?_))
       clear r347
       refine a6 rfl (lx (aM (m:=1) (n:=1) rfl rfl (by omega)) (mi 2 (aa (cM (a7 (a6 rfl (lx (aZ (m:=2) (n:=2) rfl rfl) (aa (a7 (ag rfl rfl (aJ rfl ?_)))))))))))
       refine a7 (a6 rfl (mv v343 (ma v343 (aa (ar (vs:=[v343]) Tryz.func101 (.tmp rfl .nil) ?_)))))
       have C365:=cg [25] (ch339.n.seq ((ch344.l rfl).seq hb349.n))
       have C364:=hb335.n.seq C365
       replace bH:=bH.ca C364
       replace Rg:=Rg.cn hb349
       replace Rp:=Rp.ca C365
       replace r_p_v1:=r_p_v1.ca C364
       replace bx15:=bx15.cn hb349
       replace o_GQ:=o_GQ.ca C364
       replace o345:=o345.cn hb349
       refine⟨(v343,[(gI p.1 ((gI g.2 ↑eQ).1))],g341),rfl,bH,Rg,Rp,r_p_v1,bx15,o_GQ,o345,?_⟩
       show([(gI p.1 ((gI g.2 ↑eQ).1))])=ko g p (eQ:Int) (fQ:Int)
       exact AG ‹_› ‹_›
      refine ag rfl (Bool.eq_false_iff.2 p5_c17) (ak (al ?_))
      clear r333
      refine a6 rfl (lx (aM (m:=0) (n:=1) rfl rfl (by omega)) (mi 1 (aa (cM (a7 (a6 rfl (lx (aZ (m:=1) (n:=2) rfl rfl) (aa (a7 (af rfl rfl (ak ?_)))))))))))
      refine a7 (am (a7 (a6 rfl (lw (vi ((gI g.2 ↑eQ).2)) (eb jC az rfl rfl (by decide) (by decide) rfl) (ai ((gI g.2 ↑eQ).2) (aa (a7 (a6 rfl (mv (vp b13 0) (lw (vp b13 0) (aI rfl) (lx (a8 eo rfl rfl rfl rfl) (lx (a8 dY rfl rfl rfl rfl) ?_))))))))))))
      replace bx15:=bx15.cn hb335
      refine lx (ab bO rfl bx15 rfl) (mi ↑fQ ?_)
      replace Rg:=Rg.cn hb335
      refine lx (ad (v:=g_v) (i:=↑fQ) fm rfl rfl Rg rfl (by omega) (by omega)) (lw ((tn g_v (Int.toNat ↑fQ))) (ir jC rfl rfl) ?_)
      have r366:=qD Rg (i:=↑fQ) (by omega) (by omega)
      refine mi ((gI g.2 ↑eQ).2) (lo (aO (v:=vb (decide (((gI g.2 ↑eQ).2)∈([(gI g.2 ↑fQ).1,(gI g.2 ↑fQ).2])))) (aA (vals:=[(tn g_v (Int.toNat ↑fQ)),vi ((gI g.2 ↑eQ).2)]) Tryz.func116 lX mb rfl) (io w334 ([(gI g.2 ↑fQ).1,(gI g.2 ↑fQ).2]) (tn g_v (Int.toNat ↑fQ)) (r366).ro ((gI g.2 ↑eQ).2)) ?_))
      intro w367 hb368
      replace hb368:=ao hb368 g332
      refine aa ?_
      by_cases p5_c17_369:(decide (((gI g.2 ↑eQ).2)∈([(gI g.2 ↑fQ).1,(gI g.2 ↑fQ).2])))=true
      ·
       refine af rfl p5_c17_369 ?_
       clear r366
       refine a6 rfl (mv vn (mv (vp b13 0) (lw (vp b13 0) (aI rfl) (lx (a8 eo rfl rfl rfl rfl) (lx (a8 ef rfl rfl rfl rfl) ?_)))))
       replace bx15:=bx15.cn hb368
       refine lx (ab cI rfl bx15 rfl) (mi ((gI g.2 ↑eQ).2) ?_)
       replace Rp:=(Rp.cn hb335).cn hb368
       refine lx (ad (v:=p_v) (i:=(gI g.2 ↑eQ).2) bS rfl rfl Rp rfl (by omega) (by omega)) (lw (vg [vi ((gI p.1 ((gI g.2 ↑eQ).2)).1),vi ((gI p.1 ((gI g.2 ↑eQ).2)).2)]) (aF (v:=p_v) (i:=(gI g.2 ↑eQ).2) ah rfl Rp (by omega) (by omega) rfl) (lo (aG (α:=Pt) g332 (is 24) (is 24) (24,0) rfl [(gI p.1 ((gI g.2 ↑eQ).2))] bS ah (by decide) (by decide) (vs:=[(0,vg [vi ((gI p.1 ((gI g.2 ↑eQ).2)).1),vi ((gI p.1 ((gI g.2 ↑eQ).2)).2)])]) rfl rfl (.cons rfl .nil) ?_)))
       intro g370 w371 v372 ch373 o374
       refine lo (aV (α:=Pt) (xs:=([])) (ys:=([(gI p.1 ((gI g.2 ↑eQ).2))])) g370 (J:=is 25) (S:=is 25) (25,0) rfl bS ah (by decide) rfl rfl rfl Ow.nil o374.flat (by decide) (by(simp;done)) ?_)
       intro g375 w376 v377 ch378 o379
       replace o379:Ow g375 (is 25) (is 25) w376 v377 ([(gI p.1 ((gI g.2 ↑eQ).2))]:List Pt):=o379
       refine ma v377 (aa (al ?_))
       clear o374
       refine a6 rfl (lx (aM (m:=1) (n:=1) rfl rfl (by omega)) (mi 2 (aa (cM (a7 (a6 rfl (lx (aZ (m:=2) (n:=2) rfl rfl) (aa (a7 (ag rfl rfl (aJ rfl ?_)))))))))))
       refine a7 (a6 rfl (mv v377 (ma v377 (aa (ar (vs:=[v377]) Tryz.func101 (.tmp rfl .nil) ?_)))))
       have C381:=cg [25] (hb368.n.seq (ch373.n.seq (ch378.l rfl)))
       have C380:=hb335.n.seq C381
       replace bH:=bH.ca C380
       replace Rg:=Rg.ca C381
       replace Rp:=(Rp.cn ch373).ce ch378
       replace r_p_v1:=r_p_v1.ca C380
       replace bx15:=(bx15.cn ch373).ce ch378
       replace o_GQ:=o_GQ.ca C380
       refine⟨(v377,[(gI p.1 ((gI g.2 ↑eQ).2))],g375),rfl,bH,Rg,Rp,r_p_v1,bx15,o_GQ,o379,?_⟩
       show([(gI p.1 ((gI g.2 ↑eQ).2))])=ko g p (eQ:Int) (fQ:Int)
       exact Ay ‹_› ‹_›
      refine ag rfl (Bool.eq_false_iff.2 p5_c17_369) (ak (al ?_))
      clear r366
      refine a6 rfl (lx (aM (m:=1) (n:=1) rfl rfl (by omega)) (mi 2 (aa (cM (a7 (a6 rfl (lx (aZ (m:=2) (n:=2) rfl rfl) (aa (a7 (ag rfl rfl (aJ rfl ?_)))))))))))
      refine a7 (a6 rfl (mv vn (ma vn (aa (ar (vs:=[vn]) Tryz.func101 (.tmp rfl .nil) ?_)))))
      replace bH:=bH.cn hb335
      replace bH:=bH.cn hb368
      replace Rg:=Rg.cn hb368
      replace Rp:=(Rp.cn hb335).cn hb368
      replace r_p_v1:=(r_p_v1.cn hb335).cn hb368
      replace bx15:=bx15.cn hb368
      replace o_GQ:=(o_GQ.cn hb335).cn hb368
      refine⟨(vn,[],g332),rfl,bH,Rg,Rp,r_p_v1,bx15,o_GQ,Ow.nil,?_⟩
      show([])=ko g p (eQ:Int) (fQ:Int)
      exact AB ‹_› ‹_›
     clear Rg Rp r_p_v1 bx15 o_GQ bH
     rintro⟨someA_v,someA,g383⟩ w382 ⟨bH,Rg,Rp,r_p_v1,bx15,o_GQ,o_someA,hsa⟩
     have hsl_c17:someA.length<=2:=by rw[hsa];exact zb
     have hso_c17:∀x∈someA,cC x:=by rw[hsa];exact yO hmay hs (by omega) (by omega)
     refine ma someA_v (aa (a7 (bz g383 rfl k8 (by kernel_rfl) ?_)))
     intro w385 ch384
     refine qm (vp b13 0) (qv (vp b13 0) (λw' hw'=>aI rfl) (qx (λw' hw'=>a8 eo rfl rfl rfl rfl) (qx (λw' hw'=>a8 ef rfl rfl rfl rfl) ?_)))
     replace bx15:=bx15.cn ch384
     refine qx (λw' hw'=>ab dw rfl (bx15.bel hw') rfl) (qm (vi ↑eQ) ?_)
     replace r_p_v1:=r_p_v1.cn ch384
     refine qx (λw' hw'=>ad (v:=p_v1) (i:=↑eQ) fg rfl rfl (r_p_v1.bel hw') rfl (by omega) (by omega)) ?_
     obtain⟨v386,cel387,r388⟩:=cA (r:=(eQ:Int)) r_p_v1 (by omega) (by omega)
     refine qx (λw' hw'=>ba cI rfl (e7 cel387 hw')) (qm (vp b13 0) (qv (vp b13 0) (λw' hw'=>aI rfl) (qx (λw' hw'=>a8 eo rfl rfl rfl rfl) (qx (λw' hw'=>a8 ef rfl rfl rfl rfl) (qx (λw' hw'=>ab dw rfl (bx15.bel hw') rfl) (qm (vi ↑fQ) (qx (λw' hw'=>ad (v:=p_v1) (i:=↑fQ) fg rfl rfl (r_p_v1.bel hw') rfl (by omega) (by omega)) ?_)))))))
     obtain⟨v389,cel390,r391⟩:=cA (r:=(fQ:Int)) r_p_v1 (by omega) (by omega)
     refine qx (λw' hw'=>ba cI rfl (e7 cel390 hw')) (qv (v386) (λw' hw'=>br rfl) (qv (v389) (λw' hw'=>br rfl) (bN ?_)))
     intro w392 hc393
     replace hc393:=ao hc393 g383
     refine a7 (a7 (a6 rfl (ai 1 (aa (am ?_)))))
     refine aN (σ:=Nat×aK) (λ⟨iA,gq⟩ f w=>aT w0 gq w/\f 7=someA_v/\f 8=v386/\f 9=v389/\f 10=vi ↑iA/\Sl gq (is 0) w g_v g.2/\Sl gq (is 0) w p_v p.1/\Sl gq (is 0) w p_v1 p.2/\Bx gq (is 3) w b13 [vi g.1,g_v,p_v,p_v1,GQ_v]/\Ow gq (is 7) (is 7) w GQ_v GQ/\Ow gq (is 25) (is 25) w someA_v someA/\Sl gq (is 0) w v386 (gI p.2 ↑eQ)/\Sl gq (is 0) w v389 (gI p.2 ↑fQ)/\(iA:Int)<=((List.length (gI p.2 ↑eQ):Int):Int)/\(1<=iA/\∀j:Nat,j+1<iA->∀q:Nat,q+1<(gI p.2 ↑fQ).length->di (gI (gI p.2 ↑eQ) ↑j,gI (gI p.2 ↑eQ) ((j:Int)+1)) (gI (gI p.2 ↑fQ) ↑q,gI (gI p.2 ↑fQ) ((q:Int)+1)) someA)) (λ⟨iA,gq⟩=>List.length (gI p.2 ↑eQ)-iA) (1,g383) ?_ ?_
     replace bH:=bH.cn ch384
     · exact⟨bH.cn hc393,rfl,rfl,rfl,rfl,(Rg.cn ch384).cn hc393,(Rp.cn ch384).cn hc393,r_p_v1.cn hc393,bx15.cn hc393,(o_GQ.cn ch384).cn hc393,(o_someA.cn ch384).cn hc393,r388.cn hc393,r391.cn hc393,by omega,by exact⟨Nat.le_refl _,λj hj=>by omega⟩⟩
     clear Rg Rp r_p_v1 bx15 o_GQ o_someA r388 r391 bH
     rintro⟨iA,g396⟩ f394 w395 ⟨bH,zs7_c16,zs8_c16,zs9_c16,zs10_c16,Rg,Rp,r_p_v1,bx15,o_GQ,o_someA,r388,r391,hle_iA,hiA⟩ back4_c16
     have hi1A:=hiA.1
     refine a7 (a7 (a6 rfl (mz zs10_c16 (mz zs8_c16 ?_))))
     have len397:=(r388).small
     refine lx (aQ bS rfl r388) (lx (aZ (m:=↑iA) (n:=(List.length (gI p.2 ↑eQ):Int)) rfl rfl) (aa ?_))
     by_cases p4_c16:(iA:Int)<(List.length (gI p.2 ↑eQ):Int)
     ·
      refine af rfl (dt p4_c16) (ak (a7 (am (a7 (a6 rfl (ai 1 (aa (am ?_))))))))
      refine aN (σ:=Nat×aK) (λ⟨kA,gq⟩ f w=>aT w0 gq w/\f 7=someA_v/\f 8=v386/\f 9=v389/\f 10=vi ↑iA/\f 11=vi ↑kA/\Sl gq (is 0) w g_v g.2/\Sl gq (is 0) w p_v p.1/\Sl gq (is 0) w p_v1 p.2/\Bx gq (is 3) w b13 [vi g.1,g_v,p_v,p_v1,GQ_v]/\Ow gq (is 7) (is 7) w GQ_v GQ/\Ow gq (is 25) (is 25) w someA_v someA/\Sl gq (is 0) w v386 (gI p.2 ↑eQ)/\Sl gq (is 0) w v389 (gI p.2 ↑fQ)/\(kA:Int)<=((List.length (gI p.2 ↑fQ):Int):Int)/\(1<=kA/\∀q:Nat,q+1<kA->di (gI (gI p.2 ↑eQ) ((iA:Int)-1),gI (gI p.2 ↑eQ) ↑iA) (gI (gI p.2 ↑fQ) ↑q,gI (gI p.2 ↑fQ) ((q:Int)+1)) someA)) (λ⟨kA,gq⟩=>List.length (gI p.2 ↑fQ)-kA) (1,g396) ?_ ?_
      · exact⟨bH,zs7_c16,zs8_c16,zs9_c16,zs10_c16,rfl,Rg,Rp,r_p_v1,bx15,o_GQ,o_someA,r388,r391,by omega,by exact⟨Nat.le_refl _,λj hj=>by omega⟩⟩
      clear Rg Rp r_p_v1 bx15 o_GQ o_someA r388 r391 bH
      rintro⟨kA,g400⟩ f398 w399 ⟨bH,zs7_c16,zs8_c16,zs9_c16,zs10_c16,zs11_c16,Rg,Rp,r_p_v1,bx15,o_GQ,o_someA,r388,r391,hle_kA,hqA⟩ back7_c16
      have hq1A:=hqA.1
      refine a7 (a7 (a6 rfl (mz zs11_c16 (mz zs9_c16 ?_))))
      have len401:=(r391).small
      refine lx (aQ bS rfl r391) (lx (aZ (m:=↑kA) (n:=(List.length (gI p.2 ↑fQ):Int)) rfl rfl) (aa ?_))
      by_cases p7_c16:(kA:Int)<(List.length (gI p.2 ↑fQ):Int)
      ·
       refine af rfl (dt p7_c16) (ak (a7 (am (a7 (bz g400 rfl k8 (by kernel_rfl) ?_)))))
       intro w403 ch402
       refine qz zs8_c16 (qz zs10_c16 (qx (λw' hw'=>c3 (m:=↑iA) (n:=1) rfl rfl (by omega)) ?_))
       replace r388:=r388.cn ch402
       refine qx (λw' hw'=>ad (v:=v386) (i:=(iA:Int)-1) bS rfl rfl (r388.bel hw') rfl (by omega) (by omega)) (qv (vg [vi ((gI (gI p.2 ↑eQ) ((iA:Int)-1)).1),vi ((gI (gI p.2 ↑eQ) ((iA:Int)-1)).2)]) (λw' hw'=>aF (v:=v386) (i:=(iA:Int)-1) ah rfl (r388.bel hw') (by omega) (by omega) rfl) (qz zs8_c16 (qz zs10_c16 (qx (λw' hw'=>ad (v:=v386) (i:=↑iA) bS rfl rfl (r388.bel hw') rfl (by omega) (by omega)) (qv (vg [vi ((gI (gI p.2 ↑eQ) ↑iA).1),vi ((gI (gI p.2 ↑eQ) ↑iA).2)]) (λw' hw'=>aF (v:=v386) (i:=↑iA) ah rfl (r388.bel hw') (by omega) (by omega) rfl) (qz zs9_c16 (qz zs11_c16 ?_)))))))
       refine qx (λw' hw'=>c3 (m:=↑kA) (n:=1) rfl rfl (by omega)) ?_
       replace r391:=r391.cn ch402
       refine qx (λw' hw'=>ad (v:=v389) (i:=(kA:Int)-1) bS rfl rfl (r391.bel hw') rfl (by omega) (by omega)) (qv (vg [vi ((gI (gI p.2 ↑fQ) ((kA:Int)-1)).1),vi ((gI (gI p.2 ↑fQ) ((kA:Int)-1)).2)]) (λw' hw'=>aF (v:=v389) (i:=(kA:Int)-1) ah rfl (r391.bel hw') (by omega) (by omega) rfl) (qz zs9_c16 (qz zs11_c16 (qx (λw' hw'=>ad (v:=v389) (i:=↑kA) bS rfl rfl (r391.bel hw') rfl (by omega) (by omega)) (qv (vg [vi ((gI (gI p.2 ↑fQ) ↑kA).1),vi ((gI (gI p.2 ↑fQ) ↑kA).2)]) (λw' hw'=>aF (v:=v389) (i:=↑kA) ah rfl (r391.bel hw') (by omega) (by omega) rfl) (qz zs7_c16 ?_))))))
       replace o_someA:=o_someA.cn ch402
       refine cl (v:=vb (decide (di ((gI (gI p.2 ↑eQ) ((iA:Int)-1)),(gI (gI p.2 ↑eQ) ↑iA)) ((gI (gI p.2 ↑fQ) ((kA:Int)-1)),(gI (gI p.2 ↑fQ) ↑kA)) someA))) rfl (λw' hw'=>aA (vals:=[vg [vi ((gI (gI p.2 ↑eQ) ((iA:Int)-1)).1),vi ((gI (gI p.2 ↑eQ) ((iA:Int)-1)).2)],vg [vi ((gI (gI p.2 ↑eQ) ↑iA).1),vi ((gI (gI p.2 ↑eQ) ↑iA).2)],vg [vi ((gI (gI p.2 ↑fQ) ((kA:Int)-1)).1),vi ((gI (gI p.2 ↑fQ) ((kA:Int)-1)).2)],vg [vi ((gI (gI p.2 ↑fQ) ↑kA).1),vi ((gI (gI p.2 ↑fQ) ↑kA).2)],someA_v]) Tryz.func102 vh uL rfl) (λw' hw'=>(xt w' (gI (gI p.2 ↑eQ) ((iA:Int)-1)) (gI (gI p.2 ↑eQ) ↑iA) (gI (gI p.2 ↑fQ) ((kA:Int)-1)) (gI (gI p.2 ↑fQ) ↑kA) someA someA_v ((o_someA.flat.bel hw')).ro (by exact hx3A _ (bk (by omega) (by omega))) (by exact hx3A _ (bk (by omega) (by omega))) (by exact hy3A _ (bk (by omega) (by omega))) (by exact hy3A _ (bk (by omega) (by omega))) ‹_›).mono λe w2 h2=>⟨h2.1,hw'.trans (h2.2.mono hw'.size)⟩) ?_
       refine qx (λw' hw'=>bZ (b:=(decide (di ((gI (gI p.2 ↑eQ) ((iA:Int)-1)),(gI (gI p.2 ↑eQ) ↑iA)) ((gI (gI p.2 ↑fQ) ((kA:Int)-1)),(gI (gI p.2 ↑fQ) ↑kA)) someA))) rfl) (bN ?_)
       intro w404 hc405
       replace hc405:=ao hc405 g400
       by_cases p9_c16:(decide (di ((gI (gI p.2 ↑eQ) ((iA:Int)-1)),(gI (gI p.2 ↑eQ) ↑iA)) ((gI (gI p.2 ↑fQ) ((kA:Int)-1)),(gI (gI p.2 ↑fQ) ↑kA)) someA))=true
       ·
        refine ag rfl (congrArg Bool.not p9_c16) (ak (al (a6 rfl (mz zs11_c16 (lx (aM (m:=↑kA) (n:=1) rfl rfl (by omega)) (ai ((kA:Int)+1) (aa ?_)))))))
        replace bH:=bH.cn ch402
        refine back7_c16 (kA+1,g400) _ _ ⟨bH.cn hc405,zs7_c16,zs8_c16,zs9_c16,zs10_c16,rfl,(Rg.cn ch402).cn hc405,(Rp.cn ch402).cn hc405,(r_p_v1.cn ch402).cn hc405,(bx15.cn ch402).cn hc405,(o_GQ.cn ch402).cn hc405,o_someA.cn hc405,r388.cn hc405,r391.cn hc405,by omega,?_⟩ ?_
        · show 1<=(kA+1)/\∀q:Nat,q+1<(kA+1)->di (gI (gI p.2 ↑eQ) ((iA:Int)-1),gI (gI p.2 ↑eQ) ↑iA) (gI (gI p.2 ↑fQ) ↑q,gI (gI p.2 ↑fQ) ((q:Int)+1)) someA
          exact um hqA ‹_›
        · show List.length (gI p.2 ↑fQ)-(kA+1)<List.length (gI p.2 ↑fQ)-kA
          omega
       refine af rfl (congrArg Bool.not (Bool.eq_false_iff.2 p9_c16)) (a7 ?_)
       clear o_someA r388 r391
       refine a6 rfl (ma (vb false) (aa (ar (vs:=[vb false]) Tryz.func85 (.tmp rfl .nil) ?_)))
       replace bH:=bH.cn ch402
       replace bH:=bH.cn hc405
       replace Rg:=(Rg.cn ch402).cn hc405
       replace Rp:=(Rp.cn ch402).cn hc405
       replace r_p_v1:=(r_p_v1.cn ch402).cn hc405
       replace bx15:=(bx15.cn ch402).cn hc405
       replace o_GQ:=(o_GQ.cn ch402).cn hc405
       refine⟨(false,g400),rfl,bH,Rg,Rp,r_p_v1,bx15,o_GQ,?_⟩
       show false=decide (ke (gI p.2 ↑eQ) (gI p.2 ↑fQ) (ko g p (eQ:Int) (fQ:Int)))
       (rw[<-hsa];exact za hi1A ‹_› hq1A ‹_› ‹_›)
      refine ag rfl (df p7_c16) (aJ rfl (al (a6 rfl (mz zs10_c16 (lx (aM (m:=↑iA) (n:=1) rfl rfl (by omega)) (ai ((iA:Int)+1) (aa ?_)))))))
      refine back4_c16 (iA+1,g400) _ _ ⟨bH,zs7_c16,zs8_c16,zs9_c16,rfl,Rg,Rp,r_p_v1,bx15,o_GQ,o_someA,r388,r391,by omega,?_⟩ ?_
      · show 1<=(iA+1)/\∀j:Nat,j+1<(iA+1)->∀q:Nat,q+1<(gI p.2 ↑fQ).length->di (gI (gI p.2 ↑eQ) ↑j,gI (gI p.2 ↑eQ) ((j:Int)+1)) (gI (gI p.2 ↑fQ) ↑q,gI (gI p.2 ↑fQ) ((q:Int)+1)) someA
        exact y6 hiA hqA ‹_›
      · show List.length (gI p.2 ↑eQ)-(iA+1)<List.length (gI p.2 ↑eQ)-iA
        omega
     refine ag rfl (df p4_c16) (aJ rfl (a7 ?_))
     clear o_someA r388 r391
     refine a6 rfl (ma (vb true) (aa (ar (vs:=[vb true]) Tryz.func85 (.tmp rfl .nil) ?_)))
     refine⟨(true,g396),rfl,bH,Rg,Rp,r_p_v1,bx15,o_GQ,?_⟩
     show true=decide (ke (gI p.2 ↑eQ) (gI p.2 ↑fQ) (ko g p (eQ:Int) (fQ:Int)))
     (rw[<-hsa];exact yk hiA ‹_›)
    clear Rg Rp r_p_v1 bx15 o_GQ bH
    rintro⟨rr_c16,g407⟩ w406 ⟨bH,Rg,Rp,r_p_v1,bx15,o_GQ,hapA⟩
    refine lx (bZ (b:=rr_c16) rfl) (aa ?_)
    by_cases p6_c15:rr_c16=true
    ·
     refine ag rfl (congrArg Bool.not p6_c15) (ak (al (a6 rfl (mz zs3_c15 (lx (aM (m:=↑fQ) (n:=1) rfl rfl (by omega)) (ai ((fQ:Int)+1) (aa ?_)))))))
     refine back4_c15 (fQ+1,GQ_v,GQ,g407) _ _ ⟨bH,zs0_c15,zs2_c15,rfl,zs9_c15,zs10_c15,Rg,Rp,r_p_v1,bx15,o_GQ,by omega,?_⟩ ?_
     · show GQ=((cN g p++dG g p)++bt (hP g p) eQ)++bt (dX g p eQ) (fQ+1)/\eQ<(fQ+1)
       exact⟨ff hnQ.1 (ti ‹_› ‹_›),by omega⟩
     · show Int.toNat (((p.2.length:Int):Int)-((fQ+1):Int))<Int.toNat (((p.2.length:Int):Int)-(fQ:Int))
       omega
    refine af rfl (congrArg Bool.not (Bool.eq_false_iff.2 p6_c15)) (a6 rfl (mz zs0_c15 (mz zs2_c15 (mz zs3_c15 (lo (co (aA (vals:=[vp b13 0,vi 8,vi ↑eQ,vi ↑fQ]) Tryz.func74 dC dB rfl) (au Tryz.func74 rfl nq (a6 rfl (mv (vp b13 0) ?_)))))))))
    refine mv (vp b13 0) (lw (vp b13 0) (aI rfl) (lx (a8 eo rfl rfl rfl rfl) (lx (ab bP rfl bx15 rfl) (mi 8 (mi ↑eQ (mi ↑fQ (lw (vg [vi 8,vi ↑eQ,vi ↑fQ]) (bw (vs:=[(0,vi 8),(1,vi ↑eQ),(2,vi ↑fQ)]) rfl (by kernel_rfl)) (lo (aG (α:=bX) g407 (is 27) (is 27) (27,0) rfl [(8,(eQ:Int),(fQ:Int))] eH bU (by decide) (by decide) (vs:=[(0,vg [vi 8,vi ↑eQ,vi ↑fQ])]) rfl rfl (.cons rfl .nil) ?_)))))))))
    intro g408 w409 v410 ch411 o412
    refine lo ?_
    replace o_GQ:=o_GQ.cn ch411
    refine aV (α:=bX) (xs:=GQ) (ys:=([(8,(eQ:Int),(fQ:Int))])) g408 (J:=is 7) (S:=is 7) (7,0) rfl eH bU (by decide) rfl rfl rfl o_GQ o412.flat (by decide) (by(simp;omega)) ?_
    intro g413 w414 v415 ch416 o417
    clear o_GQ
    refine lw (vp b13 0) (aI rfl) (lx (a8 eo rfl rfl rfl rfl) (lo ?_))
    replace bx15:=(bx15.cn ch411).ce ch416
    refine bQ (cs':=[vi g.1,g_v,p_v,p_v1,v415]) bP rfl rfl bx15 (bK o417.flat) nq (bu o417.flat) rfl ?_
    intro w418 ch419 bx420
    clear bx15
    refine aa (cL (vs:=[]) Tryz.func74 .nil ?_)
    refine⟨vt [],rfl,?_⟩
    refine aa (al ?_)
    clear o412
    refine a6 rfl (mz zs3_c15 (lx (aM (m:=↑fQ) (n:=1) rfl rfl (by omega)) (ai ((fQ:Int)+1) (aa ?_))))
    have C421:=cg [3,7] (ch411.n.seq ((ch416.l rfl).seq (ch419.l rfl)))
    refine back4_c15 (fQ+1,v415,(GQ++[(8,(eQ:Int),(fQ:Int))]),g413) _ _ ⟨bH.ca C421,zs0_c15,zs2_c15,rfl,zs9_c15,zs10_c15,Rg.ca C421,Rp.ca C421,r_p_v1.ca C421,bx420,o417.ce ch419,by omega,?_⟩ ?_
    · show(GQ++[(8,(eQ:Int),(fQ:Int))])=((cN g p++dG g p)++bt (hP g p) eQ)++bt (dX g p eQ) (fQ+1)/\eQ<(fQ+1)
      exact⟨ew hnQ.1 (pU hefQ ‹_› ‹_›),by omega⟩
    · show Int.toNat (((p.2.length:Int):Int)-((fQ+1):Int))<Int.toNat (((p.2.length:Int):Int)-(fQ:Int))
      omega
   refine ag rfl (df p4_c15) (aJ rfl (al (a6 rfl (lx (aM (m:=↑eQ) (n:=1) zs10_c15 rfl (by omega)) (mi ((eQ:Int)+1) (aa ?_))))))
   refine back1_c15 (GQ_v,GQ,eQ+1,g332) _ _ ⟨bH,zs0_c15,zs9_c15,rfl,Rg,Rp,r_p_v1,bx15,o_GQ,by omega,?_⟩ ?_
   · show GQ=(cN g p++dG g p)++bt (hP g p) (eQ+1)
     exact mR hnQ.1 (by omega)
   · show Int.toNat (((p.2.length:Int):Int)-((eQ+1):Int))<Int.toNat (((p.2.length:Int):Int)-(eQ:Int))
     omega
  refine ag rfl (df p1_c15) (aJ rfl (cL (vs:=[]) Tryz.func61 .nil ?_))
  refine⟨vt [],rfl,?_⟩
  refine aa (a7 (a6 rfl (mv (vp b13 0) (lw (vp b13 0) (aI rfl) (lx (a8 eo rfl rfl rfl rfl) (lx (ab bP rfl bx15 rfl) (ma FQ_v (aa (ar (vs:=[FQ_v]) Tryz.func28 (.tmp rfl .nil) ?_)))))))))
  have e0:(FQ:List bX)=(bT g p):=by
    exact mP hsn hlf.2 ‹_› hmQ (by omega)
  exact⟨(fin w0 g329 (λn=>if n=7 then 1 else 0),FQ_v),(congrArg (a₁:=FQ) (λ(z0:List bX)=>Ending.returned (FQ_v)) e0),bH.fresh _,(e0▸(o_FQ.glue (γ:=c0) (ren:=(λn=>if n=7 then 1 else 0)) (k:=1) bH.col rfl rfl))⟩
 have hlf:=kG hfL (by omega)
 refine ag rfl (Bool.eq_false_iff.2 p6) (ak (a7 (a6 rfl (mv (vp b13 0) (lw (vp b13 0) (aI rfl) (lx (a8 eo rfl rfl rfl rfl) (lx (ab bP rfl bx15 rfl) (ma GL_v (aa (ar (vs:=[GL_v]) Tryz.func28 (.tmp rfl .nil) ?_))))))))))
 have e0:(GL:List bX)=(bT g p):=by
   exact oZ hsn hlf.1 hlf.2 ‹_›
 exact⟨(fin w0 g261 (λn=>if n=7 then 1 else 0),GL_v),(congrArg (a₁:=GL) (λ(z0:List bX)=>Ending.returned (GL_v)) e0),bH.fresh _,(e0▸(o_GL.glue (γ:=c0) (ren:=(λn=>if n=7 then 1 else 0)) (k:=1) bH.col rfl rfl))⟩
end TL
