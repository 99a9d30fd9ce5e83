import Derived.Test.YtbadiajeohbpcaaGreatTlP3
import Derived.Test.YtbadiajeohbpcaaGreatTlGkA
import Derived.Test.YtbadiajeohbpcaaGreatTlGmA
import Derived.Test.YtbadiajeohbpcaaGreatTlGmN
import Derived.Test.YtbadiajeohbpcaaGreatTlGmD
import Derived.Test.YtbadiajeohbpcaaGreatTlGmV
import Derived.Test.YtbadiajeohbpcaaGreatTlGmI
import Derived.Test.YtbadiajeohbpcaaGreatTlGenA
import Derived.Test.YtbadiajeohbpcaaGreatTlGenJ
import Derived.Test.YtbadiajeohbpcaaGreatProg
import Derived.Test.YtbadiajeohbpcaaGreatTlAli
set_option linter.all false
set_option maxRecDepth 20000
namespace TL
open Go Go.Proofs
theorem jX:Tryz.prog.follows .mixedOrders=true:=by kernel_rfl
theorem dm:Tp Tryz.prog 47 true 5 32 (.agg #[.int .i64 0,.int .i64 0,.int .i64 0,.bool false,.bool false]):=Tp.of (by kernel_rfl)
theorem xi:Tryz.f46.body.isNone=false:=rfl
theorem ym:(Tryz.f46.name== "runtime.NumGoroutine")=false:=by decide+kernel
theorem ws:Tryz.f47.body.isNone=false:=rfl
theorem yw:(Tryz.f47.name== "runtime.NumGoroutine")=false:=by decide+kernel
theorem wd:Tryz.f48.body.isNone=false:=rfl
theorem wN:(Tryz.f48.name== "runtime.NumGoroutine")=false:=by decide+kernel
theorem x9:Tryz.f50.body.isNone=false:=rfl
theorem yh:(Tryz.f50.name== "runtime.NumGoroutine")=false:=by decide+kernel
theorem xc:Tryz.f51.body.isNone=false:=rfl
theorem wt:(Tryz.f51.name== "runtime.NumGoroutine")=false:=by decide+kernel
theorem xw:Tryz.f52.body.isNone=false:=rfl
theorem xV:(Tryz.f52.name== "runtime.NumGoroutine")=false:=by decide+kernel
set_option maxHeartbeats 8000000 in
theorem lB(w0:World)(g:(Int)×(List Pt))(g_v:Value)(hg_v:Ro w0 g_v g.2)(p:(List Pt)×(List (List Pt)))(p_v p_v1:Value)(hp_v:Ro w0 p_v p.1)(hp_v1:Ro w0 p_v1 p.2)(hmay:c8 g):
    Calls Tryz.prog 19 #[vg [vi g.1,g_v],vg [p_v,p_v1]] w0 (λee w=>∃xx:aK×Value,ee= .returned ((λ⟨δ,rv0⟩=>rv0) xx)/\(λ(⟨δ,rv0⟩:aK×Value) (w:World)=>em w0 δ w/\Ow δ (is 1) (is 1) w rv0 (bT g p)) xx w):=by
 refine au Tryz.func19 rfl nq ?_
 have bH:=aT.start w0
 have Rg:=hg_v.sl
 have Rp:=hp_v.sl
 have r_p_v1:=hp_v1.sl
 have hm0:=hmay
 obtain⟨hm1,hm2,hm3,hm4⟩:=hm0
 refine a7 (a6 rfl (bW rfl (bh c0 (is 1) (1,0) rfl rfl ?_)))
 intro g4 w1 b3 ch2 bx5
 replace bx5:Bx g4 (is 1) w1 b3 [vi g.1,g_v]:=bx5
 refine lo (bh g4 (is 2) (2,0) rfl rfl ?_)
 intro g9 w6 b8 ch7 bx10
 replace bx10:Bx g9 (is 2) w6 b8 [p_v,p_v1]:=bx10
 refine ma vn (aa (a7 (a6 rfl ?_)))
 replace bx5:=bx5.cn ch7
 refine lx (aj (ds:=[vi g.1,g_v]) bF rfl bx5 rfl rfl) (lx (aj (ds:=[p_v,p_v1]) bI rfl bx10 rfl rfl) ?_)
 replace Rg:=(Rg.cn ch2).cn ch7
 replace Rp:=(Rp.cn ch2).cn ch7
 replace r_p_v1:=(r_p_v1.cn ch2).cn ch7
 refine lo (bi (aA (vals:=[vg [vi g.1,g_v],vg [p_v,p_v1]]) Tryz.func49 qZ rp rfl) (mj w6 g g_v (Rg).ro p p_v p_v1 (Rp).ro (r_p_v1).ro ‹_›) ?_)
 rintro⟨d12,v14⟩ w11 ⟨fr13,o15⟩
 obtain⟨g16,ch17,G16⟩:=fC g9 fr13 (λn=>if n=1 then 3 else 0)
 replace o15:=o15.gl G16 3
 refine ma v14 (aa (a7 (a7 (a6 rfl (mv v14 ?_)))))
 have len18:=(o15.flat).small
 refine lx (aQ eH rfl o15.flat) (lx (d8 (m:=(List.length (bL g p):Int)) (n:=0) rfl rfl) (aa ?_))
 by_cases p2:0<(List.length (bL g p):Int)
 ·
  refine af rfl (dt p2) (a7 ?_)
  clear bx5 bx10
  refine a6 rfl (mv v14 (ma v14 (aa (ar (vs:=[v14]) Tryz.func19 (.tmp rfl .nil) ?_))))
  have C19:=cg [] (ch2.n.seq (ch7.n.seq ch17.n))
  replace bH:=bH.ca C19
  have e0:(bL g p:List bX)=(bT g p):=by
    exact pc rfl (by omega)
  exact⟨(fin w0 g16 (λn=>if n=3 then 1 else 0),v14),(congrArg (a₁:=bL g p) (λ(z0:List bX)=>Ending.returned (v14)) e0),bH.fresh _,(e0▸(o15.glue (γ:=c0) (ren:=(λn=>if n=3 then 1 else 0)) (k:=1) bH.col rfl rfl))⟩
 obtain⟨hF0,hsn,hs⟩:=nc (g:=g) (p:=p) rfl (by omega)
 have hs1:=hs.n
 have hs2:=hs.m
 refine ag rfl (df p2) (ak (a7 (a7 (a6 rfl (ai 0 (aa (am ?_)))))))
 refine aN (σ:=Value×(List bX)×Nat×aK) (λ⟨F0_v,F0,v,gq⟩ f w=>aT w0 gq w/\f 2=vp b3 0/\f 3=vp b8 0/\f 5=F0_v/\f 6=vi ↑v/\Sl gq (is 0) w g_v g.2/\Sl gq (is 0) w p_v p.1/\Sl gq (is 0) w p_v1 p.2/\Bx gq (is 1) w b3 [vi g.1,g_v]/\Bx gq (is 2) w b8 [p_v,p_v1]/\Ow gq (is 3) (is 3) w F0_v F0/\(v:Int)<=(g.1:Int)/\(F0=bt (el p) v)) (λ⟨F0_v,F0,v,gq⟩=>Int.toNat ((g.1:Int)-(v:Int))) (v14,bL g p,0,g16) ?_ ?_
 have C20:=cg [] (ch2.n.seq (ch7.n.seq ch17.n))
 · exact⟨bH.ca C20,rfl,rfl,rfl,rfl,Rg.cn ch17,Rp.cn ch17,r_p_v1.cn ch17,bx5.cn ch17,bx10.cn ch17,o15,by omega,by exact hF0⟩
 clear Rg Rp r_p_v1 bx5 bx10 o15 bH
 rintro⟨F0_v,F0,v,g23⟩ f21 w22 ⟨bH,zs2,zs3,zs5,zs6,Rg,Rp,r_p_v1,bx5,bx10,o_F0,hle_v,h0_⟩ back5
 refine a7 (a7 (a6 rfl (mz zs6 (lx (a8 dY rfl rfl zs2 rfl) (lx (ab az rfl bx5 rfl) (lx (aZ (m:=↑v) (n:=g.1) rfl rfl) (aa ?_)))))))
 by_cases p5:(v:Int)<g.1
 ·
  refine af rfl (dt p5) (ak (a7 (am (a7 (a6 rfl (mz zs6 (lx (aM (m:=↑v) (n:=1) rfl rfl (by omega)) (ai ((v:Int)+1) (aa (am ?_))))))))))
  refine aN (σ:=Value×(List bX)×Nat×aK) (λ⟨F1_v,F1,wb,gq⟩ f w=>aT w0 gq w/\f 2=vp b3 0/\f 3=vp b8 0/\f 5=F1_v/\f 6=vi ↑v/\f 7=vi ↑wb/\Sl gq (is 0) w g_v g.2/\Sl gq (is 0) w p_v p.1/\Sl gq (is 0) w p_v1 p.2/\Bx gq (is 1) w b3 [vi g.1,g_v]/\Bx gq (is 2) w b8 [p_v,p_v1]/\Ow gq (is 3) (is 3) w F1_v F1/\(wb:Int)<=(g.1:Int)/\(F1=bt (el p) v++bt (iI p v) wb/\v<wb)) (λ⟨F1_v,F1,wb,gq⟩=>Int.toNat ((g.1:Int)-(wb:Int))) (F0_v,F0,v+1,g23) ?_ ?_
  · exact⟨bH,zs2,zs3,zs5,zs6,rfl,Rg,Rp,r_p_v1,bx5,bx10,o_F0,by omega,by exact wA h0_⟩
  clear Rg Rp r_p_v1 bx5 bx10 o_F0 bH
  rintro⟨F1_v,F1,wb,g26⟩ f24 w25 ⟨bH,zs2,zs3,zs5,zs6,zs7,Rg,Rp,r_p_v1,bx5,bx10,o_F1,hle_wb,h1_⟩ back8
  have h1l:=zO (by omega) (by omega) (by omega) h1_.1
  have h1v:=h1_.2
  refine a7 (a7 (a6 rfl (mz zs7 (lx (a8 dY rfl rfl zs2 rfl) (lx (ab az rfl bx5 rfl) (lx (aZ (m:=↑wb) (n:=g.1) rfl rfl) (aa ?_)))))))
  by_cases p8:(wb:Int)<g.1
  ·
   refine af rfl (dt p8) (ak (a7 (am (a7 (bz g26 rfl jX (by kernel_rfl) ?_)))))
   intro w28 ch27
   refine qx (λw' hw'=>a8 ef rfl rfl zs3 rfl) ?_
   replace bx10:=bx10.cn ch27
   refine qx (λw' hw'=>ab cq rfl (bx10.bel hw') rfl) (qz zs6 ?_)
   replace Rp:=Rp.cn ch27
   refine qx (λw' hw'=>ad (v:=p_v) (i:=↑v) bS rfl rfl (Rp.bel hw') rfl (by omega) (by omega)) (qv (vg [vi ((gI p.1 ↑v).1),vi ((gI p.1 ↑v).2)]) (λw' hw'=>aF (v:=p_v) (i:=↑v) ah rfl (Rp.bel hw') (by omega) (by omega) rfl) (qx (λw' hw'=>a8 ef rfl rfl zs3 rfl) (qx (λw' hw'=>ab cq rfl (bx10.bel hw') rfl) (qz zs7 (qx (λw' hw'=>ad (v:=p_v) (i:=↑wb) bS rfl rfl (Rp.bel hw') rfl (by omega) (by omega)) (qv (vg [vi ((gI p.1 ↑wb).1),vi ((gI p.1 ↑wb).2)]) (λw' hw'=>aF (v:=p_v) (i:=↑wb) ah rfl (Rp.bel hw') (by omega) (by omega) rfl) ?_))))))
   refine qv (vb (decide ((gI p.1 ↑v)=(gI p.1 ↑wb)))) (λw' hw'=>dh (bs:=[decide (((gI p.1 ↑v).1)=((gI p.1 ↑wb).1)),decide (((gI p.1 ↑v).2)=((gI p.1 ↑wb).2))]) cj (by kernel_rfl) (by kernel_rfl) rfl rfl (.cons (by decide+kernel) az rfl rfl (.int U3) (.cons (by decide+kernel) az rfl rfl (.int U3) .nil)) (by simp[Prod.ext_iff,Bool.decide_and,Bool.and_assoc])) (bN ?_)
   intro w29 hc30
   replace hc30:=ao hc30 g26
   by_cases p10:(gI p.1 ↑v)=(gI p.1 ↑wb)
   ·
    refine af rfl (dt p10) (a6 rfl (mz zs5 (mz zs6 (mz zs7 (lw (vg [vi 4,vi ↑v,vi ↑wb]) (bw (vs:=[(0,vi 4),(1,vi ↑v),(2,vi ↑wb)]) rfl (by kernel_rfl)) (lo (aG (α:=bX) g26 (is 4) (is 4) (4,0) rfl ([(4,(v:Int),(wb:Int))]:List bX) eH d4 (by decide) (by decide) (vs:=[(0,vg [vi 4,vi ↑v,vi ↑wb])]) rfl rfl (.cons rfl .nil) ?_)))))))
    intro g31 w32 v33 ch34 o35
    refine lo ?_
    have C36:=cg [] (ch27.n.seq (hc30.n.seq ch34.n))
    replace o_F1:=o_F1.ca C36
    refine aV (α:=bX) (xs:=F1) (ys:=([(4,(v:Int),(wb:Int))]:List bX)) g31 (J:=is 3) (S:=is 3) (3,0) rfl eH d4 (by decide) rfl rfl rfl o_F1 o35.flat (by decide) (by(simp;omega)) ?_
    intro g37 w38 v39 ch40 o41
    clear o_F1
    refine ma v39 (aa (al ?_))
    clear o35
    refine a6 rfl (mz zs7 (lx (aM (m:=↑wb) (n:=1) rfl rfl (by omega)) (ai ((wb:Int)+1) (aa ?_))))
    have C43:=cg [3] (hc30.n.seq (ch34.n.seq (ch40.l rfl)))
    have C42:=ch27.n.seq C43
    refine back8 (v39,(F1++([(4,(v:Int),(wb:Int))]:List bX)),wb+1,g37) _ _ ⟨bH.ca C42,zs2,zs3,rfl,zs6,rfl,Rg.ca C42,Rp.ca C43,r_p_v1.ca C42,bx5.ca C42,bx10.ca C43,o41,by omega,?_⟩ ?_
    · show(F1++([(4,(v:Int),(wb:Int))]:List bX))=bt (el p) v++bt (iI p v) (wb+1)/\v<(wb+1)
      exact⟨zn h1_.1 h1v ‹_›,by omega⟩
    · show Int.toNat ((g.1:Int)-((wb+1):Int))<Int.toNat ((g.1:Int)-(wb:Int))
      omega
   refine ag rfl (df p10) (ak (al (a6 rfl (mz zs7 (lx (aM (m:=↑wb) (n:=1) rfl rfl (by omega)) (ai ((wb:Int)+1) (aa ?_)))))))
   replace bH:=bH.cn ch27
   refine back8 (F1_v,F1,wb+1,g26) _ _ ⟨bH.cn hc30,zs2,zs3,zs5,zs6,rfl,(Rg.cn ch27).cn hc30,Rp.cn hc30,(r_p_v1.cn ch27).cn hc30,(bx5.cn ch27).cn hc30,bx10.cn hc30,(o_F1.cn ch27).cn hc30,by omega,?_⟩ ?_
   · show F1=bt (el p) v++bt (iI p v) (wb+1)/\v<(wb+1)
     exact⟨At h1_.1 ‹_›,by omega⟩
   · show Int.toNat ((g.1:Int)-((wb+1):Int))<Int.toNat ((g.1:Int)-(wb:Int))
     omega
  refine ag rfl (df p8) (aJ rfl (al (a6 rfl (mz zs6 (lx (aM (m:=↑v) (n:=1) rfl rfl (by omega)) (ai ((v:Int)+1) (aa ?_)))))))
  refine back5 (F1_v,F1,v+1,g26) _ _ ⟨bH,zs2,zs3,zs5,rfl,Rg,Rp,r_p_v1,bx5,bx10,o_F1,by omega,?_⟩ ?_
  · show F1=bt (el p) (v+1)
    exact zi h1_.1 (by omega)
  · show Int.toNat ((g.1:Int)-((v+1):Int))<Int.toNat ((g.1:Int)-(v:Int))
    omega
 refine ag rfl (df p5) (aJ rfl (a7 (a6 rfl (ma (vb false) (aa (a7 (a7 (a6 rfl (ai 0 (aa (am ?_)))))))))))
 refine aN (σ:=Nat×Value×(List bX)×Bool×aK) (λ⟨e,F2_v,F2,st,gq⟩ f w=>aT w0 gq w/\f 2=vp b3 0/\f 3=vp b8 0/\f 5=F2_v/\f 8=vb st/\f 9=vi ↑e/\Sl gq (is 0) w g_v g.2/\Sl gq (is 0) w p_v p.1/\Sl gq (is 0) w p_v1 p.2/\Bx gq (is 1) w b3 [vi g.1,g_v]/\Bx gq (is 2) w b8 [p_v,p_v1]/\Ow gq (is 3) (is 3) w F2_v F2/\(e:Int)<=((g.2.length:Int):Int)/\(F2=cw p++bt (cH g p) e/\(!st)=decide (bt (cH g p) e=[]))) (λ⟨e,F2_v,F2,st,gq⟩=>Int.toNat (((g.2.length:Int):Int)-(e:Int))) (0,F0_v,F0,false,g23) ?_ ?_
 · exact⟨bH,zs2,zs3,zs5,rfl,rfl,Rg,Rp,r_p_v1,bx5,bx10,o_F0,by omega,by exact mK h0_ (by omega)⟩
 clear Rg Rp r_p_v1 bx5 bx10 o_F0 bH
 rintro⟨e,F2_v,F2,st,g46⟩ f44 w45 ⟨bH,zs2,zs3,zs5,zs8,zs9,Rg,Rp,r_p_v1,bx5,bx10,o_F2,hle_e,h2_⟩ back14
 have h2l:=pE (by omega) (by omega) h2_.1
 refine a7 (a7 (a6 rfl (mz zs9 (lx (a8 dY rfl rfl zs2 rfl) (lx (ab bO rfl bx5 rfl) ?_)))))
 have len47:=(Rg).small
 refine lx (aQ fm rfl Rg) (lx (aZ (m:=↑e) (n:=(g.2.length:Int)) rfl rfl) (aa ?_))
 by_cases p14:(e:Int)<(g.2.length:Int)
 ·
  refine af rfl (dt p14) ?_
  obtain⟨hl1,hl2,hl3⟩:=hs.ln (e:Int) (by omega) (by omega)
  obtain⟨⟨he1,he2⟩,he3,he4⟩:=iX (e:=(e:Int)) hmay (by omega) (by omega)
  refine ak (a7 (am (a7 (a6 rfl (lx (a8 ef rfl rfl zs3 rfl) (lx (ab ez rfl bx10 rfl) (mz zs9 (lx (ad (v:=p_v1) (i:=↑e) fg rfl rfl r_p_v1 rfl (by omega) (by omega)) ?_))))))))
  obtain⟨v48,cel49,r50⟩:=cA (r:=(e:Int)) r_p_v1 (by omega) (by omega)
  refine lx (ba cq rfl cel49) (ma v48 (aa (a7 (bz g46 rfl jX (by kernel_rfl) ?_))))
  intro w52 ch51
  refine qm v48 ?_
  replace r50:=r50.cn ch51
  refine qx (λw' hw'=>ad (v:=v48) (i:=0) bS rfl rfl (r50.bel hw') rfl (by omega) (by omega)) (qv (vg [vi ((gI (gI p.2 ↑e) 0).1),vi ((gI (gI p.2 ↑e) 0).2)]) (λw' hw'=>aF (v:=v48) (i:=0) ah rfl (r50.bel hw') (by omega) (by omega) rfl) (qx (λw' hw'=>a8 ef rfl rfl zs3 rfl) ?_))
  replace bx10:=bx10.cn ch51
  refine qx (λw' hw'=>ab cq rfl (bx10.bel hw') rfl) (qx (λw' hw'=>a8 dY rfl rfl zs2 rfl) ?_)
  replace bx5:=bx5.cn ch51
  refine qx (λw' hw'=>ab bO rfl (bx5.bel hw') rfl) (qz zs9 ?_)
  replace Rg:=Rg.cn ch51
  refine qx (λw' hw'=>ad (v:=g_v) (i:=↑e) fm rfl rfl (Rg.bel hw') rfl (by omega) (by omega)) (qx (λw' hw'=>b5 jC rfl rfl rfl (by decide) (by decide) rfl) (qx (λw' hw'=>bJ (v:=g_v) (i:=↑e) az rfl (Rg.bel hw') (by omega) (by omega) (by decide) rfl) ?_))
  replace Rp:=Rp.cn ch51
  refine qx (λw' hw'=>ad (v:=p_v) (i:=(gI g.2 ↑e).1) bS rfl rfl (Rp.bel hw') rfl (by omega) (by omega)) (qv (vg [vi ((gI p.1 ((gI g.2 ↑e).1)).1),vi ((gI p.1 ((gI g.2 ↑e).1)).2)]) (λw' hw'=>aF (v:=p_v) (i:=(gI g.2 ↑e).1) ah rfl (Rp.bel hw') (by omega) (by omega) rfl) ?_)
  refine qv (vb (!(decide ((gI (gI p.2 ↑e) 0)=(gI p.1 ((gI g.2 ↑e).1)))))) (λw' hw'=>de (bs:=[decide (((gI (gI p.2 ↑e) 0).1)=((gI p.1 ((gI g.2 ↑e).1)).1)),decide (((gI (gI p.2 ↑e) 0).2)=((gI p.1 ((gI g.2 ↑e).1)).2))]) cj (by kernel_rfl) (by kernel_rfl) rfl rfl (.cons (by decide+kernel) az rfl rfl (.int U3) (.cons (by decide+kernel) az rfl rfl (.int U3) .nil)) (by simp[Prod.ext_iff,Bool.decide_and,Bool.and_assoc])) (qm (vb (!(decide ((gI (gI p.2 ↑e) 0)=(gI p.1 ((gI g.2 ↑e).1)))))) ?_)
  by_cases q80:(gI (gI p.2 ↑e) 0)=(gI p.1 ((gI g.2 ↑e).1))
  ·
   refine aH (v:=v48) (wy (congrArg Bool.not (dt q80))) (λw' hw'=>aq rfl) (aH (v:=v48) (wy (congrArg Bool.not (dt q80))) (λw' hw'=>aq rfl) ?_)
   have len53:=(r50).small
   refine aH (v:=vi (List.length (gI p.2 ↑e):Int)) (wy (congrArg Bool.not (dt q80))) (λw' hw'=>aQ bS rfl (r50.bel hw')) (aH (v:=vi ((List.length (gI p.2 ↑e):Int)-1)) (wy (congrArg Bool.not (dt q80))) (λw' hw'=>c3 (m:=(List.length (gI p.2 ↑e):Int)) (n:=1) rfl rfl (by omega)) (aH (v:=Value.pointer (some (aR v48 2 (Int.toNat ((List.length (gI p.2 ↑e):Int)-1))))) (wy (congrArg Bool.not (dt q80))) (λw' hw'=>ad (α:=Pt) (xs:=gI p.2 ↑e) (v:=v48) (i:=(List.length (gI p.2 ↑e):Int)-1) bS rfl rfl (r50.bel hw') rfl (by omega) (by omega)) ?_))
   refine aH (v:=vg [vi ((gI (gI p.2 ↑e) ((List.length (gI p.2 ↑e):Int)-1)).1),vi ((gI (gI p.2 ↑e) ((List.length (gI p.2 ↑e):Int)-1)).2)]) (wy (congrArg Bool.not (dt q80))) (λw' hw'=>aF (α:=Pt) (xs:=gI p.2 ↑e) (v:=v48) (i:=(List.length (gI p.2 ↑e):Int)-1) ah rfl (r50.bel hw') (by omega) (by omega) rfl) (aH (v:=vp b8 0) (wy (congrArg Bool.not (dt q80))) (λw' hw'=>a8 ef rfl rfl zs3 rfl) (aH (v:=p_v) (wy (congrArg Bool.not (dt q80))) (λw' hw'=>ab cq rfl (bx10.bel hw') rfl) ?_))
   refine aH (v:=vp b3 1) (wy (congrArg Bool.not (dt q80))) (λw' hw'=>a8 dY rfl rfl zs2 rfl) (aH (v:=g_v) (wy (congrArg Bool.not (dt q80))) (λw' hw'=>ab bO rfl (bx5.bel hw') rfl) (aH (v:=vi ↑e) (wy (congrArg Bool.not (dt q80))) (λw' hw'=>aq zs9) (aH (v:=Value.pointer (some (aR g_v 2 (Int.toNat ↑e)))) (wy (congrArg Bool.not (dt q80))) (λw' hw'=>ad (α:=Pt) (xs:=g.2) (v:=g_v) (i:=↑e) fm rfl rfl (Rg.bel hw') rfl (by omega) (by omega)) ?_)))
   refine aH (v:=Value.pointer (some ⟨(aR g_v 2 (Int.toNat ↑e)).block,(aR g_v 2 (Int.toNat ↑e)).off+1,none⟩)) (wy (congrArg Bool.not (dt q80))) (λw' hw'=>b5 jC rfl rfl rfl (by decide) (by decide) rfl) (aH (v:=vi ((gI g.2 ↑e).2)) (wy (congrArg Bool.not (dt q80))) (λw' hw'=>bJ (α:=Pt) (xs:=g.2) (v:=g_v) (i:=↑e) az rfl (Rg.bel hw') (by omega) (by omega) (by decide) rfl) (aH (v:=Value.pointer (some (aR p_v 2 (Int.toNat ((gI g.2 ↑e).2))))) (wy (congrArg Bool.not (dt q80))) (λw' hw'=>ad (α:=Pt) (xs:=p.1) (v:=p_v) (i:=(gI g.2 ↑e).2) bS rfl rfl (Rp.bel hw') rfl (by omega) (by omega)) ?_))
   refine aH (v:=vg [vi ((gI p.1 ((gI g.2 ↑e).2)).1),vi ((gI p.1 ((gI g.2 ↑e).2)).2)]) (wy (congrArg Bool.not (dt q80))) (λw' hw'=>aF (α:=Pt) (xs:=p.1) (v:=p_v) (i:=(gI g.2 ↑e).2) ah rfl (Rp.bel hw') (by omega) (by omega) rfl) ?_
   refine aH (v:=vb (!(decide ((gI (gI p.2 ↑e) ((List.length (gI p.2 ↑e):Int)-1))=(gI p.1 ((gI g.2 ↑e).2)))))) (wy (congrArg Bool.not (dt q80))) (λw' hw'=>de (bs:=[decide (((gI (gI p.2 ↑e) ((List.length (gI p.2 ↑e):Int)-1)).1)=((gI p.1 ((gI g.2 ↑e).2)).1)),decide (((gI (gI p.2 ↑e) ((List.length (gI p.2 ↑e):Int)-1)).2)=((gI p.1 ((gI g.2 ↑e).2)).2))]) cj (by kernel_rfl) (by kernel_rfl) rfl rfl (.cons (by decide+kernel) az rfl rfl (.int U3) (.cons (by decide+kernel) az rfl rfl (.int U3) .nil)) (by simp[Prod.ext_iff,Bool.decide_and,Bool.and_assoc])) ?_
   refine qv (vb (!(decide ((gI (gI p.2 ↑e) ((List.length (gI p.2 ↑e):Int)-1))=(gI p.1 ((gI g.2 ↑e).2)))))) (λw' hw'=>aB rfl (congrArg Bool.not (dt q80)) rfl) (bN ?_)
   intro w54 hc55
   replace hc55:=ao hc55 g46
   by_cases p17:(gI (gI p.2 ↑e) ((List.length (gI p.2 ↑e):Int)-1))=(gI p.1 ((gI g.2 ↑e).2))
   ·
    refine ag rfl (congrArg Bool.not (dt p17)) (ak (al ?_))
    clear r50
    refine a6 rfl (mz zs9 (lx (aM (m:=↑e) (n:=1) rfl rfl (by omega)) (ai ((e:Int)+1) (aa ?_))))
    replace bH:=bH.cn ch51
    refine back14 (e+1,F2_v,F2,st,g46) _ _ ⟨bH.cn hc55,zs2,zs3,zs5,zs8,rfl,Rg.cn hc55,Rp.cn hc55,(r_p_v1.cn ch51).cn hc55,bx5.cn hc55,bx10.cn hc55,(o_F2.cn ch51).cn hc55,by omega,?_⟩ ?_
    · show F2=cw p++bt (cH g p) (e+1)/\(!st)=decide (bt (cH g p) (e+1)=[])
      exact rI h2_ ⟨by assumption,by assumption⟩
    · show Int.toNat (((g.2.length:Int):Int)-((e+1):Int))<Int.toNat (((g.2.length:Int):Int)-(e:Int))
      omega
   refine af rfl (congrArg Bool.not (df p17)) (a7 ?_)
   clear r50
   refine a6 rfl (mz zs5 (mz zs9 (lw (vg [vi 5,vi ↑e,vi 0]) (bw (vs:=[(0,vi 5),(1,vi ↑e)]) rfl (by kernel_rfl)) (lo (aG (α:=bX) g46 (is 5) (is 5) (5,0) rfl ([(5,(e:Int),0)]:List bX) eH d4 (by decide) (by decide) (vs:=[(0,vg [vi 5,vi ↑e,vi 0])]) rfl rfl (.cons rfl .nil) ?_)))))
   intro g56 w57 v58 ch59 o60
   refine lo ?_
   have C61:=cg [] (ch51.n.seq (hc55.n.seq ch59.n))
   replace o_F2:=o_F2.ca C61
   refine aV (α:=bX) (xs:=F2) (ys:=([(5,(e:Int),0)]:List bX)) g56 (J:=is 3) (S:=is 3) (3,0) rfl eH d4 (by decide) rfl rfl rfl o_F2 o60.flat (by decide) (by(simp;omega)) ?_
   intro g62 w63 v64 ch65 o66
   clear o_F2
   refine ma v64 (aa ?_)
   clear o60
   refine a6 rfl (ma (vb true) (aa (al (a6 rfl (mz zs9 (lx (aM (m:=↑e) (n:=1) rfl rfl (by omega)) (ai ((e:Int)+1) (aa ?_))))))))
   have C68:=cg [3] (hc55.n.seq (ch59.n.seq (ch65.l rfl)))
   have C67:=ch51.n.seq C68
   refine back14 (e+1,v64,(F2++([(5,(e:Int),0)]:List bX)),true,g62) _ _ ⟨bH.ca C67,zs2,zs3,rfl,rfl,rfl,Rg.ca C68,Rp.ca C68,r_p_v1.ca C67,bx5.ca C68,bx10.ca C68,o66,by omega,?_⟩ ?_
   · show(F2++([(5,(e:Int),0)]:List bX))=cw p++bt (cH g p) (e+1)/\(!true)=decide (bt (cH g p) (e+1)=[])
     exact jG h2_ (λc=>absurd c.2 ‹_›)
   · show Int.toNat (((g.2.length:Int):Int)-((e+1):Int))<Int.toNat (((g.2.length:Int):Int)-(e:Int))
     omega
  refine av (wn (congrArg Bool.not (df q80))) (av (wn (congrArg Bool.not (df q80))) (av (wn (congrArg Bool.not (df q80))) (av (wn (congrArg Bool.not (df q80))) (av (wn (congrArg Bool.not (df q80))) (av (wn (congrArg Bool.not (df q80))) (av (wn (congrArg Bool.not (df q80))) (av (wn (congrArg Bool.not (df q80))) (av (wn (congrArg Bool.not (df q80))) (av (wn (congrArg Bool.not (df q80))) ?_)))))))))
  refine av (wn (congrArg Bool.not (df q80))) (av (wn (congrArg Bool.not (df q80))) (av (wn (congrArg Bool.not (df q80))) (av (wn (congrArg Bool.not (df q80))) (av (wn (congrArg Bool.not (df q80))) (av (wn (congrArg Bool.not (df q80))) (av (wn (congrArg Bool.not (df q80))) (qv (vb true) (λw' hw'=>aD rfl (congrArg Bool.not (df q80)) rfl) (bN ?_))))))))
  intro w69 hc70
  replace hc70:=ao hc70 g46
  refine af rfl rfl (a7 ?_)
  clear r50
  refine a6 rfl (mz zs5 (mz zs9 (lw (vg [vi 5,vi ↑e,vi 0]) (bw (vs:=[(0,vi 5),(1,vi ↑e)]) rfl (by kernel_rfl)) (lo (aG (α:=bX) g46 (is 5) (is 5) (5,0) rfl ([(5,(e:Int),0)]:List bX) eH d4 (by decide) (by decide) (vs:=[(0,vg [vi 5,vi ↑e,vi 0])]) rfl rfl (.cons rfl .nil) ?_)))))
  intro g71 w72 v73 ch74 o75
  refine lo ?_
  have C76:=cg [] (ch51.n.seq (hc70.n.seq ch74.n))
  replace o_F2:=o_F2.ca C76
  refine aV (α:=bX) (xs:=F2) (ys:=([(5,(e:Int),0)]:List bX)) g71 (J:=is 3) (S:=is 3) (3,0) rfl eH d4 (by decide) rfl rfl rfl o_F2 o75.flat (by decide) (by(simp;omega)) ?_
  intro g77 w78 v79 ch80 o81
  clear o_F2
  refine ma v79 (aa ?_)
  clear o75
  refine a6 rfl (ma (vb true) (aa (al (a6 rfl (mz zs9 (lx (aM (m:=↑e) (n:=1) rfl rfl (by omega)) (ai ((e:Int)+1) (aa ?_))))))))
  have C83:=cg [3] (hc70.n.seq (ch74.n.seq (ch80.l rfl)))
  have C82:=ch51.n.seq C83
  refine back14 (e+1,v79,(F2++([(5,(e:Int),0)]:List bX)),true,g77) _ _ ⟨bH.ca C82,zs2,zs3,rfl,rfl,rfl,Rg.ca C83,Rp.ca C83,r_p_v1.ca C82,bx5.ca C83,bx10.ca C83,o81,by omega,?_⟩ ?_
  · show(F2++([(5,(e:Int),0)]:List bX))=cw p++bt (cH g p) (e+1)/\(!true)=decide (bt (cH g p) (e+1)=[])
    exact jG h2_ (λc=>absurd c.1 ‹_›)
  · show Int.toNat (((g.2.length:Int):Int)-((e+1):Int))<Int.toNat (((g.2.length:Int):Int)-(e:Int))
    omega
 refine ag rfl (df p14) (aJ rfl (a7 (a7 (a6 rfl (ai 0 (aa (am ?_)))))))
 refine aN (σ:=Nat×Value×(List bX)×Bool×aK) (λ⟨d,F3_v,F3,su,gq⟩ f w=>aT w0 gq w/\f 2=vp b3 0/\f 3=vp b8 0/\f 5=F3_v/\f 8=vb su/\f 11=vi ↑d/\Sl gq (is 0) w g_v g.2/\Sl gq (is 0) w p_v p.1/\Sl gq (is 0) w p_v1 p.2/\Bx gq (is 1) w b3 [vi g.1,g_v]/\Bx gq (is 2) w b8 [p_v,p_v1]/\Ow gq (is 3) (is 3) w F3_v F3/\(d:Int)<=((g.2.length:Int):Int)/\(F3=cw p++(bt (cH g p) p.2.length++bt (eZ p) d)/\(!su)=decide (bt (cH g p) p.2.length++bt (eZ p) d=[]))) (λ⟨d,F3_v,F3,su,gq⟩=>Int.toNat (((g.2.length:Int):Int)-(d:Int))) (0,F2_v,F2,st,g46) ?_ ?_
 · exact⟨bH,zs2,zs3,zs5,zs8,rfl,Rg,Rp,r_p_v1,bx5,bx10,o_F2,by omega,by exact oD h2_ (by omega)⟩
 clear Rg Rp r_p_v1 bx5 bx10 o_F2 bH
 rintro⟨d,F3_v,F3,su,g86⟩ f84 w85 ⟨bH,zs2,zs3,zs5,zs8,zs11,Rg,Rp,r_p_v1,bx5,bx10,o_F3,hle_d,h3_⟩ back21
 have h3l:=mY (by omega) (by omega) (by omega) h3_.1
 refine a7 (a7 (a6 rfl (mz zs11 (lx (a8 dY rfl rfl zs2 rfl) (lx (ab bO rfl bx5 rfl) (lx (aQ fm rfl Rg) (lx (aZ (m:=↑d) (n:=(g.2.length:Int)) rfl rfl) (aa ?_))))))))
 by_cases p21:(d:Int)<(g.2.length:Int)
 ·
  refine af rfl (dt p21) ?_
  obtain⟨hl1,hl2,hl3⟩:=hs.ln (d:Int) (by omega) (by omega)
  refine ak (a7 (am (a7 (a6 rfl (lx (a8 ef rfl rfl zs3 rfl) (lx (ab ez rfl bx10 rfl) (mz zs11 (lx (ad (v:=p_v1) (i:=↑d) fg rfl rfl r_p_v1 rfl (by omega) (by omega)) ?_))))))))
  obtain⟨v87,cel88,r89⟩:=cA (r:=(d:Int)) r_p_v1 (by omega) (by omega)
  refine lx (ba cq rfl cel88) (lo (aO (v:=vb (decide (fp (gI p.2 ↑d)))) (aA (vals:=[v87]) Tryz.func50 x9 yh rfl) (oh w85 (gI p.2 ↑d) v87 (r89).ro (by exact⟨hl2,hl3⟩) (by omega)) ?_))
  intro w90 hb91
  replace hb91:=ao hb91 g86
  refine lx (bZ (b:=(decide (fp (gI p.2 ↑d)))) rfl) (aa ?_)
  by_cases p23:(decide (fp (gI p.2 ↑d)))=true
  ·
   refine ag rfl (congrArg Bool.not p23) (ak (al ?_))
   clear r89
   refine a6 rfl (mz zs11 (lx (aM (m:=↑d) (n:=1) rfl rfl (by omega)) (ai ((d:Int)+1) (aa ?_))))
   refine back21 (d+1,F3_v,F3,su,g86) _ _ ⟨bH.cn hb91,zs2,zs3,zs5,zs8,rfl,Rg.cn hb91,Rp.cn hb91,r_p_v1.cn hb91,bx5.cn hb91,bx10.cn hb91,o_F3.cn hb91,by omega,?_⟩ ?_
   · show F3=cw p++(bt (cH g p) p.2.length++bt (eZ p) (d+1))/\(!su)=decide (bt (cH g p) p.2.length++bt (eZ p) (d+1)=[])
     exact sj h3_ (of_decide_eq_true ‹_›)
   · show Int.toNat (((g.2.length:Int):Int)-((d+1):Int))<Int.toNat (((g.2.length:Int):Int)-(d:Int))
     omega
  refine af rfl (congrArg Bool.not (Bool.eq_false_iff.2 p23)) (a7 ?_)
  clear r89
  refine a6 rfl (mz zs5 (mz zs11 (lw (vg [vi 6,vi ↑d,vi 0]) (bw (vs:=[(0,vi 6),(1,vi ↑d)]) rfl (by kernel_rfl)) (lo (aG (α:=bX) g86 (is 6) (is 6) (6,0) rfl ([(6,(d:Int),0)]:List bX) eH d4 (by decide) (by decide) (vs:=[(0,vg [vi 6,vi ↑d,vi 0])]) rfl rfl (.cons rfl .nil) ?_)))))
  intro g92 w93 v94 ch95 o96
  refine lo ?_
  replace o_F3:=(o_F3.cn hb91).cn ch95
  refine aV (α:=bX) (xs:=F3) (ys:=([(6,(d:Int),0)]:List bX)) g92 (J:=is 3) (S:=is 3) (3,0) rfl eH d4 (by decide) rfl rfl rfl o_F3 o96.flat (by decide) (by(simp;omega)) ?_
  intro g97 w98 v99 ch100 o101
  clear o_F3
  refine ma v99 (aa ?_)
  clear o96
  refine a6 rfl (ma (vb true) (aa (al (a6 rfl (mz zs11 (lx (aM (m:=↑d) (n:=1) rfl rfl (by omega)) (ai ((d:Int)+1) (aa ?_))))))))
  have C102:=cg [3] (hb91.n.seq (ch95.n.seq (ch100.l rfl)))
  refine back21 (d+1,v99,(F3++([(6,(d:Int),0)]:List bX)),true,g97) _ _ ⟨bH.ca C102,zs2,zs3,rfl,rfl,rfl,Rg.ca C102,Rp.ca C102,r_p_v1.ca C102,bx5.ca C102,bx10.ca C102,o101,by omega,?_⟩ ?_
  · show(F3++([(6,(d:Int),0)]:List bX))=cw p++(bt (cH g p) p.2.length++bt (eZ p) (d+1))/\(!true)=decide (bt (cH g p) p.2.length++bt (eZ p) (d+1)=[])
    exact od h3_ (λc=>(by assumption:¬_) (dt c))
  · show Int.toNat (((g.2.length:Int):Int)-((d+1):Int))<Int.toNat (((g.2.length:Int):Int)-(d:Int))
    omega
 refine ag rfl (df p21) (aJ rfl (a7 (a7 ?_)))
 have h3f:=kG h3_ (by omega)
 refine a6 rfl (mz zs8 (aa ?_))
 by_cases p26:su=true
 ·
  refine af rfl p26 (a7 ?_)
  clear bx5 bx10
  refine a6 rfl (mz zs5 (ma F3_v (aa (ar (vs:=[F3_v]) Tryz.func19 (.tmp rfl .nil) ?_))))
  have e0:(F3:List bX)=(bT g p):=by
    exact oZ hsn h3f.1 h3f.2 (AY ‹_›)
  exact⟨(fin w0 g86 (λn=>if n=3 then 1 else 0),F3_v),(congrArg (a₁:=F3) (λ(z0:List bX)=>Ending.returned (F3_v)) e0),bH.fresh _,(e0▸(o_F3.glue (γ:=c0) (ren:=(λn=>if n=3 then 1 else 0)) (k:=1) bH.col rfl rfl))⟩
 refine ag rfl (Bool.eq_false_iff.2 p26) (ak (a7 (a7 (a6 rfl (ai 0 (aa (am ?_)))))))
 refine aN (σ:=Value×(List bX)×Nat×aK) (λ⟨F4_v,F4,a,gq⟩ f w=>aT w0 gq w/\f 2=vp b3 0/\f 3=vp b8 0/\f 5=F4_v/\f 12=vi ↑a/\Sl gq (is 0) w g_v g.2/\Sl gq (is 0) w p_v p.1/\Sl gq (is 0) w p_v1 p.2/\Bx gq (is 1) w b3 [vi g.1,g_v]/\Bx gq (is 2) w b8 [p_v,p_v1]/\Ow gq (is 3) (is 3) w F4_v F4/\(a:Int)<=((g.2.length:Int):Int)/\(F4=cN g p++bt (gw g p) a)) (λ⟨F4_v,F4,a,gq⟩=>Int.toNat (((g.2.length:Int):Int)-(a:Int))) (F3_v,F3,0,g86) ?_ ?_
 · exact⟨bH,zs2,zs3,zs5,rfl,Rg,Rp,r_p_v1,bx5,bx10,o_F3,by omega,by exact lN h3f.1⟩
 clear Rg Rp r_p_v1 bx5 bx10 o_F3 bH
 rintro⟨F4_v,F4,a,g105⟩ f103 w104 ⟨bH,zs2,zs3,zs5,zs12,Rg,Rp,r_p_v1,bx5,bx10,o_F4,hle_a,h4_⟩ back29
 refine a7 (a7 (a6 rfl (mz zs12 (lx (a8 dY rfl rfl zs2 rfl) (lx (ab bO rfl bx5 rfl) (lx (aQ fm rfl Rg) (lx (aZ (m:=↑a) (n:=(g.2.length:Int)) rfl rfl) (aa ?_))))))))
 by_cases p29:(a:Int)<(g.2.length:Int)
 ·
  refine af rfl (dt p29) ?_
  obtain⟨hl1,hl2,hl3⟩:=hs.ln (a:Int) (by omega) (by omega)
  obtain⟨⟨he1,he2⟩,he3,he4⟩:=iX (e:=(a:Int)) hmay (by omega) (by omega)
  refine ak (a7 (am (a7 (a6 rfl (ai 0 (aa (am ?_)))))))
  refine aN (σ:=Nat×Value×(List bX)×aK) (λ⟨b,F5_v,F5,gq⟩ f w=>aT w0 gq w/\f 2=vp b3 0/\f 3=vp b8 0/\f 5=F5_v/\f 12=vi ↑a/\f 13=vi ↑b/\Sl gq (is 0) w g_v g.2/\Sl gq (is 0) w p_v p.1/\Sl gq (is 0) w p_v1 p.2/\Bx gq (is 1) w b3 [vi g.1,g_v]/\Bx gq (is 2) w b8 [p_v,p_v1]/\Ow gq (is 3) (is 3) w F5_v F5/\(b:Int)<=(g.1:Int)/\(F5=(cN g p++bt (gw g p) a)++bt (eX g p a) b)) (λ⟨b,F5_v,F5,gq⟩=>Int.toNat ((g.1:Int)-(b:Int))) (0,F4_v,F4,g105) ?_ ?_
  · exact⟨bH,zs2,zs3,zs5,zs12,rfl,Rg,Rp,r_p_v1,bx5,bx10,o_F4,by omega,by(rw[h4_];simp[bt])⟩
  clear Rg Rp r_p_v1 bx5 bx10 o_F4 bH
  rintro⟨b,F5_v,F5,g108⟩ f106 w107 ⟨bH,zs2,zs3,zs5,zs12,zs13,Rg,Rp,r_p_v1,bx5,bx10,o_F5,hle_b,h5_⟩ back32
  have h5l:=mH (by omega) (by omega) (by omega) (by omega) h5_
  refine a7 (a7 (a6 rfl (mz zs13 (lx (a8 dY rfl rfl zs2 rfl) (lx (ab az rfl bx5 rfl) (lx (aZ (m:=↑b) (n:=g.1) rfl rfl) (aa ?_)))))))
  by_cases p32:(b:Int)<g.1
  ·
   refine af rfl (dt p32) (ak (a7 (am (a7 (bz g108 rfl jX (by kernel_rfl) ?_)))))
   intro w110 ch109
   refine qz zs13 (qx (λw' hw'=>a8 dY rfl rfl zs2 rfl) ?_)
   replace bx5:=bx5.cn ch109
   refine qx (λw' hw'=>ab bO rfl (bx5.bel hw') rfl) (qz zs12 ?_)
   replace Rg:=Rg.cn ch109
   refine qx (λw' hw'=>ad (v:=g_v) (i:=↑a) fm rfl rfl (Rg.bel hw') rfl (by omega) (by omega)) (qx (λw' hw'=>b5 jC rfl rfl rfl (by decide) (by decide) rfl) (qx (λw' hw'=>bJ (v:=g_v) (i:=↑a) az rfl (Rg.bel hw') (by omega) (by omega) (by decide) rfl) (qx (λw' hw'=>c5 (m:=↑b) (n:=(gI g.2 ↑a).1) rfl rfl) (qm (vb (!(decide ((b:Int)=((gI g.2 ↑a).1))))) ?_))))
   by_cases q146:(b:Int)=((gI g.2 ↑a).1)
   ·
    refine av (wn (congrArg Bool.not (dt q146))) (av (wn (congrArg Bool.not (dt q146))) (av (wn (congrArg Bool.not (dt q146))) (av (wn (congrArg Bool.not (dt q146))) (av (wn (congrArg Bool.not (dt q146))) (av (wn (congrArg Bool.not (dt q146))) (av (wn (congrArg Bool.not (dt q146))) (av (wn (congrArg Bool.not (dt q146))) (qv (vb false) (λw' hw'=>aB rfl (congrArg Bool.not (dt q146)) rfl) (qm (vb false) ?_)))))))))
    refine av (wn rfl) (av (wn rfl) (av (wn rfl) (av (wn rfl) (av (wn rfl) (av (wn rfl) (av (wn rfl) (av (wn rfl) (av (wn rfl) (av (wn rfl) ?_)))))))))
    refine av (wn rfl) (qv (vb false) (λw' hw'=>aB rfl rfl rfl) (bN ?_))
    intro w111 hc112
    replace hc112:=ao hc112 g108
    refine ag rfl rfl (ak (al (a6 rfl (mz zs13 (lx (aM (m:=↑b) (n:=1) rfl rfl (by omega)) (ai ((b:Int)+1) (aa ?_)))))))
    replace bH:=bH.cn ch109
    refine back32 (b+1,F5_v,F5,g108) _ _ ⟨bH.cn hc112,zs2,zs3,zs5,zs12,rfl,Rg.cn hc112,(Rp.cn ch109).cn hc112,(r_p_v1.cn ch109).cn hc112,bx5.cn hc112,(bx10.cn ch109).cn hc112,(o_F5.cn ch109).cn hc112,by omega,?_⟩ ?_
    · show F5=(cN g p++bt (gw g p) a)++bt (eX g p a) (b+1)
      exact ff h5_ (rn ‹_›)
    · show Int.toNat ((g.1:Int)-((b+1):Int))<Int.toNat ((g.1:Int)-(b:Int))
      omega
   refine aH (v:=vi ↑b) (wy (congrArg Bool.not (df q146))) (λw' hw'=>aq zs13) (aH (v:=vp b3 1) (wy (congrArg Bool.not (df q146))) (λw' hw'=>a8 dY rfl rfl zs2 rfl) (aH (v:=g_v) (wy (congrArg Bool.not (df q146))) (λw' hw'=>ab bO rfl (bx5.bel hw') rfl) (aH (v:=vi ↑a) (wy (congrArg Bool.not (df q146))) (λw' hw'=>aq zs12) ?_)))
   refine aH (v:=Value.pointer (some (aR g_v 2 (Int.toNat ↑a)))) (wy (congrArg Bool.not (df q146))) (λw' hw'=>ad (α:=Pt) (xs:=g.2) (v:=g_v) (i:=↑a) fm rfl rfl (Rg.bel hw') rfl (by omega) (by omega)) (aH (v:=Value.pointer (some ⟨(aR g_v 2 (Int.toNat ↑a)).block,(aR g_v 2 (Int.toNat ↑a)).off+1,none⟩)) (wy (congrArg Bool.not (df q146))) (λw' hw'=>b5 jC rfl rfl rfl (by decide) (by decide) rfl) (aH (v:=vi ((gI g.2 ↑a).2)) (wy (congrArg Bool.not (df q146))) (λw' hw'=>bJ (α:=Pt) (xs:=g.2) (v:=g_v) (i:=↑a) az rfl (Rg.bel hw') (by omega) (by omega) (by decide) rfl) ?_))
   refine aH (v:=vb (!(decide ((b:Int)=((gI g.2 ↑a).2))))) (wy (congrArg Bool.not (df q146))) (λw' hw'=>c5 (m:=↑b) (n:=(gI g.2 ↑a).2) rfl rfl) (qv (vb (!(decide ((b:Int)=((gI g.2 ↑a).2))))) (λw' hw'=>aD rfl (congrArg Bool.not (df q146)) rfl) (qm (vb (!(decide ((b:Int)=((gI g.2 ↑a).2))))) ?_))
   by_cases q156:(b:Int)=((gI g.2 ↑a).2)
   ·
    refine av (wn (congrArg Bool.not (dt q156))) (av (wn (congrArg Bool.not (dt q156))) (av (wn (congrArg Bool.not (dt q156))) (av (wn (congrArg Bool.not (dt q156))) (av (wn (congrArg Bool.not (dt q156))) (av (wn (congrArg Bool.not (dt q156))) (av (wn (congrArg Bool.not (dt q156))) (av (wn (congrArg Bool.not (dt q156))) (av (wn (congrArg Bool.not (dt q156))) (av (wn (congrArg Bool.not (dt q156))) ?_)))))))))
    refine av (wn (congrArg Bool.not (dt q156))) (qv (vb false) (λw' hw'=>aB rfl (congrArg Bool.not (dt q156)) rfl) (bN ?_))
    intro w113 hc114
    replace hc114:=ao hc114 g108
    refine ag rfl rfl (ak (al (a6 rfl (mz zs13 (lx (aM (m:=↑b) (n:=1) rfl rfl (by omega)) (ai ((b:Int)+1) (aa ?_)))))))
    replace bH:=bH.cn ch109
    refine back32 (b+1,F5_v,F5,g108) _ _ ⟨bH.cn hc114,zs2,zs3,zs5,zs12,rfl,Rg.cn hc114,(Rp.cn ch109).cn hc114,(r_p_v1.cn ch109).cn hc114,bx5.cn hc114,(bx10.cn ch109).cn hc114,(o_F5.cn ch109).cn hc114,by omega,?_⟩ ?_
    · show F5=(cN g p++bt (gw g p) a)++bt (eX g p a) (b+1)
      exact ff h5_ (rv ‹_›)
    · show Int.toNat ((g.1:Int)-((b+1):Int))<Int.toNat ((g.1:Int)-(b:Int))
      omega
   refine aH (v:=vp b8 1) (wy (congrArg Bool.not (df q156))) (λw' hw'=>a8 ef rfl rfl zs3 rfl) ?_
   replace bx10:=bx10.cn ch109
   refine aH (v:=p_v1) (wy (congrArg Bool.not (df q156))) (λw' hw'=>ab ez rfl (bx10.bel hw') rfl) (aH (v:=vi ↑a) (wy (congrArg Bool.not (df q156))) (λw' hw'=>aq zs12) ?_)
   replace r_p_v1:=r_p_v1.cn ch109
   refine aH (v:=Value.pointer (some (aR p_v1 1 (Int.toNat ↑a)))) (wy (congrArg Bool.not (df q156))) (λw' hw'=>ad (α:=List Pt) (xs:=p.2) (v:=p_v1) (i:=↑a) fg rfl rfl (r_p_v1.bel hw') rfl (by omega) (by omega)) ?_
   obtain⟨v115,cel116,r117⟩:=cA (r:=(a:Int)) r_p_v1 (by omega) (by omega)
   refine aH (v:=v115) (wy (congrArg Bool.not (df q156))) (λw' hw'=>ba cq rfl (e7 cel116 hw')) (aH (v:=vp b8 0) (wy (congrArg Bool.not (df q156))) (λw' hw'=>a8 ef rfl rfl zs3 rfl) (aH (v:=p_v) (wy (congrArg Bool.not (df q156))) (λw' hw'=>ab cq rfl (bx10.bel hw') rfl) (aH (v:=vi ↑b) (wy (congrArg Bool.not (df q156))) (λw' hw'=>aq zs13) ?_)))
   replace Rp:=Rp.cn ch109
   refine aH (v:=Value.pointer (some (aR p_v 2 (Int.toNat ↑b)))) (wy (congrArg Bool.not (df q156))) (λw' hw'=>ad (α:=Pt) (xs:=p.1) (v:=p_v) (i:=↑b) bS rfl rfl (Rp.bel hw') rfl (by omega) (by omega)) (aH (v:=vg [vi ((gI p.1 ↑b).1),vi ((gI p.1 ↑b).2)]) (wy (congrArg Bool.not (df q156))) (λw' hw'=>aF (α:=Pt) (xs:=p.1) (v:=p_v) (i:=↑b) ah rfl (Rp.bel hw') (by omega) (by omega) rfl) ?_)
   refine cl (v:=vb (decide (e9 (gI p.2 ↑a) (gI p.1 ↑b)))) (wy (congrArg Bool.not (df q156))) (λw' hw'=>aA (vals:=[v115,vg [vi ((gI p.1 ↑b).1),vi ((gI p.1 ↑b).2)]]) Tryz.func51 xc wt rfl) (λw' hw'=>(yi w' (gI p.2 ↑a) v115 ((r117.bel hw')).ro (gI p.1 ↑b) (by exact⟨hl2,hl3⟩) (by exact hs.pt _ (by omega) (by omega))).mono λe w2 h2=>⟨h2.1,hw'.trans (h2.2.mono hw'.size)⟩) (qv (vb (decide (e9 (gI p.2 ↑a) (gI p.1 ↑b)))) (λw' hw'=>aD rfl (congrArg Bool.not (df q156)) rfl) (bN ?_))
   intro w118 hc119
   replace hc119:=ao hc119 g108
   by_cases p34:(decide (e9 (gI p.2 ↑a) (gI p.1 ↑b)))=true
   ·
    refine af rfl p34 ?_
    clear r117
    refine a6 rfl (mz zs5 (mz zs12 (mz zs13 (lw (vg [vi 7,vi ↑a,vi ↑b]) (bw (vs:=[(0,vi 7),(1,vi ↑a),(2,vi ↑b)]) rfl (by kernel_rfl)) (lo (aG (α:=bX) g108 (is 7) (is 7) (7,0) rfl ([(7,(a:Int),(b:Int))]:List bX) eH d4 (by decide) (by decide) (vs:=[(0,vg [vi 7,vi ↑a,vi ↑b])]) rfl rfl (.cons rfl .nil) ?_))))))
    intro g120 w121 v122 ch123 o124
    refine lo ?_
    have C125:=cg [] (ch109.n.seq (hc119.n.seq ch123.n))
    replace o_F5:=o_F5.ca C125
    refine aV (α:=bX) (xs:=F5) (ys:=([(7,(a:Int),(b:Int))]:List bX)) g120 (J:=is 3) (S:=is 3) (3,0) rfl eH d4 (by decide) rfl rfl rfl o_F5 o124.flat (by decide) (by(simp;omega)) ?_
    intro g126 w127 v128 ch129 o130
    clear o_F5
    refine ma v128 (aa (al ?_))
    clear o124
    refine a6 rfl (mz zs13 (lx (aM (m:=↑b) (n:=1) rfl rfl (by omega)) (ai ((b:Int)+1) (aa ?_))))
    have C132:=cg [3] (hc119.n.seq (ch123.n.seq (ch129.l rfl)))
    have C131:=ch109.n.seq C132
    refine back32 (b+1,v128,(F5++([(7,(a:Int),(b:Int))]:List bX)),g126) _ _ ⟨bH.ca C131,zs2,zs3,rfl,zs12,rfl,Rg.ca C132,Rp.ca C132,r_p_v1.ca C132,bx5.ca C132,bx10.ca C132,o130,by omega,?_⟩ ?_
    · show(F5++([(7,(a:Int),(b:Int))]:List bX))=(cN g p++bt (gw g p) a)++bt (eX g p a) (b+1)
      exact ew h5_ (qX ‹_› ‹_› ‹_›)
    · show Int.toNat ((g.1:Int)-((b+1):Int))<Int.toNat ((g.1:Int)-(b:Int))
      omega
   refine ag rfl (Bool.eq_false_iff.2 p34) (ak (al ?_))
   clear r117
   refine a6 rfl (mz zs13 (lx (aM (m:=↑b) (n:=1) rfl rfl (by omega)) (ai ((b:Int)+1) (aa ?_))))
   replace bH:=bH.cn ch109
   refine back32 (b+1,F5_v,F5,g108) _ _ ⟨bH.cn hc119,zs2,zs3,zs5,zs12,rfl,Rg.cn hc119,Rp.cn hc119,r_p_v1.cn hc119,bx5.cn hc119,bx10.cn hc119,(o_F5.cn ch109).cn hc119,by omega,?_⟩ ?_
   · show F5=(cN g p++bt (gw g p) a)++bt (eX g p a) (b+1)
     exact ff h5_ (rk ‹_›)
   · show Int.toNat ((g.1:Int)-((b+1):Int))<Int.toNat ((g.1:Int)-(b:Int))
     omega
  refine ag rfl (df p32) (aJ rfl (al (a6 rfl (mz zs12 (lx (aM (m:=↑a) (n:=1) rfl rfl (by omega)) (ai ((a:Int)+1) (aa ?_)))))))
  refine back29 (F5_v,F5,a+1,g108) _ _ ⟨bH,zs2,zs3,zs5,rfl,Rg,Rp,r_p_v1,bx5,bx10,o_F5,by omega,?_⟩ ?_
  · show F5=cN g p++bt (gw g p) (a+1)
    exact mw h5_ (by omega)
  · show Int.toNat (((g.2.length:Int):Int)-((a+1):Int))<Int.toNat (((g.2.length:Int):Int)-(a:Int))
    omega
 refine ag rfl (df p29) (aJ rfl (a7 (a7 (a6 rfl (ai 0 (aa (am ?_)))))))
 refine aN (σ:=Value×(List bX)×Nat×aK) (λ⟨F6_v,F6,c,gq⟩ f w=>aT w0 gq w/\f 2=vp b3 0/\f 3=vp b8 0/\f 5=F6_v/\f 14=vi ↑c/\Sl gq (is 0) w g_v g.2/\Sl gq (is 0) w p_v p.1/\Sl gq (is 0) w p_v1 p.2/\Bx gq (is 1) w b3 [vi g.1,g_v]/\Bx gq (is 2) w b8 [p_v,p_v1]/\Ow gq (is 3) (is 3) w F6_v F6/\(c:Int)<=((g.2.length:Int):Int)/\(F6=(cN g p++dG g p)++bt (hP g p) c)) (λ⟨F6_v,F6,c,gq⟩=>Int.toNat (((g.2.length:Int):Int)-(c:Int))) (F4_v,F4,0,g105) ?_ ?_
 · exact⟨bH,zs2,zs3,zs5,rfl,Rg,Rp,r_p_v1,bx5,bx10,o_F4,by omega,by exact m6 h4_ (by omega)⟩
 clear Rg Rp r_p_v1 bx5 bx10 o_F4 bH
 rintro⟨F6_v,F6,c,g135⟩ f133 w134 ⟨bH,zs2,zs3,zs5,zs14,Rg,Rp,r_p_v1,bx5,bx10,o_F6,hle_c,h6_⟩ back37
 refine a7 (a7 (a6 rfl (mz zs14 (lx (a8 dY rfl rfl zs2 rfl) (lx (ab bO rfl bx5 rfl) (lx (aQ fm rfl Rg) (lx (aZ (m:=↑c) (n:=(g.2.length:Int)) rfl rfl) (aa ?_))))))))
 by_cases p37:(c:Int)<(g.2.length:Int)
 ·
  refine af rfl (dt p37) (ak (a7 (am (a7 (a6 rfl (mz zs14 (lx (aM (m:=↑c) (n:=1) rfl rfl (by omega)) (ai ((c:Int)+1) (aa (am ?_))))))))))
  refine aN (σ:=Value×(List bX)×Nat×aK) (λ⟨F7_v,F7,q,gq⟩ f w=>aT w0 gq w/\f 2=vp b3 0/\f 3=vp b8 0/\f 5=F7_v/\f 14=vi ↑c/\f 15=vi ↑q/\Sl gq (is 0) w g_v g.2/\Sl gq (is 0) w p_v p.1/\Sl gq (is 0) w p_v1 p.2/\Bx gq (is 1) w b3 [vi g.1,g_v]/\Bx gq (is 2) w b8 [p_v,p_v1]/\Ow gq (is 3) (is 3) w F7_v F7/\(q:Int)<=((g.2.length:Int):Int)/\(F7=((cN g p++dG g p)++bt (hP g p) c)++bt (dX g p c) q/\c<q)) (λ⟨F7_v,F7,q,gq⟩=>Int.toNat (((g.2.length:Int):Int)-(q:Int))) (F6_v,F6,c+1,g135) ?_ ?_
  · exact⟨bH,zs2,zs3,zs5,zs14,rfl,Rg,Rp,r_p_v1,bx5,bx10,o_F6,by omega,by exact m8 h6_⟩
  clear Rg Rp r_p_v1 bx5 bx10 o_F6 bH
  rintro⟨F7_v,F7,q,g138⟩ f136 w137 ⟨bH,zs2,zs3,zs5,zs14,zs15,Rg,Rp,r_p_v1,bx5,bx10,o_F7,hle_q,h7_⟩ back40
  have h7l:=mJ (by omega) (by omega) (by omega) (by omega) h7_.1
  have h7v:=h7_.2
  refine a7 (a7 (a6 rfl (mz zs15 (lx (a8 dY rfl rfl zs2 rfl) (lx (ab bO rfl bx5 rfl) (lx (aQ fm rfl Rg) (lx (aZ (m:=↑q) (n:=(g.2.length:Int)) rfl rfl) (aa ?_))))))))
  by_cases p40:(q:Int)<(g.2.length:Int)
  ·
   refine af rfl (dt p40) (ak (a7 (am (a7 (a6 rfl (lx (aj (ds:=[vi g.1,g_v]) bF zs2 bx5 rfl rfl) (lx (aj (ds:=[p_v,p_v1]) bI zs3 bx10 rfl rfl) (mz zs14 (mz zs15 (lo ?_))))))))))
   refine aO (v:=vb (decide (eG (gI p.2 ↑c) (gI p.2 ↑q) (ei g p (c:Int) (q:Int))))) (aA (vals:=[vg [vi g.1,g_v],vg [p_v,p_v1],vi ↑c,vi ↑q]) Tryz.func52 xw xV rfl) (nr w137 g g_v (Rg).ro p p_v p_v1 (Rp).ro (r_p_v1).ro (c:Int) (q:Int) ‹_› ‹_› (by omega) (by omega)) ?_
   intro w139 hb140
   replace hb140:=ao hb140 g138
   refine aa ?_
   by_cases p42:(decide (eG (gI p.2 ↑c) (gI p.2 ↑q) (ei g p (c:Int) (q:Int))))=true
   ·
    refine af rfl p42 (a6 rfl (mz zs5 (mz zs14 (mz zs15 (lw (vg [vi 8,vi ↑c,vi ↑q]) (bw (vs:=[(0,vi 8),(1,vi ↑c),(2,vi ↑q)]) rfl (by kernel_rfl)) (lo (aG (α:=bX) g138 (is 8) (is 8) (8,0) rfl ([(8,(c:Int),(q:Int))]:List bX) eH d4 (by decide) (by decide) (vs:=[(0,vg [vi 8,vi ↑c,vi ↑q])]) rfl rfl (.cons rfl .nil) ?_)))))))
    intro g141 w142 v143 ch144 o145
    refine lo ?_
    replace o_F7:=(o_F7.cn hb140).cn ch144
    refine aV (α:=bX) (xs:=F7) (ys:=([(8,(c:Int),(q:Int))]:List bX)) g141 (J:=is 3) (S:=is 3) (3,0) rfl eH d4 (by decide) rfl rfl rfl o_F7 o145.flat (by decide) (by(simp;omega)) ?_
    intro g146 w147 v148 ch149 o150
    clear o_F7
    refine ma v148 (aa (al ?_))
    clear o145
    refine a6 rfl (mz zs15 (lx (aM (m:=↑q) (n:=1) rfl rfl (by omega)) (ai ((q:Int)+1) (aa ?_))))
    have C151:=cg [3] (hb140.n.seq (ch144.n.seq (ch149.l rfl)))
    refine back40 (v148,(F7++([(8,(c:Int),(q:Int))]:List bX)),q+1,g146) _ _ ⟨bH.ca C151,zs2,zs3,rfl,zs14,rfl,Rg.ca C151,Rp.ca C151,r_p_v1.ca C151,bx5.ca C151,bx10.ca C151,o150,by omega,?_⟩ ?_
    · show(F7++([(8,(c:Int),(q:Int))]:List bX))=((cN g p++dG g p)++bt (hP g p) c)++bt (dX g p c) (q+1)/\c<(q+1)
      exact⟨ew h7_.1 (oQ hmay hs (by omega) (by omega) h7v rfl ‹_›),by omega⟩
    · show Int.toNat (((g.2.length:Int):Int)-((q+1):Int))<Int.toNat (((g.2.length:Int):Int)-(q:Int))
      omega
   refine ag rfl (Bool.eq_false_iff.2 p42) (ak (al (a6 rfl (mz zs15 (lx (aM (m:=↑q) (n:=1) rfl rfl (by omega)) (ai ((q:Int)+1) (aa ?_)))))))
   refine back40 (F7_v,F7,q+1,g138) _ _ ⟨bH.cn hb140,zs2,zs3,zs5,zs14,rfl,Rg.cn hb140,Rp.cn hb140,r_p_v1.cn hb140,bx5.cn hb140,bx10.cn hb140,o_F7.cn hb140,by omega,?_⟩ ?_
   · show F7=((cN g p++dG g p)++bt (hP g p) c)++bt (dX g p c) (q+1)/\c<(q+1)
     exact⟨ff h7_.1 (pP hmay hs (by omega) (by omega) rfl ‹_›),by omega⟩
   · show Int.toNat (((g.2.length:Int):Int)-((q+1):Int))<Int.toNat (((g.2.length:Int):Int)-(q:Int))
     omega
  refine ag rfl (df p40) (aJ rfl (al (a6 rfl (mz zs14 (lx (aM (m:=↑c) (n:=1) rfl rfl (by omega)) (ai ((c:Int)+1) (aa ?_)))))))
  refine back37 (F7_v,F7,c+1,g138) _ _ ⟨bH,zs2,zs3,zs5,rfl,Rg,Rp,r_p_v1,bx5,bx10,o_F7,by omega,?_⟩ ?_
  · show F7=(cN g p++dG g p)++bt (hP g p) (c+1)
    exact mR h7_.1 (by omega)
  · show Int.toNat (((g.2.length:Int):Int)-((c+1):Int))<Int.toNat (((g.2.length:Int):Int)-(c:Int))
    omega
 refine ag rfl (df p37) (aJ rfl (a7 ?_))
 clear bx5 bx10
 refine a6 rfl (mz zs5 (ma F6_v (aa (ar (vs:=[F6_v]) Tryz.func19 (.tmp rfl .nil) ?_))))
 have e0:(F6:List bX)=(bT g p):=by
   exact mP hsn h3f.2 (AT ‹_›) h6_ (by omega)
 exact⟨(fin w0 g135 (λn=>if n=3 then 1 else 0),F6_v),(congrArg (a₁:=F6) (λ(z0:List bX)=>Ending.returned (F6_v)) e0),bH.fresh _,(e0▸(o_F6.glue (γ:=c0) (ren:=(λn=>if n=3 then 1 else 0)) (k:=1) bH.col rfl rfl))⟩
theorem qg(w0:World)(o:Pt)(a:Pt)(b:Pt)(ho:cC o)(ha:cC a)(hb:cC b):
    Calls Tryz.prog 44 #[vg [vi o.1,vi o.2],vg [vi a.1,vi a.2],vg [vi b.1,vi b.2]] w0 (λee w=>ee= .returned (vb (decide (eJ (aY a o) (aY b o)=0)))/\cE w0.heap.size w0 w):=by
 refine au Tryz.func44 rfl nq ?_
 have bH:=aT.start w0
 obtain⟨hw1,hw2⟩:=na ho ha
 obtain⟨hw3,hw4⟩:=na ho hb
 refine a7 (a6 rfl (bW rfl (bh c0 (is 1) (1,0) rfl rfl ?_)))
 intro g4 w1 b3 ch2 bx5
 replace bx5:Bx g4 (is 1) w1 b3 [vi o.1,vi o.2]:=bx5
 refine lo (bh g4 (is 2) (2,0) rfl rfl ?_)
 intro g9 w6 b8 ch7 bx10
 replace bx10:Bx g9 (is 2) w6 b8 [vi a.1,vi a.2]:=bx10
 refine lo (bh g9 (is 3) (3,0) rfl rfl ?_)
 intro g14 w11 b13 ch12 bx15
 replace bx15:Bx g14 (is 3) w11 b13 [vi b.1,vi b.2]:=bx15
 refine ma (vb false) (aa (a7 (a6 rfl (lx (a8 cj rfl rfl rfl rfl) ?_))))
 replace bx10:=bx10.cn ch12
 refine lx (ab az rfl bx10 rfl) (lx (a8 cj rfl rfl rfl rfl) ?_)
 replace bx5:=(bx5.cn ch7).cn ch12
 refine lx (ab az rfl bx5 rfl) (lx (c3 (m:=a.1) (n:=o.1) rfl rfl (by omega)) (lx (a8 cj rfl rfl rfl rfl) (lx (ab az rfl bx10 rfl) (lx (a8 cj rfl rfl rfl rfl) (lx (ab az rfl bx5 rfl) (lx (c3 (m:=a.2) (n:=o.2) rfl rfl (by omega)) (lw (vg [vi (a.1-o.1),vi (a.2-o.2)]) (bw (vs:=[(0,vi (a.1-o.1)),(1,vi (a.2-o.2))]) rfl (by kernel_rfl)) (lx (a8 cj rfl rfl rfl rfl) (lx (ab az rfl bx15 rfl) ?_)))))))))
 refine lx (a8 cj rfl rfl rfl rfl) (lx (ab az rfl bx5 rfl) (lx (c3 (m:=b.1) (n:=o.1) rfl rfl (by omega)) (lx (a8 cj rfl rfl rfl rfl) (lx (ab az rfl bx15 rfl) (lx (a8 cj rfl rfl rfl rfl) (lx (ab az rfl bx5 rfl) (lx (c3 (m:=b.2) (n:=o.2) rfl rfl (by omega)) (lw (vg [vi (b.1-o.1),vi (b.2-o.2)]) (bw (vs:=[(0,vi (b.1-o.1)),(1,vi (b.2-o.2))]) rfl (by kernel_rfl)) (lo ?_)))))))))
 refine aO (v:=vi (eJ (a.1-o.1,a.2-o.2) (b.1-o.1,b.2-o.2))) (aA (vals:=[vg [vi (a.1-o.1),vi (a.2-o.2)],vg [vi (b.1-o.1),vi (b.2-o.2)]]) Tryz.func75 rJ sa rfl) (kT w11 (a.1-o.1,a.2-o.2) (b.1-o.1,b.2-o.2) (by(unfold sG;simp only;omega)) (by(unfold sG;simp only;omega))) ?_
 intro w16 hb17
 replace hb17:=ao hb17 g14
 refine lx (c7 (m:=eJ (a.1-o.1,a.2-o.2) (b.1-o.1,b.2-o.2)) (n:=0) rfl rfl) (ma (vb (decide ((eJ (a.1-o.1,a.2-o.2) (b.1-o.1,b.2-o.2))=0))) (aa (ar (vs:=[vb (decide ((eJ (a.1-o.1,a.2-o.2) (b.1-o.1,b.2-o.2))=0))]) Tryz.func44 (.tmp rfl .nil) ?_)))
 have e0:(decide ((eJ (a.1-o.1,a.2-o.2) (b.1-o.1,b.2-o.2))=0):Bool)=(decide (eJ (aY a o) (aY b o)=0)):=by
   rfl
 have C18:=cg [] (ch2.n.seq (ch7.n.seq (ch12.n.seq hb17.n)))
 replace bH:=bH.ca C18
 exact⟨(congrArg (a₁:=decide ((eJ (a.1-o.1,a.2-o.2) (b.1-o.1,b.2-o.2))=0)) (λ(z0:Bool)=>Ending.returned (vb z0)) e0),bH.below⟩
set_option maxHeartbeats 4000000 in
theorem sW(w0:World)(g:(Int)×(List Pt))(g_v:Value)(hg_v:Ro w0 g_v g.2)(p:(List Pt)×(List (List Pt)))(p_v p_v1:Value)(hp_v:Ro w0 p_v p.1)(hp_v1:Ro w0 p_v1 p.2)(hmay:c8 g):
    Calls Tryz.prog 17 #[vg [vi g.1,g_v],vg [p_v,p_v1]] w0 (λee w=>ee= .returned (vt [vg [vi (((aC g p).1).1),vi ((((aC g p).1).2).1),vi (((((aC g p).1).2).2).1),vb ((((((aC g p).1).2).2).2).1),vb ((((((aC g p).1).2).2).2).2)],vi ((aC g p).2)])/\cE w0.heap.size w0 w):=by
 refine au Tryz.func17 rfl nq ?_
 have bH:=aT.start w0
 have Rg:=hg_v.sl
 have Rp:=hp_v.sl
 have r_p_v1:=hp_v1.sl
 have hm:=hmay
 have hm0:=hmay
 obtain⟨hm1,hm2,hm3,hm4⟩:=hm0
 refine a7 (a6 rfl (bW rfl (bh c0 (is 1) (1,0) rfl rfl ?_)))
 intro g4 w1 b3 ch2 bx5
 replace bx5:Bx g4 (is 1) w1 b3 [vi g.1,g_v]:=bx5
 refine lo (bh g4 (is 2) (2,0) rfl rfl ?_)
 intro g9 w6 b8 ch7 bx10
 replace bx10:Bx g9 (is 2) w6 b8 [p_v,p_v1]:=bx10
 refine lo (aS g9 (is 3) (3,0) rfl dm ?_)
 intro g14 w11 b13 ch12 bx15
 replace bx15:Bx g14 (is 3) w11 b13 [vi 0,vi 0,vi 0,vb false,vb false]:=bx15
 refine ai 0 (aa (a7 (a7 (a6 rfl ?_))))
 replace bx5:=(bx5.cn ch7).cn ch12
 refine lx (aj (ds:=[vi g.1,g_v]) bF rfl bx5 rfl rfl) ?_
 replace bx10:=bx10.cn ch12
 refine lx (aj (ds:=[p_v,p_v1]) bI rfl bx10 rfl rfl) ?_
 have C16:=cg [] (ch2.n.seq (ch7.n.seq ch12.n))
 replace Rg:=Rg.ca C16
 replace Rp:=Rp.ca C16
 replace r_p_v1:=r_p_v1.ca C16
 refine lo (aO (v:=vb (decide ((List.length (bL g p):Int)=0))) (aA (vals:=[vg [vi g.1,g_v],vg [p_v,p_v1]]) Tryz.func46 xi ym rfl) (pb w11 g g_v (Rg).ro p p_v p_v1 (Rp).ro (r_p_v1).ro ‹_›) ?_)
 intro w17 hb18
 replace hb18:=ao hb18 g14
 refine lx (bZ (b:=(decide ((List.length (bL g p):Int)=0))) rfl) (aa ?_)
 by_cases p1:(decide ((List.length (bL g p):Int)=0))=true
 ·
  obtain⟨hF0,hsn,hs⟩:=nc (g:=g) (p:=p) rfl (by have:=of_decide_eq_true p1;omega)
  have hs1:=hs.n
  have hs2:=hs.m
  refine ag rfl (congrArg Bool.not p1) (ak (a7 ?_))
  clear bx5
  refine a6 rfl (lw (vg [vi 0,vi 0,vi 0,vb true,vb true]) (bw (vs:=[(3,vb true),(4,vb true)]) rfl (by kernel_rfl)) (lo (aS g14 (is 4) (4,0) rfl dm ?_)))
  intro g22 w19 b21 ch20 bx23
  replace bx23:Bx g22 (is 4) w19 b21 [vi 0,vi 0,vi 0,vb false,vb false]:=bx23
  refine lo (aw (cs':=[vi 0,vi 0,vi 0,vb true,vb true]) dm rfl rfl bx23 rfl nq (AllOne.all (.cons rfl (.cons rfl (.cons rfl (.cons rfl (.cons rfl .nil)))))) rfl ?_)
  intro w24 ch25 bx26
  clear bx23
  refine aa (a7 (a7 (a6 rfl (ai 0 (aa (am ?_))))))
  refine aN (σ:=Int×Bool×Nat×aK) (λ⟨bn,ax,k,gq⟩ f w=>aT w0 gq w/\f 3=vp b8 0/\f 4=vp b13 0/\f 6=vp b21 0/\f 7=vi ↑k/\Sl gq (is 0) w g_v g.2/\Sl gq (is 0) w p_v p.1/\Sl gq (is 0) w p_v1 p.2/\Bx gq (is 2) w b8 [p_v,p_v1]/\Bx gq (is 3) w b13 [vi 0,vi 0,vi 0,vb false,vb false]/\Bx gq (is 4) w b21 [vi bn,vi 0,vi 0,vb true,vb ax]/\(k:Int)<=((p.2.length:Int):Int)/\(bn=gG p k/\ax=iu p k)) (λ⟨bn,ax,k,gq⟩=>Int.toNat (((p.2.length:Int):Int)-(k:Int))) (0,true,0,g22) ?_ ?_
  have C28:=cg [4] (hb18.n.seq (ch20.n.seq (ch25.l rfl)))
  have C27:=ch2.n.seq (ch7.n.seq (ch12.n.seq C28))
  · exact⟨bH.ca C27,rfl,rfl,rfl,rfl,Rg.ca C28,Rp.ca C28,r_p_v1.ca C28,bx10.ca C28,bx15.ca C28,bx26,by omega,by exact⟨rfl,rfl⟩⟩
  clear Rg Rp r_p_v1 bx10 bx15 bx26 bH
  rintro⟨bn,ax,k,g31⟩ f29 w30 ⟨bH,zs3,zs4,zs6,zs7,Rg,Rp,r_p_v1,bx10,bx15,bx26,hle_k,hbk⟩ back5
  have hbd:=lm hs.ln k (by omega)
  refine a7 (a7 (a6 rfl (mz zs7 (lx (a8 ef rfl rfl zs3 rfl) (lx (ab ez rfl bx10 rfl) ?_)))))
  have len32:=(r_p_v1).small
  refine lx (aQ fg rfl r_p_v1) (lx (aZ (m:=↑k) (n:=(p.2.length:Int)) rfl rfl) (aa ?_))
  by_cases p5:(k:Int)<(p.2.length:Int)
  ·
   refine af rfl (dt p5) ?_
   obtain⟨hl1,hl2,hl3⟩:=hs.ln (k:Int) (by omega) (by omega)
   refine ak (a7 (am (a7 (a6 rfl (lx (a8 ef rfl rfl zs3 rfl) (lx (ab ez rfl bx10 rfl) (mz zs7 (lx (ad (v:=p_v1) (i:=↑k) fg rfl rfl r_p_v1 rfl (by omega) (by omega)) ?_))))))))
   obtain⟨v33,cel34,r35⟩:=cA (r:=(k:Int)) r_p_v1 (by omega) (by omega)
   refine lx (ba cq rfl cel34) (ma v33 (aa (a7 (a6 rfl (lx (a8 lc rfl rfl zs6 rfl) (lx (ab az rfl bx26 rfl) (mv v33 ?_)))))))
   have len36:=(r35).small
   refine lx (aQ bS rfl r35) (lx (aM (m:=bn) (n:=(List.length (gI p.2 ↑k):Int)) rfl rfl (by omega)) (lx (c3 (m:=bn+(List.length (gI p.2 ↑k):Int)) (n:=2) rfl rfl (by omega)) (lx (a8 lc rfl rfl zs6 rfl) (lo (aw (cs':=[vi ((bn+(List.length (gI p.2 ↑k):Int))-2),vi 0,vi 0,vb true,vb ax]) az rfl rfl bx26 rfl nq (AllOne.all (.cons rfl .nil)) rfl ?_)))))
   intro w37 ch38 bx39
   clear bx26
   refine aa (a7 (a6 rfl (ai 0 (aa (am ?_)))))
   refine aN (σ:=Bool×Nat×aK) (λ⟨ay,i,gq⟩ f w=>aT w0 gq w/\f 3=vp b8 0/\f 4=vp b13 0/\f 6=vp b21 0/\f 7=vi ↑k/\f 8=v33/\f 9=vi ↑i/\Sl gq (is 0) w g_v g.2/\Sl gq (is 0) w p_v p.1/\Sl gq (is 0) w p_v1 p.2/\Bx gq (is 2) w b8 [p_v,p_v1]/\Bx gq (is 3) w b13 [vi 0,vi 0,vi 0,vb false,vb false]/\Sl gq (is 0) w v33 (gI p.2 ↑k)/\Bx gq (is 4) w b21 [vi ((bn+(List.length (gI p.2 ↑k):Int))-2),vi 0,vi 0,vb true,vb ay]/\(i+1<=(gI p.2 ↑k).length/\ay=(iu p k&&eP (kS (gI p.2 ↑k)) i))) (λ⟨ay,i,gq⟩=>List.length (gI p.2 ↑k)-i) (ax,0,g31) ?_ ?_
   · exact⟨bH.ce ch38,zs3,zs4,zs6,zs7,rfl,rfl,Rg.ce ch38,Rp.ce ch38,r_p_v1.ce ch38,bx10.ce ch38,bx15.ce ch38,r35.ce ch38,bx39,by(refine⟨by omega,?_⟩;rw[hbk.2];simp[eP])⟩
   clear Rg Rp r_p_v1 bx10 bx15 r35 bx39 bH
   rintro⟨ay,i,g42⟩ f40 w41 ⟨bH,zs3,zs4,zs6,zs7,zs8,zs9,Rg,Rp,r_p_v1,bx10,bx15,r35,bx39,hax0⟩ back10
   obtain⟨hai,hax⟩:=hax0
   refine a7 (a7 (a6 rfl (mz zs9 (lx (aM (m:=↑i) (n:=1) rfl rfl (by omega)) (mz zs8 (lx (aQ bS rfl r35) (lx (aZ (m:=(i:Int)+1) (n:=(List.length (gI p.2 ↑k):Int)) rfl rfl) (aa ?_))))))))
   by_cases p10:((i:Int)+1)<(List.length (gI p.2 ↑k):Int)
   ·
    refine af rfl (dt p10) (ak (a7 (am (c6 g42 [0,1,2,3,4,5,6,7,8,9,10,11,12,13,14,15,16,17,18,19,20,21,22,23,24,25,26,27,28,29,30] jX ?_))))
    intro w44 ch43
    refine xp 0 rfl (λw=>a8 lc rfl rfl zs6 rfl) ?_
    replace bx39:=bx39.cn ch43
    refine xv 1 [0] rfl (ab eW rfl bx39 rfl) (xp (v:=vb ay) 2 rfl (λw=>aq rfl) ?_)
    by_cases q47:ay=true
    ·
     refine dE (v:=v33) 3 rfl (by kernel_rfl) (by kernel_rfl) (wy q47) (λw=>aq zs8) (dE (v:=vi ↑i) 4 rfl (by kernel_rfl) (by kernel_rfl) (wy q47) (λw=>aq zs9) ?_)
     replace r35:=r35.cn ch43
     refine jS (v:=Value.pointer (some (aR v33 2 (Int.toNat ↑i)))) 5 [4,3,2,1,0,8,9,10,11,12,13] rfl (by kernel_rfl) (by kernel_rfl) (wy q47) (ad (α:=Pt) (xs:=gI p.2 ↑k) (v:=v33) (i:=↑i) bS rfl rfl r35 rfl (by omega) (by omega)) (dE (v:=Value.pointer (some ⟨(aR v33 2 (Int.toNat ↑i)).block,(aR v33 2 (Int.toNat ↑i)).off+0,none⟩)) 6 rfl (by kernel_rfl) (by kernel_rfl) (wy q47) (λw=>ch cj rfl rfl rfl rfl) (jS (v:=vi ((gI (gI p.2 ↑k) ↑i).1)) 7 [6,5,4,3,2,1,0,8,9,10,11,12,13] rfl (by kernel_rfl) (by kernel_rfl) (wy q47) (bJ (α:=Pt) (xs:=gI p.2 ↑k) (v:=v33) (i:=↑i) az rfl r35 (by omega) (by omega) (by decide) rfl) ?_))
     refine dE (v:=v33) 8 rfl (by kernel_rfl) (by kernel_rfl) (wy q47) (λw=>aq zs8) (dE (v:=vi ↑i) 9 rfl (by kernel_rfl) (by kernel_rfl) (wy q47) (λw=>aq zs9) (dE (v:=vi ((i:Int)+1)) 10 rfl (by kernel_rfl) (by kernel_rfl) (wy q47) (λw=>aM (m:=↑i) (n:=1) rfl rfl (by omega)) (jS (v:=Value.pointer (some (aR v33 2 (Int.toNat ((i:Int)+1))))) 11 [10,9,8,7,6,5,4,3,2,1,0] rfl (by kernel_rfl) (by kernel_rfl) (wy q47) (ad (α:=Pt) (xs:=gI p.2 ↑k) (v:=v33) (i:=(i:Int)+1) bS rfl rfl r35 rfl (by omega) (by omega)) ?_)))
     refine dE (v:=Value.pointer (some ⟨(aR v33 2 (Int.toNat ((i:Int)+1))).block,(aR v33 2 (Int.toNat ((i:Int)+1))).off+0,none⟩)) 12 rfl (by kernel_rfl) (by kernel_rfl) (wy q47) (λw=>ch cj rfl rfl rfl rfl) (jS (v:=vi ((gI (gI p.2 ↑k) ((i:Int)+1)).1)) 13 [12,11,10,9,8,7,6,5,4,3,2,1,0] rfl (by kernel_rfl) (by kernel_rfl) (wy q47) (bJ (α:=Pt) (xs:=gI p.2 ↑k) (v:=v33) (i:=(i:Int)+1) az rfl r35 (by omega) (by omega) (by decide) rfl) (dE (v:=vb (decide (((gI (gI p.2 ↑k) ↑i).1)=((gI (gI p.2 ↑k) ((i:Int)+1)).1)))) 14 rfl (by kernel_rfl) (by kernel_rfl) (wy q47) (λw=>c7 (m:=(gI (gI p.2 ↑k) ↑i).1) (n:=(gI (gI p.2 ↑k) ((i:Int)+1)).1) rfl rfl) ?_))
     refine dE (v:=vb (decide (((gI (gI p.2 ↑k) ↑i).1)=((gI (gI p.2 ↑k) ((i:Int)+1)).1)))) 15 rfl (by kernel_rfl) (by kernel_rfl) (wy q47) (λw=>aq rfl) ?_
     by_cases q60:((gI (gI p.2 ↑k) ↑i).1)=((gI (gI p.2 ↑k) ((i:Int)+1)).1)
     ·
      refine ci 16 rfl (by kernel_rfl) (by kernel_rfl) (wn (dt q60)) (ci 17 rfl (by kernel_rfl) (by kernel_rfl) (wn (dt q60)) (ci 18 rfl (by kernel_rfl) (by kernel_rfl) (wn (dt q60)) (ci 19 rfl (by kernel_rfl) (by kernel_rfl) (wn (dt q60)) (ci 20 rfl (by kernel_rfl) (by kernel_rfl) (wn (dt q60)) (ci 21 rfl (by kernel_rfl) (by kernel_rfl) (wn (dt q60)) (ci 22 rfl (by kernel_rfl) (by kernel_rfl) (wn (dt q60)) (ci 23 rfl (by kernel_rfl) (by kernel_rfl) (wn (dt q60)) (ci 24 rfl (by kernel_rfl) (by kernel_rfl) (wn (dt q60)) (ci 25 rfl (by kernel_rfl) (by kernel_rfl) (wn (dt q60)) ?_)))))))))
      refine ci 26 rfl (by kernel_rfl) (by kernel_rfl) (wn (dt q60)) (ci 27 rfl (by kernel_rfl) (by kernel_rfl) (wn (dt q60)) (dE (v:=vb true) 28 rfl (by kernel_rfl) (by kernel_rfl) (wy q47) (λw=>aD rfl (dt q60) rfl) (xp (v:=vb true) 29 rfl (λw=>aD rfl q47 rfl) (xp 30 rfl (λw=>a8 lc rfl rfl zs6 rfl) (ct 31 rfl (by kernel_rfl) rfl (aw (cs':=[vi ((bn+(List.length (gI p.2 ↑k):Int))-2),vi 0,vi 0,vb true,vb true]) eW rfl rfl bx39 rfl nq (AllOne.all (.cons rfl .nil)) rfl ?_))))))
      intro w45 ch46 bx47
      clear bx39
      refine ec (by kernel_rfl) (al (a6 rfl (mz zs9 (lx (aM (m:=↑i) (n:=1) rfl rfl (by omega)) (ai ((i:Int)+1) (aa ?_))))))
      replace bH:=bH.cn ch43
      refine back10 (true,i+1,g42) _ _ ⟨bH.ce ch46,zs3,zs4,zs6,zs7,zs8,rfl,(Rg.cn ch43).ce ch46,(Rp.cn ch43).ce ch46,(r_p_v1.cn ch43).ce ch46,(bx10.cn ch43).ce ch46,(bx15.cn ch43).ce ch46,r35.ce ch46,bx47,?_⟩ ?_
      · show(i+1)+1<=(gI p.2 ↑k).length/\true=(iu p k&&eP (kS (gI p.2 ↑k)) (i+1))
        refine⟨by omega,?_⟩
        exact Aw hax ‹_› ‹_›
      · show List.length (gI p.2 ↑k)-(i+1)<List.length (gI p.2 ↑k)-i
        omega
     refine dE (v:=v33) 16 rfl (by kernel_rfl) (by kernel_rfl) (wy (df q60)) (λw=>aq zs8) (dE (v:=vi ↑i) 17 rfl (by kernel_rfl) (by kernel_rfl) (wy (df q60)) (λw=>aq zs9) (jS (v:=Value.pointer (some (aR v33 2 (Int.toNat ↑i)))) 18 [17,16,15,14,13,12,11,10,9,8,7,6,5,4,3,2,1,0,21,22,23,24,25,26] rfl (by kernel_rfl) (by kernel_rfl) (wy (df q60)) (ad (α:=Pt) (xs:=gI p.2 ↑k) (v:=v33) (i:=↑i) bS rfl rfl r35 rfl (by omega) (by omega)) ?_))
     refine dE (v:=Value.pointer (some ⟨(aR v33 2 (Int.toNat ↑i)).block,(aR v33 2 (Int.toNat ↑i)).off+1,none⟩)) 19 rfl (by kernel_rfl) (by kernel_rfl) (wy (df q60)) (λw=>ch cj rfl rfl rfl rfl) (jS (v:=vi ((gI (gI p.2 ↑k) ↑i).2)) 20 [19,18,17,16,15,14,13,12,11,10,9,8,7,6,5,4,3,2,1,0,21,22,23,24,25,26] rfl (by kernel_rfl) (by kernel_rfl) (wy (df q60)) (bJ (α:=Pt) (xs:=gI p.2 ↑k) (v:=v33) (i:=↑i) az rfl r35 (by omega) (by omega) (by decide) rfl) (dE (v:=v33) 21 rfl (by kernel_rfl) (by kernel_rfl) (wy (df q60)) (λw=>aq zs8) ?_))
     refine dE (v:=vi ↑i) 22 rfl (by kernel_rfl) (by kernel_rfl) (wy (df q60)) (λw=>aq zs9) (dE (v:=vi ((i:Int)+1)) 23 rfl (by kernel_rfl) (by kernel_rfl) (wy (df q60)) (λw=>aM (m:=↑i) (n:=1) rfl rfl (by omega)) (jS (v:=Value.pointer (some (aR v33 2 (Int.toNat ((i:Int)+1))))) 24 [23,22,21,20,19,18,17,16,15,14,13,12,11,10,9,8,7,6,5,4,3,2,1,0] rfl (by kernel_rfl) (by kernel_rfl) (wy (df q60)) (ad (α:=Pt) (xs:=gI p.2 ↑k) (v:=v33) (i:=(i:Int)+1) bS rfl rfl r35 rfl (by omega) (by omega)) ?_))
     refine dE (v:=Value.pointer (some ⟨(aR v33 2 (Int.toNat ((i:Int)+1))).block,(aR v33 2 (Int.toNat ((i:Int)+1))).off+1,none⟩)) 25 rfl (by kernel_rfl) (by kernel_rfl) (wy (df q60)) (λw=>ch cj rfl rfl rfl rfl) (jS (v:=vi ((gI (gI p.2 ↑k) ((i:Int)+1)).2)) 26 [25,24,23,22,21,20,19,18,17,16,15,14,13,12,11,10,9,8,7,6,5,4,3,2,1,0] rfl (by kernel_rfl) (by kernel_rfl) (wy (df q60)) (bJ (α:=Pt) (xs:=gI p.2 ↑k) (v:=v33) (i:=(i:Int)+1) az rfl r35 (by omega) (by omega) (by decide) rfl) ?_)
     refine dE (v:=vb (decide (((gI (gI p.2 ↑k) ↑i).2)=((gI (gI p.2 ↑k) ((i:Int)+1)).2)))) 27 rfl (by kernel_rfl) (by kernel_rfl) (wy (df q60)) (λw=>c7 (m:=(gI (gI p.2 ↑k) ↑i).2) (n:=(gI (gI p.2 ↑k) ((i:Int)+1)).2) rfl rfl) (dE (v:=vb (decide (((gI (gI p.2 ↑k) ↑i).2)=((gI (gI p.2 ↑k) ((i:Int)+1)).2)))) 28 rfl (by kernel_rfl) (by kernel_rfl) (wy q47) (λw=>aB rfl (df q60) rfl) (xp (v:=vb (decide (((gI (gI p.2 ↑k) ↑i).2)=((gI (gI p.2 ↑k) ((i:Int)+1)).2)))) 29 rfl (λw=>aD rfl q47 rfl) (xp 30 rfl (λw=>a8 lc rfl rfl zs6 rfl) (ct 31 rfl (by kernel_rfl) rfl ?_))))
     refine aw (cs':=[vi ((bn+(List.length (gI p.2 ↑k):Int))-2),vi 0,vi 0,vb true,vb (decide (((gI (gI p.2 ↑k) ↑i).2)=((gI (gI p.2 ↑k) ((i:Int)+1)).2)))]) eW rfl rfl bx39 rfl nq (AllOne.all (.cons rfl .nil)) rfl ?_
     intro w48 ch49 bx50
     clear bx39
     refine ec (by kernel_rfl) (al (a6 rfl (mz zs9 (lx (aM (m:=↑i) (n:=1) rfl rfl (by omega)) (ai ((i:Int)+1) (aa ?_))))))
     replace bH:=bH.cn ch43
     refine back10 (decide (((gI (gI p.2 ↑k) ↑i).2)=((gI (gI p.2 ↑k) ((i:Int)+1)).2)),i+1,g42) _ _ ⟨bH.ce ch49,zs3,zs4,zs6,zs7,zs8,rfl,(Rg.cn ch43).ce ch49,(Rp.cn ch43).ce ch49,(r_p_v1.cn ch43).ce ch49,(bx10.cn ch43).ce ch49,(bx15.cn ch43).ce ch49,r35.ce ch49,bx50,?_⟩ ?_
     · show(i+1)+1<=(gI p.2 ↑k).length/\(decide (((gI (gI p.2 ↑k) ↑i).2)=((gI (gI p.2 ↑k) ((i:Int)+1)).2)))=(iu p k&&eP (kS (gI p.2 ↑k)) (i+1))
       refine⟨by omega,?_⟩
       exact AN hax ‹_› ‹_›
     · show List.length (gI p.2 ↑k)-(i+1)<List.length (gI p.2 ↑k)-i
       omega
    refine ci 3 rfl (by kernel_rfl) (by kernel_rfl) (wn (Bool.eq_false_iff.2 q47)) (ci 4 rfl (by kernel_rfl) (by kernel_rfl) (wn (Bool.eq_false_iff.2 q47)) (ci 5 rfl (by kernel_rfl) (by kernel_rfl) (wn (Bool.eq_false_iff.2 q47)) (ci 6 rfl (by kernel_rfl) (by kernel_rfl) (wn (Bool.eq_false_iff.2 q47)) (ci 7 rfl (by kernel_rfl) (by kernel_rfl) (wn (Bool.eq_false_iff.2 q47)) (ci 8 rfl (by kernel_rfl) (by kernel_rfl) (wn (Bool.eq_false_iff.2 q47)) (ci 9 rfl (by kernel_rfl) (by kernel_rfl) (wn (Bool.eq_false_iff.2 q47)) (ci 10 rfl (by kernel_rfl) (by kernel_rfl) (wn (Bool.eq_false_iff.2 q47)) (ci 11 rfl (by kernel_rfl) (by kernel_rfl) (wn (Bool.eq_false_iff.2 q47)) ?_))))))))
    refine ci 12 rfl (by kernel_rfl) (by kernel_rfl) (wn (Bool.eq_false_iff.2 q47)) (ci 13 rfl (by kernel_rfl) (by kernel_rfl) (wn (Bool.eq_false_iff.2 q47)) (ci 14 rfl (by kernel_rfl) (by kernel_rfl) (wn (Bool.eq_false_iff.2 q47)) (ci 15 rfl (by kernel_rfl) (by kernel_rfl) (wn (Bool.eq_false_iff.2 q47)) (ci 16 rfl (by kernel_rfl) (by kernel_rfl) (aW rfl rfl rfl) (ci 17 rfl (by kernel_rfl) (by kernel_rfl) (aW rfl rfl rfl) (ci 18 rfl (by kernel_rfl) (by kernel_rfl) (aW rfl rfl rfl) (ci 19 rfl (by kernel_rfl) (by kernel_rfl) (aW rfl rfl rfl) (ci 20 rfl (by kernel_rfl) (by kernel_rfl) (aW rfl rfl rfl) (ci 21 rfl (by kernel_rfl) (by kernel_rfl) (aW rfl rfl rfl) ?_)))))))))
    refine ci 22 rfl (by kernel_rfl) (by kernel_rfl) (aW rfl rfl rfl) (ci 23 rfl (by kernel_rfl) (by kernel_rfl) (aW rfl rfl rfl) (ci 24 rfl (by kernel_rfl) (by kernel_rfl) (aW rfl rfl rfl) (ci 25 rfl (by kernel_rfl) (by kernel_rfl) (aW rfl rfl rfl) (ci 26 rfl (by kernel_rfl) (by kernel_rfl) (aW rfl rfl rfl) (ci 27 rfl (by kernel_rfl) (by kernel_rfl) (aW rfl rfl rfl) (ci 28 rfl (by kernel_rfl) (by kernel_rfl) (wn (Bool.eq_false_iff.2 q47)) (xp (v:=vb false) 29 rfl (λw=>aB rfl (Bool.eq_false_iff.2 q47) rfl) (xp 30 rfl (λw=>a8 lc rfl rfl zs6 rfl) (ct 31 rfl (by kernel_rfl) rfl ?_)))))))))
    refine aw (cs':=[vi ((bn+(List.length (gI p.2 ↑k):Int))-2),vi 0,vi 0,vb true,vb false]) eW rfl rfl bx39 rfl nq (AllOne.all (.cons rfl .nil)) rfl ?_
    intro w51 ch52 bx53
    clear bx39
    refine ec (by kernel_rfl) (al (a6 rfl (mz zs9 (lx (aM (m:=↑i) (n:=1) rfl rfl (by omega)) (ai ((i:Int)+1) (aa ?_))))))
    replace bH:=bH.cn ch43
    refine back10 (false,i+1,g42) _ _ ⟨bH.ce ch52,zs3,zs4,zs6,zs7,zs8,rfl,(Rg.cn ch43).ce ch52,(Rp.cn ch43).ce ch52,(r_p_v1.cn ch43).ce ch52,(bx10.cn ch43).ce ch52,(bx15.cn ch43).ce ch52,(r35.cn ch43).ce ch52,bx53,?_⟩ ?_
    · show(i+1)+1<=(gI p.2 ↑k).length/\false=(iu p k&&eP (kS (gI p.2 ↑k)) (i+1))
      refine⟨by omega,?_⟩
      exact Ai hax ‹_›
    · show List.length (gI p.2 ↑k)-(i+1)<List.length (gI p.2 ↑k)-i
      omega
   refine ag rfl (df p10) (aJ rfl (al ?_))
   clear r35
   refine a6 rfl (mz zs7 (lx (aM (m:=↑k) (n:=1) rfl rfl (by omega)) (ai ((k:Int)+1) (aa ?_))))
   refine back5 ((bn+(List.length (gI p.2 ↑k):Int))-2,ay,k+1,g42) _ _ ⟨bH,zs3,zs4,zs6,rfl,Rg,Rp,r_p_v1,bx10,bx15,bx39,by omega,?_⟩ ?_
   · show((bn+(List.length (gI p.2 ↑k):Int))-2)=gG p (k+1)/\ay=iu p (k+1)
     exact⟨by rw[hbk.1];show _=gG p k+(((gI p.2 ↑k).length:Int)-2);omega,xW hbk.2 hax (by omega) (by omega)⟩
   · show Int.toNat (((p.2.length:Int):Int)-((k+1):Int))<Int.toNat (((p.2.length:Int):Int)-(k:Int))
     omega
  refine ag rfl (df p5) (aJ rfl (a7 (a6 rfl (lx (a8 lc rfl rfl zs6 rfl) (lx (ab az rfl bx26 rfl) (lx (c7 (m:=bn) (n:=0) rfl rfl) (lx (a8 lc rfl rfl zs6 rfl) (lo (aw (cs':=[vi bn,vi 0,vi 0,vb (decide (bn=0)),vb ax]) eW rfl rfl bx26 rfl nq (AllOne.all (.cons rfl .nil)) rfl ?_)))))))))
  intro w54 ch55 bx56
  clear bx26
  refine aa (a7 (a6 rfl ?_))
  replace bx10:=bx10.ce ch55
  refine lx (aj (ds:=[p_v,p_v1]) bI zs3 bx10 rfl rfl) ?_
  replace Rp:=Rp.ce ch55
  replace r_p_v1:=r_p_v1.ce ch55
  refine lo (bi (aA (vals:=[vg [p_v,p_v1]]) Tryz.func47 ws yw rfl) (ut w54 p p_v p_v1 (Rp).ro (r_p_v1).ro (by omega) (by omega) (by exact λe h0 h1=>(hs.ln e h0 h1).2.1)) ?_)
  rintro⟨d58,v60⟩ w57 ⟨fr59,o61⟩
  obtain⟨g62,ch63,G62⟩:=fC g31 fr59 (λn=>if n=1 then 5 else 0)
  replace o61:=o61.gl G62 5
  refine ma v60 (aa (a7 (a7 ?_)))
  clear bx10
  refine a6 rfl (mv v60 ?_)
  have len64:=(o61.flat).small
  refine lx (aQ bS rfl o61.flat) (lx (d8 (m:=(List.length (aX p):Int)) (n:=0) rfl rfl) (aa ?_))
  by_cases p15:0<(List.length (aX p):Int)
  ·
   refine af rfl (dt p15) (a7 ?_)
   obtain⟨⟨hb1,hb2⟩,hb3,hb4⟩:=uq (vv hs) (by omega) (aX p).length (by omega)
   refine a6 rfl (mv v60 (lo (aO (v:=vt [vg [vi ((gL (aX p) (aX p).length).1),vi ((gL (aX p) (aX p).length).2)],vg [vi ((gO (aX p) (aX p).length).1),vi ((gO (aX p) (aX p).length).2)]]) (aA (vals:=[v60]) Tryz.func48 wd wN rfl) (vQ w57 (aX p) v60 (o61.flat).ro (by omega)) ?_)))
   intro w65 hb66
   replace hb66:=ao hb66 g62
   refine mv (vt [vg [vi ((gL (aX p) (aX p).length).1),vi ((gL (aX p) (aX p).length).2)],vg [vi ((gO (aX p) (aX p).length).1),vi ((gO (aX p) (aX p).length).2)]]) (lx (b6 rfl rfl) (lx (b6 rfl rfl) (lo (aS g62 (is 6) (6,0) rfl ah ?_))))
   intro g70 w67 b69 ch68 bx71
   replace bx71:Bx g70 (is 6) w67 b69 [vi 0,vi 0]:=bx71
   refine lo (aS g70 (is 7) (7,0) rfl ah ?_)
   intro g75 w72 b74 ch73 bx76
   replace bx76:Bx g75 (is 7) w72 b74 [vi 0,vi 0]:=bx76
   refine lo ?_
   replace bx71:=bx71.cn ch73
   refine aw (cs':=[vi ((gL (aX p) (aX p).length).1),vi ((gL (aX p) (aX p).length).2)]) ah rfl rfl bx71 rfl nq (AllOne.all (.cons rfl (.cons rfl .nil))) rfl ?_
   intro w77 ch78 bx79
   clear bx71
   refine lo ?_
   replace bx76:=bx76.ce ch78
   refine aw (cs':=[vi ((gO (aX p) (aX p).length).1),vi ((gO (aX p) (aX p).length).2)]) ah rfl rfl bx76 rfl nq (AllOne.all (.cons rfl (.cons rfl .nil))) rfl ?_
   intro w80 ch81 bx82
   clear bx76
   refine aa (a7 ?_)
   clear o61
   refine a6 rfl (lx (a8 cj rfl rfl rfl rfl) (lx (ab az rfl bx82 rfl) (lx (a8 cj rfl rfl rfl rfl) ?_)))
   replace bx79:=bx79.ce ch81
   refine lx (ab az rfl bx79 rfl) (lx (c3 (m:=(gO (aX p) (aX p).length).1) (n:=(gL (aX p) (aX p).length).1) rfl rfl (by omega)) (lx (a8 lc rfl rfl zs6 rfl) (lo ?_)))
   have C86:=cg [6,7] (ch63.n.seq (hb66.n.seq (ch68.n.seq (ch73.n.seq ((ch78.l rfl).seq (ch81.l rfl))))))
   replace bx56:=bx56.ca C86
   refine aw (cs':=[vi bn,vi (((gO (aX p) (aX p).length).1)-((gL (aX p) (aX p).length).1)),vi 0,vb (decide (bn=0)),vb ax]) az rfl rfl bx56 rfl nq (AllOne.all (.cons rfl .nil)) rfl ?_
   intro w83 ch84 bx85
   clear bx56
   refine aa (a6 rfl (lx (a8 cj rfl rfl rfl rfl) ?_))
   replace bx82:=bx82.ce ch84
   refine lx (ab az rfl bx82 rfl) (lx (a8 cj rfl rfl rfl rfl) ?_)
   replace bx79:=bx79.ce ch84
   refine lx (ab az rfl bx79 rfl) (lx (c3 (m:=(gO (aX p) (aX p).length).2) (n:=(gL (aX p) (aX p).length).2) rfl rfl (by omega)) (lx (a8 lc rfl rfl zs6 rfl) (lo (aw (cs':=[vi bn,vi (((gO (aX p) (aX p).length).1)-((gL (aX p) (aX p).length).1)),vi (((gO (aX p) (aX p).length).2)-((gL (aX p) (aX p).length).2)),vb (decide (bn=0)),vb ax]) az rfl rfl bx85 rfl nq (AllOne.all (.cons rfl .nil)) rfl ?_))))
   intro w87 ch88 bx89
   clear bx85
   refine aa (a7 ?_)
   clear bx79 bx82
   refine a6 rfl (lx (aj (ds:=[vi bn,vi (((gO (aX p) (aX p).length).1)-((gL (aX p) (aX p).length).1)),vi (((gO (aX p) (aX p).length).2)-((gL (aX p) (aX p).length).2)),vb (decide (bn=0)),vb ax]) dm zs6 bx89 rfl rfl) (lo ?_))
   have C93:=cg [4,6,7] ((ch55.l rfl).seq (ch63.n.seq (hb66.n.seq (ch68.n.seq (ch73.n.seq ((ch78.l rfl).seq ((ch81.l rfl).seq ((ch84.l rfl).seq (ch88.l rfl)))))))))
   replace bx15:=bx15.ca C93
   refine aw (cs':=[vi bn,vi (((gO (aX p) (aX p).length).1)-((gL (aX p) (aX p).length).1)),vi (((gO (aX p) (aX p).length).2)-((gL (aX p) (aX p).length).2)),vb (decide (bn=0)),vb ax]) dm zs4 rfl bx15 rfl nq (AllOne.all (.cons rfl (.cons rfl (.cons rfl (.cons rfl (.cons rfl .nil)))))) rfl ?_
   intro w90 ch91 bx92
   clear bx15
   refine ai 0 (aa (ar (vs:=[vg [vi bn,vi (((gO (aX p) (aX p).length).1)-((gL (aX p) (aX p).length).1)),vi (((gO (aX p) (aX p).length).2)-((gL (aX p) (aX p).length).2)),vb (decide (bn=0)),vb ax],vi 0]) Tryz.func17 (.cell zs4 (cB (ds:=[vi bn,vi (((gO (aX p) (aX p).length).1)-((gL (aX p) (aX p).length).1)),vi (((gO (aX p) (aX p).length).2)-((gL (aX p) (aX p).length).2)),vb (decide (bn=0)),vb ax]) dm bx92 rfl rfl) (.tmp rfl .nil)) ?_))
   have e0:((bn,((gO (aX p) (aX p).length).1)-((gL (aX p) (aX p).length).1),((gO (aX p) (aX p).length).2)-((gL (aX p) (aX p).length).2),decide (bn=0),ax):(Int)×(Int)×(Int)×(Bool)×(Bool))=((aC g p).1):=by
     (rw[iN hm hsn];exact uR hbk.1 hbk.2 (by omega) (by omega) ⟨⟨rfl,rfl⟩,rfl,rfl⟩ rfl)
   have e1:(0:Int)=((aC g p).2):=by
     rw[iN hm hsn]
   have C94:=cg [3,4,6,7] ((ch55.l rfl).seq (ch63.n.seq (hb66.n.seq (ch68.n.seq (ch73.n.seq ((ch78.l rfl).seq ((ch81.l rfl).seq ((ch84.l rfl).seq ((ch88.l rfl).seq (ch91.l rfl))))))))))
   replace bH:=bH.ca C94
   exact⟨(bR (a:=(bn,((gO (aX p) (aX p).length).1)-((gL (aX p) (aX p).length).1),((gO (aX p) (aX p).length).2)-((gL (aX p) (aX p).length).2),decide (bn=0),ax)) (b:=0) (λ(z0:(Int)×(Int)×(Int)×(Bool)×(Bool)) (z1:Int)=>Ending.returned (vt [vg [vi z0.1,vi z0.2.1,vi z0.2.2.1,vb z0.2.2.2.1,vb z0.2.2.2.2],vi z1])) e0 e1),bH.below⟩
  refine ag rfl (df p15) (ak (a7 ?_))
  clear o61
  refine a6 rfl ?_
  replace bx56:=bx56.cn ch63
  refine lx (aj (ds:=[vi bn,vi 0,vi 0,vb (decide (bn=0)),vb ax]) dm zs6 bx56 rfl rfl) (lo ?_)
  replace bx15:=(bx15.ce ch55).cn ch63
  refine aw (cs':=[vi bn,vi 0,vi 0,vb (decide (bn=0)),vb ax]) dm zs4 rfl bx15 rfl nq (AllOne.all (.cons rfl (.cons rfl (.cons rfl (.cons rfl (.cons rfl .nil)))))) rfl ?_
  intro w95 ch96 bx97
  clear bx15
  refine ai 0 (aa (ar (vs:=[vg [vi bn,vi 0,vi 0,vb (decide (bn=0)),vb ax],vi 0]) Tryz.func17 (.cell zs4 (cB (ds:=[vi bn,vi 0,vi 0,vb (decide (bn=0)),vb ax]) dm bx97 rfl rfl) (.tmp rfl .nil)) ?_))
  have e0:((bn,0,0,decide (bn=0),ax):(Int)×(Int)×(Int)×(Bool)×(Bool))=((aC g p).1):=by
    (rw[iN hm hsn];exact uP hbk.1 hbk.2 (by omega) (by omega))
  have e1:(0:Int)=((aC g p).2):=by
    rw[iN hm hsn]
  have C98:=cg [3,4] ((ch55.l rfl).seq (ch63.n.seq (ch96.l rfl)))
  replace bH:=bH.ca C98
  exact⟨(bR (a:=(bn,0,0,decide (bn=0),ax)) (b:=0) (λ(z0:(Int)×(Int)×(Int)×(Bool)×(Bool)) (z1:Int)=>Ending.returned (vt [vg [vi z0.1,vi z0.2.1,vi z0.2.2.1,vb z0.2.2.2.1,vb z0.2.2.2.2],vi z1])) e0 e1),bH.below⟩
 have hF1:0<((bL g p).length:Int):=by have:¬((bL g p).length:Int)=0:=λc=>p1 (dt c);omega
 refine af rfl (congrArg Bool.not (Bool.eq_false_iff.2 p1)) (a7 ?_)
 clear bx5 bx10
 refine a6 rfl (lw (vg [vi 0,vi 0,vi 0,vb false,vb false]) (bw (vs:=[]) rfl (by kernel_rfl)) (lo ?_))
 replace bx15:=bx15.cn hb18
 refine aw (cs':=[vi 0,vi 0,vi 0,vb false,vb false]) dm rfl rfl bx15 rfl nq (AllOne.all (.cons rfl (.cons rfl (.cons rfl (.cons rfl (.cons rfl .nil)))))) rfl ?_
 intro w99 ch100 bx101
 clear bx15
 refine ai 24 (aa (ar (vs:=[vg [vi 0,vi 0,vi 0,vb false,vb false],vi 24]) Tryz.func17 (.cell rfl (cB (ds:=[vi 0,vi 0,vi 0,vb false,vb false]) dm bx101 rfl rfl) (.tmp rfl .nil)) ?_))
 have e0:((0,0,0,false,false):(Int)×(Int)×(Int)×(Bool)×(Bool))=((aC g p).1):=by
   rw[l7 hm rfl hF1]
 have e1:(24:Int)=((aC g p).2):=by
   rw[l7 hm rfl hF1]
 have C102:=cg [3] (ch2.n.seq (ch7.n.seq (ch12.n.seq (hb18.n.seq (ch100.l rfl)))))
 replace bH:=bH.ca C102
 exact⟨(bR (a:=(0,0,0,false,false)) (b:=24) (λ(z0:(Int)×(Int)×(Int)×(Bool)×(Bool)) (z1:Int)=>Ending.returned (vt [vg [vi z0.1,vi z0.2.1,vi z0.2.2.1,vb z0.2.2.2.1,vb z0.2.2.2.2],vi z1])) e0 e1),bH.below⟩
end TL
