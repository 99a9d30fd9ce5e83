import Derived.Test.YtkhfimgjcdeejaaTlP3
import Derived.Test.YtkhfimgjcdeejaaTlGkA
import Derived.Test.YtkhfimgjcdeejaaTlGmA
import Derived.Test.YtkhfimgjcdeejaaTlGmN
import Derived.Test.YtkhfimgjcdeejaaTlGmD
import Derived.Test.YtkhfimgjcdeejaaTlGmV
import Derived.Test.YtkhfimgjcdeejaaTlGmI
import Derived.Test.YtkhfimgjcdeejaaTlGenA
import Derived.Test.YtkhfimgjcdeejaaTlGenJ
import Derived.Test.YtkhfimgjcdeejaaProg
import Derived.Test.YtkhfimgjcdeejaaTlAli
set_option linter.all false
set_option maxRecDepth 20000
namespace TL
open Go Go.Proofs
theorem ko:Try.prog.follows .mixedOrders=true:=by kernel_rfl
theorem ui:Try.f29.body.isNone=false:=rfl
theorem uI:(Try.f29.name== "runtime.NumGoroutine")=false:=by decide+kernel
theorem tV:Try.f30.body.isNone=false:=rfl
theorem ug:(Try.f30.name== "runtime.NumGoroutine")=false:=by decide+kernel
theorem tx:Try.f31.body.isNone=false:=rfl
theorem uh:(Try.f31.name== "runtime.NumGoroutine")=false:=by decide+kernel
theorem um:Try.f32.body.isNone=false:=rfl
theorem tq:(Try.f32.name== "runtime.NumGoroutine")=false:=by decide+kernel
set_option maxHeartbeats 8000000 in
theorem o6(w0:World)(g:(Int)×(List Pt))(g_v:Value)(hg_v:Ro w0 g_v g.2)(p:(List Pt)×(List (List Pt)))(p_v p_v1:Value)(hp_v:Ro w0 p_v p.1)(hp_v1:Ro w0 p_v1 p.2)(hmay:dp g):
    Calls Try.prog 14 #[vg [vi g.1,g_v],vg [p_v,p_v1]] w0 (λee w=>∃xx:aW×Value,ee= .returned ((λ⟨δ,rv0⟩=>rv0) xx)/\(λ(⟨δ,rv0⟩:aW×Value) (w:World)=>gw w0 δ w/\Ow δ (is 1) (is 1) w rv0 (du g p)) xx w):=by
 refine aI Try.func14 rfl nq ?_
 have bH:=bo.start w0
 have Rg:=hg_v.sl
 have Rp:=hp_v.sl
 have r_p_v1:=hp_v1.sl
 have hm0:=hmay
 obtain⟨hm1,hm2,hm3,hm4⟩:=hm0
 refine a6 (a5 rfl (cj rfl (bA c0 (is 1) (1,0) rfl rfl ?_)))
 intro g4 w1 b3 ch2 bx5
 replace bx5:Bx g4 (is 1) w1 b3 [vi g.1,g_v]:=bx5
 refine lo (bA g4 (is 2) (2,0) rfl rfl ?_)
 intro g9 w6 b8 ch7 bx10
 replace bx10:Bx g9 (is 2) w6 b8 [p_v,p_v1]:=bx10
 refine ma vn (a8 (a6 (a5 rfl ?_)))
 replace bx5:=bx5.cn ch7
 refine lx (ad (ds:=[vi g.1,g_v]) m6 rfl bx5 rfl rfl) (lx (ad (ds:=[p_v,p_v1]) mb rfl bx10 rfl rfl) ?_)
 replace Rg:=(Rg.cn ch2).cn ch7
 replace Rp:=(Rp.cn ch2).cn ch7
 replace r_p_v1:=(r_p_v1.cn ch2).cn ch7
 refine lo (d5 (az (vals:=[vg [vi g.1,g_v],vg [p_v,p_v1]]) Try.func29 ui uI rfl) (ou w6 g g_v (Rg).ro p p_v p_v1 (Rp).ro (r_p_v1).ro ‹_›) ?_)
 rintro⟨d12,v14⟩ w11 ⟨fr13,o15⟩
 obtain⟨g16,ch17,G16⟩:=ny g9 fr13 (λn=>if n=1 then 3 else 0)
 replace o15:=o15.gl G16 3
 refine ma v14 (a8 (a6 (a6 (a5 rfl (mv v14 ?_)))))
 have len18:=(o15.flat).small
 refine lx (bE i9 rfl o15.flat) (lx (dZ (m:=(List.length (c9 g p):Int)) (n:=0) rfl rfl) (a8 ?_))
 by_cases p2:0<(List.length (c9 g p):Int)
 ·
  refine ae rfl (dt p2) (a6 ?_)
  clear bx5 bx10
  refine a5 rfl (mv v14 (ma v14 (a8 (av (vs:=[v14]) Try.func14 (.tmp rfl .nil) ?_))))
  have C19:=cg [] (ch2.n.seq (ch7.n.seq ch17.n))
  replace bH:=bH.ca C19
  have e0:(c9 g p:List cr)=(du g p):=by
    exact rH rfl (by omega)
  exact⟨(kQ w0 g16 (λn=>if n=3 then 1 else 0),v14),(congrArg (a₁:=c9 g p) (λ(z0:List cr)=>Ending.returned (v14)) e0),bH.fresh _,(e0▸(o15.glue (γ:=c0) (ren:=(λn=>if n=3 then 1 else 0)) (k:=1) bH.col rfl rfl))⟩
 obtain⟨hF0,hsn,hs⟩:=r7 (g:=g) (p:=p) rfl (by omega)
 have hs1:=hs.n
 have hs2:=hs.m
 refine af rfl (df p2) (am (a6 (a6 (a5 rfl (ai 0 (a8 (ao ?_)))))))
 refine bf (σ:=Value×(List cr)×Nat×aW) (λ⟨F0_v,F0,v,gq⟩ f w=>bo w0 gq w/\f 2=vp b3 0/\f 3=vp b8 0/\f 5=F0_v/\f 6=vi ↑v/\Sl gq (is 0) w g_v g.2/\Sl gq (is 0) w p_v p.1/\Sl gq (is 0) w p_v1 p.2/\Bx gq (is 1) w b3 [vi g.1,g_v]/\Bx gq (is 2) w b8 [p_v,p_v1]/\Ow gq (is 3) (is 3) w F0_v F0/\(v:Int)<=(g.1:Int)/\(F0=bI (fO p) v)) (λ⟨F0_v,F0,v,gq⟩=>Int.toNat ((g.1:Int)-(v:Int))) (v14,c9 g p,0,g16) ?_ ?_
 have C20:=cg [] (ch2.n.seq (ch7.n.seq ch17.n))
 · exact⟨bH.ca C20,rfl,rfl,rfl,rfl,Rg.cn ch17,Rp.cn ch17,r_p_v1.cn ch17,bx5.cn ch17,bx10.cn ch17,o15,by omega,by exact hF0⟩
 clear Rg Rp r_p_v1 bx5 bx10 o15 bH
 rintro⟨F0_v,F0,v,g23⟩ f21 w22 ⟨bH,zs2,zs3,zs5,zs6,Rg,Rp,r_p_v1,bx5,bx10,o_F0,hle_v,h0_⟩ back5
 refine a6 (a6 (a5 rfl (mz zs6 (lx (a7 eR rfl rfl zs2 rfl) (lx (a9 aG rfl bx5 rfl) (lx (b6 (m:=↑v) (n:=g.1) rfl rfl) (a8 ?_)))))))
 by_cases p5:(v:Int)<g.1
 ·
  refine ae rfl (dt p5) (am (a6 (ao (a6 (a5 rfl (mz zs6 (lx (aQ (m:=↑v) (n:=1) rfl rfl (by omega)) (ai ((v:Int)+1) (a8 (ao ?_))))))))))
  refine bf (σ:=Value×(List cr)×Nat×aW) (λ⟨F1_v,F1,wb,gq⟩ f w=>bo w0 gq w/\f 2=vp b3 0/\f 3=vp b8 0/\f 5=F1_v/\f 6=vi ↑v/\f 7=vi ↑wb/\Sl gq (is 0) w g_v g.2/\Sl gq (is 0) w p_v p.1/\Sl gq (is 0) w p_v1 p.2/\Bx gq (is 1) w b3 [vi g.1,g_v]/\Bx gq (is 2) w b8 [p_v,p_v1]/\Ow gq (is 3) (is 3) w F1_v F1/\(wb:Int)<=(g.1:Int)/\(F1=bI (fO p) v++bI (iA p v) wb/\v<wb)) (λ⟨F1_v,F1,wb,gq⟩=>Int.toNat ((g.1:Int)-(wb:Int))) (F0_v,F0,v+1,g23) ?_ ?_
  · exact⟨bH,zs2,zs3,zs5,zs6,rfl,Rg,Rp,r_p_v1,bx5,bx10,o_F0,by omega,by exact t7 h0_⟩
  clear Rg Rp r_p_v1 bx5 bx10 o_F0 bH
  rintro⟨F1_v,F1,wb,g26⟩ f24 w25 ⟨bH,zs2,zs3,zs5,zs6,zs7,Rg,Rp,r_p_v1,bx5,bx10,o_F1,hle_wb,h1_⟩ back8
  have h1l:=wh (by omega) (by omega) (by omega) h1_.1
  have h1v:=h1_.2
  refine a6 (a6 (a5 rfl (mz zs7 (lx (a7 eR rfl rfl zs2 rfl) (lx (a9 aG rfl bx5 rfl) (lx (b6 (m:=↑wb) (n:=g.1) rfl rfl) (a8 ?_)))))))
  by_cases p8:(wb:Int)<g.1
  ·
   refine ae rfl (dt p8) (am (a6 (ao (a6 (bv g26 rfl ko (by kernel_rfl) ?_)))))
   intro w28 ch27
   refine qx (λw' hw'=>a7 dn rfl rfl zs3 rfl) ?_
   replace bx10:=bx10.cn ch27
   refine qx (λw' hw'=>a9 cl rfl (bx10.bel hw') rfl) (qz zs6 ?_)
   replace Rp:=Rp.cn ch27
   refine qx (λw' hw'=>ab (v:=p_v) (i:=↑v) bZ rfl rfl (Rp.bel hw') rfl (by omega) (by omega)) (qv (vg [vi ((gI p.1 ↑v).1),vi ((gI p.1 ↑v).2)]) (λw' hw'=>aM (v:=p_v) (i:=↑v) ah rfl (Rp.bel hw') (by omega) (by omega) rfl) (qx (λw' hw'=>a7 dn rfl rfl zs3 rfl) (qx (λw' hw'=>a9 cl rfl (bx10.bel hw') rfl) (qz zs7 (qx (λw' hw'=>ab (v:=p_v) (i:=↑wb) bZ rfl rfl (Rp.bel hw') rfl (by omega) (by omega)) (qv (vg [vi ((gI p.1 ↑wb).1),vi ((gI p.1 ↑wb).2)]) (λw' hw'=>aM (v:=p_v) (i:=↑wb) ah rfl (Rp.bel hw') (by omega) (by omega) rfl) ?_))))))
   refine qv (vb (decide ((gI p.1 ↑v)=(gI p.1 ↑wb)))) (λw' hw'=>fb (bs:=[decide (((gI p.1 ↑v).1)=((gI p.1 ↑wb).1)),decide (((gI p.1 ↑v).2)=((gI p.1 ↑wb).2))]) cq (by kernel_rfl) (by kernel_rfl) rfl rfl (.cons (by decide+kernel) aG rfl rfl (.int U3) (.cons (by decide+kernel) aG rfl rfl (.int U3) .nil)) (by simp[Prod.ext_iff,Bool.decide_and,Bool.and_assoc])) (bM ?_)
   intro w29 hc30
   replace hc30:=aj hc30 g26
   by_cases p10:(gI p.1 ↑v)=(gI p.1 ↑wb)
   ·
    refine ae rfl (dt p10) (a5 rfl (mz zs5 (mz zs6 (mz zs7 (lw (vg [vi 4,vi ↑v,vi ↑wb]) (bz (vs:=[(0,vi 4),(1,vi ↑v),(2,vi ↑wb)]) rfl (by kernel_rfl)) (lo (aC (α:=cr) g26 (is 4) (is 4) (4,0) rfl ([(4,(v:Int),(wb:Int))]:List cr) i9 cL (by decide) (by decide) (vs:=[(0,vg [vi 4,vi ↑v,vi ↑wb])]) rfl rfl (.cons rfl .nil) ?_)))))))
    intro g31 w32 v33 ch34 o35
    refine lo ?_
    have C36:=cg [] (ch27.n.seq (hc30.n.seq ch34.n))
    replace o_F1:=o_F1.ca C36
    refine b9 (α:=cr) (xs:=F1) (ys:=([(4,(v:Int),(wb:Int))]:List cr)) g31 (J:=is 3) (S:=is 3) (3,0) rfl i9 cL (by decide) rfl rfl rfl o_F1 o35.flat (by decide) (by(simp;omega)) ?_
    intro g37 w38 v39 ch40 o41
    clear o_F1
    refine ma v39 (a8 (ak ?_))
    clear o35
    refine a5 rfl (mz zs7 (lx (aQ (m:=↑wb) (n:=1) rfl rfl (by omega)) (ai ((wb:Int)+1) (a8 ?_))))
    have C43:=cg [3] (hc30.n.seq (ch34.n.seq (ch40.l rfl)))
    have C42:=ch27.n.seq C43
    refine back8 (v39,(F1++([(4,(v:Int),(wb:Int))]:List cr)),wb+1,g37) _ _ ⟨bH.ca C42,zs2,zs3,rfl,zs6,rfl,Rg.ca C42,Rp.ca C43,r_p_v1.ca C42,bx5.ca C42,bx10.ca C43,o41,by omega,?_⟩ ?_
    · show(F1++([(4,(v:Int),(wb:Int))]:List cr))=bI (fO p) v++bI (iA p v) (wb+1)/\v<(wb+1)
      exact⟨wx h1_.1 h1v ‹_›,by omega⟩
    · show Int.toNat ((g.1:Int)-((wb+1):Int))<Int.toNat ((g.1:Int)-(wb:Int))
      omega
   refine af rfl (df p10) (am (ak (a5 rfl (mz zs7 (lx (aQ (m:=↑wb) (n:=1) rfl rfl (by omega)) (ai ((wb:Int)+1) (a8 ?_)))))))
   replace bH:=bH.cn ch27
   refine back8 (F1_v,F1,wb+1,g26) _ _ ⟨bH.cn hc30,zs2,zs3,zs5,zs6,rfl,(Rg.cn ch27).cn hc30,Rp.cn hc30,(r_p_v1.cn ch27).cn hc30,(bx5.cn ch27).cn hc30,bx10.cn hc30,(o_F1.cn ch27).cn hc30,by omega,?_⟩ ?_
   · show F1=bI (fO p) v++bI (iA p v) (wb+1)/\v<(wb+1)
     exact⟨x8 h1_.1 ‹_›,by omega⟩
   · show Int.toNat ((g.1:Int)-((wb+1):Int))<Int.toNat ((g.1:Int)-(wb:Int))
     omega
  refine af rfl (df p8) (aO rfl (ak (a5 rfl (mz zs6 (lx (aQ (m:=↑v) (n:=1) rfl rfl (by omega)) (ai ((v:Int)+1) (a8 ?_)))))))
  refine back5 (F1_v,F1,v+1,g26) _ _ ⟨bH,zs2,zs3,zs5,rfl,Rg,Rp,r_p_v1,bx5,bx10,o_F1,by omega,?_⟩ ?_
  · show F1=bI (fO p) (v+1)
    exact vD h1_.1 (by omega)
  · show Int.toNat ((g.1:Int)-((v+1):Int))<Int.toNat ((g.1:Int)-(v:Int))
    omega
 refine af rfl (df p5) (aO rfl (a6 (a5 rfl (ma (vb false) (a8 (a6 (a6 (a5 rfl (ai 0 (a8 (ao ?_)))))))))))
 refine bf (σ:=Nat×Value×(List cr)×Bool×aW) (λ⟨e,F2_v,F2,st,gq⟩ f w=>bo w0 gq w/\f 2=vp b3 0/\f 3=vp b8 0/\f 5=F2_v/\f 8=vb st/\f 9=vi ↑e/\Sl gq (is 0) w g_v g.2/\Sl gq (is 0) w p_v p.1/\Sl gq (is 0) w p_v1 p.2/\Bx gq (is 1) w b3 [vi g.1,g_v]/\Bx gq (is 2) w b8 [p_v,p_v1]/\Ow gq (is 3) (is 3) w F2_v F2/\(e:Int)<=((g.2.length:Int):Int)/\(F2=cF p++bI (d6 g p) e/\(!st)=decide (bI (d6 g p) e=[]))) (λ⟨e,F2_v,F2,st,gq⟩=>Int.toNat (((g.2.length:Int):Int)-(e:Int))) (0,F0_v,F0,false,g23) ?_ ?_
 · exact⟨bH,zs2,zs3,zs5,rfl,rfl,Rg,Rp,r_p_v1,bx5,bx10,o_F0,by omega,by exact qo h0_ (by omega)⟩
 clear Rg Rp r_p_v1 bx5 bx10 o_F0 bH
 rintro⟨e,F2_v,F2,st,g46⟩ f44 w45 ⟨bH,zs2,zs3,zs5,zs8,zs9,Rg,Rp,r_p_v1,bx5,bx10,o_F2,hle_e,h2_⟩ back14
 have h2l:=rh (by omega) (by omega) h2_.1
 refine a6 (a6 (a5 rfl (mz zs9 (lx (a7 eR rfl rfl zs2 rfl) (lx (a9 ch rfl bx5 rfl) ?_)))))
 have len47:=(Rg).small
 refine lx (bE gv rfl Rg) (lx (b6 (m:=↑e) (n:=(g.2.length:Int)) rfl rfl) (a8 ?_))
 by_cases p14:(e:Int)<(g.2.length:Int)
 ·
  refine ae rfl (dt p14) ?_
  obtain⟨hl1,hl2,hl3⟩:=hs.ln (e:Int) (by omega) (by omega)
  obtain⟨⟨he1,he2⟩,he3,he4⟩:=jQ (e:=(e:Int)) hmay (by omega) (by omega)
  refine am (a6 (ao (a6 (a5 rfl (lx (a7 dn rfl rfl zs3 rfl) (lx (a9 eB rfl bx10 rfl) (mz zs9 (lx (ab (v:=p_v1) (i:=↑e) eP rfl rfl r_p_v1 rfl (by omega) (by omega)) ?_))))))))
  obtain⟨v48,cel49,r50⟩:=cN (r:=(e:Int)) r_p_v1 (by omega) (by omega)
  refine lx (aZ cl rfl cel49) (ma v48 (a8 (a6 (bv g46 rfl ko (by kernel_rfl) ?_))))
  intro w52 ch51
  refine qm v48 ?_
  replace r50:=r50.cn ch51
  refine qx (λw' hw'=>ab (v:=v48) (i:=0) bZ rfl rfl (r50.bel hw') rfl (by omega) (by omega)) (qv (vg [vi ((gI (gI p.2 ↑e) 0).1),vi ((gI (gI p.2 ↑e) 0).2)]) (λw' hw'=>aM (v:=v48) (i:=0) ah rfl (r50.bel hw') (by omega) (by omega) rfl) (qx (λw' hw'=>a7 dn rfl rfl zs3 rfl) ?_))
  replace bx10:=bx10.cn ch51
  refine qx (λw' hw'=>a9 cl rfl (bx10.bel hw') rfl) (qx (λw' hw'=>a7 eR rfl rfl zs2 rfl) ?_)
  replace bx5:=bx5.cn ch51
  refine qx (λw' hw'=>a9 ch rfl (bx5.bel hw') rfl) (qz zs9 ?_)
  replace Rg:=Rg.cn ch51
  refine qx (λw' hw'=>ab (v:=g_v) (i:=↑e) gv rfl rfl (Rg.bel hw') rfl (by omega) (by omega)) (qx (λw' hw'=>bj jZ rfl rfl rfl (by decide) (by decide) rfl) (qx (λw' hw'=>bN (v:=g_v) (i:=↑e) aG rfl (Rg.bel hw') (by omega) (by omega) (by decide) rfl) ?_))
  replace Rp:=Rp.cn ch51
  refine qx (λw' hw'=>ab (v:=p_v) (i:=(gI g.2 ↑e).1) bZ rfl rfl (Rp.bel hw') rfl (by omega) (by omega)) (qv (vg [vi ((gI p.1 ((gI g.2 ↑e).1)).1),vi ((gI p.1 ((gI g.2 ↑e).1)).2)]) (λw' hw'=>aM (v:=p_v) (i:=(gI g.2 ↑e).1) ah rfl (Rp.bel hw') (by omega) (by omega) rfl) ?_)
  refine qv (vb (!(decide ((gI (gI p.2 ↑e) 0)=(gI p.1 ((gI g.2 ↑e).1)))))) (λw' hw'=>dD (bs:=[decide (((gI (gI p.2 ↑e) 0).1)=((gI p.1 ((gI g.2 ↑e).1)).1)),decide (((gI (gI p.2 ↑e) 0).2)=((gI p.1 ((gI g.2 ↑e).1)).2))]) cq (by kernel_rfl) (by kernel_rfl) rfl rfl (.cons (by decide+kernel) aG rfl rfl (.int U3) (.cons (by decide+kernel) aG rfl rfl (.int U3) .nil)) (by simp[Prod.ext_iff,Bool.decide_and,Bool.and_assoc])) (qm (vb (!(decide ((gI (gI p.2 ↑e) 0)=(gI p.1 ((gI g.2 ↑e).1)))))) ?_)
  by_cases q80:(gI (gI p.2 ↑e) 0)=(gI p.1 ((gI g.2 ↑e).1))
  ·
   refine aR (v:=v48) (wy (congrArg Bool.not (dt q80))) (λw' hw'=>aw rfl) (aR (v:=v48) (wy (congrArg Bool.not (dt q80))) (λw' hw'=>aw rfl) ?_)
   have len53:=(r50).small
   refine aR (v:=vi (List.length (gI p.2 ↑e):Int)) (wy (congrArg Bool.not (dt q80))) (λw' hw'=>bE bZ rfl (r50.bel hw')) (aR (v:=vi ((List.length (gI p.2 ↑e):Int)-1)) (wy (congrArg Bool.not (dt q80))) (λw' hw'=>cX (m:=(List.length (gI p.2 ↑e):Int)) (n:=1) rfl rfl (by omega)) (aR (v:=Value.pointer (some (aU v48 2 (Int.toNat ((List.length (gI p.2 ↑e):Int)-1))))) (wy (congrArg Bool.not (dt q80))) (λw' hw'=>ab (α:=Pt) (xs:=gI p.2 ↑e) (v:=v48) (i:=(List.length (gI p.2 ↑e):Int)-1) bZ rfl rfl (r50.bel hw') rfl (by omega) (by omega)) ?_))
   refine aR (v:=vg [vi ((gI (gI p.2 ↑e) ((List.length (gI p.2 ↑e):Int)-1)).1),vi ((gI (gI p.2 ↑e) ((List.length (gI p.2 ↑e):Int)-1)).2)]) (wy (congrArg Bool.not (dt q80))) (λw' hw'=>aM (α:=Pt) (xs:=gI p.2 ↑e) (v:=v48) (i:=(List.length (gI p.2 ↑e):Int)-1) ah rfl (r50.bel hw') (by omega) (by omega) rfl) (aR (v:=vp b8 0) (wy (congrArg Bool.not (dt q80))) (λw' hw'=>a7 dn rfl rfl zs3 rfl) (aR (v:=p_v) (wy (congrArg Bool.not (dt q80))) (λw' hw'=>a9 cl rfl (bx10.bel hw') rfl) ?_))
   refine aR (v:=vp b3 1) (wy (congrArg Bool.not (dt q80))) (λw' hw'=>a7 eR rfl rfl zs2 rfl) (aR (v:=g_v) (wy (congrArg Bool.not (dt q80))) (λw' hw'=>a9 ch rfl (bx5.bel hw') rfl) (aR (v:=vi ↑e) (wy (congrArg Bool.not (dt q80))) (λw' hw'=>aw zs9) (aR (v:=Value.pointer (some (aU g_v 2 (Int.toNat ↑e)))) (wy (congrArg Bool.not (dt q80))) (λw' hw'=>ab (α:=Pt) (xs:=g.2) (v:=g_v) (i:=↑e) gv rfl rfl (Rg.bel hw') rfl (by omega) (by omega)) ?_)))
   refine aR (v:=Value.pointer (some ⟨(aU g_v 2 (Int.toNat ↑e)).block,(aU g_v 2 (Int.toNat ↑e)).off+1,none⟩)) (wy (congrArg Bool.not (dt q80))) (λw' hw'=>bj jZ rfl rfl rfl (by decide) (by decide) rfl) (aR (v:=vi ((gI g.2 ↑e).2)) (wy (congrArg Bool.not (dt q80))) (λw' hw'=>bN (α:=Pt) (xs:=g.2) (v:=g_v) (i:=↑e) aG rfl (Rg.bel hw') (by omega) (by omega) (by decide) rfl) (aR (v:=Value.pointer (some (aU p_v 2 (Int.toNat ((gI g.2 ↑e).2))))) (wy (congrArg Bool.not (dt q80))) (λw' hw'=>ab (α:=Pt) (xs:=p.1) (v:=p_v) (i:=(gI g.2 ↑e).2) bZ rfl rfl (Rp.bel hw') rfl (by omega) (by omega)) ?_))
   refine aR (v:=vg [vi ((gI p.1 ((gI g.2 ↑e).2)).1),vi ((gI p.1 ((gI g.2 ↑e).2)).2)]) (wy (congrArg Bool.not (dt q80))) (λw' hw'=>aM (α:=Pt) (xs:=p.1) (v:=p_v) (i:=(gI g.2 ↑e).2) ah rfl (Rp.bel hw') (by omega) (by omega) rfl) ?_
   refine aR (v:=vb (!(decide ((gI (gI p.2 ↑e) ((List.length (gI p.2 ↑e):Int)-1))=(gI p.1 ((gI g.2 ↑e).2)))))) (wy (congrArg Bool.not (dt q80))) (λw' hw'=>dD (bs:=[decide (((gI (gI p.2 ↑e) ((List.length (gI p.2 ↑e):Int)-1)).1)=((gI p.1 ((gI g.2 ↑e).2)).1)),decide (((gI (gI p.2 ↑e) ((List.length (gI p.2 ↑e):Int)-1)).2)=((gI p.1 ((gI g.2 ↑e).2)).2))]) cq (by kernel_rfl) (by kernel_rfl) rfl rfl (.cons (by decide+kernel) aG rfl rfl (.int U3) (.cons (by decide+kernel) aG rfl rfl (.int U3) .nil)) (by simp[Prod.ext_iff,Bool.decide_and,Bool.and_assoc])) ?_
   refine qv (vb (!(decide ((gI (gI p.2 ↑e) ((List.length (gI p.2 ↑e):Int)-1))=(gI p.1 ((gI g.2 ↑e).2)))))) (λw' hw'=>aB rfl (congrArg Bool.not (dt q80)) rfl) (bM ?_)
   intro w54 hc55
   replace hc55:=aj hc55 g46
   by_cases p17:(gI (gI p.2 ↑e) ((List.length (gI p.2 ↑e):Int)-1))=(gI p.1 ((gI g.2 ↑e).2))
   ·
    refine af rfl (congrArg Bool.not (dt p17)) (am (ak ?_))
    clear r50
    refine a5 rfl (mz zs9 (lx (aQ (m:=↑e) (n:=1) rfl rfl (by omega)) (ai ((e:Int)+1) (a8 ?_))))
    replace bH:=bH.cn ch51
    refine back14 (e+1,F2_v,F2,st,g46) _ _ ⟨bH.cn hc55,zs2,zs3,zs5,zs8,rfl,Rg.cn hc55,Rp.cn hc55,(r_p_v1.cn ch51).cn hc55,bx5.cn hc55,bx10.cn hc55,(o_F2.cn ch51).cn hc55,by omega,?_⟩ ?_
    · show F2=cF p++bI (d6 g p) (e+1)/\(!st)=decide (bI (d6 g p) (e+1)=[])
      exact u3 h2_ ⟨by assumption,by assumption⟩
    · show Int.toNat (((g.2.length:Int):Int)-((e+1):Int))<Int.toNat (((g.2.length:Int):Int)-(e:Int))
      omega
   refine ae rfl (congrArg Bool.not (df p17)) (a6 ?_)
   clear r50
   refine a5 rfl (mz zs5 (mz zs9 (lw (vg [vi 5,vi ↑e,vi 0]) (bz (vs:=[(0,vi 5),(1,vi ↑e)]) rfl (by kernel_rfl)) (lo (aC (α:=cr) g46 (is 5) (is 5) (5,0) rfl ([(5,(e:Int),0)]:List cr) i9 cL (by decide) (by decide) (vs:=[(0,vg [vi 5,vi ↑e,vi 0])]) rfl rfl (.cons rfl .nil) ?_)))))
   intro g56 w57 v58 ch59 o60
   refine lo ?_
   have C61:=cg [] (ch51.n.seq (hc55.n.seq ch59.n))
   replace o_F2:=o_F2.ca C61
   refine b9 (α:=cr) (xs:=F2) (ys:=([(5,(e:Int),0)]:List cr)) g56 (J:=is 3) (S:=is 3) (3,0) rfl i9 cL (by decide) rfl rfl rfl o_F2 o60.flat (by decide) (by(simp;omega)) ?_
   intro g62 w63 v64 ch65 o66
   clear o_F2
   refine ma v64 (a8 ?_)
   clear o60
   refine a5 rfl (ma (vb true) (a8 (ak (a5 rfl (mz zs9 (lx (aQ (m:=↑e) (n:=1) rfl rfl (by omega)) (ai ((e:Int)+1) (a8 ?_))))))))
   have C68:=cg [3] (hc55.n.seq (ch59.n.seq (ch65.l rfl)))
   have C67:=ch51.n.seq C68
   refine back14 (e+1,v64,(F2++([(5,(e:Int),0)]:List cr)),true,g62) _ _ ⟨bH.ca C67,zs2,zs3,rfl,rfl,rfl,Rg.ca C68,Rp.ca C68,r_p_v1.ca C67,bx5.ca C68,bx10.ca C68,o66,by omega,?_⟩ ?_
   · show(F2++([(5,(e:Int),0)]:List cr))=cF p++bI (d6 g p) (e+1)/\(!true)=decide (bI (d6 g p) (e+1)=[])
     exact mU h2_ (λc=>absurd c.2 ‹_›)
   · show Int.toNat (((g.2.length:Int):Int)-((e+1):Int))<Int.toNat (((g.2.length:Int):Int)-(e:Int))
     omega
  refine aq (wn (congrArg Bool.not (df q80))) (aq (wn (congrArg Bool.not (df q80))) (aq (wn (congrArg Bool.not (df q80))) (aq (wn (congrArg Bool.not (df q80))) (aq (wn (congrArg Bool.not (df q80))) (aq (wn (congrArg Bool.not (df q80))) (aq (wn (congrArg Bool.not (df q80))) (aq (wn (congrArg Bool.not (df q80))) (aq (wn (congrArg Bool.not (df q80))) (aq (wn (congrArg Bool.not (df q80))) ?_)))))))))
  refine aq (wn (congrArg Bool.not (df q80))) (aq (wn (congrArg Bool.not (df q80))) (aq (wn (congrArg Bool.not (df q80))) (aq (wn (congrArg Bool.not (df q80))) (aq (wn (congrArg Bool.not (df q80))) (aq (wn (congrArg Bool.not (df q80))) (aq (wn (congrArg Bool.not (df q80))) (qv (vb true) (λw' hw'=>aD rfl (congrArg Bool.not (df q80)) rfl) (bM ?_))))))))
  intro w69 hc70
  replace hc70:=aj hc70 g46
  refine ae rfl rfl (a6 ?_)
  clear r50
  refine a5 rfl (mz zs5 (mz zs9 (lw (vg [vi 5,vi ↑e,vi 0]) (bz (vs:=[(0,vi 5),(1,vi ↑e)]) rfl (by kernel_rfl)) (lo (aC (α:=cr) g46 (is 5) (is 5) (5,0) rfl ([(5,(e:Int),0)]:List cr) i9 cL (by decide) (by decide) (vs:=[(0,vg [vi 5,vi ↑e,vi 0])]) rfl rfl (.cons rfl .nil) ?_)))))
  intro g71 w72 v73 ch74 o75
  refine lo ?_
  have C76:=cg [] (ch51.n.seq (hc70.n.seq ch74.n))
  replace o_F2:=o_F2.ca C76
  refine b9 (α:=cr) (xs:=F2) (ys:=([(5,(e:Int),0)]:List cr)) g71 (J:=is 3) (S:=is 3) (3,0) rfl i9 cL (by decide) rfl rfl rfl o_F2 o75.flat (by decide) (by(simp;omega)) ?_
  intro g77 w78 v79 ch80 o81
  clear o_F2
  refine ma v79 (a8 ?_)
  clear o75
  refine a5 rfl (ma (vb true) (a8 (ak (a5 rfl (mz zs9 (lx (aQ (m:=↑e) (n:=1) rfl rfl (by omega)) (ai ((e:Int)+1) (a8 ?_))))))))
  have C83:=cg [3] (hc70.n.seq (ch74.n.seq (ch80.l rfl)))
  have C82:=ch51.n.seq C83
  refine back14 (e+1,v79,(F2++([(5,(e:Int),0)]:List cr)),true,g77) _ _ ⟨bH.ca C82,zs2,zs3,rfl,rfl,rfl,Rg.ca C83,Rp.ca C83,r_p_v1.ca C82,bx5.ca C83,bx10.ca C83,o81,by omega,?_⟩ ?_
  · show(F2++([(5,(e:Int),0)]:List cr))=cF p++bI (d6 g p) (e+1)/\(!true)=decide (bI (d6 g p) (e+1)=[])
    exact mU h2_ (λc=>absurd c.1 ‹_›)
  · show Int.toNat (((g.2.length:Int):Int)-((e+1):Int))<Int.toNat (((g.2.length:Int):Int)-(e:Int))
    omega
 refine af rfl (df p14) (aO rfl (a6 (a6 (a5 rfl (ai 0 (a8 (ao ?_)))))))
 refine bf (σ:=Nat×Value×(List cr)×Bool×aW) (λ⟨d,F3_v,F3,su,gq⟩ f w=>bo w0 gq w/\f 2=vp b3 0/\f 3=vp b8 0/\f 5=F3_v/\f 8=vb su/\f 11=vi ↑d/\Sl gq (is 0) w g_v g.2/\Sl gq (is 0) w p_v p.1/\Sl gq (is 0) w p_v1 p.2/\Bx gq (is 1) w b3 [vi g.1,g_v]/\Bx gq (is 2) w b8 [p_v,p_v1]/\Ow gq (is 3) (is 3) w F3_v F3/\(d:Int)<=((g.2.length:Int):Int)/\(F3=cF p++(bI (d6 g p) p.2.length++bI (fe p) d)/\(!su)=decide (bI (d6 g p) p.2.length++bI (fe p) d=[]))) (λ⟨d,F3_v,F3,su,gq⟩=>Int.toNat (((g.2.length:Int):Int)-(d:Int))) (0,F2_v,F2,st,g46) ?_ ?_
 · exact⟨bH,zs2,zs3,zs5,zs8,rfl,Rg,Rp,r_p_v1,bx5,bx10,o_F2,by omega,by exact rT h2_ (by omega)⟩
 clear Rg Rp r_p_v1 bx5 bx10 o_F2 bH
 rintro⟨d,F3_v,F3,su,g86⟩ f84 w85 ⟨bH,zs2,zs3,zs5,zs8,zs11,Rg,Rp,r_p_v1,bx5,bx10,o_F3,hle_d,h3_⟩ back21
 have h3l:=qe (by omega) (by omega) (by omega) h3_.1
 refine a6 (a6 (a5 rfl (mz zs11 (lx (a7 eR rfl rfl zs2 rfl) (lx (a9 ch rfl bx5 rfl) (lx (bE gv rfl Rg) (lx (b6 (m:=↑d) (n:=(g.2.length:Int)) rfl rfl) (a8 ?_))))))))
 by_cases p21:(d:Int)<(g.2.length:Int)
 ·
  refine ae rfl (dt p21) ?_
  obtain⟨hl1,hl2,hl3⟩:=hs.ln (d:Int) (by omega) (by omega)
  refine am (a6 (ao (a6 (a5 rfl (lx (a7 dn rfl rfl zs3 rfl) (lx (a9 eB rfl bx10 rfl) (mz zs11 (lx (ab (v:=p_v1) (i:=↑d) eP rfl rfl r_p_v1 rfl (by omega) (by omega)) ?_))))))))
  obtain⟨v87,cel88,r89⟩:=cN (r:=(d:Int)) r_p_v1 (by omega) (by omega)
  refine lx (aZ cl rfl cel88) (lo (aN (v:=vb (decide (fc (gI p.2 ↑d)))) (az (vals:=[v87]) Try.func30 tV ug rfl) (nE w85 (gI p.2 ↑d) v87 (r89).ro (by exact⟨hl2,hl3⟩) (by omega)) ?_))
  intro w90 hb91
  replace hb91:=aj hb91 g86
  refine lx (cm (b:=(decide (fc (gI p.2 ↑d)))) rfl) (a8 ?_)
  by_cases p23:(decide (fc (gI p.2 ↑d)))=true
  ·
   refine af rfl (congrArg Bool.not p23) (am (ak ?_))
   clear r89
   refine a5 rfl (mz zs11 (lx (aQ (m:=↑d) (n:=1) rfl rfl (by omega)) (ai ((d:Int)+1) (a8 ?_))))
   refine back21 (d+1,F3_v,F3,su,g86) _ _ ⟨bH.cn hb91,zs2,zs3,zs5,zs8,rfl,Rg.cn hb91,Rp.cn hb91,r_p_v1.cn hb91,bx5.cn hb91,bx10.cn hb91,o_F3.cn hb91,by omega,?_⟩ ?_
   · show F3=cF p++(bI (d6 g p) p.2.length++bI (fe p) (d+1))/\(!su)=decide (bI (d6 g p) p.2.length++bI (fe p) (d+1)=[])
     exact tl h3_ (of_decide_eq_true ‹_›)
   · show Int.toNat (((g.2.length:Int):Int)-((d+1):Int))<Int.toNat (((g.2.length:Int):Int)-(d:Int))
     omega
  refine ae rfl (congrArg Bool.not (Bool.eq_false_iff.2 p23)) (a6 ?_)
  clear r89
  refine a5 rfl (mz zs5 (mz zs11 (lw (vg [vi 6,vi ↑d,vi 0]) (bz (vs:=[(0,vi 6),(1,vi ↑d)]) rfl (by kernel_rfl)) (lo (aC (α:=cr) g86 (is 6) (is 6) (6,0) rfl ([(6,(d:Int),0)]:List cr) i9 cL (by decide) (by decide) (vs:=[(0,vg [vi 6,vi ↑d,vi 0])]) rfl rfl (.cons rfl .nil) ?_)))))
  intro g92 w93 v94 ch95 o96
  refine lo ?_
  replace o_F3:=(o_F3.cn hb91).cn ch95
  refine b9 (α:=cr) (xs:=F3) (ys:=([(6,(d:Int),0)]:List cr)) g92 (J:=is 3) (S:=is 3) (3,0) rfl i9 cL (by decide) rfl rfl rfl o_F3 o96.flat (by decide) (by(simp;omega)) ?_
  intro g97 w98 v99 ch100 o101
  clear o_F3
  refine ma v99 (a8 ?_)
  clear o96
  refine a5 rfl (ma (vb true) (a8 (ak (a5 rfl (mz zs11 (lx (aQ (m:=↑d) (n:=1) rfl rfl (by omega)) (ai ((d:Int)+1) (a8 ?_))))))))
  have C102:=cg [3] (hb91.n.seq (ch95.n.seq (ch100.l rfl)))
  refine back21 (d+1,v99,(F3++([(6,(d:Int),0)]:List cr)),true,g97) _ _ ⟨bH.ca C102,zs2,zs3,rfl,rfl,rfl,Rg.ca C102,Rp.ca C102,r_p_v1.ca C102,bx5.ca C102,bx10.ca C102,o101,by omega,?_⟩ ?_
  · show(F3++([(6,(d:Int),0)]:List cr))=cF p++(bI (d6 g p) p.2.length++bI (fe p) (d+1))/\(!true)=decide (bI (d6 g p) p.2.length++bI (fe p) (d+1)=[])
    exact rO h3_ (λc=>(by assumption:¬_) (dt c))
  · show Int.toNat (((g.2.length:Int):Int)-((d+1):Int))<Int.toNat (((g.2.length:Int):Int)-(d:Int))
    omega
 refine af rfl (df p21) (aO rfl (a6 (a6 ?_)))
 have h3f:=qw h3_ (by omega)
 refine a5 rfl (mz zs8 (a8 ?_))
 by_cases p26:su=true
 ·
  refine ae rfl p26 (a6 ?_)
  clear bx5 bx10
  refine a5 rfl (mz zs5 (ma F3_v (a8 (av (vs:=[F3_v]) Try.func14 (.tmp rfl .nil) ?_))))
  have e0:(F3:List cr)=(du g p):=by
    exact sA hsn h3f.1 h3f.2 (xw ‹_›)
  exact⟨(kQ w0 g86 (λn=>if n=3 then 1 else 0),F3_v),(congrArg (a₁:=F3) (λ(z0:List cr)=>Ending.returned (F3_v)) e0),bH.fresh _,(e0▸(o_F3.glue (γ:=c0) (ren:=(λn=>if n=3 then 1 else 0)) (k:=1) bH.col rfl rfl))⟩
 refine af rfl (Bool.eq_false_iff.2 p26) (am (a6 (a6 (a5 rfl (ai 0 (a8 (ao ?_)))))))
 refine bf (σ:=Value×(List cr)×Nat×aW) (λ⟨F4_v,F4,a,gq⟩ f w=>bo w0 gq w/\f 2=vp b3 0/\f 3=vp b8 0/\f 5=F4_v/\f 12=vi ↑a/\Sl gq (is 0) w g_v g.2/\Sl gq (is 0) w p_v p.1/\Sl gq (is 0) w p_v1 p.2/\Bx gq (is 1) w b3 [vi g.1,g_v]/\Bx gq (is 2) w b8 [p_v,p_v1]/\Ow gq (is 3) (is 3) w F4_v F4/\(a:Int)<=((g.2.length:Int):Int)/\(F4=dl g p++bI (iz g p) a)) (λ⟨F4_v,F4,a,gq⟩=>Int.toNat (((g.2.length:Int):Int)-(a:Int))) (F3_v,F3,0,g86) ?_ ?_
 · exact⟨bH,zs2,zs3,zs5,rfl,Rg,Rp,r_p_v1,bx5,bx10,o_F3,by omega,by exact oq h3f.1⟩
 clear Rg Rp r_p_v1 bx5 bx10 o_F3 bH
 rintro⟨F4_v,F4,a,g105⟩ f103 w104 ⟨bH,zs2,zs3,zs5,zs12,Rg,Rp,r_p_v1,bx5,bx10,o_F4,hle_a,h4_⟩ back29
 refine a6 (a6 (a5 rfl (mz zs12 (lx (a7 eR rfl rfl zs2 rfl) (lx (a9 ch rfl bx5 rfl) (lx (bE gv rfl Rg) (lx (b6 (m:=↑a) (n:=(g.2.length:Int)) rfl rfl) (a8 ?_))))))))
 by_cases p29:(a:Int)<(g.2.length:Int)
 ·
  refine ae rfl (dt p29) ?_
  obtain⟨hl1,hl2,hl3⟩:=hs.ln (a:Int) (by omega) (by omega)
  obtain⟨⟨he1,he2⟩,he3,he4⟩:=jQ (e:=(a:Int)) hmay (by omega) (by omega)
  refine am (a6 (ao (a6 (a5 rfl (ai 0 (a8 (ao ?_)))))))
  refine bf (σ:=Nat×Value×(List cr)×aW) (λ⟨b,F5_v,F5,gq⟩ f w=>bo w0 gq w/\f 2=vp b3 0/\f 3=vp b8 0/\f 5=F5_v/\f 12=vi ↑a/\f 13=vi ↑b/\Sl gq (is 0) w g_v g.2/\Sl gq (is 0) w p_v p.1/\Sl gq (is 0) w p_v1 p.2/\Bx gq (is 1) w b3 [vi g.1,g_v]/\Bx gq (is 2) w b8 [p_v,p_v1]/\Ow gq (is 3) (is 3) w F5_v F5/\(b:Int)<=(g.1:Int)/\(F5=(dl g p++bI (iz g p) a)++bI (fo g p a) b)) (λ⟨b,F5_v,F5,gq⟩=>Int.toNat ((g.1:Int)-(b:Int))) (0,F4_v,F4,g105) ?_ ?_
  · exact⟨bH,zs2,zs3,zs5,zs12,rfl,Rg,Rp,r_p_v1,bx5,bx10,o_F4,by omega,by(rw[h4_];simp[bI])⟩
  clear Rg Rp r_p_v1 bx5 bx10 o_F4 bH
  rintro⟨b,F5_v,F5,g108⟩ f106 w107 ⟨bH,zs2,zs3,zs5,zs12,zs13,Rg,Rp,r_p_v1,bx5,bx10,o_F5,hle_b,h5_⟩ back32
  have h5l:=qu (by omega) (by omega) (by omega) (by omega) h5_
  refine a6 (a6 (a5 rfl (mz zs13 (lx (a7 eR rfl rfl zs2 rfl) (lx (a9 aG rfl bx5 rfl) (lx (b6 (m:=↑b) (n:=g.1) rfl rfl) (a8 ?_)))))))
  by_cases p32:(b:Int)<g.1
  ·
   refine ae rfl (dt p32) (am (a6 (ao (a6 (bv g108 rfl ko (by kernel_rfl) ?_)))))
   intro w110 ch109
   refine qz zs13 (qx (λw' hw'=>a7 eR rfl rfl zs2 rfl) ?_)
   replace bx5:=bx5.cn ch109
   refine qx (λw' hw'=>a9 ch rfl (bx5.bel hw') rfl) (qz zs12 ?_)
   replace Rg:=Rg.cn ch109
   refine qx (λw' hw'=>ab (v:=g_v) (i:=↑a) gv rfl rfl (Rg.bel hw') rfl (by omega) (by omega)) (qx (λw' hw'=>bj jZ rfl rfl rfl (by decide) (by decide) rfl) (qx (λw' hw'=>bN (v:=g_v) (i:=↑a) aG rfl (Rg.bel hw') (by omega) (by omega) (by decide) rfl) (qx (λw' hw'=>dz (m:=↑b) (n:=(gI g.2 ↑a).1) rfl rfl) (qm (vb (!(decide ((b:Int)=((gI g.2 ↑a).1))))) ?_))))
   by_cases q146:(b:Int)=((gI g.2 ↑a).1)
   ·
    refine aq (wn (congrArg Bool.not (dt q146))) (aq (wn (congrArg Bool.not (dt q146))) (aq (wn (congrArg Bool.not (dt q146))) (aq (wn (congrArg Bool.not (dt q146))) (aq (wn (congrArg Bool.not (dt q146))) (aq (wn (congrArg Bool.not (dt q146))) (aq (wn (congrArg Bool.not (dt q146))) (aq (wn (congrArg Bool.not (dt q146))) (qv (vb false) (λw' hw'=>aB rfl (congrArg Bool.not (dt q146)) rfl) (qm (vb false) ?_)))))))))
    refine aq (wn rfl) (aq (wn rfl) (aq (wn rfl) (aq (wn rfl) (aq (wn rfl) (aq (wn rfl) (aq (wn rfl) (aq (wn rfl) (aq (wn rfl) (aq (wn rfl) ?_)))))))))
    refine aq (wn rfl) (qv (vb false) (λw' hw'=>aB rfl rfl rfl) (bM ?_))
    intro w111 hc112
    replace hc112:=aj hc112 g108
    refine af rfl rfl (am (ak (a5 rfl (mz zs13 (lx (aQ (m:=↑b) (n:=1) rfl rfl (by omega)) (ai ((b:Int)+1) (a8 ?_)))))))
    replace bH:=bH.cn ch109
    refine back32 (b+1,F5_v,F5,g108) _ _ ⟨bH.cn hc112,zs2,zs3,zs5,zs12,rfl,Rg.cn hc112,(Rp.cn ch109).cn hc112,(r_p_v1.cn ch109).cn hc112,bx5.cn hc112,(bx10.cn ch109).cn hc112,(o_F5.cn ch109).cn hc112,by omega,?_⟩ ?_
    · show F5=(dl g p++bI (iz g p) a)++bI (fo g p a) (b+1)
      exact gh h5_ (sZ ‹_›)
    · show Int.toNat ((g.1:Int)-((b+1):Int))<Int.toNat ((g.1:Int)-(b:Int))
      omega
   refine aR (v:=vi ↑b) (wy (congrArg Bool.not (df q146))) (λw' hw'=>aw zs13) (aR (v:=vp b3 1) (wy (congrArg Bool.not (df q146))) (λw' hw'=>a7 eR rfl rfl zs2 rfl) (aR (v:=g_v) (wy (congrArg Bool.not (df q146))) (λw' hw'=>a9 ch rfl (bx5.bel hw') rfl) (aR (v:=vi ↑a) (wy (congrArg Bool.not (df q146))) (λw' hw'=>aw zs12) ?_)))
   refine aR (v:=Value.pointer (some (aU g_v 2 (Int.toNat ↑a)))) (wy (congrArg Bool.not (df q146))) (λw' hw'=>ab (α:=Pt) (xs:=g.2) (v:=g_v) (i:=↑a) gv rfl rfl (Rg.bel hw') rfl (by omega) (by omega)) (aR (v:=Value.pointer (some ⟨(aU g_v 2 (Int.toNat ↑a)).block,(aU g_v 2 (Int.toNat ↑a)).off+1,none⟩)) (wy (congrArg Bool.not (df q146))) (λw' hw'=>bj jZ rfl rfl rfl (by decide) (by decide) rfl) (aR (v:=vi ((gI g.2 ↑a).2)) (wy (congrArg Bool.not (df q146))) (λw' hw'=>bN (α:=Pt) (xs:=g.2) (v:=g_v) (i:=↑a) aG rfl (Rg.bel hw') (by omega) (by omega) (by decide) rfl) ?_))
   refine aR (v:=vb (!(decide ((b:Int)=((gI g.2 ↑a).2))))) (wy (congrArg Bool.not (df q146))) (λw' hw'=>dz (m:=↑b) (n:=(gI g.2 ↑a).2) rfl rfl) (qv (vb (!(decide ((b:Int)=((gI g.2 ↑a).2))))) (λw' hw'=>aD rfl (congrArg Bool.not (df q146)) rfl) (qm (vb (!(decide ((b:Int)=((gI g.2 ↑a).2))))) ?_))
   by_cases q156:(b:Int)=((gI g.2 ↑a).2)
   ·
    refine aq (wn (congrArg Bool.not (dt q156))) (aq (wn (congrArg Bool.not (dt q156))) (aq (wn (congrArg Bool.not (dt q156))) (aq (wn (congrArg Bool.not (dt q156))) (aq (wn (congrArg Bool.not (dt q156))) (aq (wn (congrArg Bool.not (dt q156))) (aq (wn (congrArg Bool.not (dt q156))) (aq (wn (congrArg Bool.not (dt q156))) (aq (wn (congrArg Bool.not (dt q156))) (aq (wn (congrArg Bool.not (dt q156))) ?_)))))))))
    refine aq (wn (congrArg Bool.not (dt q156))) (qv (vb false) (λw' hw'=>aB rfl (congrArg Bool.not (dt q156)) rfl) (bM ?_))
    intro w113 hc114
    replace hc114:=aj hc114 g108
    refine af rfl rfl (am (ak (a5 rfl (mz zs13 (lx (aQ (m:=↑b) (n:=1) rfl rfl (by omega)) (ai ((b:Int)+1) (a8 ?_)))))))
    replace bH:=bH.cn ch109
    refine back32 (b+1,F5_v,F5,g108) _ _ ⟨bH.cn hc114,zs2,zs3,zs5,zs12,rfl,Rg.cn hc114,(Rp.cn ch109).cn hc114,(r_p_v1.cn ch109).cn hc114,bx5.cn hc114,(bx10.cn ch109).cn hc114,(o_F5.cn ch109).cn hc114,by omega,?_⟩ ?_
    · show F5=(dl g p++bI (iz g p) a)++bI (fo g p a) (b+1)
      exact gh h5_ (uQ ‹_›)
    · show Int.toNat ((g.1:Int)-((b+1):Int))<Int.toNat ((g.1:Int)-(b:Int))
      omega
   refine aR (v:=vp b8 1) (wy (congrArg Bool.not (df q156))) (λw' hw'=>a7 dn rfl rfl zs3 rfl) ?_
   replace bx10:=bx10.cn ch109
   refine aR (v:=p_v1) (wy (congrArg Bool.not (df q156))) (λw' hw'=>a9 eB rfl (bx10.bel hw') rfl) (aR (v:=vi ↑a) (wy (congrArg Bool.not (df q156))) (λw' hw'=>aw zs12) ?_)
   replace r_p_v1:=r_p_v1.cn ch109
   refine aR (v:=Value.pointer (some (aU p_v1 1 (Int.toNat ↑a)))) (wy (congrArg Bool.not (df q156))) (λw' hw'=>ab (α:=List Pt) (xs:=p.2) (v:=p_v1) (i:=↑a) eP rfl rfl (r_p_v1.bel hw') rfl (by omega) (by omega)) ?_
   obtain⟨v115,cel116,r117⟩:=cN (r:=(a:Int)) r_p_v1 (by omega) (by omega)
   refine aR (v:=v115) (wy (congrArg Bool.not (df q156))) (λw' hw'=>aZ cl rfl (m7 cel116 hw')) (aR (v:=vp b8 0) (wy (congrArg Bool.not (df q156))) (λw' hw'=>a7 dn rfl rfl zs3 rfl) (aR (v:=p_v) (wy (congrArg Bool.not (df q156))) (λw' hw'=>a9 cl rfl (bx10.bel hw') rfl) (aR (v:=vi ↑b) (wy (congrArg Bool.not (df q156))) (λw' hw'=>aw zs13) ?_)))
   replace Rp:=Rp.cn ch109
   refine aR (v:=Value.pointer (some (aU p_v 2 (Int.toNat ↑b)))) (wy (congrArg Bool.not (df q156))) (λw' hw'=>ab (α:=Pt) (xs:=p.1) (v:=p_v) (i:=↑b) bZ rfl rfl (Rp.bel hw') rfl (by omega) (by omega)) (aR (v:=vg [vi ((gI p.1 ↑b).1),vi ((gI p.1 ↑b).2)]) (wy (congrArg Bool.not (df q156))) (λw' hw'=>aM (α:=Pt) (xs:=p.1) (v:=p_v) (i:=↑b) ah rfl (Rp.bel hw') (by omega) (by omega) rfl) ?_)
   refine cb (v:=vb (decide (eV (gI p.2 ↑a) (gI p.1 ↑b)))) (wy (congrArg Bool.not (df q156))) (λw' hw'=>az (vals:=[v115,vg [vi ((gI p.1 ↑b).1),vi ((gI p.1 ↑b).2)]]) Try.func31 tx uh rfl) (λw' hw'=>(tU w' (gI p.2 ↑a) v115 ((r117.bel hw')).ro (gI p.1 ↑b) (by exact⟨hl2,hl3⟩) (by exact hs.pt _ (by omega) (by omega))).mono λe w2 h2=>⟨h2.1,hw'.trans (h2.2.mono hw'.size)⟩) (qv (vb (decide (eV (gI p.2 ↑a) (gI p.1 ↑b)))) (λw' hw'=>aD rfl (congrArg Bool.not (df q156)) rfl) (bM ?_))
   intro w118 hc119
   replace hc119:=aj hc119 g108
   by_cases p34:(decide (eV (gI p.2 ↑a) (gI p.1 ↑b)))=true
   ·
    refine ae rfl p34 ?_
    clear r117
    refine a5 rfl (mz zs5 (mz zs12 (mz zs13 (lw (vg [vi 7,vi ↑a,vi ↑b]) (bz (vs:=[(0,vi 7),(1,vi ↑a),(2,vi ↑b)]) rfl (by kernel_rfl)) (lo (aC (α:=cr) g108 (is 7) (is 7) (7,0) rfl ([(7,(a:Int),(b:Int))]:List cr) i9 cL (by decide) (by decide) (vs:=[(0,vg [vi 7,vi ↑a,vi ↑b])]) rfl rfl (.cons rfl .nil) ?_))))))
    intro g120 w121 v122 ch123 o124
    refine lo ?_
    have C125:=cg [] (ch109.n.seq (hc119.n.seq ch123.n))
    replace o_F5:=o_F5.ca C125
    refine b9 (α:=cr) (xs:=F5) (ys:=([(7,(a:Int),(b:Int))]:List cr)) g120 (J:=is 3) (S:=is 3) (3,0) rfl i9 cL (by decide) rfl rfl rfl o_F5 o124.flat (by decide) (by(simp;omega)) ?_
    intro g126 w127 v128 ch129 o130
    clear o_F5
    refine ma v128 (a8 (ak ?_))
    clear o124
    refine a5 rfl (mz zs13 (lx (aQ (m:=↑b) (n:=1) rfl rfl (by omega)) (ai ((b:Int)+1) (a8 ?_))))
    have C132:=cg [3] (hc119.n.seq (ch123.n.seq (ch129.l rfl)))
    have C131:=ch109.n.seq C132
    refine back32 (b+1,v128,(F5++([(7,(a:Int),(b:Int))]:List cr)),g126) _ _ ⟨bH.ca C131,zs2,zs3,rfl,zs12,rfl,Rg.ca C132,Rp.ca C132,r_p_v1.ca C132,bx5.ca C132,bx10.ca C132,o130,by omega,?_⟩ ?_
    · show(F5++([(7,(a:Int),(b:Int))]:List cr))=(dl g p++bI (iz g p) a)++bI (fo g p a) (b+1)
      exact eZ h5_ (uc ‹_› ‹_› ‹_›)
    · show Int.toNat ((g.1:Int)-((b+1):Int))<Int.toNat ((g.1:Int)-(b:Int))
      omega
   refine af rfl (Bool.eq_false_iff.2 p34) (am (ak ?_))
   clear r117
   refine a5 rfl (mz zs13 (lx (aQ (m:=↑b) (n:=1) rfl rfl (by omega)) (ai ((b:Int)+1) (a8 ?_))))
   replace bH:=bH.cn ch109
   refine back32 (b+1,F5_v,F5,g108) _ _ ⟨bH.cn hc119,zs2,zs3,zs5,zs12,rfl,Rg.cn hc119,Rp.cn hc119,r_p_v1.cn hc119,bx5.cn hc119,bx10.cn hc119,(o_F5.cn ch109).cn hc119,by omega,?_⟩ ?_
   · show F5=(dl g p++bI (iz g p) a)++bI (fo g p a) (b+1)
     exact gh h5_ (ud ‹_›)
   · show Int.toNat ((g.1:Int)-((b+1):Int))<Int.toNat ((g.1:Int)-(b:Int))
     omega
  refine af rfl (df p32) (aO rfl (ak (a5 rfl (mz zs12 (lx (aQ (m:=↑a) (n:=1) rfl rfl (by omega)) (ai ((a:Int)+1) (a8 ?_)))))))
  refine back29 (F5_v,F5,a+1,g108) _ _ ⟨bH,zs2,zs3,zs5,rfl,Rg,Rp,r_p_v1,bx5,bx10,o_F5,by omega,?_⟩ ?_
  · show F5=dl g p++bI (iz g p) (a+1)
    exact qP h5_ (by omega)
  · show Int.toNat (((g.2.length:Int):Int)-((a+1):Int))<Int.toNat (((g.2.length:Int):Int)-(a:Int))
    omega
 refine af rfl (df p29) (aO rfl (a6 (a6 (a5 rfl (ai 0 (a8 (ao ?_)))))))
 refine bf (σ:=Value×(List cr)×Nat×aW) (λ⟨F6_v,F6,c,gq⟩ f w=>bo w0 gq w/\f 2=vp b3 0/\f 3=vp b8 0/\f 5=F6_v/\f 14=vi ↑c/\Sl gq (is 0) w g_v g.2/\Sl gq (is 0) w p_v p.1/\Sl gq (is 0) w p_v1 p.2/\Bx gq (is 1) w b3 [vi g.1,g_v]/\Bx gq (is 2) w b8 [p_v,p_v1]/\Ow gq (is 3) (is 3) w F6_v F6/\(c:Int)<=((g.2.length:Int):Int)/\(F6=(dl g p++dU g p)++bI (ji g p) c)) (λ⟨F6_v,F6,c,gq⟩=>Int.toNat (((g.2.length:Int):Int)-(c:Int))) (F4_v,F4,0,g105) ?_ ?_
 · exact⟨bH,zs2,zs3,zs5,rfl,Rg,Rp,r_p_v1,bx5,bx10,o_F4,by omega,by exact ot h4_ (by omega)⟩
 clear Rg Rp r_p_v1 bx5 bx10 o_F4 bH
 rintro⟨F6_v,F6,c,g135⟩ f133 w134 ⟨bH,zs2,zs3,zs5,zs14,Rg,Rp,r_p_v1,bx5,bx10,o_F6,hle_c,h6_⟩ back37
 refine a6 (a6 (a5 rfl (mz zs14 (lx (a7 eR rfl rfl zs2 rfl) (lx (a9 ch rfl bx5 rfl) (lx (bE gv rfl Rg) (lx (b6 (m:=↑c) (n:=(g.2.length:Int)) rfl rfl) (a8 ?_))))))))
 by_cases p37:(c:Int)<(g.2.length:Int)
 ·
  refine ae rfl (dt p37) (am (a6 (ao (a6 (a5 rfl (mz zs14 (lx (aQ (m:=↑c) (n:=1) rfl rfl (by omega)) (ai ((c:Int)+1) (a8 (ao ?_))))))))))
  refine bf (σ:=Value×(List cr)×Nat×aW) (λ⟨F7_v,F7,q,gq⟩ f w=>bo w0 gq w/\f 2=vp b3 0/\f 3=vp b8 0/\f 5=F7_v/\f 14=vi ↑c/\f 15=vi ↑q/\Sl gq (is 0) w g_v g.2/\Sl gq (is 0) w p_v p.1/\Sl gq (is 0) w p_v1 p.2/\Bx gq (is 1) w b3 [vi g.1,g_v]/\Bx gq (is 2) w b8 [p_v,p_v1]/\Ow gq (is 3) (is 3) w F7_v F7/\(q:Int)<=((g.2.length:Int):Int)/\(F7=((dl g p++dU g p)++bI (ji g p) c)++bI (ej g p c) q/\c<q)) (λ⟨F7_v,F7,q,gq⟩=>Int.toNat (((g.2.length:Int):Int)-(q:Int))) (F6_v,F6,c+1,g135) ?_ ?_
  · exact⟨bH,zs2,zs3,zs5,zs14,rfl,Rg,Rp,r_p_v1,bx5,bx10,o_F6,by omega,by exact nZ h6_⟩
  clear Rg Rp r_p_v1 bx5 bx10 o_F6 bH
  rintro⟨F7_v,F7,q,g138⟩ f136 w137 ⟨bH,zs2,zs3,zs5,zs14,zs15,Rg,Rp,r_p_v1,bx5,bx10,o_F7,hle_q,h7_⟩ back40
  have h7l:=qJ (by omega) (by omega) (by omega) (by omega) h7_.1
  have h7v:=h7_.2
  refine a6 (a6 (a5 rfl (mz zs15 (lx (a7 eR rfl rfl zs2 rfl) (lx (a9 ch rfl bx5 rfl) (lx (bE gv rfl Rg) (lx (b6 (m:=↑q) (n:=(g.2.length:Int)) rfl rfl) (a8 ?_))))))))
  by_cases p40:(q:Int)<(g.2.length:Int)
  ·
   refine ae rfl (dt p40) (am (a6 (ao (a6 (a5 rfl (lx (ad (ds:=[vi g.1,g_v]) m6 zs2 bx5 rfl rfl) (lx (ad (ds:=[p_v,p_v1]) mb zs3 bx10 rfl rfl) (mz zs14 (mz zs15 (lo ?_))))))))))
   refine aN (v:=vb (decide (dH (gI p.2 ↑c) (gI p.2 ↑q) (dB g p (c:Int) (q:Int))))) (az (vals:=[vg [vi g.1,g_v],vg [p_v,p_v1],vi ↑c,vi ↑q]) Try.func32 um tq rfl) (lS w137 g g_v (Rg).ro p p_v p_v1 (Rp).ro (r_p_v1).ro (c:Int) (q:Int) ‹_› ‹_› (by omega) (by omega)) ?_
   intro w139 hb140
   replace hb140:=aj hb140 g138
   refine a8 ?_
   by_cases p42:(decide (dH (gI p.2 ↑c) (gI p.2 ↑q) (dB g p (c:Int) (q:Int))))=true
   ·
    refine ae rfl p42 (a5 rfl (mz zs5 (mz zs14 (mz zs15 (lw (vg [vi 8,vi ↑c,vi ↑q]) (bz (vs:=[(0,vi 8),(1,vi ↑c),(2,vi ↑q)]) rfl (by kernel_rfl)) (lo (aC (α:=cr) g138 (is 8) (is 8) (8,0) rfl ([(8,(c:Int),(q:Int))]:List cr) i9 cL (by decide) (by decide) (vs:=[(0,vg [vi 8,vi ↑c,vi ↑q])]) rfl rfl (.cons rfl .nil) ?_)))))))
    intro g141 w142 v143 ch144 o145
    refine lo ?_
    replace o_F7:=(o_F7.cn hb140).cn ch144
    refine b9 (α:=cr) (xs:=F7) (ys:=([(8,(c:Int),(q:Int))]:List cr)) g141 (J:=is 3) (S:=is 3) (3,0) rfl i9 cL (by decide) rfl rfl rfl o_F7 o145.flat (by decide) (by(simp;omega)) ?_
    intro g146 w147 v148 ch149 o150
    clear o_F7
    refine ma v148 (a8 (ak ?_))
    clear o145
    refine a5 rfl (mz zs15 (lx (aQ (m:=↑q) (n:=1) rfl rfl (by omega)) (ai ((q:Int)+1) (a8 ?_))))
    have C151:=cg [3] (hb140.n.seq (ch144.n.seq (ch149.l rfl)))
    refine back40 (v148,(F7++([(8,(c:Int),(q:Int))]:List cr)),q+1,g146) _ _ ⟨bH.ca C151,zs2,zs3,rfl,zs14,rfl,Rg.ca C151,Rp.ca C151,r_p_v1.ca C151,bx5.ca C151,bx10.ca C151,o150,by omega,?_⟩ ?_
    · show(F7++([(8,(c:Int),(q:Int))]:List cr))=((dl g p++dU g p)++bI (ji g p) c)++bI (ej g p c) (q+1)/\c<(q+1)
      exact⟨eZ h7_.1 (mR hmay hs (by omega) (by omega) h7v rfl ‹_›),by omega⟩
    · show Int.toNat (((g.2.length:Int):Int)-((q+1):Int))<Int.toNat (((g.2.length:Int):Int)-(q:Int))
      omega
   refine af rfl (Bool.eq_false_iff.2 p42) (am (ak (a5 rfl (mz zs15 (lx (aQ (m:=↑q) (n:=1) rfl rfl (by omega)) (ai ((q:Int)+1) (a8 ?_)))))))
   refine back40 (F7_v,F7,q+1,g138) _ _ ⟨bH.cn hb140,zs2,zs3,zs5,zs14,rfl,Rg.cn hb140,Rp.cn hb140,r_p_v1.cn hb140,bx5.cn hb140,bx10.cn hb140,o_F7.cn hb140,by omega,?_⟩ ?_
   · show F7=((dl g p++dU g p)++bI (ji g p) c)++bI (ej g p c) (q+1)/\c<(q+1)
     exact⟨gh h7_.1 (nS hmay hs (by omega) (by omega) rfl ‹_›),by omega⟩
   · show Int.toNat (((g.2.length:Int):Int)-((q+1):Int))<Int.toNat (((g.2.length:Int):Int)-(q:Int))
     omega
  refine af rfl (df p40) (aO rfl (ak (a5 rfl (mz zs14 (lx (aQ (m:=↑c) (n:=1) rfl rfl (by omega)) (ai ((c:Int)+1) (a8 ?_)))))))
  refine back37 (F7_v,F7,c+1,g138) _ _ ⟨bH,zs2,zs3,zs5,rfl,Rg,Rp,r_p_v1,bx5,bx10,o_F7,by omega,?_⟩ ?_
  · show F7=(dl g p++dU g p)++bI (ji g p) (c+1)
    exact qy h7_.1 (by omega)
  · show Int.toNat (((g.2.length:Int):Int)-((c+1):Int))<Int.toNat (((g.2.length:Int):Int)-(c:Int))
    omega
 refine af rfl (df p37) (aO rfl (a6 ?_))
 clear bx5 bx10
 refine a5 rfl (mz zs5 (ma F6_v (a8 (av (vs:=[F6_v]) Try.func14 (.tmp rfl .nil) ?_))))
 have e0:(F6:List cr)=(du g p):=by
   exact qB hsn h3f.2 (xq ‹_›) h6_ (by omega)
 exact⟨(kQ w0 g135 (λn=>if n=3 then 1 else 0),F6_v),(congrArg (a₁:=F6) (λ(z0:List cr)=>Ending.returned (F6_v)) e0),bH.fresh _,(e0▸(o_F6.glue (γ:=c0) (ren:=(λn=>if n=3 then 1 else 0)) (k:=1) bH.col rfl rfl))⟩
end TL
