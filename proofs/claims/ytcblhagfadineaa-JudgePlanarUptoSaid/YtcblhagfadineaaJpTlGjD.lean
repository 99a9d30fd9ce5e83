import Derived.Test.YtcblhagfadineaaJpTlP4
import Derived.Test.YtcblhagfadineaaJpTlGmA
import Derived.Test.YtcblhagfadineaaJpTlGmH
import Derived.Test.YtcblhagfadineaaJpTlGenA
import Derived.Test.YtcblhagfadineaaJpTlGenO
import Derived.Test.YtcblhagfadineaaJpTlGenY
import Derived.Test.YtcblhagfadineaaJpTlGjA
import Derived.Test.YtcblhagfadineaaJpTlGjB
import Derived.Test.YtcblhagfadineaaProg
import Derived.Test.YtcblhagfadineaaJpTlAli
set_option linter.all false
set_option maxRecDepth 20000
namespace TL
open Go Go.Proofs
theorem uB:Try.prog.follows .mixedOrders=true:=by kernel_rfl
theorem wm:Try.f15.body.isNone=false:=rfl
theorem vR:(Try.f15.name== "runtime.NumGoroutine")=false:=by decide+kernel
theorem wB:Try.f16.body.isNone=false:=rfl
theorem vy:(Try.f16.name== "runtime.NumGoroutine")=false:=by decide+kernel
theorem wA:Try.f17.body.isNone=false:=rfl
theorem vB:(Try.f17.name== "runtime.NumGoroutine")=false:=by decide+kernel
theorem xd:Try.f18.body.isNone=false:=rfl
theorem xm:(Try.f18.name== "runtime.NumGoroutine")=false:=by decide+kernel
theorem wl:Try.f19.body.isNone=false:=rfl
theorem vM:(Try.f19.name== "runtime.NumGoroutine")=false:=by decide+kernel
theorem xf:Try.f20.body.isNone=false:=rfl
theorem wk:(Try.f20.name== "runtime.NumGoroutine")=false:=by decide+kernel
set_option maxHeartbeats 4000000 in
theorem oU(w0:World)(g:(Int)×(List Pt))(g_v:Value)(hg_v:Ro w0 g_v g.2)(p:(List Pt)×(List (List Pt)))(p_v p_v1:Value)(hp_v:Ro w0 p_v p.1)(hp_v1:Ro w0 p_v1 p.2)(hfew:bF g->(g.2.length:Int)<=2000):
    Calls Try.prog 6 #[vg [vi g.1,g_v],vg [p_v,p_v1]] w0 (λee w=>∃xx:aH×Value,ee= .returned ((λ⟨δ,rv0⟩=>vt [rv0,vi ((turnsR g p).2)]) xx)/\(λ(⟨δ,rv0⟩:aH×Value) (w:World)=>fI w0 δ w/\dT δ 1 w rv0 ((turnsR g p).1)) xx w):=by
 refine av Try.func6 rfl nq ?_
 have bH:=aX.start w0
 have Rg:=hg_v.sl
 have Rp:=hp_v.sl
 have r_p_v1:=hp_v1.sl
 refine aa (a8 rfl (cj rfl (bj c0 (is 1) (1,0) rfl rfl ?_)))
 intro g4 w1 b3 ch2 bx5
 replace bx5:Bx g4 (is 1) w1 b3 [vi g.1,g_v]:=bx5
 refine lo (bj g4 (is 2) (2,0) rfl rfl ?_)
 intro g9 w6 b8 ch7 bx10
 replace bx10:Bx g9 (is 2) w6 b8 [p_v,p_v1]:=bx10
 refine ma vn (ai 0 (ab (aa (a8 rfl ?_))))
 replace bx5:=bx5.cn ch7
 refine lx (ak (ds:=[vi g.1,g_v]) cL rfl bx5 rfl rfl) ?_
 replace Rg:=(Rg.cn ch2).cn ch7
 refine lo (c3 (aA (vals:=[vg [vi g.1,g_v]]) Try.func15 wm vR rfl) (se w6 g g_v (Rg).ro) ?_)
 rintro⟨d12,v14⟩ w11 ⟨fr13,o15⟩
 obtain⟨g16,ch17,G16⟩:=nH g9 fr13 (λn=>if n=1 then 3 else 0)
 replace o15:=o15.gl G16 3
 refine mv (vt [v14,vi ((bM g).2)]) (lx (aV rfl rfl) (lx (aV rfl rfl) (ma v14 (ai ((bM g).2) (ab (aa (aq (aa (a8 rfl (mi ((bM g).2) (lx (dU (m:=(bM g).2) (n:=0) rfl rfl) ?_)))))))))))
 refine ma (vb (!(decide (((bM g).2)=0)))) (ab ?_)
 by_cases p2:((bM g).2)=0
 ·
  have hm:bF g:=Classical.byContradiction λh=>by have h2:=p2;unfold bM at h2;rw[if_neg h] at h2;exact absurd h2 (by decide)
  have hmay:=hm
  have hm0:=hm
  obtain⟨hm1,hm2,hm3,hm4⟩:=hm0
  have hfew2:=hfew hm
  have hfr:(bM g).1=bh g:=by unfold bM;rw[if_pos hm]
  have hfl:List.length (bM g).1=g.1.toNat:=by rw[hfr];simp[bh]
  refine aj rfl (congrArg Bool.not (dt p2)) (aa (a8 rfl ?_))
  replace bx5:=bx5.cn ch17
  refine lx (ak (ds:=[vi g.1,g_v]) cL rfl bx5 rfl rfl) ?_
  replace bx10:=bx10.cn ch17
  refine lx (ak (ds:=[p_v,p_v1]) cP rfl bx10 rfl rfl) ?_
  replace Rg:=Rg.cn ch17
  have C18:=cg [] (ch2.n.seq (ch7.n.seq ch17.n))
  replace Rp:=Rp.ca C18
  replace r_p_v1:=r_p_v1.ca C18
  refine lo (c3 (aA (vals:=[vg [vi g.1,g_v],vg [p_v,p_v1]]) Try.func16 wB vy rfl) (oK w11 g g_v (Rg).ro p p_v p_v1 (Rp).ro (r_p_v1).ro ‹_›) ?_)
  rintro⟨d20,v22⟩ w19 ⟨fr21,o23⟩
  obtain⟨g24,ch25,G24⟩:=nH g16 fr21 (λn=>if n=1 then 4 else 0)
  replace o23:=o23.gl G24 4
  have len26:=(o23.flat).small
  refine lx (aT gB rfl o23.flat) (lx (e8 (m:=(List.length (cl g p):Int)) (n:=0) rfl rfl) (ma (vb (decide (0<(List.length (cl g p):Int)))) (ab ?_)))
  by_cases p4:0<(List.length (cl g p):Int)
  ·
   have hck0:¬cl g p=[]:=λh=>by rw[h] at p4;simp at p4
   refine ag rfl (dt p4) (aa ?_)
   clear bx5 bx10 o15 o23
   refine a8 rfl (ma vn (ai 24 (ab (au (vs:=[vn,vi 24]) Try.func6 (.tmp rfl (.tmp rfl .nil)) ?_))))
   have C27:=cg [] (ch2.n.seq (ch7.n.seq (ch17.n.seq ch25.n)))
   replace bH:=bH.ca C27
   have e0:([]:bY)=((turnsR g p).1):=by
     rw[lA hm hck0]
   have e1:(24:Int)=((turnsR g p).2):=by
     rw[lA hm hck0]
   exact⟨(fin w0 g24 (λn=>0),vn),(bV (a:=[]) (b:=24) (λ(z0:bY) (z1:Int)=>Ending.returned (vt [vn,vi z1])) e0 e1),bH.fresh _,(e0▸dT.nil)⟩
  have hck0:cl g p=[]:=List.eq_nil_of_length_eq_zero (by omega)
  have hck:=nj.1 hck0
  have hs1:=hck.sh.n
  have hs2:=hck.sh.m
  refine aj rfl (df p4) (am (ao (aa (aa ?_))))
  clear o23
  refine a8 rfl (mv v14 ?_)
  replace o15:=o15.cn ch25
  have len28:=(o15.sl).small
  refine lx (aT kr rfl o15.sl) (mi 0 (ab (aq ?_)))
  refine aQ (σ:=Nat×bY×aH) (λ⟨v,first,gq⟩ f w=>aX w0 gq w/\f 2=vp b3 0/\f 3=vp b8 0/\f 6=v14/\f 33=v14/\f 34=vi (List.length ((bM g).1):Int)/\f 35=vi ↑v/\Sl gq (is 0) w g_v g.2/\Sl gq (is 0) w p_v p.1/\Sl gq (is 0) w p_v1 p.2/\Bx gq (is 1) w b3 [vi g.1,g_v]/\Bx gq (is 2) w b8 [p_v,p_v1]/\dT gq 3 w v14 first/\(v:Int)<=((List.length ((bM g).1):Int):Int)/\(iJ g p first v)) (λ⟨v,first,gq⟩=>Int.toNat (((List.length ((bM g).1):Int):Int)-(v:Int))) (0,(bM g).1,g24) ?_ ?_
  have C29:=cg [] (ch2.n.seq (ch7.n.seq (ch17.n.seq ch25.n)))
  · exact⟨bH.ca C29,rfl,rfl,rfl,rfl,rfl,rfl,Rg.cn ch25,Rp.cn ch25,r_p_v1.cn ch25,bx5.cn ch25,bx10.cn ch25,o15,by omega,by exact iJ.start' hm hfr⟩
  clear Rg Rp r_p_v1 bx5 bx10 o15 bH
  rintro⟨v,first,g32⟩ f30 w31 ⟨bH,zs2,zs3,zs6,zs33,zs34,zs35,Rg,Rp,r_p_v1,bx5,bx10,o15,hle_v,hT⟩ back7
  have hTl:=hT.len
  refine aa (a8 rfl (lx (b6 (m:=↑v) (n:=(List.length ((bM g).1):Int)) zs35 zs34) (ab (aa ?_))))
  by_cases p7:(v:Int)<(List.length ((bM g).1):Int)
  ·
   refine ag rfl (dt p7) ?_
   have hvn:v<g.1.toNat:=by omega
   have hrow:=hT.now hvn
   have hrl:=qD (g:=g) (v:=(v:Int))
   rw[<-hrow] at hrl
   refine am (aa (aq (aa (a8 rfl (mz zs35 (lx (al (v:=v14) (i:=↑v) kr rfl zs33 o15.sl zs35 (by omega) (by omega)) ?_))))))
   obtain⟨v33,cel34,r35⟩:=ff (r:=(v:Int)) o15 (by omega) (by omega)
   refine lx (bD el rfl cel34) (ai (v:Int) (ma v33 (ab (aa (a8 rfl (ma vn (ab (aa (aa (a8 rfl (mv v33 ?_)))))))))))
   have len36:=(r35.row_sl).small
   refine lx (aT dl rfl r35.row_sl) (mi 0 (ab (aq ?_)))
   refine aQ (σ:=Value×(List Pt)×Nat×aH) (λ⟨to__v,to_,k,gq⟩ f w=>aX w0 gq w/\f 2=vp b3 0/\f 3=vp b8 0/\f 6=v14/\f 8=vi ↑v/\f 9=v33/\f 10=to__v/\f 33=v14/\f 34=vi (List.length ((bM g).1):Int)/\f 35=vi ↑v/\f 40=v33/\f 41=vi (List.length (gI first ↑v):Int)/\f 42=vi ↑k/\Sl gq (is 0) w g_v g.2/\Sl gq (is 0) w p_v p.1/\Sl gq (is 0) w p_v1 p.2/\Bx gq (is 1) w b3 [vi g.1,g_v]/\Bx gq (is 2) w b8 [p_v,p_v1]/\dT gq 3 w v14 first/\Ow gq (row 3 (Int.toNat ↑v+1)) (row 3 (Int.toNat ↑v+1)) w v33 (gI first ↑v)/\Ow gq (is 6) (is 6) w to__v to_/\(k:Int)<=((List.length (gI first ↑v):Int):Int)/\(to_=((gI first ↑v).take k).map (dn p))) (λ⟨to__v,to_,k,gq⟩=>Int.toNat (((List.length (gI first ↑v):Int):Int)-(k:Int))) (vn,[],0,g32) ?_ ?_
   · exact⟨bH,zs2,zs3,zs6,rfl,rfl,rfl,zs33,zs34,zs35,rfl,rfl,rfl,Rg,Rp,r_p_v1,bx5,bx10,o15,r35,Ow.nil,by omega,by simp⟩
   clear Rg Rp r_p_v1 bx5 bx10 o15 cel34 r35 bH
   rintro⟨to__v,to_,k,g39⟩ f37 w38 ⟨bH,zs2,zs3,zs6,zs8,zs9,zs10,zs33,zs34,zs35,zs40,zs41,zs42,Rg,Rp,r_p_v1,bx5,bx10,o15,r35,o_to_,hle_k,htk⟩ back11
   have htl:to_.length<=k:=by rw[htk,List.length_map,List.length_take];omega
   refine aa (a8 rfl (lx (b6 (m:=↑k) (n:=(List.length (gI first ↑v):Int)) zs42 zs41) (ab (aa ?_))))
   by_cases p11:(k:Int)<(List.length (gI first ↑v):Int)
   ·
    refine ag rfl (dt p11) ?_
    have htw:=n5 hm hck (v:=(v:Int)) (h:=gI (gI first ↑v) ↑k) (by rw[<-hrow];exact aR (by omega) ‹_›)
    refine am (aa (aq (aa (a8 rfl (lx (al (v:=v33) (i:=↑k) dl rfl zs40 r35.row_sl zs42 (by omega) (by omega)) (lx (br (v:=v33) (i:=↑k) aI rfl r35.row_sl (by omega) (by omega) (by decide) rfl) (ai (gI (gI first ↑v) ↑k) (ab (a8 rfl (mz zs10 (lx (ak (ds:=[p_v,p_v1]) cP zs3 bx10 rfl rfl) ?_)))))))))))
    refine mi (gI (gI first ↑v) ↑k) (lo (aK (v:=vg [vi ((dn p (gI (gI first ↑v) ↑k)).1),vi ((dn p (gI (gI first ↑v) ↑k)).2)]) (aA (vals:=[vg [p_v,p_v1],vi (gI (gI first ↑v) ↑k)]) Try.func17 wA vB rfl) (sb w38 p p_v p_v1 (Rp).ro (r_p_v1).ro (gI (gI first ↑v) ↑k) (by omega) (by exact htw.1.1) (by exact htw.1.2)) ?_))
    intro w40 hb41
    replace hb41:=ar hb41 g39
    refine lo (aF (α:=Pt) g39 (is 5) (is 5) (5,0) rfl [(dn p (gI (gI first ↑v) ↑k))] cX ah (by decide) (by decide) (vs:=[(0,vg [vi ((dn p (gI (gI first ↑v) ↑k)).1),vi ((dn p (gI (gI first ↑v) ↑k)).2)])]) rfl rfl (.cons rfl .nil) ?_)
    intro g42 w43 v44 ch45 o46
    refine lo ?_
    replace o_to_:=(o_to_.cn hb41).cn ch45
    refine b9 (α:=Pt) (xs:=to_) (ys:=([(dn p (gI (gI first ↑v) ↑k))])) g42 (J:=is 6) (S:=is 6) (6,0) rfl cX ah (by decide) rfl rfl rfl o_to_ o46.flat (by decide) (by(simp;omega)) ?_
    intro g47 w48 v49 ch50 o51
    clear o_to_
    refine ma v49 (ab (ao ?_))
    clear o46
    refine a8 rfl (lx (aP (m:=↑k) (n:=1) zs42 rfl (by omega)) (mi ((k:Int)+1) (ab ?_)))
    have C52:=cg [6] (hb41.n.seq (ch45.n.seq (ch50.l rfl)))
    refine back11 (v49,(to_++[(dn p (gI (gI first ↑v) ↑k))]),k+1,g47) _ _ ⟨bH.ca C52,zs2,zs3,zs6,zs8,zs9,rfl,zs33,zs34,zs35,zs40,zs41,rfl,Rg.ca C52,Rp.ca C52,r_p_v1.ca C52,bx5.ca C52,bx10.ca C52,o15.ca C52,r35.chg C52 (tU rfl) (tU rfl),o51,by omega,?_⟩ ?_
    · show(to_++[(dn p (gI (gI first ↑v) ↑k))])=((gI first ↑v).take (k+1)).map (dn p)
      exact wM htk ‹_›
    · show Int.toNat (((List.length (gI first ↑v):Int):Int)-((k+1):Int))<Int.toNat (((List.length (gI first ↑v):Int):Int)-(k:Int))
      omega
   refine aj rfl (df p11) (aM rfl (aa (a8 rfl (lx (ad iK rfl rfl zs3 rfl) (lx (af bO rfl bx10 rfl) (mz zs8 (lx (al (v:=p_v) (i:=↑v) cX rfl rfl Rp rfl (by omega) (by omega)) (lw (vg [vi ((gI p.1 ↑v).1),vi ((gI p.1 ↑v).2)]) (aJ (v:=p_v) (i:=↑v) ah rfl Rp (by omega) (by omega) rfl) (mz zs10 (lo ?_))))))))))
   refine c3 (aA (vals:=[vg [vi ((gI p.1 ↑v).1),vi ((gI p.1 ↑v).2)],to__v]) Try.func18 xd xm rfl) (rJ w38 (gI p.1 ↑v) to_ to__v (o_to_.flat).ro) ?_
   rintro⟨d54,v56⟩ w53 ⟨fr55,o57⟩
   obtain⟨g58,ch59,G58⟩:=nH g39 fr55 (λn=>if n=1 then 7 else 0)
   replace o57:=o57.gl G58 7
   refine mv (vt [v56,vi ((arR (gI p.1 ↑v) to_).2)]) (lx (aV rfl rfl) (lx (aV rfl rfl) (ma v56 (ai ((arR (gI p.1 ↑v) to_).2) (ab (aa ?_))))))
   have hto:=yR htk ‹_›
   rw[hrow] at hto
   obtain⟨hok,hnz⟩:=lU hm hck hfew2 (v:Int)
   have har:arR (gI p.1 ↑v) to_=(arL (gI p.1 ↑v) (dF p (bP g (v:Int))),0):=by rw[hto];exact pU (hck.sh.pt _ (by omega) (by omega)) hok hnz
   have har1:(arR (gI p.1 ↑v) to_).1=arL (gI p.1 ↑v) (dF p (bP g (v:Int))):=congrArg Prod.fst har
   have hal:=iw hnz
   have hal2:to_.length=(gI first ↑v).length:=by rw[hto,hrow];simp[dF]
   have hal3:((arR (gI p.1 ↑v) to_).1).length=to_.length:=by rw[har1,hal,hto]
   have hal4:(dF p (bP g (v:Int))).length=to_.length:=by rw[hto]
   refine a8 rfl (ma vn (ab (aa (aa (a8 rfl (mv v56 ?_))))))
   have len60:=(o57.flat).small
   refine lx (aT dl rfl o57.flat) (mi 0 (ab (aq ?_)))
   refine aQ (σ:=Value×(List Int)×Nat×aH) (λ⟨turned_v,turned,i,gq⟩ f w=>aX w0 gq w/\f 2=vp b3 0/\f 3=vp b8 0/\f 6=v14/\f 8=vi ↑v/\f 9=v33/\f 10=to__v/\f 13=v56/\f 15=turned_v/\f 33=v14/\f 34=vi (List.length ((bM g).1):Int)/\f 35=vi ↑v/\f 63=v56/\f 64=vi (List.length ((arR (gI p.1 ↑v) to_).1):Int)/\f 65=vi ↑i/\Sl gq (is 0) w g_v g.2/\Sl gq (is 0) w p_v p.1/\Sl gq (is 0) w p_v1 p.2/\Bx gq (is 1) w b3 [vi g.1,g_v]/\Bx gq (is 2) w b8 [p_v,p_v1]/\dT gq 3 w v14 first/\Ow gq (row 3 (Int.toNat ↑v+1)) (row 3 (Int.toNat ↑v+1)) w v33 (gI first ↑v)/\Ow gq (is 6) (is 6) w to__v to_/\Ow gq (is 7) (is 7) w v56 ((arR (gI p.1 ↑v) to_).1)/\Ow gq (is 9) (is 9) w turned_v turned/\(i:Int)<=((List.length ((arR (gI p.1 ↑v) to_).1):Int):Int)/\(po p (gI p.1 ↑v) (bP g (v:Int)) turned i)) (λ⟨turned_v,turned,i,gq⟩=>Int.toNat (((List.length ((arR (gI p.1 ↑v) to_).1):Int):Int)-(i:Int))) (vn,[],0,g58) ?_ ?_
   · exact⟨bH.cn ch59,zs2,zs3,zs6,zs8,zs9,zs10,rfl,rfl,zs33,zs34,zs35,rfl,rfl,rfl,Rg.cn ch59,Rp.cn ch59,r_p_v1.cn ch59,bx5.cn ch59,bx10.cn ch59,o15.cn ch59,r35.cn ch59,o_to_.cn ch59,o57,Ow.nil,by omega,by exact po.start⟩
   clear Rg Rp r_p_v1 bx5 bx10 o15 r35 o_to_ o57 bH
   rintro⟨turned_v,turned,i,g63⟩ f61 w62 ⟨bH,zs2,zs3,zs6,zs8,zs9,zs10,zs13,zs15,zs33,zs34,zs35,zs63,zs64,zs65,Rg,Rp,r_p_v1,bx5,bx10,o15,r35,o_to_,o57,o_turned,hle_i,htu⟩ back18
   have htl:turned.length<=i:=by rw[htu.1,List.length_map,List.length_take];omega
   have hk0:∀x:Int,0<=x->x<((arR (gI p.1 ↑v) to_).1).length->0<=gI (arR (gI p.1 ↑v) to_).1 x/\gI (arR (gI p.1 ↑v) to_).1 x<(to_.length:Int):=λx h0 h1=>by rw[har1] at h1 ⊢;rw[hto];exact kx hnz h0 (by omega)
   have hpo:∀x:Int,0<=x->x<(to_.length:Int)->cI (gI to_ x):=λx h0 h1=>by rw[hto] at h1 ⊢;exact hok.2 _ (aR h0 h1)
   refine aa (a8 rfl (lx (b6 (m:=↑i) (n:=(List.length ((arR (gI p.1 ↑v) to_).1):Int)) zs65 zs64) (ab (aa ?_))))
   by_cases p18:(i:Int)<(List.length ((arR (gI p.1 ↑v) to_).1):Int)
   ·
    refine ag rfl (dt p18) ?_
    obtain⟨hk3,hk4⟩:=hk0 (i:Int) (by omega) ‹_›
    refine am (aa (aq (aa (a8 rfl (mz zs65 (lx (al (v:=v56) (i:=↑i) dl rfl zs63 o57.flat zs65 (by omega) (by omega)) (lx (br (v:=v56) (i:=↑i) aI rfl o57.flat (by omega) (by omega) (by decide) rfl) (ai (i:Int) (ai (gI ((arR (gI p.1 ↑v) to_).1) (i:Int)) (ab (aa (aa ?_))))))))))))
    refine cD g63 rfl uB (by kernel_rfl) ?_
    intro w65 ch64
    refine qm (vi ↑i) (qx (λw' hw'=>e8 (m:=↑i) (n:=0) rfl rfl) (qm (vb (decide (0<(i:Int)))) ?_))
    by_cases q72:0<(i:Int)
    ·
     obtain⟨hk1,hk2⟩:=hk0 ((i:Int)-1) (by omega) (by omega)
     refine aW (v:=vp b8 0) (wy (dt q72)) (λw' hw'=>ad iK rfl rfl zs3 rfl) ?_
     replace bx10:=bx10.cn ch64
     refine aW (v:=p_v) (wy (dt q72)) (λw' hw'=>af bO rfl (bx10.bel hw') rfl) (aW (v:=vi ↑v) (wy (dt q72)) (λw' hw'=>aD zs8) ?_)
     replace Rp:=Rp.cn ch64
     refine aW (v:=Value.pointer (some (bu p_v 2 (Int.toNat ↑v)))) (wy (dt q72)) (λw' hw'=>al (α:=Pt) (xs:=p.1) (v:=p_v) (i:=↑v) cX rfl rfl (Rp.bel hw') rfl (by omega) (by omega)) (aW (v:=vg [vi ((gI p.1 ↑v).1),vi ((gI p.1 ↑v).2)]) (wy (dt q72)) (λw' hw'=>aJ (α:=Pt) (xs:=p.1) (v:=p_v) (i:=↑v) ah rfl (Rp.bel hw') (by omega) (by omega) rfl) (aW (v:=to__v) (wy (dt q72)) (λw' hw'=>aD zs10) (aW (v:=v56) (wy (dt q72)) (λw' hw'=>aD zs13) (aW (v:=vi ↑i) (wy (dt q72)) (λw' hw'=>aD rfl) ?_))))
     refine aW (v:=vi ((i:Int)-1)) (wy (dt q72)) (λw' hw'=>dD (m:=↑i) (n:=1) rfl rfl (by omega)) ?_
     replace o57:=o57.cn ch64
     refine aW (v:=Value.pointer (some (bu v56 1 (Int.toNat ((i:Int)-1))))) (wy (dt q72)) (λw' hw'=>al (α:=Int) (xs:=(arR (gI p.1 ↑v) to_).1) (v:=v56) (i:=(i:Int)-1) dl rfl rfl (o57.flat.bel hw') rfl (by omega) (by omega)) (aW (v:=vi (gI ((arR (gI p.1 ↑v) to_).1) ((i:Int)-1))) (wy (dt q72)) (λw' hw'=>br (α:=Int) (xs:=(arR (gI p.1 ↑v) to_).1) (v:=v56) (i:=(i:Int)-1) aI rfl (o57.flat.bel hw') (by omega) (by omega) (by decide) rfl) ?_)
     replace o_to_:=o_to_.cn ch64
     refine aW (v:=Value.pointer (some (bu to__v 2 (Int.toNat (gI ((arR (gI p.1 ↑v) to_).1) ((i:Int)-1)))))) (wy (dt q72)) (λw' hw'=>al (α:=Pt) (xs:=to_) (v:=to__v) (i:=(gI ((arR (gI p.1 ↑v) to_).1) ((i:Int)-1))) cX rfl rfl (o_to_.flat.bel hw') rfl (by omega) (by omega)) (aW (v:=vg [vi ((gI to_ (gI ((arR (gI p.1 ↑v) to_).1) ((i:Int)-1))).1),vi ((gI to_ (gI ((arR (gI p.1 ↑v) to_).1) ((i:Int)-1))).2)]) (wy (dt q72)) (λw' hw'=>aJ (α:=Pt) (xs:=to_) (v:=to__v) (i:=(gI ((arR (gI p.1 ↑v) to_).1) ((i:Int)-1))) ah rfl (o_to_.flat.bel hw') (by omega) (by omega) rfl) ?_)
     refine aW (v:=to__v) (wy (dt q72)) (λw' hw'=>aD zs10) (aW (v:=vi (gI ((arR (gI p.1 ↑v) to_).1) (i:Int))) (wy (dt q72)) (λw' hw'=>aD rfl) (aW (v:=Value.pointer (some (bu to__v 2 (Int.toNat (gI ((arR (gI p.1 ↑v) to_).1) (i:Int)))))) (wy (dt q72)) (λw' hw'=>al (α:=Pt) (xs:=to_) (v:=to__v) (i:=(gI ((arR (gI p.1 ↑v) to_).1) (i:Int))) cX rfl rfl (o_to_.flat.bel hw') rfl (by omega) (by omega)) ?_))
     refine aW (v:=vg [vi ((gI to_ (gI ((arR (gI p.1 ↑v) to_).1) (i:Int))).1),vi ((gI to_ (gI ((arR (gI p.1 ↑v) to_).1) (i:Int))).2)]) (wy (dt q72)) (λw' hw'=>aJ (α:=Pt) (xs:=to_) (v:=to__v) (i:=(gI ((arR (gI p.1 ↑v) to_).1) (i:Int))) ah rfl (o_to_.flat.bel hw') (by omega) (by omega) rfl) ?_
     refine eZ (v:=vb (decide (d8 (aG (gI to_ (gI ((arR (gI p.1 ↑v) to_).1) ((i:Int)-1))) (gI p.1 ↑v)) (aG (gI to_ (gI ((arR (gI p.1 ↑v) to_).1) (i:Int))) (gI p.1 ↑v))))) (wy (dt q72)) (λw' hw'=>aA (vals:=[vg [vi ((gI p.1 ↑v).1),vi ((gI p.1 ↑v).2)],vg [vi ((gI to_ (gI ((arR (gI p.1 ↑v) to_).1) ((i:Int)-1))).1),vi ((gI to_ (gI ((arR (gI p.1 ↑v) to_).1) ((i:Int)-1))).2)],vg [vi ((gI to_ (gI ((arR (gI p.1 ↑v) to_).1) (i:Int))).1),vi ((gI to_ (gI ((arR (gI p.1 ↑v) to_).1) (i:Int))).2)]]) Try.func19 wl vM rfl) (λw' hw'=>(tC w' (gI p.1 ↑v) (gI to_ (gI ((arR (gI p.1 ↑v) to_).1) ((i:Int)-1))) (gI to_ (gI ((arR (gI p.1 ↑v) to_).1) (i:Int))) (by exact hck.sh.pt _ (by omega) (by omega)) (by exact hpo _ hk1 hk2) (by exact hpo _ hk3 hk4)).mono λe w2 h2=>⟨h2.1,hw'.trans (h2.2.mono hw'.size)⟩) ?_
     refine qv (vb (decide (d8 (aG (gI to_ (gI ((arR (gI p.1 ↑v) to_).1) ((i:Int)-1))) (gI p.1 ↑v)) (aG (gI to_ (gI ((arR (gI p.1 ↑v) to_).1) (i:Int))) (gI p.1 ↑v))))) (λw' hw'=>aE rfl (dt q72) rfl) (dH ?_)
     intro w66 hc67
     replace hc67:=ar hc67 g63
     by_cases p20:(decide (d8 (aG (gI to_ (gI ((arR (gI p.1 ↑v) to_).1) ((i:Int)-1))) (gI p.1 ↑v)) (aG (gI to_ (gI ((arR (gI p.1 ↑v) to_).1) (i:Int))) (gI p.1 ↑v))))=true
     ·
      refine ag rfl p20 (aa ?_)
      clear bx5 bx10 o15 r35 o_to_ o57 o_turned
      refine a8 rfl (ma vn (ai 24 (ab (au (vs:=[vn,vi 24]) Try.func6 (.tmp rfl (.tmp rfl .nil)) ?_))))
      replace bH:=bH.cn ch64
      replace bH:=bH.cn hc67
      have e0:([]:bY)=((turnsR g p).1):=by
        rw[jZ hm hck0 (po.bad hvn hnz (i:=i) (by omega) ‹_› (by rw[<-har1,<-hto];assumption))]
      have e1:(24:Int)=((turnsR g p).2):=by
        rw[jZ hm hck0 (po.bad hvn hnz (i:=i) (by omega) ‹_› (by rw[<-har1,<-hto];assumption))]
      exact⟨(fin w0 g63 (λn=>0),vn),(bV (a:=[]) (b:=24) (λ(z0:bY) (z1:Int)=>Ending.returned (vt [vn,vi z1])) e0 e1),bH.fresh _,(e0▸dT.nil)⟩
     refine aj rfl (Bool.eq_false_iff.2 p20) (am (a8 rfl (mz zs15 (mz zs9 (mi (gI ((arR (gI p.1 ↑v) to_).1) (i:Int)) ?_)))))
     replace r35:=(r35.cn ch64).cn hc67
     refine lx (al (v:=v33) (i:=(gI ((arR (gI p.1 ↑v) to_).1) (i:Int))) dl rfl rfl r35.row_sl rfl (by omega) (by omega)) (lx (br (v:=v33) (i:=(gI ((arR (gI p.1 ↑v) to_).1) (i:Int))) aI rfl r35.row_sl (by omega) (by omega) (by decide) rfl) (lo (aF (α:=Int) g63 (is 8) (is 8) (8,0) rfl [(gI (gI first ↑v) (gI ((arR (gI p.1 ↑v) to_).1) (i:Int)))] dl aI (by decide) (by decide) (vs:=[(0,vi (gI (gI first ↑v) (gI ((arR (gI p.1 ↑v) to_).1) (i:Int))))]) rfl rfl (.cons rfl .nil) ?_)))
     intro g68 w69 v70 ch71 o72
     refine lo ?_
     have C73:=cg [] (ch64.n.seq (hc67.n.seq ch71.n))
     replace o_turned:=o_turned.ca C73
     refine b9 (α:=Int) (xs:=turned) (ys:=([(gI (gI first ↑v) (gI ((arR (gI p.1 ↑v) to_).1) (i:Int)))])) g68 (J:=is 9) (S:=is 9) (9,0) rfl dl aI (by decide) rfl rfl rfl o_turned o72.flat (by decide) (by(simp;omega)) ?_
     intro g74 w75 v76 ch77 o78
     clear o_turned
     refine ma v76 (ab (ao ?_))
     clear o72
     refine a8 rfl (lx (aP (m:=↑i) (n:=1) zs65 rfl (by omega)) (mi ((i:Int)+1) (ab ?_)))
     have C80:=cg [9] (hc67.n.seq (ch71.n.seq (ch77.l rfl)))
     have C79:=ch64.n.seq C80
     refine back18 (v76,(turned++[(gI (gI first ↑v) (gI ((arR (gI p.1 ↑v) to_).1) (i:Int)))]),i+1,g74) _ _ ⟨bH.ca C79,zs2,zs3,zs6,zs8,zs9,zs10,zs13,rfl,zs33,zs34,zs35,zs63,zs64,rfl,Rg.ca C79,Rp.ca C80,r_p_v1.ca C79,bx5.ca C79,bx10.ca C80,o15.ca C79,(r35.cn ch71).chg ch77 (lu rfl) (lu rfl),o_to_.ca C80,o57.ca C80,o78,by omega,?_⟩ ?_
     · show po p (gI p.1 ↑v) (bP g (v:Int)) (turned++[(gI (gI first ↑v) (gI ((arR (gI p.1 ↑v) to_).1) (i:Int)))]) (i+1)
       (rw[har1,hrow]
        refine htu.next (by omega) ?_
        (refine .inr λc=>?_
         rw[<-har1,<-hto] at c
         exact(by assumption:¬decide _=true) c))
     · show Int.toNat (((List.length ((arR (gI p.1 ↑v) to_).1):Int):Int)-((i+1):Int))<Int.toNat (((List.length ((arR (gI p.1 ↑v) to_).1):Int):Int)-(i:Int))
       omega
    refine aN (wn (df q72)) (aN (wn (df q72)) (aN (wn (df q72)) (aN (wn (df q72)) (aN (wn (df q72)) (aN (wn (df q72)) (aN (wn (df q72)) (aN (wn (df q72)) (aN (wn (df q72)) (aN (wn (df q72)) ?_)))))))))
    refine aN (wn (df q72)) (aN (wn (df q72)) (aN (wn (df q72)) (aN (wn (df q72)) (aN (wn (df q72)) (aN (wn (df q72)) (aN (wn (df q72)) (aN (wn (df q72)) (qv (vb false) (λw' hw'=>aC rfl (df q72) rfl) (dH ?_)))))))))
    intro w81 hc82
    replace hc82:=ar hc82 g63
    refine aj rfl rfl (am (a8 rfl (mz zs15 (mz zs9 (mi (gI ((arR (gI p.1 ↑v) to_).1) (i:Int)) ?_)))))
    replace r35:=(r35.cn ch64).cn hc82
    refine lx (al (v:=v33) (i:=(gI ((arR (gI p.1 ↑v) to_).1) (i:Int))) dl rfl rfl r35.row_sl rfl (by omega) (by omega)) (lx (br (v:=v33) (i:=(gI ((arR (gI p.1 ↑v) to_).1) (i:Int))) aI rfl r35.row_sl (by omega) (by omega) (by decide) rfl) (lo (aF (α:=Int) g63 (is 8) (is 8) (8,0) rfl [(gI (gI first ↑v) (gI ((arR (gI p.1 ↑v) to_).1) (i:Int)))] dl aI (by decide) (by decide) (vs:=[(0,vi (gI (gI first ↑v) (gI ((arR (gI p.1 ↑v) to_).1) (i:Int))))]) rfl rfl (.cons rfl .nil) ?_)))
    intro g83 w84 v85 ch86 o87
    refine lo ?_
    have C88:=cg [] (ch64.n.seq (hc82.n.seq ch86.n))
    replace o_turned:=o_turned.ca C88
    refine b9 (α:=Int) (xs:=turned) (ys:=([(gI (gI first ↑v) (gI ((arR (gI p.1 ↑v) to_).1) (i:Int)))])) g83 (J:=is 9) (S:=is 9) (9,0) rfl dl aI (by decide) rfl rfl rfl o_turned o87.flat (by decide) (by(simp;omega)) ?_
    intro g89 w90 v91 ch92 o93
    clear o_turned
    refine ma v91 (ab (ao ?_))
    clear o87
    refine a8 rfl (lx (aP (m:=↑i) (n:=1) zs65 rfl (by omega)) (mi ((i:Int)+1) (ab ?_)))
    have C94:=cg [9] (ch64.n.seq (hc82.n.seq (ch86.n.seq (ch92.l rfl))))
    refine back18 (v91,(turned++[(gI (gI first ↑v) (gI ((arR (gI p.1 ↑v) to_).1) (i:Int)))]),i+1,g89) _ _ ⟨bH.ca C94,zs2,zs3,zs6,zs8,zs9,zs10,zs13,rfl,zs33,zs34,zs35,zs63,zs64,rfl,Rg.ca C94,Rp.ca C94,r_p_v1.ca C94,bx5.ca C94,bx10.ca C94,o15.ca C94,(r35.cn ch86).chg ch92 (lu rfl) (lu rfl),o_to_.ca C94,o57.ca C94,o93,by omega,?_⟩ ?_
    · show po p (gI p.1 ↑v) (bP g (v:Int)) (turned++[(gI (gI first ↑v) (gI ((arR (gI p.1 ↑v) to_).1) (i:Int)))]) (i+1)
      (rw[har1,hrow]
       refine htu.next (by omega) ?_
       exact .inl ‹_›)
    · show Int.toNat (((List.length ((arR (gI p.1 ↑v) to_).1):Int):Int)-((i+1):Int))<Int.toNat (((List.length ((arR (gI p.1 ↑v) to_).1):Int):Int)-(i:Int))
      omega
   refine aj rfl (df p18) (aM rfl ?_)
   clear r35 o_to_ o57
   have hfin:=po.fin hnz htu (by rw[<-har1];assumption)
   refine a8 rfl (mz zs6 (mz zs8 (mz zs15 (lx (al (v:=v14) (i:=↑v) kr rfl rfl o15.sl rfl (by omega) (by omega)) (lo (iN (r:=(v:Int)) el rfl rfl o15 o_turned rfl (by omega) (by omega) ?_))))))
   intro g101 w98 ch99 o100
   clear o15 o_turned
   refine ab (ao (a8 rfl (lx (aP (m:=↑v) (n:=1) zs35 rfl (by omega)) (mi ((v:Int)+1) (ab ?_)))))
   refine back7 (v+1,(List.set first (Int.toNat ↑v) turned),g101) _ _ ⟨bH.chg ch99 (kw rfl rfl),zs2,zs3,zs6,zs33,zs34,rfl,Rg.chg ch99 (kw rfl rfl),Rp.chg ch99 (kw rfl rfl),r_p_v1.chg ch99 (kw rfl rfl),bx5.chg ch99 (kw rfl rfl),bx10.chg ch99 (kw rfl rfl),o100,by omega,?_⟩ ?_
   · show iJ g p (List.set first (Int.toNat ↑v) turned) (v+1)
     exact hT.next hvn (by rw[hfin.1]) hfin.2
   · show Int.toNat (((List.length ((bM g).1):Int):Int)-((v+1):Int))<Int.toNat (((List.length ((bM g).1):Int):Int)-(v:Int))
     omega
  refine aj rfl (df p7) (aM rfl (aa ?_))
  clear bx10
  refine a8 rfl (lx (ak (ds:=[vi g.1,g_v]) cL zs2 bx5 rfl rfl) (mz zs6 (lo (c3 (aA (vals:=[vg [vi g.1,g_v],v14]) Try.func20 xf wk rfl) (sD w31 g g_v (Rg).ro first v14 (o15.sl).ro) ?_))))
  rintro⟨d103,v105⟩ w102 ⟨fr104,o106⟩
  obtain⟨g107,ch108,G107⟩:=nH g32 fr104 (λn=>if n=1 then 10 else 0)
  replace o106:=o106.gl G107 10
  refine lx (aV rfl rfl) (lx (aV rfl rfl) (ma v105 (ai ((du g first).2) (ab (au (vs:=[v105,vi ((du g first).2)]) Try.func6 (.tmp rfl (.tmp rfl .nil)) ?_)))))
  replace bH:=bH.cn ch108
  have e0:((du g first).1:bY)=((turnsR g p).1):=by
    rw[kD hm hck0 hfew2 hT (by omega)]
  have e1:((du g first).2:Int)=((turnsR g p).2):=by
    rw[kD hm hck0 hfew2 hT (by omega)]
  exact⟨(fin w0 g107 (λn=>if n=10 then 1 else 0),v105),(bV (a:=(du g first).1) (b:=(du g first).2) (λ(z0:bY) (z1:Int)=>Ending.returned (vt [v105,vi z1])) e0 e1),bH.fresh _,(e0▸(o106.glue (γ:=c0) (ren:=(λn=>if n=10 then 1 else 0)) (k:=1) bH.col rfl rfl))⟩
 have hn:¬bF g:=λh=>by have h2:=p2;unfold bM at h2;rw[if_pos h] at h2;exact h2 rfl
 refine ag rfl (congrArg Bool.not (df p2)) (aa ?_)
 clear bx5 bx10 o15
 refine a8 rfl (mi ((bM g).2) (ma vn (ai ((bM g).2) (ab (au (vs:=[vn,vi ((bM g).2)]) Try.func6 (.tmp rfl (.tmp rfl .nil)) ?_)))))
 have C109:=cg [] (ch2.n.seq (ch7.n.seq ch17.n))
 replace bH:=bH.ca C109
 have e0:([]:bY)=((turnsR g p).1):=by
   rw[ng hn]
 have e1:((bM g).2:Int)=((turnsR g p).2):=by
   rw[ng hn];unfold bM;rw[if_neg hn]
 exact⟨(fin w0 g16 (λn=>0),vn),(bV (a:=[]) (b:=(bM g).2) (λ(z0:bY) (z1:Int)=>Ending.returned (vt [vn,vi z1])) e0 e1),bH.fresh _,(e0▸dT.nil)⟩
end TL
