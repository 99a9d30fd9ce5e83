import Derived.Test.YtbadiajeohbpcaaGreatTlP3
import Derived.Test.YtbadiajeohbpcaaGreatTlGmA
import Derived.Test.YtbadiajeohbpcaaGreatTlGmH
import Derived.Test.YtbadiajeohbpcaaGreatTlGenA
import Derived.Test.YtbadiajeohbpcaaGreatTlGenO
import Derived.Test.YtbadiajeohbpcaaGreatTlGenY
import Derived.Test.YtbadiajeohbpcaaGreatTlGjA
import Derived.Test.YtbadiajeohbpcaaGreatTlGjB
import Derived.Test.YtbadiajeohbpcaaGreatProg
import Derived.Test.YtbadiajeohbpcaaGreatTlAli
set_option linter.all false
set_option maxRecDepth 20000
namespace TL
open Go Go.Proofs
theorem tX:Tryz.prog.follows .mixedOrders=true:=by kernel_rfl
theorem we:Tryz.f28.body.isNone=false:=rfl
theorem xX:(Tryz.f28.name== "runtime.NumGoroutine")=false:=by decide+kernel
theorem y3:Tryz.f29.body.isNone=false:=rfl
theorem wu:(Tryz.f29.name== "runtime.NumGoroutine")=false:=by decide+kernel
theorem yD:Tryz.f30.body.isNone=false:=rfl
theorem y7:(Tryz.f30.name== "runtime.NumGoroutine")=false:=by decide+kernel
theorem yG:Tryz.f31.body.isNone=false:=rfl
theorem xj:(Tryz.f31.name== "runtime.NumGoroutine")=false:=by decide+kernel
theorem yn:Tryz.f32.body.isNone=false:=rfl
theorem wE:(Tryz.f32.name== "runtime.NumGoroutine")=false:=by decide+kernel
theorem xr:Tryz.f33.body.isNone=false:=rfl
theorem yz:(Tryz.f33.name== "runtime.NumGoroutine")=false:=by decide+kernel
set_option maxHeartbeats 4000000 in
theorem lU(w0:World)(g:(Int)×(List Pt))(g_v:Value)(hg_v:Ro w0 g_v g.2)(p:(List Pt)×(List (List Pt)))(p_v p_v1:Value)(hp_v:Ro w0 p_v p.1)(hp_v1:Ro w0 p_v1 p.2)(hfew:c8 g->(g.2.length:Int)<=2000):
    Calls Tryz.prog 9 #[vg [vi g.1,g_v],vg [p_v,p_v1]] w0 (λee w=>∃xx:aK×Value,ee= .returned ((λ⟨δ,rv0⟩=>vt [rv0,vi ((turnsR g p).2)]) xx)/\(λ(⟨δ,rv0⟩:aK×Value) (w:World)=>em w0 δ w/\dr δ 1 w rv0 ((turnsR g p).1)) xx w):=by
 refine au Tryz.func9 rfl nq ?_
 have bH:=aT.start w0
 have Rg:=hg_v.sl
 have Rp:=hp_v.sl
 have r_p_v1:=hp_v1.sl
 refine a7 (a6 rfl (bW rfl (bh c0 (is 1) (1,0) rfl rfl ?_)))
 intro g4 w1 b3 ch2 bx5
 replace bx5:Bx g4 (is 1) w1 b3 [vi g.1,g_v]:=bx5
 refine lo (bh g4 (is 2) (2,0) rfl rfl ?_)
 intro g9 w6 b8 ch7 bx10
 replace bx10:Bx g9 (is 2) w6 b8 [p_v,p_v1]:=bx10
 refine ma vn (ai 0 (aa (a7 (a6 rfl ?_))))
 replace bx5:=bx5.cn ch7
 refine lx (aj (ds:=[vi g.1,g_v]) db rfl bx5 rfl rfl) ?_
 replace Rg:=(Rg.cn ch2).cn ch7
 refine lo (bi (aA (vals:=[vg [vi g.1,g_v]]) Tryz.func29 y3 wu rfl) (t8 w6 g g_v (Rg).ro) ?_)
 rintro⟨d12,v14⟩ w11 ⟨fr13,o15⟩
 obtain⟨g16,ch17,G16⟩:=fC g9 fr13 (λn=>if n=1 then 3 else 0)
 replace o15:=o15.gl G16 3
 refine mv (vt [v14,vi ((cm g).2)]) (lx (b6 rfl rfl) (lx (b6 rfl rfl) (ma v14 (ai ((cm g).2) (aa (a7 (am (a7 (a6 rfl (mi ((cm g).2) (lx (c5 (m:=(cm g).2) (n:=0) rfl rfl) ?_)))))))))))
 refine ma (vb (!(decide (((cm g).2)=0)))) (aa ?_)
 by_cases p2:((cm g).2)=0
 ·
  have hm:c8 g:=Classical.byContradiction λh=>by have h2:=p2;unfold cm at h2;rw[if_neg h] at h2;exact absurd h2 (by decide)
  have hmay:=hm
  have hm0:=hm
  obtain⟨hm1,hm2,hm3,hm4⟩:=hm0
  have hfew2:=hfew hm
  have hfr:(cm g).1=bM g:=by unfold cm;rw[if_pos hm]
  have hfl:List.length (cm g).1=g.1.toNat:=by rw[hfr];simp[bM]
  refine ag rfl (congrArg Bool.not (dt p2)) (a7 (a6 rfl ?_))
  replace bx5:=bx5.cn ch17
  refine lx (aj (ds:=[vi g.1,g_v]) db rfl bx5 rfl rfl) ?_
  replace bx10:=bx10.cn ch17
  refine lx (aj (ds:=[p_v,p_v1]) dP rfl bx10 rfl rfl) ?_
  replace Rg:=Rg.cn ch17
  have C18:=cg [] (ch2.n.seq (ch7.n.seq ch17.n))
  replace Rp:=Rp.ca C18
  replace r_p_v1:=r_p_v1.ca C18
  refine lo (bi (aA (vals:=[vg [vi g.1,g_v],vg [p_v,p_v1]]) Tryz.func28 we xX rfl) (pu w11 g g_v (Rg).ro p p_v p_v1 (Rp).ro (r_p_v1).ro ‹_›) ?_)
  rintro⟨d20,v22⟩ w19 ⟨fr21,o23⟩
  obtain⟨g24,ch25,G24⟩:=fC g16 fr21 (λn=>if n=1 then 4 else 0)
  replace o23:=o23.gl G24 4
  have len26:=(o23.flat).small
  refine lx (aQ eH rfl o23.flat) (lx (d8 (m:=(List.length (bT g p):Int)) (n:=0) rfl rfl) (ma (vb (decide (0<(List.length (bT g p):Int)))) (aa ?_)))
  by_cases p4:0<(List.length (bT g p):Int)
  ·
   have hck0:¬bT g p=[]:=λh=>by rw[h] at p4;simp at p4
   refine af rfl (dt p4) (a7 ?_)
   clear bx5 bx10 o15 o23
   refine a6 rfl (ma vn (ai 24 (aa (ar (vs:=[vn,vi 24]) Tryz.func9 (.tmp rfl (.tmp rfl .nil)) ?_))))
   have C27:=cg [] (ch2.n.seq (ch7.n.seq (ch17.n.seq ch25.n)))
   replace bH:=bH.ca C27
   have e0:([]:cT)=((turnsR g p).1):=by
     rw[gW hm hck0]
   have e1:(24:Int)=((turnsR g p).2):=by
     rw[gW hm hck0]
   exact⟨(fin w0 g24 (λn=>0),vn),(bR (a:=[]) (b:=24) (λ(z0:cT) (z1:Int)=>Ending.returned (vt [vn,vi z1])) e0 e1),bH.fresh _,(e0▸dr.nil)⟩
  have hck0:bT g p=[]:=List.eq_nil_of_length_eq_zero (by omega)
  have hck:=lA.1 hck0
  have hs1:=hck.sh.n
  have hs2:=hck.sh.m
  refine ag rfl (df p4) (ak (al (a7 (a7 ?_))))
  clear o23
  refine a6 rfl (mv v14 ?_)
  replace o15:=o15.cn ch25
  have len28:=(o15.sl).small
  refine lx (aQ ik rfl o15.sl) (mi 0 (aa (am ?_)))
  refine aN (σ:=Nat×cT×aK) (λ⟨v,first,gq⟩ f w=>aT w0 gq w/\f 2=vp b3 0/\f 3=vp b8 0/\f 6=v14/\f 33=v14/\f 34=vi (List.length ((cm g).1):Int)/\f 35=vi ↑v/\Sl gq (is 0) w g_v g.2/\Sl gq (is 0) w p_v p.1/\Sl gq (is 0) w p_v1 p.2/\Bx gq (is 1) w b3 [vi g.1,g_v]/\Bx gq (is 2) w b8 [p_v,p_v1]/\dr gq 3 w v14 first/\(v:Int)<=((List.length ((cm g).1):Int):Int)/\(jd g p first v)) (λ⟨v,first,gq⟩=>Int.toNat (((List.length ((cm g).1):Int):Int)-(v:Int))) (0,(cm g).1,g24) ?_ ?_
  have C29:=cg [] (ch2.n.seq (ch7.n.seq (ch17.n.seq ch25.n)))
  · exact⟨bH.ca C29,rfl,rfl,rfl,rfl,rfl,rfl,Rg.cn ch25,Rp.cn ch25,r_p_v1.cn ch25,bx5.cn ch25,bx10.cn ch25,o15,by omega,by exact jd.start' hm hfr⟩
  clear Rg Rp r_p_v1 bx5 bx10 o15 bH
  rintro⟨v,first,g32⟩ f30 w31 ⟨bH,zs2,zs3,zs6,zs33,zs34,zs35,Rg,Rp,r_p_v1,bx5,bx10,o15,hle_v,hT⟩ back7
  have hTl:=hT.len
  refine a7 (a6 rfl (lx (aZ (m:=↑v) (n:=(List.length ((cm g).1):Int)) zs35 zs34) (aa (a7 ?_))))
  by_cases p7:(v:Int)<(List.length ((cm g).1):Int)
  ·
   refine af rfl (dt p7) ?_
   have hvn:v<g.1.toNat:=by omega
   have hrow:=hT.now hvn
   have hrl:=nm (g:=g) (v:=(v:Int))
   rw[<-hrow] at hrl
   refine ak (a7 (am (a7 (a6 rfl (mz zs35 (lx (ad (v:=v14) (i:=↑v) ik rfl zs33 o15.sl zs35 (by omega) (by omega)) ?_))))))
   obtain⟨v33,cel34,r35⟩:=cD (r:=(v:Int)) o15 (by omega) (by omega)
   refine lx (ba c4 rfl cel34) (ai (v:Int) (ma v33 (aa (a7 (a6 rfl (ma vn (aa (a7 (a7 (a6 rfl (mv v33 ?_)))))))))))
   have len36:=(r35.row_sl).small
   refine lx (aQ cS rfl r35.row_sl) (mi 0 (aa (am ?_)))
   refine aN (σ:=Value×(List Pt)×Nat×aK) (λ⟨to__v,to_,k,gq⟩ f w=>aT w0 gq w/\f 2=vp b3 0/\f 3=vp b8 0/\f 6=v14/\f 8=vi ↑v/\f 9=v33/\f 10=to__v/\f 33=v14/\f 34=vi (List.length ((cm g).1):Int)/\f 35=vi ↑v/\f 40=v33/\f 41=vi (List.length (gI first ↑v):Int)/\f 42=vi ↑k/\Sl gq (is 0) w g_v g.2/\Sl gq (is 0) w p_v p.1/\Sl gq (is 0) w p_v1 p.2/\Bx gq (is 1) w b3 [vi g.1,g_v]/\Bx gq (is 2) w b8 [p_v,p_v1]/\dr gq 3 w v14 first/\Ow gq (row 3 (Int.toNat ↑v+1)) (row 3 (Int.toNat ↑v+1)) w v33 (gI first ↑v)/\Ow gq (is 6) (is 6) w to__v to_/\(k:Int)<=((List.length (gI first ↑v):Int):Int)/\(to_=((gI first ↑v).take k).map (dJ p))) (λ⟨to__v,to_,k,gq⟩=>Int.toNat (((List.length (gI first ↑v):Int):Int)-(k:Int))) (vn,[],0,g32) ?_ ?_
   · exact⟨bH,zs2,zs3,zs6,rfl,rfl,rfl,zs33,zs34,zs35,rfl,rfl,rfl,Rg,Rp,r_p_v1,bx5,bx10,o15,r35,Ow.nil,by omega,by simp⟩
   clear Rg Rp r_p_v1 bx5 bx10 o15 cel34 r35 bH
   rintro⟨to__v,to_,k,g39⟩ f37 w38 ⟨bH,zs2,zs3,zs6,zs8,zs9,zs10,zs33,zs34,zs35,zs40,zs41,zs42,Rg,Rp,r_p_v1,bx5,bx10,o15,r35,o_to_,hle_k,htk⟩ back11
   have htl:to_.length<=k:=by rw[htk,List.length_map,List.length_take];omega
   refine a7 (a6 rfl (lx (aZ (m:=↑k) (n:=(List.length (gI first ↑v):Int)) zs42 zs41) (aa (a7 ?_))))
   by_cases p11:(k:Int)<(List.length (gI first ↑v):Int)
   ·
    refine af rfl (dt p11) ?_
    have htw:=l4 hm hck (v:=(v:Int)) (h:=gI (gI first ↑v) ↑k) (by rw[<-hrow];exact bk (by omega) ‹_›)
    refine ak (a7 (am (a7 (a6 rfl (lx (ad (v:=v33) (i:=↑k) cS rfl zs40 r35.row_sl zs42 (by omega) (by omega)) (lx (bA (v:=v33) (i:=↑k) az rfl r35.row_sl (by omega) (by omega) (by decide) rfl) (ai (gI (gI first ↑v) ↑k) (aa (a6 rfl (mz zs10 (lx (aj (ds:=[p_v,p_v1]) dP zs3 bx10 rfl rfl) ?_)))))))))))
    refine mi (gI (gI first ↑v) ↑k) (lo (aO (v:=vg [vi ((dJ p (gI (gI first ↑v) ↑k)).1),vi ((dJ p (gI (gI first ↑v) ↑k)).2)]) (aA (vals:=[vg [p_v,p_v1],vi (gI (gI first ↑v) ↑k)]) Tryz.func30 yD y7 rfl) (sH w38 p p_v p_v1 (Rp).ro (r_p_v1).ro (gI (gI first ↑v) ↑k) (by omega) (by exact htw.1.1) (by exact htw.1.2)) ?_))
    intro w40 hb41
    replace hb41:=ao hb41 g39
    refine lo (aG (α:=Pt) g39 (is 5) (is 5) (5,0) rfl [(dJ p (gI (gI first ↑v) ↑k))] bS ah (by decide) (by decide) (vs:=[(0,vg [vi ((dJ p (gI (gI first ↑v) ↑k)).1),vi ((dJ p (gI (gI first ↑v) ↑k)).2)])]) rfl rfl (.cons rfl .nil) ?_)
    intro g42 w43 v44 ch45 o46
    refine lo ?_
    replace o_to_:=(o_to_.cn hb41).cn ch45
    refine aV (α:=Pt) (xs:=to_) (ys:=([(dJ p (gI (gI first ↑v) ↑k))])) g42 (J:=is 6) (S:=is 6) (6,0) rfl bS ah (by decide) rfl rfl rfl o_to_ o46.flat (by decide) (by(simp;omega)) ?_
    intro g47 w48 v49 ch50 o51
    clear o_to_
    refine ma v49 (aa (al ?_))
    clear o46
    refine a6 rfl (lx (aM (m:=↑k) (n:=1) zs42 rfl (by omega)) (mi ((k:Int)+1) (aa ?_)))
    have C52:=cg [6] (hb41.n.seq (ch45.n.seq (ch50.l rfl)))
    refine back11 (v49,(to_++[(dJ p (gI (gI first ↑v) ↑k))]),k+1,g47) _ _ ⟨bH.ca C52,zs2,zs3,zs6,zs8,zs9,rfl,zs33,zs34,zs35,zs40,zs41,rfl,Rg.ca C52,Rp.ca C52,r_p_v1.ca C52,bx5.ca C52,bx10.ca C52,o15.ca C52,r35.chg C52 (uN rfl) (uN rfl),o51,by omega,?_⟩ ?_
    · show(to_++[(dJ p (gI (gI first ↑v) ↑k))])=((gI first ↑v).take (k+1)).map (dJ p)
      exact s9 htk ‹_›
    · show Int.toNat (((List.length (gI first ↑v):Int):Int)-((k+1):Int))<Int.toNat (((List.length (gI first ↑v):Int):Int)-(k:Int))
      omega
   refine ag rfl (df p11) (aJ rfl (a7 (a6 rfl (lx (a8 ef rfl rfl zs3 rfl) (lx (ab fE rfl bx10 rfl) (mz zs8 (lx (ad (v:=p_v) (i:=↑v) bS rfl rfl Rp rfl (by omega) (by omega)) (lw (vg [vi ((gI p.1 ↑v).1),vi ((gI p.1 ↑v).2)]) (aF (v:=p_v) (i:=↑v) ah rfl Rp (by omega) (by omega) rfl) (mz zs10 (lo ?_))))))))))
   refine bi (aA (vals:=[vg [vi ((gI p.1 ↑v).1),vi ((gI p.1 ↑v).2)],to__v]) Tryz.func31 yG xj rfl) (t6 w38 (gI p.1 ↑v) to_ to__v (o_to_.flat).ro) ?_
   rintro⟨d54,v56⟩ w53 ⟨fr55,o57⟩
   obtain⟨g58,ch59,G58⟩:=fC g39 fr55 (λn=>if n=1 then 7 else 0)
   replace o57:=o57.gl G58 7
   refine mv (vt [v56,vi ((arR (gI p.1 ↑v) to_).2)]) (lx (b6 rfl rfl) (lx (b6 rfl rfl) (ma v56 (ai ((arR (gI p.1 ↑v) to_).2) (aa (a7 ?_))))))
   have hto:=tx htk ‹_›
   rw[hrow] at hto
   obtain⟨hok,hnz⟩:=nF hm hck hfew2 (v:Int)
   have har:arR (gI p.1 ↑v) to_=(arL (gI p.1 ↑v) (fb p (cU g (v:Int))),0):=by rw[hto];exact pX (hck.sh.pt _ (by omega) (by omega)) hok hnz
   have har1:(arR (gI p.1 ↑v) to_).1=arL (gI p.1 ↑v) (fb p (cU g (v:Int))):=congrArg Prod.fst har
   have hal:=iV hnz
   have hal2:to_.length=(gI first ↑v).length:=by rw[hto,hrow];simp[fb]
   have hal3:((arR (gI p.1 ↑v) to_).1).length=to_.length:=by rw[har1,hal,hto]
   have hal4:(fb p (cU g (v:Int))).length=to_.length:=by rw[hto]
   refine a6 rfl (ma vn (aa (a7 (a7 (a6 rfl (mv v56 ?_))))))
   have len60:=(o57.flat).small
   refine lx (aQ cS rfl o57.flat) (mi 0 (aa (am ?_)))
   refine aN (σ:=Value×(List Int)×Nat×aK) (λ⟨turned_v,turned,i,gq⟩ f w=>aT w0 gq w/\f 2=vp b3 0/\f 3=vp b8 0/\f 6=v14/\f 8=vi ↑v/\f 9=v33/\f 10=to__v/\f 13=v56/\f 15=turned_v/\f 33=v14/\f 34=vi (List.length ((cm g).1):Int)/\f 35=vi ↑v/\f 63=v56/\f 64=vi (List.length ((arR (gI p.1 ↑v) to_).1):Int)/\f 65=vi ↑i/\Sl gq (is 0) w g_v g.2/\Sl gq (is 0) w p_v p.1/\Sl gq (is 0) w p_v1 p.2/\Bx gq (is 1) w b3 [vi g.1,g_v]/\Bx gq (is 2) w b8 [p_v,p_v1]/\dr gq 3 w v14 first/\Ow gq (row 3 (Int.toNat ↑v+1)) (row 3 (Int.toNat ↑v+1)) w v33 (gI first ↑v)/\Ow gq (is 6) (is 6) w to__v to_/\Ow gq (is 7) (is 7) w v56 ((arR (gI p.1 ↑v) to_).1)/\Ow gq (is 9) (is 9) w turned_v turned/\(i:Int)<=((List.length ((arR (gI p.1 ↑v) to_).1):Int):Int)/\(nw p (gI p.1 ↑v) (cU g (v:Int)) turned i)) (λ⟨turned_v,turned,i,gq⟩=>Int.toNat (((List.length ((arR (gI p.1 ↑v) to_).1):Int):Int)-(i:Int))) (vn,[],0,g58) ?_ ?_
   · exact⟨bH.cn ch59,zs2,zs3,zs6,zs8,zs9,zs10,rfl,rfl,zs33,zs34,zs35,rfl,rfl,rfl,Rg.cn ch59,Rp.cn ch59,r_p_v1.cn ch59,bx5.cn ch59,bx10.cn ch59,o15.cn ch59,r35.cn ch59,o_to_.cn ch59,o57,Ow.nil,by omega,by exact nw.start⟩
   clear Rg Rp r_p_v1 bx5 bx10 o15 r35 o_to_ o57 bH
   rintro⟨turned_v,turned,i,g63⟩ f61 w62 ⟨bH,zs2,zs3,zs6,zs8,zs9,zs10,zs13,zs15,zs33,zs34,zs35,zs63,zs64,zs65,Rg,Rp,r_p_v1,bx5,bx10,o15,r35,o_to_,o57,o_turned,hle_i,htu⟩ back18
   have htl:turned.length<=i:=by rw[htu.1,List.length_map,List.length_take];omega
   have hk0:∀x:Int,0<=x->x<((arR (gI p.1 ↑v) to_).1).length->0<=gI (arR (gI p.1 ↑v) to_).1 x/\gI (arR (gI p.1 ↑v) to_).1 x<(to_.length:Int):=λx h0 h1=>by rw[har1] at h1 ⊢;rw[hto];exact nL hnz h0 (by omega)
   have hpo:∀x:Int,0<=x->x<(to_.length:Int)->cC (gI to_ x):=λx h0 h1=>by rw[hto] at h1 ⊢;exact hok.2 _ (bk h0 h1)
   refine a7 (a6 rfl (lx (aZ (m:=↑i) (n:=(List.length ((arR (gI p.1 ↑v) to_).1):Int)) zs65 zs64) (aa (a7 ?_))))
   by_cases p18:(i:Int)<(List.length ((arR (gI p.1 ↑v) to_).1):Int)
   ·
    refine af rfl (dt p18) ?_
    obtain⟨hk3,hk4⟩:=hk0 (i:Int) (by omega) ‹_›
    refine ak (a7 (am (a7 (a6 rfl (mz zs65 (lx (ad (v:=v56) (i:=↑i) cS rfl zs63 o57.flat zs65 (by omega) (by omega)) (lx (bA (v:=v56) (i:=↑i) az rfl o57.flat (by omega) (by omega) (by decide) rfl) (ai (i:Int) (ai (gI ((arR (gI p.1 ↑v) to_).1) (i:Int)) (aa (a7 (a7 ?_))))))))))))
    refine bz g63 rfl tX (by kernel_rfl) ?_
    intro w65 ch64
    refine qm (vi ↑i) (qx (λw' hw'=>d8 (m:=↑i) (n:=0) rfl rfl) (qm (vb (decide (0<(i:Int)))) ?_))
    by_cases q72:0<(i:Int)
    ·
     obtain⟨hk1,hk2⟩:=hk0 ((i:Int)-1) (by omega) (by omega)
     refine aH (v:=vp b8 0) (wy (dt q72)) (λw' hw'=>a8 ef rfl rfl zs3 rfl) ?_
     replace bx10:=bx10.cn ch64
     refine aH (v:=p_v) (wy (dt q72)) (λw' hw'=>ab fE rfl (bx10.bel hw') rfl) (aH (v:=vi ↑v) (wy (dt q72)) (λw' hw'=>aq zs8) ?_)
     replace Rp:=Rp.cn ch64
     refine aH (v:=Value.pointer (some (aR p_v 2 (Int.toNat ↑v)))) (wy (dt q72)) (λw' hw'=>ad (α:=Pt) (xs:=p.1) (v:=p_v) (i:=↑v) bS rfl rfl (Rp.bel hw') rfl (by omega) (by omega)) (aH (v:=vg [vi ((gI p.1 ↑v).1),vi ((gI p.1 ↑v).2)]) (wy (dt q72)) (λw' hw'=>aF (α:=Pt) (xs:=p.1) (v:=p_v) (i:=↑v) ah rfl (Rp.bel hw') (by omega) (by omega) rfl) (aH (v:=to__v) (wy (dt q72)) (λw' hw'=>aq zs10) (aH (v:=v56) (wy (dt q72)) (λw' hw'=>aq zs13) (aH (v:=vi ↑i) (wy (dt q72)) (λw' hw'=>aq rfl) ?_))))
     refine aH (v:=vi ((i:Int)-1)) (wy (dt q72)) (λw' hw'=>c3 (m:=↑i) (n:=1) rfl rfl (by omega)) ?_
     replace o57:=o57.cn ch64
     refine aH (v:=Value.pointer (some (aR v56 1 (Int.toNat ((i:Int)-1))))) (wy (dt q72)) (λw' hw'=>ad (α:=Int) (xs:=(arR (gI p.1 ↑v) to_).1) (v:=v56) (i:=(i:Int)-1) cS rfl rfl (o57.flat.bel hw') rfl (by omega) (by omega)) (aH (v:=vi (gI ((arR (gI p.1 ↑v) to_).1) ((i:Int)-1))) (wy (dt q72)) (λw' hw'=>bA (α:=Int) (xs:=(arR (gI p.1 ↑v) to_).1) (v:=v56) (i:=(i:Int)-1) az rfl (o57.flat.bel hw') (by omega) (by omega) (by decide) rfl) ?_)
     replace o_to_:=o_to_.cn ch64
     refine aH (v:=Value.pointer (some (aR to__v 2 (Int.toNat (gI ((arR (gI p.1 ↑v) to_).1) ((i:Int)-1)))))) (wy (dt q72)) (λw' hw'=>ad (α:=Pt) (xs:=to_) (v:=to__v) (i:=(gI ((arR (gI p.1 ↑v) to_).1) ((i:Int)-1))) bS rfl rfl (o_to_.flat.bel hw') rfl (by omega) (by omega)) (aH (v:=vg [vi ((gI to_ (gI ((arR (gI p.1 ↑v) to_).1) ((i:Int)-1))).1),vi ((gI to_ (gI ((arR (gI p.1 ↑v) to_).1) ((i:Int)-1))).2)]) (wy (dt q72)) (λw' hw'=>aF (α:=Pt) (xs:=to_) (v:=to__v) (i:=(gI ((arR (gI p.1 ↑v) to_).1) ((i:Int)-1))) ah rfl (o_to_.flat.bel hw') (by omega) (by omega) rfl) ?_)
     refine aH (v:=to__v) (wy (dt q72)) (λw' hw'=>aq zs10) (aH (v:=vi (gI ((arR (gI p.1 ↑v) to_).1) (i:Int))) (wy (dt q72)) (λw' hw'=>aq rfl) (aH (v:=Value.pointer (some (aR to__v 2 (Int.toNat (gI ((arR (gI p.1 ↑v) to_).1) (i:Int)))))) (wy (dt q72)) (λw' hw'=>ad (α:=Pt) (xs:=to_) (v:=to__v) (i:=(gI ((arR (gI p.1 ↑v) to_).1) (i:Int))) bS rfl rfl (o_to_.flat.bel hw') rfl (by omega) (by omega)) ?_))
     refine aH (v:=vg [vi ((gI to_ (gI ((arR (gI p.1 ↑v) to_).1) (i:Int))).1),vi ((gI to_ (gI ((arR (gI p.1 ↑v) to_).1) (i:Int))).2)]) (wy (dt q72)) (λw' hw'=>aF (α:=Pt) (xs:=to_) (v:=to__v) (i:=(gI ((arR (gI p.1 ↑v) to_).1) (i:Int))) ah rfl (o_to_.flat.bel hw') (by omega) (by omega) rfl) ?_
     refine cl (v:=vb (decide (eB (aY (gI to_ (gI ((arR (gI p.1 ↑v) to_).1) ((i:Int)-1))) (gI p.1 ↑v)) (aY (gI to_ (gI ((arR (gI p.1 ↑v) to_).1) (i:Int))) (gI p.1 ↑v))))) (wy (dt q72)) (λw' hw'=>aA (vals:=[vg [vi ((gI p.1 ↑v).1),vi ((gI p.1 ↑v).2)],vg [vi ((gI to_ (gI ((arR (gI p.1 ↑v) to_).1) ((i:Int)-1))).1),vi ((gI to_ (gI ((arR (gI p.1 ↑v) to_).1) ((i:Int)-1))).2)],vg [vi ((gI to_ (gI ((arR (gI p.1 ↑v) to_).1) (i:Int))).1),vi ((gI to_ (gI ((arR (gI p.1 ↑v) to_).1) (i:Int))).2)]]) Tryz.func32 yn wE rfl) (λw' hw'=>(vU w' (gI p.1 ↑v) (gI to_ (gI ((arR (gI p.1 ↑v) to_).1) ((i:Int)-1))) (gI to_ (gI ((arR (gI p.1 ↑v) to_).1) (i:Int))) (by exact hck.sh.pt _ (by omega) (by omega)) (by exact hpo _ hk1 hk2) (by exact hpo _ hk3 hk4)).mono λe w2 h2=>⟨h2.1,hw'.trans (h2.2.mono hw'.size)⟩) ?_
     refine qv (vb (decide (eB (aY (gI to_ (gI ((arR (gI p.1 ↑v) to_).1) ((i:Int)-1))) (gI p.1 ↑v)) (aY (gI to_ (gI ((arR (gI p.1 ↑v) to_).1) (i:Int))) (gI p.1 ↑v))))) (λw' hw'=>aD rfl (dt q72) rfl) (bN ?_)
     intro w66 hc67
     replace hc67:=ao hc67 g63
     by_cases p20:(decide (eB (aY (gI to_ (gI ((arR (gI p.1 ↑v) to_).1) ((i:Int)-1))) (gI p.1 ↑v)) (aY (gI to_ (gI ((arR (gI p.1 ↑v) to_).1) (i:Int))) (gI p.1 ↑v))))=true
     ·
      refine af rfl p20 (a7 ?_)
      clear bx5 bx10 o15 r35 o_to_ o57 o_turned
      refine a6 rfl (ma vn (ai 24 (aa (ar (vs:=[vn,vi 24]) Tryz.func9 (.tmp rfl (.tmp rfl .nil)) ?_))))
      replace bH:=bH.cn ch64
      replace bH:=bH.cn hc67
      have e0:([]:cT)=((turnsR g p).1):=by
        rw[fV hm hck0 (nw.bad hvn hnz (i:=i) (by omega) ‹_› (by rw[<-har1,<-hto];assumption))]
      have e1:(24:Int)=((turnsR g p).2):=by
        rw[fV hm hck0 (nw.bad hvn hnz (i:=i) (by omega) ‹_› (by rw[<-har1,<-hto];assumption))]
      exact⟨(fin w0 g63 (λn=>0),vn),(bR (a:=[]) (b:=24) (λ(z0:cT) (z1:Int)=>Ending.returned (vt [vn,vi z1])) e0 e1),bH.fresh _,(e0▸dr.nil)⟩
     refine ag rfl (Bool.eq_false_iff.2 p20) (ak (a6 rfl (mz zs15 (mz zs9 (mi (gI ((arR (gI p.1 ↑v) to_).1) (i:Int)) ?_)))))
     replace r35:=(r35.cn ch64).cn hc67
     refine lx (ad (v:=v33) (i:=(gI ((arR (gI p.1 ↑v) to_).1) (i:Int))) cS rfl rfl r35.row_sl rfl (by omega) (by omega)) (lx (bA (v:=v33) (i:=(gI ((arR (gI p.1 ↑v) to_).1) (i:Int))) az rfl r35.row_sl (by omega) (by omega) (by decide) rfl) (lo (aG (α:=Int) g63 (is 8) (is 8) (8,0) rfl [(gI (gI first ↑v) (gI ((arR (gI p.1 ↑v) to_).1) (i:Int)))] cS az (by decide) (by decide) (vs:=[(0,vi (gI (gI first ↑v) (gI ((arR (gI p.1 ↑v) to_).1) (i:Int))))]) rfl rfl (.cons rfl .nil) ?_)))
     intro g68 w69 v70 ch71 o72
     refine lo ?_
     have C73:=cg [] (ch64.n.seq (hc67.n.seq ch71.n))
     replace o_turned:=o_turned.ca C73
     refine aV (α:=Int) (xs:=turned) (ys:=([(gI (gI first ↑v) (gI ((arR (gI p.1 ↑v) to_).1) (i:Int)))])) g68 (J:=is 9) (S:=is 9) (9,0) rfl cS az (by decide) rfl rfl rfl o_turned o72.flat (by decide) (by(simp;omega)) ?_
     intro g74 w75 v76 ch77 o78
     clear o_turned
     refine ma v76 (aa (al ?_))
     clear o72
     refine a6 rfl (lx (aM (m:=↑i) (n:=1) zs65 rfl (by omega)) (mi ((i:Int)+1) (aa ?_)))
     have C80:=cg [9] (hc67.n.seq (ch71.n.seq (ch77.l rfl)))
     have C79:=ch64.n.seq C80
     refine back18 (v76,(turned++[(gI (gI first ↑v) (gI ((arR (gI p.1 ↑v) to_).1) (i:Int)))]),i+1,g74) _ _ ⟨bH.ca C79,zs2,zs3,zs6,zs8,zs9,zs10,zs13,rfl,zs33,zs34,zs35,zs63,zs64,rfl,Rg.ca C79,Rp.ca C80,r_p_v1.ca C79,bx5.ca C79,bx10.ca C80,o15.ca C79,(r35.cn ch71).chg ch77 (kI rfl) (kI rfl),o_to_.ca C80,o57.ca C80,o78,by omega,?_⟩ ?_
     · show nw p (gI p.1 ↑v) (cU g (v:Int)) (turned++[(gI (gI first ↑v) (gI ((arR (gI p.1 ↑v) to_).1) (i:Int)))]) (i+1)
       (rw[har1,hrow]
        refine htu.next (by omega) ?_
        (refine .inr λc=>?_
         rw[<-har1,<-hto] at c
         exact(by assumption:¬decide _=true) c))
     · show Int.toNat (((List.length ((arR (gI p.1 ↑v) to_).1):Int):Int)-((i+1):Int))<Int.toNat (((List.length ((arR (gI p.1 ↑v) to_).1):Int):Int)-(i:Int))
       omega
    refine av (wn (df q72)) (av (wn (df q72)) (av (wn (df q72)) (av (wn (df q72)) (av (wn (df q72)) (av (wn (df q72)) (av (wn (df q72)) (av (wn (df q72)) (av (wn (df q72)) (av (wn (df q72)) ?_)))))))))
    refine av (wn (df q72)) (av (wn (df q72)) (av (wn (df q72)) (av (wn (df q72)) (av (wn (df q72)) (av (wn (df q72)) (av (wn (df q72)) (av (wn (df q72)) (qv (vb false) (λw' hw'=>aB rfl (df q72) rfl) (bN ?_)))))))))
    intro w81 hc82
    replace hc82:=ao hc82 g63
    refine ag rfl rfl (ak (a6 rfl (mz zs15 (mz zs9 (mi (gI ((arR (gI p.1 ↑v) to_).1) (i:Int)) ?_)))))
    replace r35:=(r35.cn ch64).cn hc82
    refine lx (ad (v:=v33) (i:=(gI ((arR (gI p.1 ↑v) to_).1) (i:Int))) cS rfl rfl r35.row_sl rfl (by omega) (by omega)) (lx (bA (v:=v33) (i:=(gI ((arR (gI p.1 ↑v) to_).1) (i:Int))) az rfl r35.row_sl (by omega) (by omega) (by decide) rfl) (lo (aG (α:=Int) g63 (is 8) (is 8) (8,0) rfl [(gI (gI first ↑v) (gI ((arR (gI p.1 ↑v) to_).1) (i:Int)))] cS az (by decide) (by decide) (vs:=[(0,vi (gI (gI first ↑v) (gI ((arR (gI p.1 ↑v) to_).1) (i:Int))))]) rfl rfl (.cons rfl .nil) ?_)))
    intro g83 w84 v85 ch86 o87
    refine lo ?_
    have C88:=cg [] (ch64.n.seq (hc82.n.seq ch86.n))
    replace o_turned:=o_turned.ca C88
    refine aV (α:=Int) (xs:=turned) (ys:=([(gI (gI first ↑v) (gI ((arR (gI p.1 ↑v) to_).1) (i:Int)))])) g83 (J:=is 9) (S:=is 9) (9,0) rfl cS az (by decide) rfl rfl rfl o_turned o87.flat (by decide) (by(simp;omega)) ?_
    intro g89 w90 v91 ch92 o93
    clear o_turned
    refine ma v91 (aa (al ?_))
    clear o87
    refine a6 rfl (lx (aM (m:=↑i) (n:=1) zs65 rfl (by omega)) (mi ((i:Int)+1) (aa ?_)))
    have C94:=cg [9] (ch64.n.seq (hc82.n.seq (ch86.n.seq (ch92.l rfl))))
    refine back18 (v91,(turned++[(gI (gI first ↑v) (gI ((arR (gI p.1 ↑v) to_).1) (i:Int)))]),i+1,g89) _ _ ⟨bH.ca C94,zs2,zs3,zs6,zs8,zs9,zs10,zs13,rfl,zs33,zs34,zs35,zs63,zs64,rfl,Rg.ca C94,Rp.ca C94,r_p_v1.ca C94,bx5.ca C94,bx10.ca C94,o15.ca C94,(r35.cn ch86).chg ch92 (kI rfl) (kI rfl),o_to_.ca C94,o57.ca C94,o93,by omega,?_⟩ ?_
    · show nw p (gI p.1 ↑v) (cU g (v:Int)) (turned++[(gI (gI first ↑v) (gI ((arR (gI p.1 ↑v) to_).1) (i:Int)))]) (i+1)
      (rw[har1,hrow]
       refine htu.next (by omega) ?_
       exact .inl ‹_›)
    · show Int.toNat (((List.length ((arR (gI p.1 ↑v) to_).1):Int):Int)-((i+1):Int))<Int.toNat (((List.length ((arR (gI p.1 ↑v) to_).1):Int):Int)-(i:Int))
      omega
   refine ag rfl (df p18) (aJ rfl ?_)
   clear r35 o_to_ o57
   have hfin:=nw.fin hnz htu (by rw[<-har1];assumption)
   refine a6 rfl (mz zs6 (mz zs8 (mz zs15 (lx (ad (v:=v14) (i:=↑v) ik rfl rfl o15.sl rfl (by omega) (by omega)) (lo (gH (r:=(v:Int)) c4 rfl rfl o15 o_turned rfl (by omega) (by omega) ?_))))))
   intro g101 w98 ch99 o100
   clear o15 o_turned
   refine aa (al (a6 rfl (lx (aM (m:=↑v) (n:=1) zs35 rfl (by omega)) (mi ((v:Int)+1) (aa ?_)))))
   refine back7 (v+1,(List.set first (Int.toNat ↑v) turned),g101) _ _ ⟨bH.chg ch99 (iT rfl rfl),zs2,zs3,zs6,zs33,zs34,rfl,Rg.chg ch99 (iT rfl rfl),Rp.chg ch99 (iT rfl rfl),r_p_v1.chg ch99 (iT rfl rfl),bx5.chg ch99 (iT rfl rfl),bx10.chg ch99 (iT rfl rfl),o100,by omega,?_⟩ ?_
   · show jd g p (List.set first (Int.toNat ↑v) turned) (v+1)
     exact hT.next hvn (by rw[hfin.1]) hfin.2
   · show Int.toNat (((List.length ((cm g).1):Int):Int)-((v+1):Int))<Int.toNat (((List.length ((cm g).1):Int):Int)-(v:Int))
     omega
  refine ag rfl (df p7) (aJ rfl (a7 ?_))
  clear bx10
  refine a6 rfl (lx (aj (ds:=[vi g.1,g_v]) db zs2 bx5 rfl rfl) (mz zs6 (lo (bi (aA (vals:=[vg [vi g.1,g_v],v14]) Tryz.func33 xr yz rfl) (tj w31 g g_v (Rg).ro first v14 (o15.sl).ro) ?_))))
  rintro⟨d103,v105⟩ w102 ⟨fr104,o106⟩
  obtain⟨g107,ch108,G107⟩:=fC g32 fr104 (λn=>if n=1 then 10 else 0)
  replace o106:=o106.gl G107 10
  refine lx (b6 rfl rfl) (lx (b6 rfl rfl) (ma v105 (ai ((dM g first).2) (aa (ar (vs:=[v105,vi ((dM g first).2)]) Tryz.func9 (.tmp rfl (.tmp rfl .nil)) ?_)))))
  replace bH:=bH.cn ch108
  have e0:((dM g first).1:cT)=((turnsR g p).1):=by
    rw[kN hm hck0 hfew2 hT (by omega)]
  have e1:((dM g first).2:Int)=((turnsR g p).2):=by
    rw[kN hm hck0 hfew2 hT (by omega)]
  exact⟨(fin w0 g107 (λn=>if n=10 then 1 else 0),v105),(bR (a:=(dM g first).1) (b:=(dM g first).2) (λ(z0:cT) (z1:Int)=>Ending.returned (vt [v105,vi z1])) e0 e1),bH.fresh _,(e0▸(o106.glue (γ:=c0) (ren:=(λn=>if n=10 then 1 else 0)) (k:=1) bH.col rfl rfl))⟩
 have hn:¬c8 g:=λh=>by have h2:=p2;unfold cm at h2;rw[if_pos h] at h2;exact h2 rfl
 refine af rfl (congrArg Bool.not (df p2)) (a7 ?_)
 clear bx5 bx10 o15
 refine a6 rfl (mi ((cm g).2) (ma vn (ai ((cm g).2) (aa (ar (vs:=[vn,vi ((cm g).2)]) Tryz.func9 (.tmp rfl (.tmp rfl .nil)) ?_)))))
 have C109:=cg [] (ch2.n.seq (ch7.n.seq ch17.n))
 replace bH:=bH.ca C109
 have e0:([]:cT)=((turnsR g p).1):=by
   rw[jI hn]
 have e1:((cm g).2:Int)=((turnsR g p).2):=by
   rw[jI hn];unfold cm;rw[if_neg hn]
 exact⟨(fin w0 g16 (λn=>0),vn),(bR (a:=[]) (b:=(cm g).2) (λ(z0:cT) (z1:Int)=>Ending.returned (vt [vn,vi z1])) e0 e1),bH.fresh _,(e0▸dr.nil)⟩
end TL
