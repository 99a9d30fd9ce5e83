import Derived.Test.YtbadiajeohbpcaaGreatTlP3
import Derived.Test.YtbadiajeohbpcaaGreatTlGkA
import Derived.Test.YtbadiajeohbpcaaGreatTlGkB
import Derived.Test.YtbadiajeohbpcaaGreatTlGmA
import Derived.Test.YtbadiajeohbpcaaGreatTlGmI
import Derived.Test.YtbadiajeohbpcaaGreatTlGenA
import Derived.Test.YtbadiajeohbpcaaGreatTlGenI
import Derived.Test.YtbadiajeohbpcaaGreatTlGenX
import Derived.Test.YtbadiajeohbpcaaGreatProg
import Derived.Test.YtbadiajeohbpcaaGreatTlAli
set_option linter.all false
set_option maxRecDepth 20000
namespace TL
open Go Go.Proofs
theorem jD:Tryz.prog.follows .mixedOrders=true:=by kernel_rfl
theorem sc:Tryz.f19.body.isNone=false:=rfl
theorem rW:(Tryz.f19.name== "runtime.NumGoroutine")=false:=by decide+kernel
theorem xY:Tryz.f41.body.isNone=false:=rfl
theorem wU:(Tryz.f41.name== "runtime.NumGoroutine")=false:=by decide+kernel
theorem wg:Tryz.f42.body.isNone=false:=rfl
theorem xH:(Tryz.f42.name== "runtime.NumGoroutine")=false:=by decide+kernel
theorem wa:Tryz.f43.body.isNone=false:=rfl
theorem xL:(Tryz.f43.name== "runtime.NumGoroutine")=false:=by decide+kernel
theorem x8:Tryz.f44.body.isNone=false:=rfl
theorem wj:(Tryz.f44.name== "runtime.NumGoroutine")=false:=by decide+kernel
set_option maxHeartbeats 4000000 in
theorem lT(w0:World)(g:(Int)×(List Pt))(g_v:Value)(hg_v:Ro w0 g_v g.2)(p:(List Pt)×(List (List Pt)))(p_v p_v1:Value)(hp_v:Ro w0 p_v p.1)(hp_v1:Ro w0 p_v1 p.2)(hmay:c8 g)(hfew:(g.2.length:Int)<=2000):
    Calls Tryz.prog 16 #[vg [vi g.1,g_v],vg [p_v,p_v1]] w0 (λee w=>∃xx:aK×Value,ee= .returned ((λ⟨δ,rv0⟩=>vt [rv0,vi ((turnsR g p).2)]) xx)/\(λ(⟨δ,rv0⟩:aK×Value) (w:World)=>em w0 δ w/\dr δ 1 w rv0 ((turnsR g p).1)) xx w):=by
 refine au Tryz.func16 rfl nq ?_
 have bH:=aT.start w0
 have Rg:=hg_v.sl
 have Rp:=hp_v.sl
 have r_p_v1:=hp_v1.sl
 have hm:=hmay
 have hm0:=hmay
 have hfew2:=hfew
 obtain⟨hm1,hm2,hm3,hm4⟩:=hm0
 have hfl:=sV g hm1
 refine a7 (a6 rfl (bW rfl (bh c0 (is 1) (1,0) rfl rfl ?_)))
 intro g4 w1 b3 ch2 bx5
 replace bx5:Bx g4 (is 1) w1 b3 [vi g.1,g_v]:=bx5
 refine lo (bh g4 (is 2) (2,0) rfl rfl ?_)
 intro g9 w6 b8 ch7 bx10
 replace bx10:Bx g9 (is 2) w6 b8 [p_v,p_v1]:=bx10
 refine ma vn (ai 0 (aa (a7 (a7 (a6 rfl ?_)))))
 replace bx5:=bx5.cn ch7
 refine lx (aj (ds:=[vi g.1,g_v]) bF rfl bx5 rfl rfl) (lx (aj (ds:=[p_v,p_v1]) bI rfl bx10 rfl rfl) ?_)
 replace Rg:=(Rg.cn ch2).cn ch7
 replace Rp:=(Rp.cn ch2).cn ch7
 replace r_p_v1:=(r_p_v1.cn ch2).cn ch7
 refine lo (bi (aA (vals:=[vg [vi g.1,g_v],vg [p_v,p_v1]]) Tryz.func19 sc rW rfl) (lB w6 g g_v (Rg).ro p p_v p_v1 (Rp).ro (r_p_v1).ro ‹_›) ?_)
 rintro⟨d12,v14⟩ w11 ⟨fr13,o15⟩
 obtain⟨g16,ch17,G16⟩:=fC g9 fr13 (λn=>if n=1 then 3 else 0)
 replace o15:=o15.gl G16 3
 have len18:=(o15.flat).small
 refine lx (aQ eH rfl o15.flat) (lx (d8 (m:=(List.length (bT g p):Int)) (n:=0) rfl rfl) (aa ?_))
 by_cases p1:0<(List.length (bT g p):Int)
 ·
  have hck0:¬bT g p=[]:=λh=>by rw[h] at p1;simp at p1
  refine af rfl (dt p1) (a7 ?_)
  clear bx5 bx10 o15
  refine a6 rfl (ma vn (ai 24 (aa (ar (vs:=[vn,vi 24]) Tryz.func16 (.tmp rfl (.tmp rfl .nil)) ?_))))
  have C19:=cg [] (ch2.n.seq (ch7.n.seq ch17.n))
  replace bH:=bH.ca C19
  have e0:([]:cT)=((turnsR g p).1):=by
    rw[gW hm hck0]
  have e1:(24:Int)=((turnsR g p).2):=by
    rw[gW hm hck0]
  exact⟨(fin w0 g16 (λn=>0),vn),(bR (a:=[]) (b:=24) (λ(z0:cT) (z1:Int)=>Ending.returned (vt [vn,vi z1])) e0 e1),bH.fresh _,(e0▸dr.nil)⟩
 have hck0:bT g p=[]:=List.eq_nil_of_length_eq_zero (by omega)
 have hck:=lA.1 hck0
 have hs1:=hck.sh.n
 have hs2:=hck.sh.m
 refine ag rfl (df p1) (ak (a7 ?_))
 clear o15
 refine a6 rfl ?_
 replace bx5:=bx5.cn ch17
 refine lx (aj (ds:=[vi g.1,g_v]) bF rfl bx5 rfl rfl) ?_
 replace Rg:=Rg.cn ch17
 refine lo (bi (aA (vals:=[vg [vi g.1,g_v]]) Tryz.func41 xY wU rfl) (tU w11 g g_v (Rg).ro ‹_›) ?_)
 rintro⟨d21,v23⟩ w20 ⟨fr22,o24⟩
 obtain⟨g25,ch26,G25⟩:=fC g16 fr22 (λn=>if n=1 then 4 else 0)
 replace o24:=o24.gl G25 4
 refine ma v23 (aa (a7 (a6 rfl (lx (a8 dY rfl rfl rfl rfl) ?_))))
 replace bx5:=bx5.cn ch26
 refine lx (ab az rfl bx5 rfl) (lo (gi (α:=Int) (n:=g.1) (cp:=g.1) g25 5 ik c4 rfl rfl rfl (by omega) (by omega) (by omega) (by omega) ?_))
 intro g27 w28 v29 ch30 o31
 refine ma v29 (aa (a7 (a7 (a6 rfl (ai 0 (aa (am ?_)))))))
 refine aN (σ:=Nat×cT×aK) (λ⟨v,R,gq⟩ f w=>aT w0 gq w/\f 2=vp b3 0/\f 3=vp b8 0/\f 6=v23/\f 7=v29/\f 8=vi ↑v/\Sl gq (is 0) w g_v g.2/\Sl gq (is 0) w p_v p.1/\Sl gq (is 0) w p_v1 p.2/\Bx gq (is 1) w b3 [vi g.1,g_v]/\Bx gq (is 2) w b8 [p_v,p_v1]/\dr gq 4 w v23 (bM g)/\dr gq 5 w v29 R/\(v:Int)<=(g.1:Int)/\(mu g p R v)) (λ⟨v,R,gq⟩=>Int.toNat ((g.1:Int)-(v:Int))) (0,(List.replicate (Int.toNat g.1) []),g27) ?_ ?_
 have C33:=cg [] (ch17.n.seq (ch26.n.seq ch30.n))
 have C32:=ch2.n.seq (ch7.n.seq C33)
 · exact⟨bH.ca C32,rfl,rfl,rfl,rfl,rfl,(Rg.cn ch26).cn ch30,Rp.ca C33,r_p_v1.ca C33,bx5.cn ch30,bx10.ca C33,o24.cn ch30,o31,by omega,by exact mu.start hm1⟩
 clear Rg Rp r_p_v1 bx5 bx10 o24 o31 bH
 rintro⟨v,R,g36⟩ f34 w35 ⟨bH,zs2,zs3,zs6,zs7,zs8,Rg,Rp,r_p_v1,bx5,bx10,o24,o31,hle_v,hT⟩ back6
 have hTl:=hT.len
 refine a7 (a7 (a6 rfl (mz zs8 (lx (a8 dY rfl rfl zs2 rfl) (lx (ab az rfl bx5 rfl) (lx (aZ (m:=↑v) (n:=g.1) rfl rfl) (aa ?_)))))))
 by_cases p6:(v:Int)<g.1
 ·
  refine af rfl (dt p6) ?_
  have hvn:(v:Int)<g.1:=by omega
  have hrow:=tp (g:=g) (v:=(v:Int)) (by omega) (by omega)
  have hrl:=nm (g:=g) (v:=(v:Int))
  rw[<-hrow] at hrl
  refine ak (a7 (am (a7 (a6 rfl (ma vn (aa (a7 (a7 (a6 rfl (ai 0 (aa (am ?_))))))))))))
  refine aN (σ:=Value×(List Pt)×Nat×aK) (λ⟨to__v,to_,k,gq⟩ f w=>aT w0 gq w/\f 2=vp b3 0/\f 3=vp b8 0/\f 6=v23/\f 7=v29/\f 8=vi ↑v/\f 9=to__v/\f 10=vi ↑k/\Sl gq (is 0) w g_v g.2/\Sl gq (is 0) w p_v p.1/\Sl gq (is 0) w p_v1 p.2/\Bx gq (is 1) w b3 [vi g.1,g_v]/\Bx gq (is 2) w b8 [p_v,p_v1]/\dr gq 4 w v23 (bM g)/\dr gq 5 w v29 R/\Ow gq (is 7) (is 7) w to__v to_/\(k:Int)<=((List.length (gI (bM g) (v:Int)):Int):Int)/\(to_=((gI (bM g) (v:Int)).take k).map (dJ p))) (λ⟨to__v,to_,k,gq⟩=>Int.toNat (((List.length (gI (bM g) (v:Int)):Int):Int)-(k:Int))) (vn,[],0,g36) ?_ ?_
  · exact⟨bH,zs2,zs3,zs6,zs7,zs8,rfl,rfl,Rg,Rp,r_p_v1,bx5,bx10,o24,o31,Ow.nil,by omega,by simp⟩
  clear Rg Rp r_p_v1 bx5 bx10 o24 o31 bH
  rintro⟨to__v,to_,k,g39⟩ f37 w38 ⟨bH,zs2,zs3,zs6,zs7,zs8,zs9,zs10,Rg,Rp,r_p_v1,bx5,bx10,o24,o31,o_to_,hle_k,htk⟩ back10
  have htl:to_.length<=k:=by rw[htk,List.length_map,List.length_take];omega
  refine a7 (a7 (a6 rfl (mz zs10 (mz zs6 (mz zs8 (lx (ad (v:=v23) (i:=↑v) gM rfl rfl o24.sl rfl (by omega) (by omega)) ?_))))))
  obtain⟨v40,cel41,r42⟩:=cD (r:=(v:Int)) o24 (by omega) (by omega)
  refine lx (ba c4 rfl cel41) ?_
  have len43:=(r42.row_sl).small
  refine lx (aQ cS rfl r42.row_sl) (lx (aZ (m:=↑k) (n:=(List.length (gI (bM g) (v:Int)):Int)) rfl rfl) (aa ?_))
  by_cases p10:(k:Int)<(List.length (gI (bM g) (v:Int)):Int)
  ·
   refine af rfl (dt p10) ?_
   have htw:=l4 hm hck (v:=(v:Int)) (h:=gI (gI (bM g) (v:Int)) (k:Int)) (by rw[<-hrow];exact bk (by omega) ‹_›)
   refine ak (a7 (am ?_))
   clear cel41 r42
   refine c6 g39 [0,1,2,3,4,5,6,7,8,12] jD ?_
   intro w45 ch44
   refine xp (v:=to__v) 0 rfl (λw=>aq zs9) ?_
   replace bx10:=bx10.cn ch44
   refine xv 1 [0,2,3,6,4,5,7,8] rfl (aj (ds:=[p_v,p_v1]) bI zs3 bx10 rfl rfl) (xp (v:=v23) 2 rfl (λw=>aq zs6) (xp (v:=vi ↑v) 3 rfl (λw=>aq zs8) ?_))
   replace o24:=o24.cn ch44
   refine xv 4 [3,2,1,0,6] rfl (ad (v:=v23) (i:=↑v) gM rfl rfl o24.sl rfl (by omega) (by omega)) ?_
   obtain⟨v46,cel47,r48⟩:=cD (r:=(v:Int)) o24 (by omega) (by omega)
   refine xv 5 [4,3,2,1,0,6] rfl (ba c4 rfl cel47) (xp (v:=vi ↑k) 6 rfl (λw=>aq zs10) (xv 7 [6,5,4,3,2,1,0] rfl (ad (v:=v46) (i:=↑k) cS rfl rfl r48.row_sl rfl (by omega) (by omega)) (xv 8 [7,6,5,4,3,2,1,0] rfl (bA (v:=v46) (i:=↑k) az rfl r48.row_sl (by omega) (by omega) (by decide) rfl) ?_)))
   replace Rp:=Rp.cn ch44
   replace r_p_v1:=r_p_v1.cn ch44
   refine ct 9 rfl (by kernel_rfl) rfl (aO (v:=vg [vi ((dJ p (gI (gI (bM g) (v:Int)) (k:Int))).1),vi ((dJ p (gI (gI (bM g) (v:Int)) (k:Int))).2)]) (aA (vals:=[vg [p_v,p_v1],vi (gI (gI (bM g) (v:Int)) (k:Int))]) Tryz.func42 wg xH rfl) (qC w45 p p_v p_v1 (Rp).ro (r_p_v1).ro (gI (gI (bM g) (v:Int)) (k:Int)) (by omega) (by exact htw.1.1) (by exact htw.1.2)) ?_)
   intro w49 hb50
   replace hb50:=ao hb50 g39
   refine ct 10 rfl (by kernel_rfl) rfl (aG (α:=Pt) g39 (is 6) (is 6) (6,0) rfl ([(dJ p (gI (gI (bM g) (v:Int)) (k:Int)))]:List Pt) bS ah (by decide) (by decide) (vs:=[(0,vg [vi ((dJ p (gI (gI (bM g) (v:Int)) (k:Int))).1),vi ((dJ p (gI (gI (bM g) (v:Int)) (k:Int))).2)])]) rfl rfl (.cons rfl .nil) ?_)
   intro g51 w52 v53 ch54 o55
   refine ct 11 rfl (by kernel_rfl) rfl ?_
   have C56:=cg [] (ch44.n.seq (hb50.n.seq ch54.n))
   replace o_to_:=o_to_.ca C56
   refine aV (α:=Pt) (xs:=to_) (ys:=([(dJ p (gI (gI (bM g) (v:Int)) (k:Int)))]:List Pt)) g51 (J:=is 7) (S:=is 7) (7,0) rfl bS ah (by decide) rfl rfl rfl o_to_ o55.flat (by decide) (by(simp;omega)) ?_
   intro g57 w58 v59 ch60 o61
   clear o_to_ cel47
   refine xp (v:=v59) 12 rfl (λw=>br rfl) (ec (by kernel_rfl) (al ?_))
   clear r48 o55
   refine a6 rfl (mz zs10 (lx (aM (m:=↑k) (n:=1) rfl rfl (by omega)) (ai ((k:Int)+1) (aa ?_))))
   have C63:=cg [7] (hb50.n.seq (ch54.n.seq (ch60.l rfl)))
   have C62:=ch44.n.seq C63
   refine back10 (v59,(to_++([(dJ p (gI (gI (bM g) (v:Int)) (k:Int)))]:List Pt)),k+1,g57) _ _ ⟨bH.ca C62,zs2,zs3,zs6,zs7,zs8,rfl,rfl,Rg.ca C62,Rp.ca C63,r_p_v1.ca C63,bx5.ca C62,bx10.ca C63,o24.ca C63,o31.ca C62,o61,by omega,?_⟩ ?_
   · show(to_++([(dJ p (gI (gI (bM g) (v:Int)) (k:Int)))]:List Pt))=((gI (bM g) (v:Int)).take (k+1)).map (dJ p)
     exact s9 htk ‹_›
   · show Int.toNat (((List.length (gI (bM g) (v:Int)):Int):Int)-((k+1):Int))<Int.toNat (((List.length (gI (bM g) (v:Int)):Int):Int)-(k:Int))
     omega
  refine ag rfl (df p10) (aJ rfl (a7 ?_))
  clear cel41 r42
  have hto:=tx htk ‹_›
  rw[hrow] at hto
  obtain⟨hok,hnz⟩:=nF hm hck hfew2 (v:Int)
  have hal:=iV hnz
  have hal3:(arL (gI p.1 ↑v) to_).length=to_.length:=by rw[hto,hal]
  have hok1:dy to_:=by rw[hto];exact hok
  have hnz1:jn (gI p.1 ↑v) to_:=by rw[hto];exact hnz
  have hal4:to_.length=(cU g (v:Int)).length:=by rw[hto];simp[fb]
  refine a6 rfl (lx (a8 ef rfl rfl zs3 rfl) (lx (ab cq rfl bx10 rfl) (mz zs8 (lx (ad (v:=p_v) (i:=↑v) bS rfl rfl Rp rfl (by omega) (by omega)) (lw (vg [vi ((gI p.1 ↑v).1),vi ((gI p.1 ↑v).2)]) (aF (v:=p_v) (i:=↑v) ah rfl Rp (by omega) (by omega) rfl) (mz zs9 (lo (bi (aA (vals:=[vg [vi ((gI p.1 ↑v).1),vi ((gI p.1 ↑v).2)],to__v]) Tryz.func43 wa xL rfl) (ov w38 (gI p.1 ↑v) to_ to__v (o_to_.flat).ro (by exact hck.sh.pt _ (by omega) (by omega)) (by exact hok1) (by exact hnz1)) ?_))))))))
  rintro⟨d65,v67⟩ w64 ⟨fr66,o68⟩
  obtain⟨g69,ch70,G69⟩:=fC g39 fr66 (λn=>if n=1 then 8 else 0)
  replace o68:=o68.gl G69 8
  refine ma v67 (aa (a7 (a6 rfl (ai 0 (aa (am ?_))))))
  refine aN (σ:=Nat×cT×aK) (λ⟨i,Q,gq⟩ f w=>aT w0 gq w/\f 2=vp b3 0/\f 3=vp b8 0/\f 6=v23/\f 7=v29/\f 8=vi ↑v/\f 9=to__v/\f 11=v67/\f 12=vi ↑i/\Sl gq (is 0) w g_v g.2/\Sl gq (is 0) w p_v p.1/\Sl gq (is 0) w p_v1 p.2/\Bx gq (is 1) w b3 [vi g.1,g_v]/\Bx gq (is 2) w b8 [p_v,p_v1]/\dr gq 4 w v23 (bM g)/\dr gq 5 w v29 Q/\Ow gq (is 7) (is 7) w to__v to_/\Ow gq (is 8) (is 8) w v67 (arL (gI p.1 ↑v) to_)/\(i:Int)<=((List.length (arL (gI p.1 ↑v) to_):Int):Int)/\(nC g p Q v i)) (λ⟨i,Q,gq⟩=>Int.toNat (((List.length (arL (gI p.1 ↑v) to_):Int):Int)-(i:Int))) (0,R,g69) ?_ ?_
  · exact⟨bH.cn ch70,zs2,zs3,zs6,zs7,zs8,zs9,rfl,rfl,Rg.cn ch70,Rp.cn ch70,r_p_v1.cn ch70,bx5.cn ch70,bx10.cn ch70,o24.cn ch70,o31.cn ch70,o_to_.cn ch70,o68,by omega,by exact hT.row hvn⟩
  clear Rg Rp r_p_v1 bx5 bx10 o24 o31 o_to_ o68 bH
  rintro⟨i,Q,g73⟩ f71 w72 ⟨bH,zs2,zs3,zs6,zs7,zs8,zs9,zs11,zs12,Rg,Rp,r_p_v1,bx5,bx10,o24,o31,o_to_,o68,hle_i,hB⟩ back15
  have hBl:=hB.len
  have hBn:(gI Q ↑v).length<=i:=by rw[hB.now.1,List.length_map,List.length_take];omega
  have hk0:∀x:Int,0<=x->x<(arL (gI p.1 ↑v) to_).length->0<=gI (arL (gI p.1 ↑v) to_) x/\gI (arL (gI p.1 ↑v) to_) x<(to_.length:Int):=λx h0 h1=>nL hnz1 h0 (by omega)
  refine a7 (a7 (a6 rfl (mz zs12 (mz zs11 ?_))))
  have len74:=(o68.flat).small
  refine lx (aQ cS rfl o68.flat) (lx (aZ (m:=↑i) (n:=(List.length (arL (gI p.1 ↑v) to_):Int)) rfl rfl) (aa ?_))
  by_cases p15:(i:Int)<(List.length (arL (gI p.1 ↑v) to_):Int)
  ·
   refine af rfl (dt p15) ?_
   obtain⟨hk3,hk4⟩:=hk0 (i:Int) (by omega) ‹_›
   refine ak (a7 (am (a7 (a7 (bz g73 rfl jD (by kernel_rfl) ?_)))))
   intro w76 ch75
   refine qz zs12 (qx (λw' hw'=>d8 (m:=↑i) (n:=0) rfl rfl) (qm (vb (decide (0<(i:Int)))) ?_))
   by_cases q65:0<(i:Int)
   ·
    obtain⟨hk1,hk2⟩:=hk0 ((i:Int)-1) (by omega) (by omega)
    refine aH (v:=vp b8 0) (wy (dt q65)) (λw' hw'=>a8 ef rfl rfl zs3 rfl) ?_
    replace bx10:=bx10.cn ch75
    refine aH (v:=p_v) (wy (dt q65)) (λw' hw'=>ab cq rfl (bx10.bel hw') rfl) (aH (v:=vi ↑v) (wy (dt q65)) (λw' hw'=>aq zs8) ?_)
    replace Rp:=Rp.cn ch75
    refine aH (v:=Value.pointer (some (aR p_v 2 (Int.toNat ↑v)))) (wy (dt q65)) (λw' hw'=>ad (α:=Pt) (xs:=p.1) (v:=p_v) (i:=↑v) bS rfl rfl (Rp.bel hw') rfl (by omega) (by omega)) (aH (v:=vg [vi ((gI p.1 ↑v).1),vi ((gI p.1 ↑v).2)]) (wy (dt q65)) (λw' hw'=>aF (α:=Pt) (xs:=p.1) (v:=p_v) (i:=↑v) ah rfl (Rp.bel hw') (by omega) (by omega) rfl) (aH (v:=to__v) (wy (dt q65)) (λw' hw'=>aq zs9) (aH (v:=v67) (wy (dt q65)) (λw' hw'=>aq zs11) (aH (v:=vi ↑i) (wy (dt q65)) (λw' hw'=>aq zs12) ?_))))
    refine aH (v:=vi ((i:Int)-1)) (wy (dt q65)) (λw' hw'=>c3 (m:=↑i) (n:=1) rfl rfl (by omega)) ?_
    replace o68:=o68.cn ch75
    refine aH (v:=Value.pointer (some (aR v67 1 (Int.toNat ((i:Int)-1))))) (wy (dt q65)) (λw' hw'=>ad (α:=Int) (xs:=arL (gI p.1 ↑v) to_) (v:=v67) (i:=(i:Int)-1) cS rfl rfl (o68.flat.bel hw') rfl (by omega) (by omega)) (aH (v:=vi (gI (arL (gI p.1 ↑v) to_) ((i:Int)-1))) (wy (dt q65)) (λw' hw'=>bA (α:=Int) (xs:=arL (gI p.1 ↑v) to_) (v:=v67) (i:=(i:Int)-1) az rfl (o68.flat.bel hw') (by omega) (by omega) (by decide) rfl) ?_)
    replace o_to_:=o_to_.cn ch75
    refine aH (v:=Value.pointer (some (aR to__v 2 (Int.toNat (gI (arL (gI p.1 ↑v) to_) ((i:Int)-1)))))) (wy (dt q65)) (λw' hw'=>ad (α:=Pt) (xs:=to_) (v:=to__v) (i:=(gI (arL (gI p.1 ↑v) to_) ((i:Int)-1))) bS rfl rfl (o_to_.flat.bel hw') rfl (by omega) (by omega)) (aH (v:=vg [vi ((gI to_ (gI (arL (gI p.1 ↑v) to_) ((i:Int)-1))).1),vi ((gI to_ (gI (arL (gI p.1 ↑v) to_) ((i:Int)-1))).2)]) (wy (dt q65)) (λw' hw'=>aF (α:=Pt) (xs:=to_) (v:=to__v) (i:=(gI (arL (gI p.1 ↑v) to_) ((i:Int)-1))) ah rfl (o_to_.flat.bel hw') (by omega) (by omega) rfl) (aH (v:=to__v) (wy (dt q65)) (λw' hw'=>aq zs9) ?_))
    refine aH (v:=v67) (wy (dt q65)) (λw' hw'=>aq zs11) (aH (v:=vi ↑i) (wy (dt q65)) (λw' hw'=>aq zs12) (aH (v:=Value.pointer (some (aR v67 1 (Int.toNat ↑i)))) (wy (dt q65)) (λw' hw'=>ad (α:=Int) (xs:=arL (gI p.1 ↑v) to_) (v:=v67) (i:=↑i) cS rfl rfl (o68.flat.bel hw') rfl (by omega) (by omega)) (aH (v:=vi (gI (arL (gI p.1 ↑v) to_) (i:Int))) (wy (dt q65)) (λw' hw'=>bA (α:=Int) (xs:=arL (gI p.1 ↑v) to_) (v:=v67) (i:=↑i) az rfl (o68.flat.bel hw') (by omega) (by omega) (by decide) rfl) ?_)))
    refine aH (v:=Value.pointer (some (aR to__v 2 (Int.toNat (gI (arL (gI p.1 ↑v) to_) (i:Int)))))) (wy (dt q65)) (λw' hw'=>ad (α:=Pt) (xs:=to_) (v:=to__v) (i:=(gI (arL (gI p.1 ↑v) to_) (i:Int))) bS rfl rfl (o_to_.flat.bel hw') rfl (by omega) (by omega)) (aH (v:=vg [vi ((gI to_ (gI (arL (gI p.1 ↑v) to_) (i:Int))).1),vi ((gI to_ (gI (arL (gI p.1 ↑v) to_) (i:Int))).2)]) (wy (dt q65)) (λw' hw'=>aF (α:=Pt) (xs:=to_) (v:=to__v) (i:=(gI (arL (gI p.1 ↑v) to_) (i:Int))) ah rfl (o_to_.flat.bel hw') (by omega) (by omega) rfl) ?_)
    refine cl (v:=vb (decide (eJ (aY (gI to_ (gI (arL (gI p.1 ↑v) to_) ((i:Int)-1))) (gI p.1 ↑v)) (aY (gI to_ (gI (arL (gI p.1 ↑v) to_) (i:Int))) (gI p.1 ↑v))=0))) (wy (dt q65)) (λw' hw'=>aA (vals:=[vg [vi ((gI p.1 ↑v).1),vi ((gI p.1 ↑v).2)],vg [vi ((gI to_ (gI (arL (gI p.1 ↑v) to_) ((i:Int)-1))).1),vi ((gI to_ (gI (arL (gI p.1 ↑v) to_) ((i:Int)-1))).2)],vg [vi ((gI to_ (gI (arL (gI p.1 ↑v) to_) (i:Int))).1),vi ((gI to_ (gI (arL (gI p.1 ↑v) to_) (i:Int))).2)]]) Tryz.func44 x8 wj rfl) (λw' hw'=>(qg w' (gI p.1 ↑v) (gI to_ (gI (arL (gI p.1 ↑v) to_) ((i:Int)-1))) (gI to_ (gI (arL (gI p.1 ↑v) to_) (i:Int))) (by exact hck.sh.pt _ (by omega) (by omega)) (by exact hok1.2 _ (bk hk1 hk2)) (by exact hok1.2 _ (bk hk3 hk4))).mono λe w2 h2=>⟨h2.1,hw'.trans (h2.2.mono hw'.size)⟩) ?_
    refine qv (vb (decide (eJ (aY (gI to_ (gI (arL (gI p.1 ↑v) to_) ((i:Int)-1))) (gI p.1 ↑v)) (aY (gI to_ (gI (arL (gI p.1 ↑v) to_) (i:Int))) (gI p.1 ↑v))=0))) (λw' hw'=>aD rfl (dt q65) rfl) (bN ?_)
    intro w77 hc78
    replace hc78:=ao hc78 g73
    by_cases p17:(decide (eJ (aY (gI to_ (gI (arL (gI p.1 ↑v) to_) ((i:Int)-1))) (gI p.1 ↑v)) (aY (gI to_ (gI (arL (gI p.1 ↑v) to_) (i:Int))) (gI p.1 ↑v))=0))=true
    ·
     refine af rfl p17 (a7 ?_)
     clear bx5 bx10 o24 o31 o_to_ o68
     refine a6 rfl (ma vn (ai 24 (aa (ar (vs:=[vn,vi 24]) Tryz.func16 (.tmp rfl (.tmp rfl .nil)) ?_))))
     replace bH:=bH.cn ch75
     replace bH:=bH.cn hc78
     have e0:([]:cT)=((turnsR g p).1):=by
       rw[fV hm hck0 (nw.bad (v:=v) (by omega) hnz (i:=i) (by rw[<-hto];omega) ‹_› (by rw[<-hto];exact dt ((mc (hnz1.nz hk1 hk2) (hnz1.nz hk3 hk4)).1 (of_decide_eq_true ‹_›))))]
     have e1:(24:Int)=((turnsR g p).2):=by
       rw[fV hm hck0 (nw.bad (v:=v) (by omega) hnz (i:=i) (by rw[<-hto];omega) ‹_› (by rw[<-hto];exact dt ((mc (hnz1.nz hk1 hk2) (hnz1.nz hk3 hk4)).1 (of_decide_eq_true ‹_›))))]
     exact⟨(fin w0 g73 (λn=>0),vn),(bR (a:=[]) (b:=24) (λ(z0:cT) (z1:Int)=>Ending.returned (vt [vn,vi z1])) e0 e1),bH.fresh _,(e0▸dr.nil)⟩
    refine ag rfl (Bool.eq_false_iff.2 p17) (ak (c6 g73 [0,1,2,3,4,5,6,7,8,9,10,11,12,13,14,15,18] jD ?_))
    intro w80 ch79
    refine xp (v:=v29) 0 rfl (λw=>aq zs7) (xp (v:=vi ↑v) 1 rfl (λw=>aq zs8) (xp (v:=v29) 2 rfl (λw=>aq zs7) (xp (v:=vi ↑v) 3 rfl (λw=>aq zs8) ?_)))
    have C81:=cg [] (ch75.n.seq (hc78.n.seq ch79.n))
    replace o31:=o31.ca C81
    refine xh 4 [3,2,1,0,6,7,10,11,8,12,9,13,14,15,16] rfl (λw' hw'=>ad (v:=v29) (i:=↑v) ik rfl rfl (o31.sl.bel hw') rfl (by omega) (by omega)) ?_
    obtain⟨v82,cel83,r84⟩:=cD (r:=(v:Int)) o31 (by omega) (by omega)
    refine xh 5 [4,3,2,1,0,6,7,10,11,8,12,9,13,14,15,16] rfl (λw' hw'=>ba c4 rfl (e7 cel83 hw')) (xp (v:=v23) 6 rfl (λw=>aq zs6) (xp (v:=vi ↑v) 7 rfl (λw=>aq zs8) ?_))
    replace o24:=o24.ca C81
    refine xv 8 [7,6,5,4,3,2,1,0,10,11,12,13] rfl (ad (v:=v23) (i:=↑v) gM rfl rfl o24.sl rfl (by omega) (by omega)) ?_
    obtain⟨v85,cel86,r87⟩:=cD (r:=(v:Int)) o24 (by omega) (by omega)
    refine xv 9 [8,7,6,5,4,3,2,1,0,10,11,12,13] rfl (ba c4 rfl cel86) (xp (v:=v67) 10 rfl (λw=>aq zs11) (xp (v:=vi ↑i) 11 rfl (λw=>aq zs12) ?_))
    replace o68:=(o68.cn hc78).cn ch79
    refine xv 12 [11,10,9,8,7,6,5,4,3,2,1,0] rfl (ad (v:=v67) (i:=↑i) cS rfl rfl o68.flat rfl (by omega) (by omega)) (xv 13 [12,11,10,9,8,7,6,5,4,3,2,1,0] rfl (bA (v:=v67) (i:=↑i) az rfl o68.flat (by omega) (by omega) (by decide) rfl) (xv 14 [13,12,11,10,9,8,7,6,5,4,3,2,1,0] rfl (ad (v:=v85) (i:=(gI (arL (gI p.1 ↑v) to_) (i:Int))) cS rfl rfl r87.row_sl rfl (by omega) (by omega)) (xv 15 [14,13,12,11,10,9,8,7,6,5,4,3,2,1,0] rfl (bA (v:=v85) (i:=(gI (arL (gI p.1 ↑v) to_) (i:Int))) az rfl r87.row_sl (by omega) (by omega) (by decide) rfl) (ct 16 rfl (by kernel_rfl) rfl ?_))))
    refine aG (α:=Int) g73 (is 9) (is 9) (9,0) rfl ([(gI (gI (bM g) (v:Int)) (gI (arL (gI p.1 ↑v) to_) (i:Int)))]:List Int) cS az (by decide) (by decide) (vs:=[(0,vi (gI (gI (bM g) (v:Int)) (gI (arL (gI p.1 ↑v) to_) (i:Int))))]) rfl rfl (.cons rfl .nil) ?_
    intro g88 w89 v90 ch91 o92
    refine ct 17 rfl (by kernel_rfl) rfl ?_
    replace o31:=o31.cn ch91
    replace r84:=r84.cn ch91
    refine aV (α:=Int) (xs:=(gI Q ↑v)) (ys:=([(gI (gI (bM g) (v:Int)) (gI (arL (gI p.1 ↑v) to_) (i:Int)))]:List Int)) g88 (J:=row 5 (Int.toNat ↑v+1)) (S:=row 5 (Int.toNat ↑v+1)) (5,Int.toNat ↑v+1) rfl cS az (by decide) rfl rfl rfl r84 o92.flat (by decide) (by(simp;omega)) ?_
    intro g93 w94 v95 ch96 o97
    have o98:=o31.rowchg ch96
    clear o31 cel83 r84 cel86
    obtain⟨us99,hl100,r101⟩:=o98.vc
    try simp only[List.length_set,List.length_append,List.length_cons,List.length_nil] at hl100
    refine xv 18 [17,16,15,14,13,12,11,10,9,8,7,6,5,4,3,2,1,0] rfl (ad (v:=v29) (i:=↑v) ik rfl rfl r101 rfl (by omega) (by omega)) (ct 19 rfl (by kernel_rfl) rfl (cQ (r:=(v:Int)) c4 rfl rfl o98 o97 (by omega) (by omega) ?_))
    intro w105 ch106 o107
    clear o98 o97
    refine ec (by kernel_rfl) (al ?_)
    clear r87 o92
    refine a6 rfl (mz zs12 (lx (aM (m:=↑i) (n:=1) rfl rfl (by omega)) (ai ((i:Int)+1) (aa ?_))))
    have C110:=cg [5] (ch91.n.seq ((ch96.lr rfl).seq (ch106.l rfl)))
    have C109:=hc78.n.seq (ch79.n.seq C110)
    have C108:=ch75.n.seq C109
    refine back15 (i+1,(List.set Q (Int.toNat ↑v) (gI Q ↑v++([(gI (gI (bM g) (v:Int)) (gI (arL (gI p.1 ↑v) to_) (i:Int)))]:List Int))),g93) _ _ ⟨bH.ca C108,zs2,zs3,zs6,zs7,zs8,zs9,zs11,rfl,Rg.ca C108,Rp.ca C109,r_p_v1.ca C108,bx5.ca C108,bx10.ca C109,o24.ca C110,o107,o_to_.ca C109,o68.ca C110,by omega,?_⟩ ?_
    · show nC g p (List.set Q (Int.toNat ↑v) (gI Q ↑v++([(gI (gI (bM g) (v:Int)) (gI (arL (gI p.1 ↑v) to_) (i:Int)))]:List Int))) v (i+1)
      (rw[hrow]
       rw[hto]
       refine hB.next hvn (by rw[<-hto];assumption) ?_
       (refine .inr λc=>?_
        rw[<-hto] at c
        exact(by assumption:¬decide _=true) (dt ((mc (hnz1.nz hk1 hk2) (hnz1.nz hk3 hk4)).2 (of_decide_eq_true c)))))
    · show Int.toNat (((List.length (arL (gI p.1 ↑v) to_):Int):Int)-((i+1):Int))<Int.toNat (((List.length (arL (gI p.1 ↑v) to_):Int):Int)-(i:Int))
      omega
   refine av (wn (df q65)) (av (wn (df q65)) (av (wn (df q65)) (av (wn (df q65)) (av (wn (df q65)) (av (wn (df q65)) (av (wn (df q65)) (av (wn (df q65)) (av (wn (df q65)) (av (wn (df q65)) ?_)))))))))
   refine av (wn (df q65)) (av (wn (df q65)) (av (wn (df q65)) (av (wn (df q65)) (av (wn (df q65)) (av (wn (df q65)) (av (wn (df q65)) (av (wn (df q65)) (av (wn (df q65)) (av (wn (df q65)) ?_)))))))))
   refine av (wn (df q65)) (qv (vb false) (λw' hw'=>aB rfl (df q65) rfl) (bN ?_))
   intro w111 hc112
   replace hc112:=ao hc112 g73
   refine ag rfl rfl (ak (c6 g73 [0,1,2,3,4,5,6,7,8,9,10,11,12,13,14,15,18] jD ?_))
   intro w114 ch113
   refine xp (v:=v29) 0 rfl (λw=>aq zs7) (xp (v:=vi ↑v) 1 rfl (λw=>aq zs8) (xp (v:=v29) 2 rfl (λw=>aq zs7) (xp (v:=vi ↑v) 3 rfl (λw=>aq zs8) ?_)))
   have C115:=cg [] (ch75.n.seq (hc112.n.seq ch113.n))
   replace o31:=o31.ca C115
   refine xh 4 [3,2,1,0,6,7,10,11,8,12,9,13,14,15,16] rfl (λw' hw'=>ad (v:=v29) (i:=↑v) ik rfl rfl (o31.sl.bel hw') rfl (by omega) (by omega)) ?_
   obtain⟨v116,cel117,r118⟩:=cD (r:=(v:Int)) o31 (by omega) (by omega)
   refine xh 5 [4,3,2,1,0,6,7,10,11,8,12,9,13,14,15,16] rfl (λw' hw'=>ba c4 rfl (e7 cel117 hw')) (xp (v:=v23) 6 rfl (λw=>aq zs6) (xp (v:=vi ↑v) 7 rfl (λw=>aq zs8) ?_))
   replace o24:=o24.ca C115
   refine xv 8 [7,6,5,4,3,2,1,0,10,11,12,13] rfl (ad (v:=v23) (i:=↑v) gM rfl rfl o24.sl rfl (by omega) (by omega)) ?_
   obtain⟨v119,cel120,r121⟩:=cD (r:=(v:Int)) o24 (by omega) (by omega)
   refine xv 9 [8,7,6,5,4,3,2,1,0,10,11,12,13] rfl (ba c4 rfl cel120) (xp (v:=v67) 10 rfl (λw=>aq zs11) (xp (v:=vi ↑i) 11 rfl (λw=>aq zs12) ?_))
   replace o68:=o68.ca C115
   refine xv 12 [11,10,9,8,7,6,5,4,3,2,1,0] rfl (ad (v:=v67) (i:=↑i) cS rfl rfl o68.flat rfl (by omega) (by omega)) (xv 13 [12,11,10,9,8,7,6,5,4,3,2,1,0] rfl (bA (v:=v67) (i:=↑i) az rfl o68.flat (by omega) (by omega) (by decide) rfl) (xv 14 [13,12,11,10,9,8,7,6,5,4,3,2,1,0] rfl (ad (v:=v119) (i:=(gI (arL (gI p.1 ↑v) to_) (i:Int))) cS rfl rfl r121.row_sl rfl (by omega) (by omega)) (xv 15 [14,13,12,11,10,9,8,7,6,5,4,3,2,1,0] rfl (bA (v:=v119) (i:=(gI (arL (gI p.1 ↑v) to_) (i:Int))) az rfl r121.row_sl (by omega) (by omega) (by decide) rfl) (ct 16 rfl (by kernel_rfl) rfl ?_))))
   refine aG (α:=Int) g73 (is 9) (is 9) (9,0) rfl ([(gI (gI (bM g) (v:Int)) (gI (arL (gI p.1 ↑v) to_) (i:Int)))]:List Int) cS az (by decide) (by decide) (vs:=[(0,vi (gI (gI (bM g) (v:Int)) (gI (arL (gI p.1 ↑v) to_) (i:Int))))]) rfl rfl (.cons rfl .nil) ?_
   intro g122 w123 v124 ch125 o126
   refine ct 17 rfl (by kernel_rfl) rfl ?_
   replace o31:=o31.cn ch125
   replace r118:=r118.cn ch125
   refine aV (α:=Int) (xs:=(gI Q ↑v)) (ys:=([(gI (gI (bM g) (v:Int)) (gI (arL (gI p.1 ↑v) to_) (i:Int)))]:List Int)) g122 (J:=row 5 (Int.toNat ↑v+1)) (S:=row 5 (Int.toNat ↑v+1)) (5,Int.toNat ↑v+1) rfl cS az (by decide) rfl rfl rfl r118 o126.flat (by decide) (by(simp;omega)) ?_
   intro g127 w128 v129 ch130 o131
   have o132:=o31.rowchg ch130
   clear o31 cel117 r118 cel120
   obtain⟨us133,hl134,r135⟩:=o132.vc
   try simp only[List.length_set,List.length_append,List.length_cons,List.length_nil] at hl134
   refine xv 18 [17,16,15,14,13,12,11,10,9,8,7,6,5,4,3,2,1,0] rfl (ad (v:=v29) (i:=↑v) ik rfl rfl r135 rfl (by omega) (by omega)) (ct 19 rfl (by kernel_rfl) rfl (cQ (r:=(v:Int)) c4 rfl rfl o132 o131 (by omega) (by omega) ?_))
   intro w139 ch140 o141
   clear o132 o131
   refine ec (by kernel_rfl) (al ?_)
   clear r121 o126
   refine a6 rfl (mz zs12 (lx (aM (m:=↑i) (n:=1) rfl rfl (by omega)) (ai ((i:Int)+1) (aa ?_))))
   have C143:=cg [5] (ch125.n.seq ((ch130.lr rfl).seq (ch140.l rfl)))
   have C142:=ch75.n.seq (hc112.n.seq (ch113.n.seq C143))
   refine back15 (i+1,(List.set Q (Int.toNat ↑v) (gI Q ↑v++([(gI (gI (bM g) (v:Int)) (gI (arL (gI p.1 ↑v) to_) (i:Int)))]:List Int))),g127) _ _ ⟨bH.ca C142,zs2,zs3,zs6,zs7,zs8,zs9,zs11,rfl,Rg.ca C142,Rp.ca C142,r_p_v1.ca C142,bx5.ca C142,bx10.ca C142,o24.ca C143,o141,o_to_.ca C142,o68.ca C143,by omega,?_⟩ ?_
   · show nC g p (List.set Q (Int.toNat ↑v) (gI Q ↑v++([(gI (gI (bM g) (v:Int)) (gI (arL (gI p.1 ↑v) to_) (i:Int)))]:List Int))) v (i+1)
     (rw[hrow]
      rw[hto]
      refine hB.next hvn (by rw[<-hto];assumption) ?_
      exact .inl ‹_›)
   · show Int.toNat (((List.length (arL (gI p.1 ↑v) to_):Int):Int)-((i+1):Int))<Int.toNat (((List.length (arL (gI p.1 ↑v) to_):Int):Int)-(i:Int))
     omega
  refine ag rfl (df p15) (aJ rfl (al ?_))
  clear o_to_ o68
  refine a6 rfl (mz zs8 (lx (aM (m:=↑v) (n:=1) rfl rfl (by omega)) (ai ((v:Int)+1) (aa ?_))))
  refine back6 (v+1,Q,g73) _ _ ⟨bH,zs2,zs3,zs6,zs7,rfl,Rg,Rp,r_p_v1,bx5,bx10,o24,o31,by omega,?_⟩ ?_
  · show mu g p Q (v+1)
    exact hB.fin hnz (by rw[<-hto];assumption)
  · show Int.toNat ((g.1:Int)-((v+1):Int))<Int.toNat ((g.1:Int)-(v:Int))
    omega
 refine ag rfl (df p6) (aJ rfl (a7 ?_))
 clear bx5 bx10 o24
 refine a6 rfl (mz zs7 (lo (bi (aA (vals:=[v29]) Tryz.func45 qp pS rfl) (kz w35 R v29 (o31.sl).ro) ?_)))
 rintro⟨d145,v147⟩ w144 ⟨fr146,o148⟩
 obtain⟨g149,ch150,G149⟩:=fC g36 fr146 (λn=>if n=1 then 10 else 0)
 replace o148:=o148.gl G149 10
 refine ma v147 (ai 0 (aa (ar (vs:=[v147,vi 0]) Tryz.func16 (.tmp rfl (.tmp rfl .nil)) ?_)))
 replace bH:=bH.cn ch150
 have e0:(aU R:cT)=((turnsR g p).1):=by
   (obtain⟨hR1,hR2⟩:=hT.fin hm ‹_›;((rw[gY hm hck0 hR2,hR1];done)))
 have e1:(0:Int)=((turnsR g p).2):=by
   (obtain⟨hR1,hR2⟩:=hT.fin hm ‹_›;((rw[gY hm hck0 hR2];done)))
 exact⟨(fin w0 g149 (λn=>if n=10 then 1 else 0),v147),(bR (a:=aU R) (b:=0) (λ(z0:cT) (z1:Int)=>Ending.returned (vt [v147,vi z1])) e0 e1),bH.fresh _,(e0▸(o148.glue (γ:=c0) (ren:=(λn=>if n=10 then 1 else 0)) (k:=1) bH.col rfl rfl))⟩
end TL
