import Derived.Test.YtmaclbnodbcniaaFmTlP3
import Derived.Test.YtmaclbnodbcniaaFmTlFwA
import Derived.Test.YtmaclbnodbcniaaFmTlFwL
import Derived.Test.YtmaclbnodbcniaaFmTlFwR
import Derived.Test.YtmaclbnodbcniaaFmTlFwYa
import Derived.Test.YtmaclbnodbcniaaFmTlFwYb
import Derived.Test.YtmaclbnodbcniaaProg
import Derived.Test.YtmaclbnodbcniaaFmTlAli
set_option linter.all false
set_option maxRecDepth 20000
namespace TL
open Go Go.Proofs
theorem i7:Try.prog.follows .mixedOrders=true:=by kernel_rfl
theorem je:Try.f32.body.isNone=false:=rfl
theorem jx:(Try.f32.name== "runtime.NumGoroutine")=false:=by decide+kernel
set_option maxHeartbeats 8000000 in
theorem gG:∀(fu:Nat) {b30:Nat} {vP:Int} {mP:Int} {w0:World} {t_v:Value} {t:(Int)×(List ((Int)×(Int)×(Int)×(Int)))×(List Int)} {t_v1:Value} {b3:Nat} {v24:Value} {O2_c1:eZ} {v25:Value} {xP:List Int} {v26:Value} {xL:List Int} {v27:Value} {W2_c1_v:Value} {ak_c1:Int} {fl1:Int} {Wr:List bq} {Nr:List Int} {g1001:aG} {w1003:World} (bH:b9 w0 g1001 w1003) (Rt:Sl g1001 (is 0) w1003 t_v t.2.1) (r_t_v1:Sl g1001 (is 0) w1003 t_v1 t.2.2) (bx5:Bx g1001 (is 1) w1003 b3 [vi t.1,t_v,t_v1]) (o20:bN g1001 3 w1003 v24 O2_c1) (o21:Ow g1001 (is 4) (is 4) w1003 v25 xP) (o22:Ow g1001 (is 5) (is 5) w1003 v26 xL) (o23:Ow g1001 (is 6) (is 6) w1003 v27 Nr) (bx32:Bx g1001 (is 7) w1003 b30 [W2_c1_v,v24,v25,v26,v27,vi t.1,vi (t.1+1),vi ak_c1,vi fl1]) (o_W2_c1:Ow g1001 (is 11) (is 11) w1003 W2_c1_v Wr) (hpu:qo (t.1+2) (t.1+1) O2_c1 xP xL fu vP mP Wr Nr),
    Calls Try.prog 32 (List.toArray [vp b30 0,vi vP,vi mP]) w1003 (λee w=>∃xx:(List bq)×(List Int)×Int×aG,ee= .returned ((λ⟨xW_c20,xn_c20,rr_c20,gq⟩=>vi rr_c20) xx)/\(λ(⟨xW_c20,xn_c20,rr_c20,gq⟩:(List bq)×(List Int)×Int×aG) (w:World)=>b9 w0 gq w/\Sl gq (is 0) w t_v t.2.1/\Sl gq (is 0) w t_v1 t.2.2/\Bx gq (is 1) w b3 [vi t.1,t_v,t_v1]/\bN gq 3 w v24 O2_c1/\Ow gq (is 4) (is 4) w v25 xP/\Ow gq (is 5) (is 5) w v26 xL/\Ow gq (is 6) (is 6) w v27 xn_c20/\Bx gq (is 7) w b30 [W2_c1_v,v24,v25,v26,v27,vi t.1,vi (t.1+1),vi ak_c1,vi fl1]/\Ow gq (is 11) (is 11) w W2_c1_v xW_c20/\(rr_c20=(cL O2_c1 xP xL (t.1+1) fu vP mP Wr Nr).1/\xW_c20=(cL O2_c1 xP xL (t.1+1) fu vP mP Wr Nr).2.1/\xn_c20=(cL O2_c1 xP xL (t.1+1) fu vP mP Wr Nr).2.2)) xx w):=by
 intro fu
 induction fu using Nat.strongRecOn
 rename_i fu ih
 intro b30 vP mP w0 t_v t t_v1 b3 v24 O2_c1 v25 xP v26 xL v27 W2_c1_v ak_c1 fl1 Wr Nr g1001 w1003 bH Rt r_t_v1 bx5 o20 o21 o22 o23 bx32 o_W2_c1 hpu
 refine aC Try.func32 rfl nq ?_
 obtain⟨hpol,hpnl,hpwl⟩:=hpu.pos
 have hppl:=hpu.pl
 have hpll:=hpu.ll
 have hpv0:=hpu.v0
 have hpv1:=hpu.v1
 have hpt0:=hpu.t0
 have hpt1:=hpu.t1
 have hpm0:=hpu.m0
 have hpm1:=hpu.m1
 have hpn2:=hpu.n2b
 refine a9 (a6 rfl (ai 0 (af (a9 (a9 (a6 rfl (mi vP (mv (vp b30 0) (lw (vp b30 0) (ad rfl) ?_)))))))))
 refine lx (a7 bB rfl rfl rfl rfl) (lx (a8 ae rfl bx32 rfl) (lx (cw (m:=vP) (n:=t.1+1) rfl rfl) (af ?_)))
 by_cases p1_c20:vP=(t.1+1)
 ·
  refine aj rfl (dt p1_c20) (a9 (a6 rfl (mi mP (ai mP (af (aF (vs:=[vi mP]) Try.func32 (.tmp rfl .nil) ?_))))))
  refine⟨(Wr,Nr,mP,g1001),rfl,bH,Rt,r_t_v1,bx5,o20,o21,o22,o23,bx32,o_W2_c1,?_⟩
  show mP=(cL O2_c1 xP xL (t.1+1) fu vP mP Wr Nr).1/\Wr=(cL O2_c1 xP xL (t.1+1) fu vP mP Wr Nr).2.1/\Nr=(cL O2_c1 xP xL (t.1+1) fu vP mP Wr Nr).2.2
  (rw[oC hpu ‹_›];exact⟨rfl,rfl,rfl⟩)
 refine am rfl (df p1_c20) (au (a9 (av ?_)))
 refine aX (σ:=(List Int)×(List bq)×aG) (λ⟨Nq,Wq,gq⟩ f w=>b9 w0 gq w/\f 0=vp b30 0/\f 1=vi vP/\f 2=vi mP/\Sl gq (is 0) w t_v t.2.1/\Sl gq (is 0) w t_v1 t.2.2/\Bx gq (is 1) w b3 [vi t.1,t_v,t_v1]/\bN gq 3 w v24 O2_c1/\Ow gq (is 4) (is 4) w v25 xP/\Ow gq (is 5) (is 5) w v26 xL/\Ow gq (is 6) (is 6) w v27 Nq/\Bx gq (is 7) w b30 [W2_c1_v,v24,v25,v26,v27,vi t.1,vi (t.1+1),vi ak_c1,vi fl1]/\Ow gq (is 11) (is 11) w W2_c1_v Wq/\(iO (t.1+2) (t.1+1) vP mP O2_c1 xP xL fu (cL O2_c1 xP xL (t.1+1) fu vP mP Wr Nr) Wq Nq)) (λ⟨Nq,Wq,gq⟩=>((gI O2_c1 vP).length-(gI Nq vP).toNat)) (Nr,Wr,g1001) ?_ ?_
 · exact⟨bH,rfl,rfl,rfl,Rt,r_t_v1,bx5,o20,o21,o22,o23,bx32,o_W2_c1,by exact iO.start hpu ‹_›⟩
 clear Rt r_t_v1 bx5 o20 o21 o22 o23 bx32 o_W2_c1 bH
 rintro⟨Nq,Wq,g1006⟩ f1004 w1005 ⟨bH,zs0_c20,zs1_c20,zs2_c20,Rt,r_t_v1,bx5,o20,o21,o22,o23,bx32,o_W2_c1,hpw⟩ back3_c20
 obtain⟨hql1,hql2,hql3,hql4,hql5,hql6⟩:=hpw.lens
 refine a9 (a9 (bt g1006 rfl i7 (by kernel_rfl) ?_))
 intro w1008 ch1007
 refine qz zs0_c20 (qv (vp b30 0) (λw' hw'=>ad rfl) (qx (λw' hw'=>a7 bB rfl rfl rfl rfl) ?_))
 replace bx32:=bx32.cn ch1007
 refine qx (λw' hw'=>a8 ao rfl (bx32.bel hw') rfl) (qz zs1_c20 ?_)
 replace o23:=o23.cn ch1007
 refine qx (λw' hw'=>aa (v:=v27) (i:=vP) aW rfl rfl (o23.flat.bel hw') rfl (by omega) (by omega)) (qx (λw' hw'=>ay (v:=v27) (i:=vP) ae rfl (o23.flat.bel hw') (by omega) (by omega) (by decide) rfl) (qz zs0_c20 (qv (vp b30 0) (λw' hw'=>ad rfl) (qx (λw' hw'=>a7 bB rfl rfl rfl rfl) (qx (λw' hw'=>a8 bv rfl (bx32.bel hw') rfl) (qz zs1_c20 ?_))))))
 replace o20:=o20.cn ch1007
 refine qx (λw' hw'=>aa (v:=v24) (i:=vP) c5 rfl rfl (o20.sl.bel hw') rfl (by omega) (by omega)) ?_
 obtain⟨v1009,cel1010,r1011⟩:=bC (r:=vP) o20 (by omega) (by omega)
 refine qx (λw' hw'=>bb ao rfl (bW cel1010 hw')) ?_
 have len1012:=(r1011.row_sl).small
 refine qx (λw' hw'=>ba aW rfl (r1011.row_sl.bel hw')) (qx (λw' hw'=>bo (m:=(gI Nq vP)) (n:=(List.length (gI O2_c1 vP):Int)) rfl rfl) (bX ?_))
 intro w1013 hc1014
 replace hc1014:=aB hc1014 g1006
 by_cases p3_c20:(gI Nq vP)<(List.length (gI O2_c1 vP):Int)
 ·
  refine aj rfl (dt p3_c20) (au (a9 (av (a9 ?_))))
  clear cel1010 r1011
  obtain⟨⟨hy0,hy1⟩,⟨hy2,hy3⟩,⟨hy4,hy5⟩,⟨hy6,hy7⟩,⟨hy8,hy9⟩,hya,hyb⟩:=hpw.way ‹_›
  have hpo1:=hpu.pb vP hpv0 hpv1
  have hpo2:=hpu.pb _ hy4 hy5
  refine bt g1006 rfl i7 (by kernel_rfl) ?_
  intro w1016 ch1015
  refine qz zs0_c20 (qv (vp b30 0) (λw' hw'=>ad rfl) (qx (λw' hw'=>a7 bB rfl rfl rfl rfl) ?_))
  replace bx32:=(bx32.cn hc1014).cn ch1015
  refine qx (λw' hw'=>a8 bv rfl (bx32.bel hw') rfl) (qz zs1_c20 ?_)
  replace o20:=(o20.cn hc1014).cn ch1015
  refine qx (λw' hw'=>aa (v:=v24) (i:=vP) c5 rfl rfl (o20.sl.bel hw') rfl (by omega) (by omega)) ?_
  obtain⟨v1017,cel1018,r1019⟩:=bC (r:=vP) o20 (by omega) (by omega)
  refine qx (λw' hw'=>bb ao rfl (bW cel1018 hw')) (qz zs0_c20 (qv (vp b30 0) (λw' hw'=>ad rfl) (qx (λw' hw'=>a7 bB rfl rfl rfl rfl) (qx (λw' hw'=>a8 ao rfl (bx32.bel hw') rfl) (qz zs1_c20 ?_)))))
  replace o23:=(o23.cn hc1014).cn ch1015
  refine qx (λw' hw'=>aa (v:=v27) (i:=vP) aW rfl rfl (o23.flat.bel hw') rfl (by omega) (by omega)) (qx (λw' hw'=>ay (v:=v27) (i:=vP) ae rfl (o23.flat.bel hw') (by omega) (by omega) (by decide) rfl) (qx (λw' hw'=>aa (v:=v1017) (i:=(gI Nq vP)) aW rfl rfl (r1019.row_sl.bel hw') rfl (by omega) (by omega)) (qx (λw' hw'=>ay (v:=v1017) (i:=(gI Nq vP)) ae rfl (r1019.row_sl.bel hw') (by omega) (by omega) (by decide) rfl) (qv (vi (gI (gI O2_c1 vP) (gI Nq vP))) (λw' hw'=>bD rfl) (bX ?_)))))
  intro w1020 hc1021
  replace hc1021:=aB hc1021 g1006
  refine a9 ?_
  clear cel1018 r1019
  refine a6 rfl (mz zs0_c20 (lw (vp b30 0) (ad rfl) (lx (a7 bB rfl rfl rfl rfl) ?_)))
  replace bx32:=bx32.cn hc1021
  refine lx (a8 aY rfl bx32 rfl) (mi (gI (gI O2_c1 vP) (gI Nq vP)) ?_)
  have C1022:=cg [] (ch1007.n.seq (hc1014.n.seq (ch1015.n.seq hc1021.n)))
  replace o_W2_c1:=o_W2_c1.ca C1022
  refine lx (aa (v:=W2_c1_v) (i:=(gI (gI O2_c1 vP) (gI Nq vP))) cZ rfl rfl o_W2_c1.flat rfl (by omega) (by omega)) (lw (Value.pointer (some ⟨(aT W2_c1_v 3 (Int.toNat (gI (gI O2_c1 vP) (gI Nq vP)))).block,(aT W2_c1_v 3 (Int.toNat (gI (gI O2_c1 vP) (gI Nq vP)))).off+0,none⟩)) (aO ir rfl rfl rfl rfl) (lx (bi (v:=W2_c1_v) (i:=(gI (gI O2_c1 vP) (gI Nq vP))) ae rfl o_W2_c1.flat (by omega) (by omega) (by decide) rfl) (ai ((gI Wq (gI (gI O2_c1 vP) (gI Nq vP))).1) (af (a9 (a9 (bt g1006 rfl i7 (by kernel_rfl) ?_)))))))
  intro w1024 ch1023
  refine qz zs0_c20 (qv (vp b30 0) (λw' hw'=>ad rfl) (qx (λw' hw'=>a7 bB rfl rfl rfl rfl) ?_))
  replace bx32:=bx32.cn ch1023
  refine qx (λw' hw'=>a8 aY rfl (bx32.bel hw') rfl) (qm (vi (gI (gI O2_c1 vP) (gI Nq vP))) ?_)
  replace o_W2_c1:=o_W2_c1.cn ch1023
  refine qx (λw' hw'=>aa (v:=W2_c1_v) (i:=(gI (gI O2_c1 vP) (gI Nq vP))) cZ rfl rfl (o_W2_c1.flat.bel hw') rfl (by omega) (by omega)) (qv (Value.pointer (some ⟨(aT W2_c1_v 3 (Int.toNat (gI (gI O2_c1 vP) (gI Nq vP)))).block,(aT W2_c1_v 3 (Int.toNat (gI (gI O2_c1 vP) (gI Nq vP)))).off+1,none⟩)) (λw' hw'=>aO ir rfl rfl rfl rfl) (qx (λw' hw'=>bi (v:=W2_c1_v) (i:=(gI (gI O2_c1 vP) (gI Nq vP))) ae rfl (o_W2_c1.flat.bel hw') (by omega) (by omega) (by decide) rfl) (qx (λw' hw'=>cw (m:=((gI Wq (gI (gI O2_c1 vP) (gI Nq vP))).2).1) (n:=0) rfl rfl) (qm (vb (decide ((((gI Wq (gI (gI O2_c1 vP) (gI Nq vP))).2).1)=0))) ?_))))
  by_cases q75_c20:(((gI Wq (gI (gI O2_c1 vP) (gI Nq vP))).2).1)=0
  ·
   refine aE (wn (dt q75_c20)) (aE (wn (dt q75_c20)) (aE (wn (dt q75_c20)) (aE (wn (dt q75_c20)) (aE (wn (dt q75_c20)) (aE (wn (dt q75_c20)) (aE (wn (dt q75_c20)) (aE (wn (dt q75_c20)) (aE (wn (dt q75_c20)) (aE (wn (dt q75_c20)) ?_)))))))))
   refine aE (wn (dt q75_c20)) (aE (wn (dt q75_c20)) (aE (wn (dt q75_c20)) (aE (wn (dt q75_c20)) (aE (wn (dt q75_c20)) (aE (wn (dt q75_c20)) (qv (vb true) (λw' hw'=>az rfl (dt q75_c20) rfl) (qm (vb true) (aE (wn rfl) (aE (wn rfl) ?_)))))))))
   refine aE (wn rfl) (aE (wn rfl) (aE (wn rfl) (qv (vb true) (λw' hw'=>az rfl rfl rfl) (bX ?_))))
   intro w1025 hc1026
   replace hc1026:=aB hc1026 g1006
   refine aj rfl rfl (aM rfl (a6 rfl (mz zs0_c20 (lw (vp b30 0) (ad rfl) (lx (a7 bB rfl rfl rfl rfl) ?_)))))
   replace bx32:=bx32.cn hc1026
   refine lx (a8 ao rfl bx32 rfl) (mz zs1_c20 ?_)
   have C1027:=cg [] (hc1021.n.seq (ch1023.n.seq hc1026.n))
   replace o23:=o23.ca C1027
   refine lx (aa (v:=v27) (i:=vP) aW rfl rfl o23.flat rfl (by omega) (by omega)) (lx (ay (v:=v27) (i:=vP) ae rfl o23.flat (by omega) (by omega) (by decide) rfl) (lx (aP (m:=(gI Nq vP)) (n:=1) rfl rfl (by omega)) (lx (aa (v:=v27) (i:=vP) aW rfl rfl o23.flat rfl (by omega) (by omega)) (lo (aK (i:=vP) ((gI Nq vP)+1) ae rfl rfl o23 (by omega) (by omega) rfl ?_)))))
   intro w1028 ch1029 bx1030
   clear o23
   refine af ?_
   have C1032:=cg [6] (hc1021.n.seq (ch1023.n.seq (hc1026.n.seq (ch1029.l rfl))))
   have C1031:=ch1007.n.seq (hc1014.n.seq (ch1015.n.seq C1032))
   refine back3_c20 ((List.set Nq (Int.toNat vP) ((gI Nq vP)+1)),Wq,g1006) _ _ ⟨bH.ca C1031,zs0_c20,zs1_c20,zs2_c20,Rt.ca C1031,r_t_v1.ca C1031,bx5.ca C1031,o20.ca C1032,o21.ca C1031,o22.ca C1031,bx1030,bx32.ce ch1029,(o_W2_c1.cn hc1026).ce ch1029,?_⟩ ?_
   · show iO (t.1+2) (t.1+1) vP mP O2_c1 xP xL fu (cL O2_c1 xP xL (t.1+1) fu vP mP Wr Nr) Wq (List.set Nq (Int.toNat vP) ((gI Nq vP)+1))
     exact hpw.skip ‹_› (.inl ‹_›)
   · show((gI O2_c1 vP).length-(gI (List.set Nq (Int.toNat vP) ((gI Nq vP)+1)) vP).toNat)<((gI O2_c1 vP).length-(gI Nq vP).toNat)
     (rw[dG (by omega) (by omega)];omega)
  refine aQ (v:=vp b30 0) (wy (df q75_c20)) (λw' hw'=>ah zs0_c20) (aQ (v:=vp b30 0) (wy (df q75_c20)) (λw' hw'=>ad rfl) (aQ (v:=vp b30 3) (wy (df q75_c20)) (λw' hw'=>a7 bB rfl rfl rfl rfl) (aQ (v:=v26) (wy (df q75_c20)) (λw' hw'=>a8 ao rfl (bx32.bel hw') rfl) (aQ (v:=vi ((gI Wq (gI (gI O2_c1 vP) (gI Nq vP))).1)) (wy (df q75_c20)) (λw' hw'=>ah rfl) ?_))))
  have C1033:=cg [] (ch1007.n.seq (hc1014.n.seq (ch1015.n.seq (hc1021.n.seq ch1023.n))))
  replace o22:=o22.ca C1033
  refine aQ (v:=Value.pointer (some (aT v26 1 (Int.toNat ((gI Wq (gI (gI O2_c1 vP) (gI Nq vP))).1))))) (wy (df q75_c20)) (λw' hw'=>aa (α:=Int) (xs:=xL) (v:=v26) (i:=(gI Wq (gI (gI O2_c1 vP) (gI Nq vP))).1) aW rfl rfl (o22.flat.bel hw') rfl (by omega) (by omega)) (aQ (v:=vi (gI xL ((gI Wq (gI (gI O2_c1 vP) (gI Nq vP))).1))) (wy (df q75_c20)) (λw' hw'=>ay (α:=Int) (xs:=xL) (v:=v26) (i:=(gI Wq (gI (gI O2_c1 vP) (gI Nq vP))).1) ae rfl (o22.flat.bel hw') (by omega) (by omega) (by decide) rfl) (aQ (v:=vp b30 0) (wy (df q75_c20)) (λw' hw'=>ah zs0_c20) ?_))
  refine aQ (v:=vp b30 0) (wy (df q75_c20)) (λw' hw'=>ad rfl) (aQ (v:=vp b30 3) (wy (df q75_c20)) (λw' hw'=>a7 bB rfl rfl rfl rfl) (aQ (v:=v26) (wy (df q75_c20)) (λw' hw'=>a8 ao rfl (bx32.bel hw') rfl) (aQ (v:=vi vP) (wy (df q75_c20)) (λw' hw'=>ah zs1_c20) (aQ (v:=Value.pointer (some (aT v26 1 (Int.toNat vP)))) (wy (df q75_c20)) (λw' hw'=>aa (α:=Int) (xs:=xL) (v:=v26) (i:=vP) aW rfl rfl (o22.flat.bel hw') rfl (by omega) (by omega)) ?_))))
  refine aQ (v:=vi (gI xL vP)) (wy (df q75_c20)) (λw' hw'=>ay (α:=Int) (xs:=xL) (v:=v26) (i:=vP) ae rfl (o22.flat.bel hw') (by omega) (by omega) (by decide) rfl) (aQ (v:=vi ((gI xL vP)+1)) (wy (df q75_c20)) (λw' hw'=>aP (m:=(gI xL vP)) (n:=1) rfl rfl (by omega)) (aQ (v:=vb (!(decide ((gI xL ((gI Wq (gI (gI O2_c1 vP) (gI Nq vP))).1))=((gI xL vP)+1))))) (wy (df q75_c20)) (λw' hw'=>cY (m:=(gI xL ((gI Wq (gI (gI O2_c1 vP) (gI Nq vP))).1))) (n:=(gI xL vP)+1) rfl rfl) (qv (vb (!(decide ((gI xL ((gI Wq (gI (gI O2_c1 vP) (gI Nq vP))).1))=((gI xL vP)+1))))) (λw' hw'=>aH rfl (df q75_c20) rfl) ?_)))
  refine qm (vb (!(decide ((gI xL ((gI Wq (gI (gI O2_c1 vP) (gI Nq vP))).1))=((gI xL vP)+1))))) ?_
  by_cases q93_c20:(gI xL ((gI Wq (gI (gI O2_c1 vP) (gI Nq vP))).1))=((gI xL vP)+1)
  ·
   refine aQ (v:=vp b30 0) (wy (congrArg Bool.not (dt q93_c20))) (λw' hw'=>ah zs0_c20) (aQ (v:=vi vP) (wy (congrArg Bool.not (dt q93_c20))) (λw' hw'=>ah zs1_c20) (aQ (v:=vi (gI (gI O2_c1 vP) (gI Nq vP))) (wy (congrArg Bool.not (dt q93_c20))) (λw' hw'=>ah rfl) ?_))
   replace o21:=o21.ca C1033
   refine dJ (v:=vi ((gI Wq (gI (gI O2_c1 vP) (gI Nq vP))).2.2+gI xP vP-gI xP (gI Wq (gI (gI O2_c1 vP) (gI Nq vP))).1)) (wy (congrArg Bool.not (dt q93_c20))) (λw' hw'=>aU (vals:=[vp b30 0,vi vP,vi (gI (gI O2_c1 vP) (gI Nq vP))]) Try.func35 jp ja rfl) (λw' hw'=>(dO w' b30 W2_c1_v Wq ((o_W2_c1.flat.bel hw')).ro v24 v25 xP ((o21.flat.bel hw')).ro v26 v27 (vi t.1) (vi (t.1+1)) (vi ak_c1) (vi fl1) (jX ((bx32.bel hw'))) vP (gI (gI O2_c1 vP) (gI Nq vP)) (by omega) (by omega) (by omega) (by omega) ‹_› ‹_›).mono λe w2 h2=>⟨h2.1,hw'.trans (h2.2.mono hw'.size)⟩) ?_
   refine aQ (v:=vb (!(decide (((gI Wq (gI (gI O2_c1 vP) (gI Nq vP))).2.2+gI xP vP-gI xP (gI Wq (gI (gI O2_c1 vP) (gI Nq vP))).1)=0)))) (wy (congrArg Bool.not (dt q93_c20))) (λw' hw'=>cY (m:=(gI Wq (gI (gI O2_c1 vP) (gI Nq vP))).2.2+gI xP vP-gI xP (gI Wq (gI (gI O2_c1 vP) (gI Nq vP))).1) (n:=0) rfl rfl) (qv (vb (!(decide (((gI Wq (gI (gI O2_c1 vP) (gI Nq vP))).2.2+gI xP vP-gI xP (gI Wq (gI (gI O2_c1 vP) (gI Nq vP))).1)=0)))) (λw' hw'=>aH rfl (congrArg Bool.not (dt q93_c20)) rfl) (bX ?_))
   intro w1034 hc1035
   replace hc1035:=aB hc1035 g1006
   by_cases p7_c20:((gI Wq (gI (gI O2_c1 vP) (gI Nq vP))).2.2+gI xP vP-gI xP (gI Wq (gI (gI O2_c1 vP) (gI Nq vP))).1)=0
   ·
    refine am rfl (congrArg Bool.not (dt p7_c20)) (au (a9 ?_))
    obtain⟨fI,hfI,hpv⟩:=hpw
    have hneed:=hpv.need hpu ‹_› ‹_›
    refine a6 rfl (mz zs0_c20 (mi ((gI Wq (gI (gI O2_c1 vP) (gI Nq vP))).1) (mz zs2_c20 (mz zs0_c20 (lw (vp b30 0) (ad rfl) (lx (a7 bB rfl rfl rfl rfl) ?_))))))
    replace bx32:=bx32.cn hc1035
    refine lx (a8 aY rfl bx32 rfl) (mi (gI (gI O2_c1 vP) (gI Nq vP)) ?_)
    replace o_W2_c1:=o_W2_c1.cn hc1035
    refine lx (aa (v:=W2_c1_v) (i:=(gI (gI O2_c1 vP) (gI Nq vP))) cZ rfl rfl o_W2_c1.flat rfl (by omega) (by omega)) (lw (Value.pointer (some ⟨(aT W2_c1_v 3 (Int.toNat (gI (gI O2_c1 vP) (gI Nq vP)))).block,(aT W2_c1_v 3 (Int.toNat (gI (gI O2_c1 vP) (gI Nq vP)))).off+1,none⟩)) (aO ir rfl rfl rfl rfl) (lx (bi (v:=W2_c1_v) (i:=(gI (gI O2_c1 vP) (gI Nq vP))) ae rfl o_W2_c1.flat (by omega) (by omega) (by decide) rfl) (lw (vi (min mP (((gI Wq (gI (gI O2_c1 vP) (gI Nq vP))).2).1))) (lD rfl rfl) (lo ?_))))
    have C1037:=cg [] (hc1021.n.seq (ch1023.n.seq hc1035.n))
    have C1036:=ch1007.n.seq (hc1014.n.seq (ch1015.n.seq C1037))
    replace bH:=bH.ca C1036
    replace Rt:=Rt.ca C1036
    replace r_t_v1:=r_t_v1.ca C1036
    replace bx5:=bx5.ca C1036
    replace o20:=o20.ca C1037
    replace o21:=o21.cn hc1035
    replace o22:=o22.cn hc1035
    replace o23:=o23.ca C1037
    refine bF (σ:=(List bq)×(List Int)×Int×aG) (V:=λ⟨xW_c22,xn_c22,rr_c22,gq⟩=>vi rr_c22) (S:=λ⟨xW_c22,xn_c22,rr_c22,gq⟩ w=>b9 w0 gq w/\Sl gq (is 0) w t_v t.2.1/\Sl gq (is 0) w t_v1 t.2.2/\Bx gq (is 1) w b3 [vi t.1,t_v,t_v1]/\bN gq 3 w v24 O2_c1/\Ow gq (is 4) (is 4) w v25 xP/\Ow gq (is 5) (is 5) w v26 xL/\Ow gq (is 6) (is 6) w v27 xn_c22/\Bx gq (is 7) w b30 [W2_c1_v,v24,v25,v26,v27,vi t.1,vi (t.1+1),vi ak_c1,vi fl1]/\Ow gq (is 11) (is 11) w W2_c1_v xW_c22/\(rr_c22=(cL O2_c1 xP xL (t.1+1) (fI-1) ((gI Wq (gI (gI O2_c1 vP) (gI Nq vP))).1) (min mP (((gI Wq (gI (gI O2_c1 vP) (gI Nq vP))).2).1)) Wq Nq).1/\xW_c22=(cL O2_c1 xP xL (t.1+1) (fI-1) ((gI Wq (gI (gI O2_c1 vP) (gI Nq vP))).1) (min mP (((gI Wq (gI (gI O2_c1 vP) (gI Nq vP))).2).1)) Wq Nq).2.1/\xn_c22=(cL O2_c1 xP xL (t.1+1) (fI-1) ((gI Wq (gI (gI O2_c1 vP) (gI Nq vP))).1) (min mP (((gI Wq (gI (gI O2_c1 vP) (gI Nq vP))).2).1)) Wq Nq).2.2)) (aU (vals:=[vp b30 0,vi ((gI Wq (gI (gI O2_c1 vP) (gI Nq vP))).1),vi (min mP (((gI Wq (gI (gI O2_c1 vP) (gI Nq vP))).2).1))]) Try.func32 je jx rfl) (ih (fI-1) (by have:=hpv.pos;omega) bH Rt r_t_v1 bx5 o20 o21 o22 o23 bx32 o_W2_c1 (hneed)) ?_
    clear Rt r_t_v1 bx5 o20 o21 o22 o23 bx32 o_W2_c1 bH
    rintro⟨xW_c22,xn_c22,rr_c22,g1039⟩ w1038 ⟨bH,Rt,r_t_v1,bx5,o20,o21,o22,o23,bx32,o_W2_c1,hpr_c22⟩
    have hpa:=hpv.after hfI ‹_› ‹_› ‹_› ‹_› hpr_c22
    have hpb0:=hpa.nl
    obtain⟨hpb1,hpb2⟩:=hpa.nv
    obtain⟨hpb3,hpb4⟩:=hpa.wi
    obtain⟨hpb5,hpb6⟩:=hpa.ti
    have hpb7:=hpa.k0
    have hpb8:=hpa.k1
    have hpb9:=hpa.rm
    obtain⟨hpba,hpbb⟩:=hpa.rt
    have hpbc:=hpa.en
    refine ai rr_c22 (af (a9 (a6 rfl (mi rr_c22 (lx (bY (m:=rr_c22) (n:=0) rfl rfl) (af ?_))))))
    by_cases p9_c20:0<rr_c22
    ·
     refine aj rfl (dt p9_c20) (a9 (a6 rfl (mz zs0_c20 (lw (vp b30 0) (ad rfl) (lx (a7 bB rfl rfl rfl rfl) (lx (a8 aY rfl bx32 rfl) (mi (gI (gI O2_c1 vP) (gI Nq vP)) (lx (aa (v:=W2_c1_v) (i:=(gI (gI O2_c1 vP) (gI Nq vP))) cZ rfl rfl o_W2_c1.flat rfl (by omega) (by omega)) (lw (Value.pointer (some ⟨(aT W2_c1_v 3 (Int.toNat (gI (gI O2_c1 vP) (gI Nq vP)))).block,(aT W2_c1_v 3 (Int.toNat (gI (gI O2_c1 vP) (gI Nq vP)))).off+1,none⟩)) (aO ir rfl rfl rfl rfl) ?_)))))))))
     refine lx (bi (v:=W2_c1_v) (i:=(gI (gI O2_c1 vP) (gI Nq vP))) ae rfl o_W2_c1.flat (by omega) (by omega) (by decide) rfl) (mi rr_c22 (lx (cV (m:=((gI xW_c22 (gI (gI O2_c1 vP) (gI Nq vP))).2).1) (n:=rr_c22) rfl rfl (by omega)) (lx (aa (v:=W2_c1_v) (i:=(gI (gI O2_c1 vP) (gI Nq vP))) cZ rfl rfl o_W2_c1.flat rfl (by omega) (by omega)) (lw (Value.pointer (some ⟨(aT W2_c1_v 3 (Int.toNat (gI (gI O2_c1 vP) (gI Nq vP)))).block,(aT W2_c1_v 3 (Int.toNat (gI (gI O2_c1 vP) (gI Nq vP)))).off+1,none⟩)) (aO ir rfl rfl rfl rfl) (lo (eB (i:=(gI (gI O2_c1 vP) (gI Nq vP))) (q:=1) ((gI xW_c22 (gI (gI O2_c1 vP) (gI Nq vP))).1,(((gI xW_c22 (gI (gI O2_c1 vP) (gI Nq vP))).2).1)-rr_c22,((gI xW_c22 (gI (gI O2_c1 vP) (gI Nq vP))).2).2) ae rfl rfl o_W2_c1 (by omega) (by omega) (by decide) rfl rfl rfl ?_))))))
     intro w1040 ch1041 bx1042
     clear o_W2_c1
     refine af (a9 (a6 rfl (mz zs0_c20 (lw (vp b30 0) (ad rfl) (lx (a7 bB rfl rfl rfl rfl) ?_)))))
     replace bx32:=bx32.ce ch1041
     refine lx (a8 aY rfl bx32 rfl) (mi (gI (gI O2_c1 vP) (gI Nq vP)) (lw (vi (cj (gI (gI O2_c1 vP) (gI Nq vP)))) (pN (op:=.xor) (m:=(gI (gI O2_c1 vP) (gI Nq vP))) (n:=1) rfl rfl (k9 _ (by omega) (by omega))) (lx (aa (v:=W2_c1_v) (i:=cj (gI (gI O2_c1 vP) (gI Nq vP))) cZ rfl rfl bx1042.flat rfl (by omega) (by(simp only[List.length_set,List.length_append,List.length_cons,List.length_nil,List.length_replicate,List.length_map,List.length_take,List.length_drop];omega))) (lw (Value.pointer (some ⟨(aT W2_c1_v 3 (Int.toNat (cj (gI (gI O2_c1 vP) (gI Nq vP))))).block,(aT W2_c1_v 3 (Int.toNat (cj (gI (gI O2_c1 vP) (gI Nq vP))))).off+1,none⟩)) (aO ir rfl rfl rfl rfl) ?_))))
     refine lx (bi (v:=W2_c1_v) (i:=cj (gI (gI O2_c1 vP) (gI Nq vP))) ae rfl bx1042.flat (by omega) (by(simp only[List.length_set,List.length_append,List.length_cons,List.length_nil,List.length_replicate,List.length_map,List.length_take,List.length_drop];omega)) (by decide) rfl) (mi rr_c22 (lx (aP (m:=((gI (List.set xW_c22 (Int.toNat (gI (gI O2_c1 vP) (gI Nq vP))) ((gI xW_c22 (gI (gI O2_c1 vP) (gI Nq vP))).1,(((gI xW_c22 (gI (gI O2_c1 vP) (gI Nq vP))).2).1)-rr_c22,((gI xW_c22 (gI (gI O2_c1 vP) (gI Nq vP))).2).2)) (cj (gI (gI O2_c1 vP) (gI Nq vP)))).2).1) (n:=rr_c22) rfl rfl (by(rw[hpa.sz];omega))) ?_))
     refine lx (aa (v:=W2_c1_v) (i:=cj (gI (gI O2_c1 vP) (gI Nq vP))) cZ rfl rfl bx1042.flat rfl (by omega) (by(simp only[List.length_set,List.length_append,List.length_cons,List.length_nil,List.length_replicate,List.length_map,List.length_take,List.length_drop];omega))) (lw (Value.pointer (some ⟨(aT W2_c1_v 3 (Int.toNat (cj (gI (gI O2_c1 vP) (gI Nq vP))))).block,(aT W2_c1_v 3 (Int.toNat (cj (gI (gI O2_c1 vP) (gI Nq vP))))).off+1,none⟩)) (aO ir rfl rfl rfl rfl) (lo ?_))
     refine eB (i:=cj (gI (gI O2_c1 vP) (gI Nq vP))) (q:=1) ((gI (List.set xW_c22 (Int.toNat (gI (gI O2_c1 vP) (gI Nq vP))) ((gI xW_c22 (gI (gI O2_c1 vP) (gI Nq vP))).1,(((gI xW_c22 (gI (gI O2_c1 vP) (gI Nq vP))).2).1)-rr_c22,((gI xW_c22 (gI (gI O2_c1 vP) (gI Nq vP))).2).2)) (cj (gI (gI O2_c1 vP) (gI Nq vP)))).1,(((gI (List.set xW_c22 (Int.toNat (gI (gI O2_c1 vP) (gI Nq vP))) ((gI xW_c22 (gI (gI O2_c1 vP) (gI Nq vP))).1,(((gI xW_c22 (gI (gI O2_c1 vP) (gI Nq vP))).2).1)-rr_c22,((gI xW_c22 (gI (gI O2_c1 vP) (gI Nq vP))).2).2)) (cj (gI (gI O2_c1 vP) (gI Nq vP)))).2).1)+rr_c22,((gI (List.set xW_c22 (Int.toNat (gI (gI O2_c1 vP) (gI Nq vP))) ((gI xW_c22 (gI (gI O2_c1 vP) (gI Nq vP))).1,(((gI xW_c22 (gI (gI O2_c1 vP) (gI Nq vP))).2).1)-rr_c22,((gI xW_c22 (gI (gI O2_c1 vP) (gI Nq vP))).2).2)) (cj (gI (gI O2_c1 vP) (gI Nq vP)))).2).2) ae rfl rfl bx1042 (by omega) (by(simp only[List.length_set,List.length_append,List.length_cons,List.length_nil,List.length_replicate,List.length_map,List.length_take,List.length_drop];omega)) (by decide) rfl rfl rfl ?_
     intro w1043 ch1044 bx1045
     clear bx1042
     refine af (a9 (a6 rfl (mi rr_c22 (ai rr_c22 (af (aF (vs:=[vi rr_c22]) Try.func32 (.tmp rfl .nil) ?_))))))
     replace bH:=bH.ce ch1041
     replace bH:=bH.ce ch1044
     replace Rt:=(Rt.ce ch1041).ce ch1044
     replace r_t_v1:=(r_t_v1.ce ch1041).ce ch1044
     replace bx5:=(bx5.ce ch1041).ce ch1044
     replace o20:=(o20.ce ch1041).ce ch1044
     replace o21:=(o21.ce ch1041).ce ch1044
     replace o22:=(o22.ce ch1041).ce ch1044
     replace o23:=(o23.ce ch1041).ce ch1044
     replace bx32:=bx32.ce ch1044
     refine⟨((List.set (List.set xW_c22 (Int.toNat (gI (gI O2_c1 vP) (gI Nq vP))) ((gI xW_c22 (gI (gI O2_c1 vP) (gI Nq vP))).1,(((gI xW_c22 (gI (gI O2_c1 vP) (gI Nq vP))).2).1)-rr_c22,((gI xW_c22 (gI (gI O2_c1 vP) (gI Nq vP))).2).2)) (Int.toNat (cj (gI (gI O2_c1 vP) (gI Nq vP)))) ((gI (List.set xW_c22 (Int.toNat (gI (gI O2_c1 vP) (gI Nq vP))) ((gI xW_c22 (gI (gI O2_c1 vP) (gI Nq vP))).1,(((gI xW_c22 (gI (gI O2_c1 vP) (gI Nq vP))).2).1)-rr_c22,((gI xW_c22 (gI (gI O2_c1 vP) (gI Nq vP))).2).2)) (cj (gI (gI O2_c1 vP) (gI Nq vP)))).1,(((gI (List.set xW_c22 (Int.toNat (gI (gI O2_c1 vP) (gI Nq vP))) ((gI xW_c22 (gI (gI O2_c1 vP) (gI Nq vP))).1,(((gI xW_c22 (gI (gI O2_c1 vP) (gI Nq vP))).2).1)-rr_c22,((gI xW_c22 (gI (gI O2_c1 vP) (gI Nq vP))).2).2)) (cj (gI (gI O2_c1 vP) (gI Nq vP)))).2).1)+rr_c22,((gI (List.set xW_c22 (Int.toNat (gI (gI O2_c1 vP) (gI Nq vP))) ((gI xW_c22 (gI (gI O2_c1 vP) (gI Nq vP))).1,(((gI xW_c22 (gI (gI O2_c1 vP) (gI Nq vP))).2).1)-rr_c22,((gI xW_c22 (gI (gI O2_c1 vP) (gI Nq vP))).2).2)) (cj (gI (gI O2_c1 vP) (gI Nq vP)))).2).2)),xn_c22,rr_c22,g1039),rfl,bH,Rt,r_t_v1,bx5,o20,o21,o22,o23,bx32,bx1045,?_⟩
     show rr_c22=(cL O2_c1 xP xL (t.1+1) fu vP mP Wr Nr).1/\(List.set (List.set xW_c22 (Int.toNat (gI (gI O2_c1 vP) (gI Nq vP))) ((gI xW_c22 (gI (gI O2_c1 vP) (gI Nq vP))).1,(((gI xW_c22 (gI (gI O2_c1 vP) (gI Nq vP))).2).1)-rr_c22,((gI xW_c22 (gI (gI O2_c1 vP) (gI Nq vP))).2).2)) (Int.toNat (cj (gI (gI O2_c1 vP) (gI Nq vP)))) ((gI (List.set xW_c22 (Int.toNat (gI (gI O2_c1 vP) (gI Nq vP))) ((gI xW_c22 (gI (gI O2_c1 vP) (gI Nq vP))).1,(((gI xW_c22 (gI (gI O2_c1 vP) (gI Nq vP))).2).1)-rr_c22,((gI xW_c22 (gI (gI O2_c1 vP) (gI Nq vP))).2).2)) (cj (gI (gI O2_c1 vP) (gI Nq vP)))).1,(((gI (List.set xW_c22 (Int.toNat (gI (gI O2_c1 vP) (gI Nq vP))) ((gI xW_c22 (gI (gI O2_c1 vP) (gI Nq vP))).1,(((gI xW_c22 (gI (gI O2_c1 vP) (gI Nq vP))).2).1)-rr_c22,((gI xW_c22 (gI (gI O2_c1 vP) (gI Nq vP))).2).2)) (cj (gI (gI O2_c1 vP) (gI Nq vP)))).2).1)+rr_c22,((gI (List.set xW_c22 (Int.toNat (gI (gI O2_c1 vP) (gI Nq vP))) ((gI xW_c22 (gI (gI O2_c1 vP) (gI Nq vP))).1,(((gI xW_c22 (gI (gI O2_c1 vP) (gI Nq vP))).2).1)-rr_c22,((gI xW_c22 (gI (gI O2_c1 vP) (gI Nq vP))).2).2)) (cj (gI (gI O2_c1 vP) (gI Nq vP)))).2).2))=(cL O2_c1 xP xL (t.1+1) fu vP mP Wr Nr).2.1/\xn_c22=(cL O2_c1 xP xL (t.1+1) fu vP mP Wr Nr).2.2
     (rw[hpa.yes ‹_›];exact⟨rfl,rfl,rfl⟩)
    refine am rfl (df p9_c20) (au (aq (a6 rfl (mz zs0_c20 (lw (vp b30 0) (ad rfl) (lx (a7 bB rfl rfl rfl rfl) (lx (a8 ao rfl bx32 rfl) (mz zs1_c20 (lx (aa (v:=v27) (i:=vP) aW rfl rfl o23.flat rfl (by omega) (by omega)) ?_)))))))))
    refine lx (ay (v:=v27) (i:=vP) ae rfl o23.flat (by omega) (by omega) (by decide) rfl) (lx (aP (m:=(gI xn_c22 vP)) (n:=1) rfl rfl (by omega)) (lx (aa (v:=v27) (i:=vP) aW rfl rfl o23.flat rfl (by omega) (by omega)) (lo (aK (i:=vP) ((gI xn_c22 vP)+1) ae rfl rfl o23 (by omega) (by omega) rfl ?_))))
    intro w1046 ch1047 bx1048
    clear o23
    refine af ?_
    refine back3_c20 ((List.set xn_c22 (Int.toNat vP) ((gI xn_c22 vP)+1)),xW_c22,g1039) _ _ ⟨bH.ce ch1047,zs0_c20,zs1_c20,zs2_c20,Rt.ce ch1047,r_t_v1.ce ch1047,bx5.ce ch1047,o20.ce ch1047,o21.ce ch1047,o22.ce ch1047,bx1048,bx32.ce ch1047,o_W2_c1.ce ch1047,?_⟩ ?_
    · show iO (t.1+2) (t.1+1) vP mP O2_c1 xP xL fu (cL O2_c1 xP xL (t.1+1) fu vP mP Wr Nr) xW_c22 (List.set xn_c22 (Int.toNat vP) ((gI xn_c22 vP)+1))
      exact hpa.no ‹_›
    · show((gI O2_c1 vP).length-(gI (List.set xn_c22 (Int.toNat vP) ((gI xn_c22 vP)+1)) vP).toNat)<((gI O2_c1 vP).length-(gI Nq vP).toNat)
      (rw[dG (by omega) (by omega)];omega)
   refine aj rfl (congrArg Bool.not (df p7_c20)) (aM rfl (a6 rfl (mz zs0_c20 (lw (vp b30 0) (ad rfl) (lx (a7 bB rfl rfl rfl rfl) ?_)))))
   replace bx32:=bx32.cn hc1035
   refine lx (a8 ao rfl bx32 rfl) (mz zs1_c20 ?_)
   have C1049:=cg [] (hc1021.n.seq (ch1023.n.seq hc1035.n))
   replace o23:=o23.ca C1049
   refine lx (aa (v:=v27) (i:=vP) aW rfl rfl o23.flat rfl (by omega) (by omega)) (lx (ay (v:=v27) (i:=vP) ae rfl o23.flat (by omega) (by omega) (by decide) rfl) (lx (aP (m:=(gI Nq vP)) (n:=1) rfl rfl (by omega)) (lx (aa (v:=v27) (i:=vP) aW rfl rfl o23.flat rfl (by omega) (by omega)) (lo (aK (i:=vP) ((gI Nq vP)+1) ae rfl rfl o23 (by omega) (by omega) rfl ?_)))))
   intro w1050 ch1051 bx1052
   clear o23
   refine af ?_
   have C1054:=cg [6] (hc1021.n.seq (ch1023.n.seq (hc1035.n.seq (ch1051.l rfl))))
   have C1053:=ch1007.n.seq (hc1014.n.seq (ch1015.n.seq C1054))
   refine back3_c20 ((List.set Nq (Int.toNat vP) ((gI Nq vP)+1)),Wq,g1006) _ _ ⟨bH.ca C1053,zs0_c20,zs1_c20,zs2_c20,Rt.ca C1053,r_t_v1.ca C1053,bx5.ca C1053,o20.ca C1054,(o21.cn hc1035).ce ch1051,(o22.cn hc1035).ce ch1051,bx1052,bx32.ce ch1051,(o_W2_c1.cn hc1035).ce ch1051,?_⟩ ?_
   · show iO (t.1+2) (t.1+1) vP mP O2_c1 xP xL fu (cL O2_c1 xP xL (t.1+1) fu vP mP Wr Nr) Wq (List.set Nq (Int.toNat vP) ((gI Nq vP)+1))
     exact hpw.skip ‹_› (.inr (.inr ‹_›))
   · show((gI O2_c1 vP).length-(gI (List.set Nq (Int.toNat vP) ((gI Nq vP)+1)) vP).toNat)<((gI O2_c1 vP).length-(gI Nq vP).toNat)
     (rw[dG (by omega) (by omega)];omega)
  refine aE (wn (congrArg Bool.not (df q93_c20))) (aE (wn (congrArg Bool.not (df q93_c20))) (aE (wn (congrArg Bool.not (df q93_c20))) (aE (wn (congrArg Bool.not (df q93_c20))) (aE (wn (congrArg Bool.not (df q93_c20))) (qv (vb true) (λw' hw'=>az rfl (congrArg Bool.not (df q93_c20)) rfl) (bX ?_))))))
  intro w1055 hc1056
  replace hc1056:=aB hc1056 g1006
  refine aj rfl rfl (aM rfl (a6 rfl (mz zs0_c20 (lw (vp b30 0) (ad rfl) (lx (a7 bB rfl rfl rfl rfl) ?_)))))
  replace bx32:=bx32.cn hc1056
  refine lx (a8 ao rfl bx32 rfl) (mz zs1_c20 ?_)
  have C1057:=cg [] (hc1021.n.seq (ch1023.n.seq hc1056.n))
  replace o23:=o23.ca C1057
  refine lx (aa (v:=v27) (i:=vP) aW rfl rfl o23.flat rfl (by omega) (by omega)) (lx (ay (v:=v27) (i:=vP) ae rfl o23.flat (by omega) (by omega) (by decide) rfl) (lx (aP (m:=(gI Nq vP)) (n:=1) rfl rfl (by omega)) (lx (aa (v:=v27) (i:=vP) aW rfl rfl o23.flat rfl (by omega) (by omega)) (lo (aK (i:=vP) ((gI Nq vP)+1) ae rfl rfl o23 (by omega) (by omega) rfl ?_)))))
  intro w1058 ch1059 bx1060
  clear o23
  refine af ?_
  have C1062:=cg [6] (hc1021.n.seq (ch1023.n.seq (hc1056.n.seq (ch1059.l rfl))))
  have C1061:=ch1007.n.seq (hc1014.n.seq (ch1015.n.seq C1062))
  refine back3_c20 ((List.set Nq (Int.toNat vP) ((gI Nq vP)+1)),Wq,g1006) _ _ ⟨bH.ca C1061,zs0_c20,zs1_c20,zs2_c20,Rt.ca C1061,r_t_v1.ca C1061,bx5.ca C1061,o20.ca C1062,o21.ca C1061,(o22.cn hc1056).ce ch1059,bx1060,bx32.ce ch1059,(o_W2_c1.cn hc1056).ce ch1059,?_⟩ ?_
  · show iO (t.1+2) (t.1+1) vP mP O2_c1 xP xL fu (cL O2_c1 xP xL (t.1+1) fu vP mP Wr Nr) Wq (List.set Nq (Int.toNat vP) ((gI Nq vP)+1))
    exact hpw.skip ‹_› (.inr (.inl ‹_›))
  · show((gI O2_c1 vP).length-(gI (List.set Nq (Int.toNat vP) ((gI Nq vP)+1)) vP).toNat)<((gI O2_c1 vP).length-(gI Nq vP).toNat)
    (rw[dG (by omega) (by omega)];omega)
 refine am rfl (df p3_c20) (aM rfl (a9 ?_))
 clear cel1010 r1011
 refine a6 rfl (ai 0 (af (aF (vs:=[vi 0]) Try.func32 (.tmp rfl .nil) ?_)))
 replace bH:=bH.cn ch1007
 replace bH:=bH.cn hc1014
 replace Rt:=(Rt.cn ch1007).cn hc1014
 replace r_t_v1:=(r_t_v1.cn ch1007).cn hc1014
 replace bx5:=(bx5.cn ch1007).cn hc1014
 replace o20:=o20.cn hc1014
 replace o21:=(o21.cn ch1007).cn hc1014
 replace o22:=(o22.cn ch1007).cn hc1014
 replace o23:=o23.cn hc1014
 replace bx32:=bx32.cn hc1014
 replace o_W2_c1:=(o_W2_c1.cn ch1007).cn hc1014
 refine⟨(Wq,Nq,0,g1006),rfl,bH,Rt,r_t_v1,bx5,o20,o21,o22,o23,bx32,o_W2_c1,?_⟩
 show 0=(cL O2_c1 xP xL (t.1+1) fu vP mP Wr Nr).1/\Wq=(cL O2_c1 xP xL (t.1+1) fu vP mP Wr Nr).2.1/\Nq=(cL O2_c1 xP xL (t.1+1) fu vP mP Wr Nr).2.2
 (rw[hpw.done ‹_›];exact⟨rfl,rfl,rfl⟩)
end TL
