import Derived.Test.YtmaclbnodbcniaaFmTlP3
import Derived.Test.YtmaclbnodbcniaaFmTlFwA
import Derived.Test.YtmaclbnodbcniaaFmTlFwL
import Derived.Test.YtmaclbnodbcniaaFmTlFwR
import Derived.Test.YtmaclbnodbcniaaFmTlFwMa
import Derived.Test.YtmaclbnodbcniaaFmTlFwMb
import Derived.Test.YtmaclbnodbcniaaProg
import Derived.Test.YtmaclbnodbcniaaFmTlAli
set_option linter.all false
set_option maxRecDepth 20000
namespace TL
open Go Go.Proofs
theorem i5:Try.prog.follows .mixedOrders=true:=by kernel_rfl
theorem jl:Try.f32.body.isNone=false:=rfl
theorem jv:(Try.f32.name== "runtime.NumGoroutine")=false:=by decide+kernel
set_option maxHeartbeats 8000000 in
theorem gC:∀(fu:Nat) {b33:Nat} {vP:Int} {mP:Int} {w0:World} {t_v:Value} {t:(Int)×(List ((Int)×(Int)×(Int)×(Int)))×(List Int)} {t_v1:Value} {b3:Nat} {b8:Nat} {v27:Value} {O2_c1:eZ} {v28:Value} {xP:List Int} {v29:Value} {xL:List Int} {v30:Value} {W2_c1_v:Value} {ak_c1:Int} {fl1:Int} {Wr:List bq} {Nr:List Int} {g1005:aG} {w1007:World} (bH:b9 w0 g1005 w1007) (Rt:Sl g1005 (is 0) w1007 t_v t.2.1) (r_t_v1:Sl g1005 (is 0) w1007 t_v1 t.2.2) (bx5:Bx g1005 (is 1) w1007 b3 [vi t.1,t_v,t_v1]) (bx10:Bx g1005 (is 2) w1007 b8 [vn,vn,vi 0]) (o23:bN g1005 4 w1007 v27 O2_c1) (o24:Ow g1005 (is 5) (is 5) w1007 v28 xP) (o25:Ow g1005 (is 6) (is 6) w1007 v29 xL) (o26:Ow g1005 (is 7) (is 7) w1007 v30 Nr) (bx35:Bx g1005 (is 8) w1007 b33 [W2_c1_v,v27,v28,v29,v30,vi t.1,vi (t.1+1),vi ak_c1,vi fl1]) (o_W2_c1:Ow g1005 (is 12) (is 12) w1007 W2_c1_v Wr) (hpu:qo (t.1+2) (t.1+1) O2_c1 xP xL fu vP mP Wr Nr),
    Calls Try.prog 32 (List.toArray [vp b33 0,vi vP,vi mP]) w1007 (λee w=>∃xx:(List bq)×(List Int)×Int×aG,ee= .returned ((λ⟨xW_c20,xn_c20,rr_c20,gq⟩=>vi rr_c20) xx)/\(λ(⟨xW_c20,xn_c20,rr_c20,gq⟩:(List bq)×(List Int)×Int×aG) (w:World)=>b9 w0 gq w/\Sl gq (is 0) w t_v t.2.1/\Sl gq (is 0) w t_v1 t.2.2/\Bx gq (is 1) w b3 [vi t.1,t_v,t_v1]/\Bx gq (is 2) w b8 [vn,vn,vi 0]/\bN gq 4 w v27 O2_c1/\Ow gq (is 5) (is 5) w v28 xP/\Ow gq (is 6) (is 6) w v29 xL/\Ow gq (is 7) (is 7) w v30 xn_c20/\Bx gq (is 8) w b33 [W2_c1_v,v27,v28,v29,v30,vi t.1,vi (t.1+1),vi ak_c1,vi fl1]/\Ow gq (is 12) (is 12) w W2_c1_v xW_c20/\(rr_c20=(cL O2_c1 xP xL (t.1+1) fu vP mP Wr Nr).1/\xW_c20=(cL O2_c1 xP xL (t.1+1) fu vP mP Wr Nr).2.1/\xn_c20=(cL O2_c1 xP xL (t.1+1) fu vP mP Wr Nr).2.2)) xx w):=by
 intro fu
 induction fu using Nat.strongRecOn
 rename_i fu ih
 intro b33 vP mP w0 t_v t t_v1 b3 b8 v27 O2_c1 v28 xP v29 xL v30 W2_c1_v ak_c1 fl1 Wr Nr g1005 w1007 bH Rt r_t_v1 bx5 bx10 o23 o24 o25 o26 bx35 o_W2_c1 hpu
 refine aC Try.func32 rfl nq ?_
 obtain⟨hpol,hpnl,hpwl⟩:=hpu.pos
 have hppl:=hpu.pl
 have hpll:=hpu.ll
 have hpv0:=hpu.v0
 have hpv1:=hpu.v1
 have hpt0:=hpu.t0
 have hpt1:=hpu.t1
 have hpm0:=hpu.m0
 have hpm1:=hpu.m1
 have hpn2:=hpu.n2b
 refine a9 (a6 rfl (ai 0 (af (a9 (a9 (a6 rfl (mi vP (mv (vp b33 0) (lw (vp b33 0) (ad rfl) ?_)))))))))
 refine lx (a7 bB rfl rfl rfl rfl) (lx (a8 ae rfl bx35 rfl) (lx (cw (m:=vP) (n:=t.1+1) rfl rfl) (af ?_)))
 by_cases p1_c20:vP=(t.1+1)
 ·
  refine aj rfl (dt p1_c20) (a9 (a6 rfl (mi mP (ai mP (af (aF (vs:=[vi mP]) Try.func32 (.tmp rfl .nil) ?_))))))
  refine⟨(Wr,Nr,mP,g1005),rfl,bH,Rt,r_t_v1,bx5,bx10,o23,o24,o25,o26,bx35,o_W2_c1,?_⟩
  show mP=(cL O2_c1 xP xL (t.1+1) fu vP mP Wr Nr).1/\Wr=(cL O2_c1 xP xL (t.1+1) fu vP mP Wr Nr).2.1/\Nr=(cL O2_c1 xP xL (t.1+1) fu vP mP Wr Nr).2.2
  (rw[oC hpu ‹_›];exact⟨rfl,rfl,rfl⟩)
 refine am rfl (df p1_c20) (au (a9 (av ?_)))
 refine aX (σ:=(List Int)×(List bq)×aG) (λ⟨Nq,Wq,gq⟩ f w=>b9 w0 gq w/\f 0=vp b33 0/\f 1=vi vP/\f 2=vi mP/\Sl gq (is 0) w t_v t.2.1/\Sl gq (is 0) w t_v1 t.2.2/\Bx gq (is 1) w b3 [vi t.1,t_v,t_v1]/\Bx gq (is 2) w b8 [vn,vn,vi 0]/\bN gq 4 w v27 O2_c1/\Ow gq (is 5) (is 5) w v28 xP/\Ow gq (is 6) (is 6) w v29 xL/\Ow gq (is 7) (is 7) w v30 Nq/\Bx gq (is 8) w b33 [W2_c1_v,v27,v28,v29,v30,vi t.1,vi (t.1+1),vi ak_c1,vi fl1]/\Ow gq (is 12) (is 12) w W2_c1_v Wq/\(iO (t.1+2) (t.1+1) vP mP O2_c1 xP xL fu (cL O2_c1 xP xL (t.1+1) fu vP mP Wr Nr) Wq Nq)) (λ⟨Nq,Wq,gq⟩=>((gI O2_c1 vP).length-(gI Nq vP).toNat)) (Nr,Wr,g1005) ?_ ?_
 · exact⟨bH,rfl,rfl,rfl,Rt,r_t_v1,bx5,bx10,o23,o24,o25,o26,bx35,o_W2_c1,by exact iO.start hpu ‹_›⟩
 clear Rt r_t_v1 bx5 bx10 o23 o24 o25 o26 bx35 o_W2_c1 bH
 rintro⟨Nq,Wq,g1010⟩ f1008 w1009 ⟨bH,zs0_c20,zs1_c20,zs2_c20,Rt,r_t_v1,bx5,bx10,o23,o24,o25,o26,bx35,o_W2_c1,hpw⟩ back3_c20
 obtain⟨hql1,hql2,hql3,hql4,hql5,hql6⟩:=hpw.lens
 refine a9 (a9 (bt g1010 rfl i5 (by kernel_rfl) ?_))
 intro w1012 ch1011
 refine qz zs0_c20 (qv (vp b33 0) (λw' hw'=>ad rfl) (qx (λw' hw'=>a7 bB rfl rfl rfl rfl) ?_))
 replace bx35:=bx35.cn ch1011
 refine qx (λw' hw'=>a8 ao rfl (bx35.bel hw') rfl) (qz zs1_c20 ?_)
 replace o26:=o26.cn ch1011
 refine qx (λw' hw'=>aa (v:=v30) (i:=vP) aW rfl rfl (o26.flat.bel hw') rfl (by omega) (by omega)) (qx (λw' hw'=>ay (v:=v30) (i:=vP) ae rfl (o26.flat.bel hw') (by omega) (by omega) (by decide) rfl) (qz zs0_c20 (qv (vp b33 0) (λw' hw'=>ad rfl) (qx (λw' hw'=>a7 bB rfl rfl rfl rfl) (qx (λw' hw'=>a8 aN rfl (bx35.bel hw') rfl) (qz zs1_c20 ?_))))))
 replace o23:=o23.cn ch1011
 refine qx (λw' hw'=>aa (v:=v27) (i:=vP) c5 rfl rfl (o23.sl.bel hw') rfl (by omega) (by omega)) ?_
 obtain⟨v1013,cel1014,r1015⟩:=bC (r:=vP) o23 (by omega) (by omega)
 refine qx (λw' hw'=>bb ao rfl (bW cel1014 hw')) ?_
 have len1016:=(r1015.row_sl).small
 refine qx (λw' hw'=>ba aW rfl (r1015.row_sl.bel hw')) (qx (λw' hw'=>bo (m:=(gI Nq vP)) (n:=(List.length (gI O2_c1 vP):Int)) rfl rfl) (bX ?_))
 intro w1017 hc1018
 replace hc1018:=aB hc1018 g1010
 by_cases p3_c20:(gI Nq vP)<(List.length (gI O2_c1 vP):Int)
 ·
  refine aj rfl (dt p3_c20) (au (a9 (av (a9 ?_))))
  clear cel1014 r1015
  obtain⟨⟨hy0,hy1⟩,⟨hy2,hy3⟩,⟨hy4,hy5⟩,⟨hy6,hy7⟩,⟨hy8,hy9⟩,hya,hyb⟩:=hpw.way ‹_›
  have hpo1:=hpu.pb vP hpv0 hpv1
  have hpo2:=hpu.pb _ hy4 hy5
  refine bt g1010 rfl i5 (by kernel_rfl) ?_
  intro w1020 ch1019
  refine qz zs0_c20 (qv (vp b33 0) (λw' hw'=>ad rfl) (qx (λw' hw'=>a7 bB rfl rfl rfl rfl) ?_))
  replace bx35:=(bx35.cn hc1018).cn ch1019
  refine qx (λw' hw'=>a8 aN rfl (bx35.bel hw') rfl) (qz zs1_c20 ?_)
  replace o23:=(o23.cn hc1018).cn ch1019
  refine qx (λw' hw'=>aa (v:=v27) (i:=vP) c5 rfl rfl (o23.sl.bel hw') rfl (by omega) (by omega)) ?_
  obtain⟨v1021,cel1022,r1023⟩:=bC (r:=vP) o23 (by omega) (by omega)
  refine qx (λw' hw'=>bb ao rfl (bW cel1022 hw')) (qz zs0_c20 (qv (vp b33 0) (λw' hw'=>ad rfl) (qx (λw' hw'=>a7 bB rfl rfl rfl rfl) (qx (λw' hw'=>a8 ao rfl (bx35.bel hw') rfl) (qz zs1_c20 ?_)))))
  replace o26:=(o26.cn hc1018).cn ch1019
  refine qx (λw' hw'=>aa (v:=v30) (i:=vP) aW rfl rfl (o26.flat.bel hw') rfl (by omega) (by omega)) (qx (λw' hw'=>ay (v:=v30) (i:=vP) ae rfl (o26.flat.bel hw') (by omega) (by omega) (by decide) rfl) (qx (λw' hw'=>aa (v:=v1021) (i:=(gI Nq vP)) aW rfl rfl (r1023.row_sl.bel hw') rfl (by omega) (by omega)) (qx (λw' hw'=>ay (v:=v1021) (i:=(gI Nq vP)) ae rfl (r1023.row_sl.bel hw') (by omega) (by omega) (by decide) rfl) (qv (vi (gI (gI O2_c1 vP) (gI Nq vP))) (λw' hw'=>bD rfl) (bX ?_)))))
  intro w1024 hc1025
  replace hc1025:=aB hc1025 g1010
  refine a9 ?_
  clear cel1022 r1023
  refine a6 rfl (mz zs0_c20 (lw (vp b33 0) (ad rfl) (lx (a7 bB rfl rfl rfl rfl) ?_)))
  replace bx35:=bx35.cn hc1025
  refine lx (a8 aY rfl bx35 rfl) (mi (gI (gI O2_c1 vP) (gI Nq vP)) ?_)
  have C1026:=cg [] (ch1011.n.seq (hc1018.n.seq (ch1019.n.seq hc1025.n)))
  replace o_W2_c1:=o_W2_c1.ca C1026
  refine lx (aa (v:=W2_c1_v) (i:=(gI (gI O2_c1 vP) (gI Nq vP))) cZ rfl rfl o_W2_c1.flat rfl (by omega) (by omega)) (lw (Value.pointer (some ⟨(aT W2_c1_v 3 (Int.toNat (gI (gI O2_c1 vP) (gI Nq vP)))).block,(aT W2_c1_v 3 (Int.toNat (gI (gI O2_c1 vP) (gI Nq vP)))).off+0,none⟩)) (aO ir rfl rfl rfl rfl) (lx (bi (v:=W2_c1_v) (i:=(gI (gI O2_c1 vP) (gI Nq vP))) ae rfl o_W2_c1.flat (by omega) (by omega) (by decide) rfl) (ai ((gI Wq (gI (gI O2_c1 vP) (gI Nq vP))).1) (af (a9 (a9 (bt g1010 rfl i5 (by kernel_rfl) ?_)))))))
  intro w1028 ch1027
  refine qz zs0_c20 (qv (vp b33 0) (λw' hw'=>ad rfl) (qx (λw' hw'=>a7 bB rfl rfl rfl rfl) ?_))
  replace bx35:=bx35.cn ch1027
  refine qx (λw' hw'=>a8 aY rfl (bx35.bel hw') rfl) (qm (vi (gI (gI O2_c1 vP) (gI Nq vP))) ?_)
  replace o_W2_c1:=o_W2_c1.cn ch1027
  refine qx (λw' hw'=>aa (v:=W2_c1_v) (i:=(gI (gI O2_c1 vP) (gI Nq vP))) cZ rfl rfl (o_W2_c1.flat.bel hw') rfl (by omega) (by omega)) (qv (Value.pointer (some ⟨(aT W2_c1_v 3 (Int.toNat (gI (gI O2_c1 vP) (gI Nq vP)))).block,(aT W2_c1_v 3 (Int.toNat (gI (gI O2_c1 vP) (gI Nq vP)))).off+1,none⟩)) (λw' hw'=>aO ir rfl rfl rfl rfl) (qx (λw' hw'=>bi (v:=W2_c1_v) (i:=(gI (gI O2_c1 vP) (gI Nq vP))) ae rfl (o_W2_c1.flat.bel hw') (by omega) (by omega) (by decide) rfl) (qx (λw' hw'=>cw (m:=((gI Wq (gI (gI O2_c1 vP) (gI Nq vP))).2).1) (n:=0) rfl rfl) (qm (vb (decide ((((gI Wq (gI (gI O2_c1 vP) (gI Nq vP))).2).1)=0))) ?_))))
  by_cases q75_c20:(((gI Wq (gI (gI O2_c1 vP) (gI Nq vP))).2).1)=0
  ·
   refine aE (wn (dt q75_c20)) (aE (wn (dt q75_c20)) (aE (wn (dt q75_c20)) (aE (wn (dt q75_c20)) (aE (wn (dt q75_c20)) (aE (wn (dt q75_c20)) (aE (wn (dt q75_c20)) (aE (wn (dt q75_c20)) (aE (wn (dt q75_c20)) (aE (wn (dt q75_c20)) ?_)))))))))
   refine aE (wn (dt q75_c20)) (aE (wn (dt q75_c20)) (aE (wn (dt q75_c20)) (aE (wn (dt q75_c20)) (aE (wn (dt q75_c20)) (aE (wn (dt q75_c20)) (qv (vb true) (λw' hw'=>az rfl (dt q75_c20) rfl) (qm (vb true) (aE (wn rfl) (aE (wn rfl) ?_)))))))))
   refine aE (wn rfl) (aE (wn rfl) (aE (wn rfl) (qv (vb true) (λw' hw'=>az rfl rfl rfl) (bX ?_))))
   intro w1029 hc1030
   replace hc1030:=aB hc1030 g1010
   refine aj rfl rfl (aM rfl (a6 rfl (mz zs0_c20 (lw (vp b33 0) (ad rfl) (lx (a7 bB rfl rfl rfl rfl) ?_)))))
   replace bx35:=bx35.cn hc1030
   refine lx (a8 ao rfl bx35 rfl) (mz zs1_c20 ?_)
   have C1031:=cg [] (hc1025.n.seq (ch1027.n.seq hc1030.n))
   replace o26:=o26.ca C1031
   refine lx (aa (v:=v30) (i:=vP) aW rfl rfl o26.flat rfl (by omega) (by omega)) (lx (ay (v:=v30) (i:=vP) ae rfl o26.flat (by omega) (by omega) (by decide) rfl) (lx (aP (m:=(gI Nq vP)) (n:=1) rfl rfl (by omega)) (lx (aa (v:=v30) (i:=vP) aW rfl rfl o26.flat rfl (by omega) (by omega)) (lo (aK (i:=vP) ((gI Nq vP)+1) ae rfl rfl o26 (by omega) (by omega) rfl ?_)))))
   intro w1032 ch1033 bx1034
   clear o26
   refine af ?_
   have C1036:=cg [7] (hc1025.n.seq (ch1027.n.seq (hc1030.n.seq (ch1033.l rfl))))
   have C1035:=ch1011.n.seq (hc1018.n.seq (ch1019.n.seq C1036))
   refine back3_c20 ((List.set Nq (Int.toNat vP) ((gI Nq vP)+1)),Wq,g1010) _ _ ⟨bH.ca C1035,zs0_c20,zs1_c20,zs2_c20,Rt.ca C1035,r_t_v1.ca C1035,bx5.ca C1035,bx10.ca C1035,o23.ca C1036,o24.ca C1035,o25.ca C1035,bx1034,bx35.ce ch1033,(o_W2_c1.cn hc1030).ce ch1033,?_⟩ ?_
   · show iO (t.1+2) (t.1+1) vP mP O2_c1 xP xL fu (cL O2_c1 xP xL (t.1+1) fu vP mP Wr Nr) Wq (List.set Nq (Int.toNat vP) ((gI Nq vP)+1))
     exact hpw.skip ‹_› (.inl ‹_›)
   · show((gI O2_c1 vP).length-(gI (List.set Nq (Int.toNat vP) ((gI Nq vP)+1)) vP).toNat)<((gI O2_c1 vP).length-(gI Nq vP).toNat)
     (rw[dG (by omega) (by omega)];omega)
  refine aQ (v:=vp b33 0) (wy (df q75_c20)) (λw' hw'=>ah zs0_c20) (aQ (v:=vp b33 0) (wy (df q75_c20)) (λw' hw'=>ad rfl) (aQ (v:=vp b33 3) (wy (df q75_c20)) (λw' hw'=>a7 bB rfl rfl rfl rfl) (aQ (v:=v29) (wy (df q75_c20)) (λw' hw'=>a8 ao rfl (bx35.bel hw') rfl) (aQ (v:=vi ((gI Wq (gI (gI O2_c1 vP) (gI Nq vP))).1)) (wy (df q75_c20)) (λw' hw'=>ah rfl) ?_))))
  have C1037:=cg [] (ch1011.n.seq (hc1018.n.seq (ch1019.n.seq (hc1025.n.seq ch1027.n))))
  replace o25:=o25.ca C1037
  refine aQ (v:=Value.pointer (some (aT v29 1 (Int.toNat ((gI Wq (gI (gI O2_c1 vP) (gI Nq vP))).1))))) (wy (df q75_c20)) (λw' hw'=>aa (α:=Int) (xs:=xL) (v:=v29) (i:=(gI Wq (gI (gI O2_c1 vP) (gI Nq vP))).1) aW rfl rfl (o25.flat.bel hw') rfl (by omega) (by omega)) (aQ (v:=vi (gI xL ((gI Wq (gI (gI O2_c1 vP) (gI Nq vP))).1))) (wy (df q75_c20)) (λw' hw'=>ay (α:=Int) (xs:=xL) (v:=v29) (i:=(gI Wq (gI (gI O2_c1 vP) (gI Nq vP))).1) ae rfl (o25.flat.bel hw') (by omega) (by omega) (by decide) rfl) (aQ (v:=vp b33 0) (wy (df q75_c20)) (λw' hw'=>ah zs0_c20) ?_))
  refine aQ (v:=vp b33 0) (wy (df q75_c20)) (λw' hw'=>ad rfl) (aQ (v:=vp b33 3) (wy (df q75_c20)) (λw' hw'=>a7 bB rfl rfl rfl rfl) (aQ (v:=v29) (wy (df q75_c20)) (λw' hw'=>a8 ao rfl (bx35.bel hw') rfl) (aQ (v:=vi vP) (wy (df q75_c20)) (λw' hw'=>ah zs1_c20) (aQ (v:=Value.pointer (some (aT v29 1 (Int.toNat vP)))) (wy (df q75_c20)) (λw' hw'=>aa (α:=Int) (xs:=xL) (v:=v29) (i:=vP) aW rfl rfl (o25.flat.bel hw') rfl (by omega) (by omega)) ?_))))
  refine aQ (v:=vi (gI xL vP)) (wy (df q75_c20)) (λw' hw'=>ay (α:=Int) (xs:=xL) (v:=v29) (i:=vP) ae rfl (o25.flat.bel hw') (by omega) (by omega) (by decide) rfl) (aQ (v:=vi ((gI xL vP)+1)) (wy (df q75_c20)) (λw' hw'=>aP (m:=(gI xL vP)) (n:=1) rfl rfl (by omega)) (aQ (v:=vb (!(decide ((gI xL ((gI Wq (gI (gI O2_c1 vP) (gI Nq vP))).1))=((gI xL vP)+1))))) (wy (df q75_c20)) (λw' hw'=>cY (m:=(gI xL ((gI Wq (gI (gI O2_c1 vP) (gI Nq vP))).1))) (n:=(gI xL vP)+1) rfl rfl) (qv (vb (!(decide ((gI xL ((gI Wq (gI (gI O2_c1 vP) (gI Nq vP))).1))=((gI xL vP)+1))))) (λw' hw'=>aH rfl (df q75_c20) rfl) ?_)))
  refine qm (vb (!(decide ((gI xL ((gI Wq (gI (gI O2_c1 vP) (gI Nq vP))).1))=((gI xL vP)+1))))) ?_
  by_cases q93_c20:(gI xL ((gI Wq (gI (gI O2_c1 vP) (gI Nq vP))).1))=((gI xL vP)+1)
  ·
   refine aQ (v:=vp b33 0) (wy (congrArg Bool.not (dt q93_c20))) (λw' hw'=>ah zs0_c20) (aQ (v:=vi vP) (wy (congrArg Bool.not (dt q93_c20))) (λw' hw'=>ah zs1_c20) (aQ (v:=vi (gI (gI O2_c1 vP) (gI Nq vP))) (wy (congrArg Bool.not (dt q93_c20))) (λw' hw'=>ah rfl) ?_))
   replace o24:=o24.ca C1037
   refine dJ (v:=vi ((gI Wq (gI (gI O2_c1 vP) (gI Nq vP))).2.2+gI xP vP-gI xP (gI Wq (gI (gI O2_c1 vP) (gI Nq vP))).1)) (wy (congrArg Bool.not (dt q93_c20))) (λw' hw'=>aU (vals:=[vp b33 0,vi vP,vi (gI (gI O2_c1 vP) (gI Nq vP))]) Try.func35 jm iU rfl) (λw' hw'=>(dO w' b33 W2_c1_v Wq ((o_W2_c1.flat.bel hw')).ro v27 v28 xP ((o24.flat.bel hw')).ro v29 v30 (vi t.1) (vi (t.1+1)) (vi ak_c1) (vi fl1) (jX ((bx35.bel hw'))) vP (gI (gI O2_c1 vP) (gI Nq vP)) (by omega) (by omega) (by omega) (by omega) ‹_› ‹_›).mono λe w2 h2=>⟨h2.1,hw'.trans (h2.2.mono hw'.size)⟩) ?_
   refine aQ (v:=vb (!(decide (((gI Wq (gI (gI O2_c1 vP) (gI Nq vP))).2.2+gI xP vP-gI xP (gI Wq (gI (gI O2_c1 vP) (gI Nq vP))).1)=0)))) (wy (congrArg Bool.not (dt q93_c20))) (λw' hw'=>cY (m:=(gI Wq (gI (gI O2_c1 vP) (gI Nq vP))).2.2+gI xP vP-gI xP (gI Wq (gI (gI O2_c1 vP) (gI Nq vP))).1) (n:=0) rfl rfl) (qv (vb (!(decide (((gI Wq (gI (gI O2_c1 vP) (gI Nq vP))).2.2+gI xP vP-gI xP (gI Wq (gI (gI O2_c1 vP) (gI Nq vP))).1)=0)))) (λw' hw'=>aH rfl (congrArg Bool.not (dt q93_c20)) rfl) (bX ?_))
   intro w1038 hc1039
   replace hc1039:=aB hc1039 g1010
   by_cases p7_c20:((gI Wq (gI (gI O2_c1 vP) (gI Nq vP))).2.2+gI xP vP-gI xP (gI Wq (gI (gI O2_c1 vP) (gI Nq vP))).1)=0
   ·
    refine am rfl (congrArg Bool.not (dt p7_c20)) (au (a9 ?_))
    obtain⟨fI,hfI,hpv⟩:=hpw
    have hneed:=hpv.need hpu ‹_› ‹_›
    refine a6 rfl (mz zs0_c20 (mi ((gI Wq (gI (gI O2_c1 vP) (gI Nq vP))).1) (mz zs2_c20 (mz zs0_c20 (lw (vp b33 0) (ad rfl) (lx (a7 bB rfl rfl rfl rfl) ?_))))))
    replace bx35:=bx35.cn hc1039
    refine lx (a8 aY rfl bx35 rfl) (mi (gI (gI O2_c1 vP) (gI Nq vP)) ?_)
    replace o_W2_c1:=o_W2_c1.cn hc1039
    refine lx (aa (v:=W2_c1_v) (i:=(gI (gI O2_c1 vP) (gI Nq vP))) cZ rfl rfl o_W2_c1.flat rfl (by omega) (by omega)) (lw (Value.pointer (some ⟨(aT W2_c1_v 3 (Int.toNat (gI (gI O2_c1 vP) (gI Nq vP)))).block,(aT W2_c1_v 3 (Int.toNat (gI (gI O2_c1 vP) (gI Nq vP)))).off+1,none⟩)) (aO ir rfl rfl rfl rfl) (lx (bi (v:=W2_c1_v) (i:=(gI (gI O2_c1 vP) (gI Nq vP))) ae rfl o_W2_c1.flat (by omega) (by omega) (by decide) rfl) (lw (vi (min mP (((gI Wq (gI (gI O2_c1 vP) (gI Nq vP))).2).1))) (lD rfl rfl) (lo ?_))))
    have C1041:=cg [] (hc1025.n.seq (ch1027.n.seq hc1039.n))
    have C1040:=ch1011.n.seq (hc1018.n.seq (ch1019.n.seq C1041))
    replace bH:=bH.ca C1040
    replace Rt:=Rt.ca C1040
    replace r_t_v1:=r_t_v1.ca C1040
    replace bx5:=bx5.ca C1040
    replace bx10:=bx10.ca C1040
    replace o23:=o23.ca C1041
    replace o24:=o24.cn hc1039
    replace o25:=o25.cn hc1039
    replace o26:=o26.ca C1041
    refine bF (σ:=(List bq)×(List Int)×Int×aG) (V:=λ⟨xW_c22,xn_c22,rr_c22,gq⟩=>vi rr_c22) (S:=λ⟨xW_c22,xn_c22,rr_c22,gq⟩ w=>b9 w0 gq w/\Sl gq (is 0) w t_v t.2.1/\Sl gq (is 0) w t_v1 t.2.2/\Bx gq (is 1) w b3 [vi t.1,t_v,t_v1]/\Bx gq (is 2) w b8 [vn,vn,vi 0]/\bN gq 4 w v27 O2_c1/\Ow gq (is 5) (is 5) w v28 xP/\Ow gq (is 6) (is 6) w v29 xL/\Ow gq (is 7) (is 7) w v30 xn_c22/\Bx gq (is 8) w b33 [W2_c1_v,v27,v28,v29,v30,vi t.1,vi (t.1+1),vi ak_c1,vi fl1]/\Ow gq (is 12) (is 12) w W2_c1_v xW_c22/\(rr_c22=(cL O2_c1 xP xL (t.1+1) (fI-1) ((gI Wq (gI (gI O2_c1 vP) (gI Nq vP))).1) (min mP (((gI Wq (gI (gI O2_c1 vP) (gI Nq vP))).2).1)) Wq Nq).1/\xW_c22=(cL O2_c1 xP xL (t.1+1) (fI-1) ((gI Wq (gI (gI O2_c1 vP) (gI Nq vP))).1) (min mP (((gI Wq (gI (gI O2_c1 vP) (gI Nq vP))).2).1)) Wq Nq).2.1/\xn_c22=(cL O2_c1 xP xL (t.1+1) (fI-1) ((gI Wq (gI (gI O2_c1 vP) (gI Nq vP))).1) (min mP (((gI Wq (gI (gI O2_c1 vP) (gI Nq vP))).2).1)) Wq Nq).2.2)) (aU (vals:=[vp b33 0,vi ((gI Wq (gI (gI O2_c1 vP) (gI Nq vP))).1),vi (min mP (((gI Wq (gI (gI O2_c1 vP) (gI Nq vP))).2).1))]) Try.func32 jl jv rfl) (ih (fI-1) (by have:=hpv.pos;omega) bH Rt r_t_v1 bx5 bx10 o23 o24 o25 o26 bx35 o_W2_c1 (hneed)) ?_
    clear Rt r_t_v1 bx5 bx10 o23 o24 o25 o26 bx35 o_W2_c1 bH
    rintro⟨xW_c22,xn_c22,rr_c22,g1043⟩ w1042 ⟨bH,Rt,r_t_v1,bx5,bx10,o23,o24,o25,o26,bx35,o_W2_c1,hpr_c22⟩
    have hpa:=hpv.after hfI ‹_› ‹_› ‹_› ‹_› hpr_c22
    have hpb0:=hpa.nl
    obtain⟨hpb1,hpb2⟩:=hpa.nv
    obtain⟨hpb3,hpb4⟩:=hpa.wi
    obtain⟨hpb5,hpb6⟩:=hpa.ti
    have hpb7:=hpa.k0
    have hpb8:=hpa.k1
    have hpb9:=hpa.rm
    obtain⟨hpba,hpbb⟩:=hpa.rt
    have hpbc:=hpa.en
    refine ai rr_c22 (af (a9 (a6 rfl (mi rr_c22 (lx (bY (m:=rr_c22) (n:=0) rfl rfl) (af ?_))))))
    by_cases p9_c20:0<rr_c22
    ·
     refine aj rfl (dt p9_c20) (a9 (a6 rfl (mz zs0_c20 (lw (vp b33 0) (ad rfl) (lx (a7 bB rfl rfl rfl rfl) (lx (a8 aY rfl bx35 rfl) (mi (gI (gI O2_c1 vP) (gI Nq vP)) (lx (aa (v:=W2_c1_v) (i:=(gI (gI O2_c1 vP) (gI Nq vP))) cZ rfl rfl o_W2_c1.flat rfl (by omega) (by omega)) (lw (Value.pointer (some ⟨(aT W2_c1_v 3 (Int.toNat (gI (gI O2_c1 vP) (gI Nq vP)))).block,(aT W2_c1_v 3 (Int.toNat (gI (gI O2_c1 vP) (gI Nq vP)))).off+1,none⟩)) (aO ir rfl rfl rfl rfl) ?_)))))))))
     refine lx (bi (v:=W2_c1_v) (i:=(gI (gI O2_c1 vP) (gI Nq vP))) ae rfl o_W2_c1.flat (by omega) (by omega) (by decide) rfl) (mi rr_c22 (lx (cV (m:=((gI xW_c22 (gI (gI O2_c1 vP) (gI Nq vP))).2).1) (n:=rr_c22) rfl rfl (by omega)) (lx (aa (v:=W2_c1_v) (i:=(gI (gI O2_c1 vP) (gI Nq vP))) cZ rfl rfl o_W2_c1.flat rfl (by omega) (by omega)) (lw (Value.pointer (some ⟨(aT W2_c1_v 3 (Int.toNat (gI (gI O2_c1 vP) (gI Nq vP)))).block,(aT W2_c1_v 3 (Int.toNat (gI (gI O2_c1 vP) (gI Nq vP)))).off+1,none⟩)) (aO ir rfl rfl rfl rfl) (lo (eB (i:=(gI (gI O2_c1 vP) (gI Nq vP))) (q:=1) ((gI xW_c22 (gI (gI O2_c1 vP) (gI Nq vP))).1,(((gI xW_c22 (gI (gI O2_c1 vP) (gI Nq vP))).2).1)-rr_c22,((gI xW_c22 (gI (gI O2_c1 vP) (gI Nq vP))).2).2) ae rfl rfl o_W2_c1 (by omega) (by omega) (by decide) rfl rfl rfl ?_))))))
     intro w1044 ch1045 bx1046
     clear o_W2_c1
     refine af (a9 (a6 rfl (mz zs0_c20 (lw (vp b33 0) (ad rfl) (lx (a7 bB rfl rfl rfl rfl) ?_)))))
     replace bx35:=bx35.ce ch1045
     refine lx (a8 aY rfl bx35 rfl) (mi (gI (gI O2_c1 vP) (gI Nq vP)) (lw (vi (cj (gI (gI O2_c1 vP) (gI Nq vP)))) (pN (op:=.xor) (m:=(gI (gI O2_c1 vP) (gI Nq vP))) (n:=1) rfl rfl (k9 _ (by omega) (by omega))) (lx (aa (v:=W2_c1_v) (i:=cj (gI (gI O2_c1 vP) (gI Nq vP))) cZ rfl rfl bx1046.flat rfl (by omega) (by(simp only[List.length_set,List.length_append,List.length_cons,List.length_nil,List.length_replicate,List.length_map,List.length_take,List.length_drop];omega))) (lw (Value.pointer (some ⟨(aT W2_c1_v 3 (Int.toNat (cj (gI (gI O2_c1 vP) (gI Nq vP))))).block,(aT W2_c1_v 3 (Int.toNat (cj (gI (gI O2_c1 vP) (gI Nq vP))))).off+1,none⟩)) (aO ir rfl rfl rfl rfl) ?_))))
     refine lx (bi (v:=W2_c1_v) (i:=cj (gI (gI O2_c1 vP) (gI Nq vP))) ae rfl bx1046.flat (by omega) (by(simp only[List.length_set,List.length_append,List.length_cons,List.length_nil,List.length_replicate,List.length_map,List.length_take,List.length_drop];omega)) (by decide) rfl) (mi rr_c22 (lx (aP (m:=((gI (List.set xW_c22 (Int.toNat (gI (gI O2_c1 vP) (gI Nq vP))) ((gI xW_c22 (gI (gI O2_c1 vP) (gI Nq vP))).1,(((gI xW_c22 (gI (gI O2_c1 vP) (gI Nq vP))).2).1)-rr_c22,((gI xW_c22 (gI (gI O2_c1 vP) (gI Nq vP))).2).2)) (cj (gI (gI O2_c1 vP) (gI Nq vP)))).2).1) (n:=rr_c22) rfl rfl (by(rw[hpa.sz];omega))) ?_))
     refine lx (aa (v:=W2_c1_v) (i:=cj (gI (gI O2_c1 vP) (gI Nq vP))) cZ rfl rfl bx1046.flat rfl (by omega) (by(simp only[List.length_set,List.length_append,List.length_cons,List.length_nil,List.length_replicate,List.length_map,List.length_take,List.length_drop];omega))) (lw (Value.pointer (some ⟨(aT W2_c1_v 3 (Int.toNat (cj (gI (gI O2_c1 vP) (gI Nq vP))))).block,(aT W2_c1_v 3 (Int.toNat (cj (gI (gI O2_c1 vP) (gI Nq vP))))).off+1,none⟩)) (aO ir rfl rfl rfl rfl) (lo ?_))
     refine eB (i:=cj (gI (gI O2_c1 vP) (gI Nq vP))) (q:=1) ((gI (List.set xW_c22 (Int.toNat (gI (gI O2_c1 vP) (gI Nq vP))) ((gI xW_c22 (gI (gI O2_c1 vP) (gI Nq vP))).1,(((gI xW_c22 (gI (gI O2_c1 vP) (gI Nq vP))).2).1)-rr_c22,((gI xW_c22 (gI (gI O2_c1 vP) (gI Nq vP))).2).2)) (cj (gI (gI O2_c1 vP) (gI Nq vP)))).1,(((gI (List.set xW_c22 (Int.toNat (gI (gI O2_c1 vP) (gI Nq vP))) ((gI xW_c22 (gI (gI O2_c1 vP) (gI Nq vP))).1,(((gI xW_c22 (gI (gI O2_c1 vP) (gI Nq vP))).2).1)-rr_c22,((gI xW_c22 (gI (gI O2_c1 vP) (gI Nq vP))).2).2)) (cj (gI (gI O2_c1 vP) (gI Nq vP)))).2).1)+rr_c22,((gI (List.set xW_c22 (Int.toNat (gI (gI O2_c1 vP) (gI Nq vP))) ((gI xW_c22 (gI (gI O2_c1 vP) (gI Nq vP))).1,(((gI xW_c22 (gI (gI O2_c1 vP) (gI Nq vP))).2).1)-rr_c22,((gI xW_c22 (gI (gI O2_c1 vP) (gI Nq vP))).2).2)) (cj (gI (gI O2_c1 vP) (gI Nq vP)))).2).2) ae rfl rfl bx1046 (by omega) (by(simp only[List.length_set,List.length_append,List.length_cons,List.length_nil,List.length_replicate,List.length_map,List.length_take,List.length_drop];omega)) (by decide) rfl rfl rfl ?_
     intro w1047 ch1048 bx1049
     clear bx1046
     refine af (a9 (a6 rfl (mi rr_c22 (ai rr_c22 (af (aF (vs:=[vi rr_c22]) Try.func32 (.tmp rfl .nil) ?_))))))
     replace bH:=bH.ce ch1045
     replace bH:=bH.ce ch1048
     replace Rt:=(Rt.ce ch1045).ce ch1048
     replace r_t_v1:=(r_t_v1.ce ch1045).ce ch1048
     replace bx5:=(bx5.ce ch1045).ce ch1048
     replace bx10:=(bx10.ce ch1045).ce ch1048
     replace o23:=(o23.ce ch1045).ce ch1048
     replace o24:=(o24.ce ch1045).ce ch1048
     replace o25:=(o25.ce ch1045).ce ch1048
     replace o26:=(o26.ce ch1045).ce ch1048
     replace bx35:=bx35.ce ch1048
     refine⟨((List.set (List.set xW_c22 (Int.toNat (gI (gI O2_c1 vP) (gI Nq vP))) ((gI xW_c22 (gI (gI O2_c1 vP) (gI Nq vP))).1,(((gI xW_c22 (gI (gI O2_c1 vP) (gI Nq vP))).2).1)-rr_c22,((gI xW_c22 (gI (gI O2_c1 vP) (gI Nq vP))).2).2)) (Int.toNat (cj (gI (gI O2_c1 vP) (gI Nq vP)))) ((gI (List.set xW_c22 (Int.toNat (gI (gI O2_c1 vP) (gI Nq vP))) ((gI xW_c22 (gI (gI O2_c1 vP) (gI Nq vP))).1,(((gI xW_c22 (gI (gI O2_c1 vP) (gI Nq vP))).2).1)-rr_c22,((gI xW_c22 (gI (gI O2_c1 vP) (gI Nq vP))).2).2)) (cj (gI (gI O2_c1 vP) (gI Nq vP)))).1,(((gI (List.set xW_c22 (Int.toNat (gI (gI O2_c1 vP) (gI Nq vP))) ((gI xW_c22 (gI (gI O2_c1 vP) (gI Nq vP))).1,(((gI xW_c22 (gI (gI O2_c1 vP) (gI Nq vP))).2).1)-rr_c22,((gI xW_c22 (gI (gI O2_c1 vP) (gI Nq vP))).2).2)) (cj (gI (gI O2_c1 vP) (gI Nq vP)))).2).1)+rr_c22,((gI (List.set xW_c22 (Int.toNat (gI (gI O2_c1 vP) (gI Nq vP))) ((gI xW_c22 (gI (gI O2_c1 vP) (gI Nq vP))).1,(((gI xW_c22 (gI (gI O2_c1 vP) (gI Nq vP))).2).1)-rr_c22,((gI xW_c22 (gI (gI O2_c1 vP) (gI Nq vP))).2).2)) (cj (gI (gI O2_c1 vP) (gI Nq vP)))).2).2)),xn_c22,rr_c22,g1043),rfl,bH,Rt,r_t_v1,bx5,bx10,o23,o24,o25,o26,bx35,bx1049,?_⟩
     show rr_c22=(cL O2_c1 xP xL (t.1+1) fu vP mP Wr Nr).1/\(List.set (List.set xW_c22 (Int.toNat (gI (gI O2_c1 vP) (gI Nq vP))) ((gI xW_c22 (gI (gI O2_c1 vP) (gI Nq vP))).1,(((gI xW_c22 (gI (gI O2_c1 vP) (gI Nq vP))).2).1)-rr_c22,((gI xW_c22 (gI (gI O2_c1 vP) (gI Nq vP))).2).2)) (Int.toNat (cj (gI (gI O2_c1 vP) (gI Nq vP)))) ((gI (List.set xW_c22 (Int.toNat (gI (gI O2_c1 vP) (gI Nq vP))) ((gI xW_c22 (gI (gI O2_c1 vP) (gI Nq vP))).1,(((gI xW_c22 (gI (gI O2_c1 vP) (gI Nq vP))).2).1)-rr_c22,((gI xW_c22 (gI (gI O2_c1 vP) (gI Nq vP))).2).2)) (cj (gI (gI O2_c1 vP) (gI Nq vP)))).1,(((gI (List.set xW_c22 (Int.toNat (gI (gI O2_c1 vP) (gI Nq vP))) ((gI xW_c22 (gI (gI O2_c1 vP) (gI Nq vP))).1,(((gI xW_c22 (gI (gI O2_c1 vP) (gI Nq vP))).2).1)-rr_c22,((gI xW_c22 (gI (gI O2_c1 vP) (gI Nq vP))).2).2)) (cj (gI (gI O2_c1 vP) (gI Nq vP)))).2).1)+rr_c22,((gI (List.set xW_c22 (Int.toNat (gI (gI O2_c1 vP) (gI Nq vP))) ((gI xW_c22 (gI (gI O2_c1 vP) (gI Nq vP))).1,(((gI xW_c22 (gI (gI O2_c1 vP) (gI Nq vP))).2).1)-rr_c22,((gI xW_c22 (gI (gI O2_c1 vP) (gI Nq vP))).2).2)) (cj (gI (gI O2_c1 vP) (gI Nq vP)))).2).2))=(cL O2_c1 xP xL (t.1+1) fu vP mP Wr Nr).2.1/\xn_c22=(cL O2_c1 xP xL (t.1+1) fu vP mP Wr Nr).2.2
     (rw[hpa.yes ‹_›];exact⟨rfl,rfl,rfl⟩)
    refine am rfl (df p9_c20) (au (aq (a6 rfl (mz zs0_c20 (lw (vp b33 0) (ad rfl) (lx (a7 bB rfl rfl rfl rfl) (lx (a8 ao rfl bx35 rfl) (mz zs1_c20 (lx (aa (v:=v30) (i:=vP) aW rfl rfl o26.flat rfl (by omega) (by omega)) ?_)))))))))
    refine lx (ay (v:=v30) (i:=vP) ae rfl o26.flat (by omega) (by omega) (by decide) rfl) (lx (aP (m:=(gI xn_c22 vP)) (n:=1) rfl rfl (by omega)) (lx (aa (v:=v30) (i:=vP) aW rfl rfl o26.flat rfl (by omega) (by omega)) (lo (aK (i:=vP) ((gI xn_c22 vP)+1) ae rfl rfl o26 (by omega) (by omega) rfl ?_))))
    intro w1050 ch1051 bx1052
    clear o26
    refine af ?_
    refine back3_c20 ((List.set xn_c22 (Int.toNat vP) ((gI xn_c22 vP)+1)),xW_c22,g1043) _ _ ⟨bH.ce ch1051,zs0_c20,zs1_c20,zs2_c20,Rt.ce ch1051,r_t_v1.ce ch1051,bx5.ce ch1051,bx10.ce ch1051,o23.ce ch1051,o24.ce ch1051,o25.ce ch1051,bx1052,bx35.ce ch1051,o_W2_c1.ce ch1051,?_⟩ ?_
    · show iO (t.1+2) (t.1+1) vP mP O2_c1 xP xL fu (cL O2_c1 xP xL (t.1+1) fu vP mP Wr Nr) xW_c22 (List.set xn_c22 (Int.toNat vP) ((gI xn_c22 vP)+1))
      exact hpa.no ‹_›
    · show((gI O2_c1 vP).length-(gI (List.set xn_c22 (Int.toNat vP) ((gI xn_c22 vP)+1)) vP).toNat)<((gI O2_c1 vP).length-(gI Nq vP).toNat)
      (rw[dG (by omega) (by omega)];omega)
   refine aj rfl (congrArg Bool.not (df p7_c20)) (aM rfl (a6 rfl (mz zs0_c20 (lw (vp b33 0) (ad rfl) (lx (a7 bB rfl rfl rfl rfl) ?_)))))
   replace bx35:=bx35.cn hc1039
   refine lx (a8 ao rfl bx35 rfl) (mz zs1_c20 ?_)
   have C1053:=cg [] (hc1025.n.seq (ch1027.n.seq hc1039.n))
   replace o26:=o26.ca C1053
   refine lx (aa (v:=v30) (i:=vP) aW rfl rfl o26.flat rfl (by omega) (by omega)) (lx (ay (v:=v30) (i:=vP) ae rfl o26.flat (by omega) (by omega) (by decide) rfl) (lx (aP (m:=(gI Nq vP)) (n:=1) rfl rfl (by omega)) (lx (aa (v:=v30) (i:=vP) aW rfl rfl o26.flat rfl (by omega) (by omega)) (lo (aK (i:=vP) ((gI Nq vP)+1) ae rfl rfl o26 (by omega) (by omega) rfl ?_)))))
   intro w1054 ch1055 bx1056
   clear o26
   refine af ?_
   have C1058:=cg [7] (hc1025.n.seq (ch1027.n.seq (hc1039.n.seq (ch1055.l rfl))))
   have C1057:=ch1011.n.seq (hc1018.n.seq (ch1019.n.seq C1058))
   refine back3_c20 ((List.set Nq (Int.toNat vP) ((gI Nq vP)+1)),Wq,g1010) _ _ ⟨bH.ca C1057,zs0_c20,zs1_c20,zs2_c20,Rt.ca C1057,r_t_v1.ca C1057,bx5.ca C1057,bx10.ca C1057,o23.ca C1058,(o24.cn hc1039).ce ch1055,(o25.cn hc1039).ce ch1055,bx1056,bx35.ce ch1055,(o_W2_c1.cn hc1039).ce ch1055,?_⟩ ?_
   · show iO (t.1+2) (t.1+1) vP mP O2_c1 xP xL fu (cL O2_c1 xP xL (t.1+1) fu vP mP Wr Nr) Wq (List.set Nq (Int.toNat vP) ((gI Nq vP)+1))
     exact hpw.skip ‹_› (.inr (.inr ‹_›))
   · show((gI O2_c1 vP).length-(gI (List.set Nq (Int.toNat vP) ((gI Nq vP)+1)) vP).toNat)<((gI O2_c1 vP).length-(gI Nq vP).toNat)
     (rw[dG (by omega) (by omega)];omega)
  refine aE (wn (congrArg Bool.not (df q93_c20))) (aE (wn (congrArg Bool.not (df q93_c20))) (aE (wn (congrArg Bool.not (df q93_c20))) (aE (wn (congrArg Bool.not (df q93_c20))) (aE (wn (congrArg Bool.not (df q93_c20))) (qv (vb true) (λw' hw'=>az rfl (congrArg Bool.not (df q93_c20)) rfl) (bX ?_))))))
  intro w1059 hc1060
  replace hc1060:=aB hc1060 g1010
  refine aj rfl rfl (aM rfl (a6 rfl (mz zs0_c20 (lw (vp b33 0) (ad rfl) (lx (a7 bB rfl rfl rfl rfl) ?_)))))
  replace bx35:=bx35.cn hc1060
  refine lx (a8 ao rfl bx35 rfl) (mz zs1_c20 ?_)
  have C1061:=cg [] (hc1025.n.seq (ch1027.n.seq hc1060.n))
  replace o26:=o26.ca C1061
  refine lx (aa (v:=v30) (i:=vP) aW rfl rfl o26.flat rfl (by omega) (by omega)) (lx (ay (v:=v30) (i:=vP) ae rfl o26.flat (by omega) (by omega) (by decide) rfl) (lx (aP (m:=(gI Nq vP)) (n:=1) rfl rfl (by omega)) (lx (aa (v:=v30) (i:=vP) aW rfl rfl o26.flat rfl (by omega) (by omega)) (lo (aK (i:=vP) ((gI Nq vP)+1) ae rfl rfl o26 (by omega) (by omega) rfl ?_)))))
  intro w1062 ch1063 bx1064
  clear o26
  refine af ?_
  have C1066:=cg [7] (hc1025.n.seq (ch1027.n.seq (hc1060.n.seq (ch1063.l rfl))))
  have C1065:=ch1011.n.seq (hc1018.n.seq (ch1019.n.seq C1066))
  refine back3_c20 ((List.set Nq (Int.toNat vP) ((gI Nq vP)+1)),Wq,g1010) _ _ ⟨bH.ca C1065,zs0_c20,zs1_c20,zs2_c20,Rt.ca C1065,r_t_v1.ca C1065,bx5.ca C1065,bx10.ca C1065,o23.ca C1066,o24.ca C1065,(o25.cn hc1060).ce ch1063,bx1064,bx35.ce ch1063,(o_W2_c1.cn hc1060).ce ch1063,?_⟩ ?_
  · show iO (t.1+2) (t.1+1) vP mP O2_c1 xP xL fu (cL O2_c1 xP xL (t.1+1) fu vP mP Wr Nr) Wq (List.set Nq (Int.toNat vP) ((gI Nq vP)+1))
    exact hpw.skip ‹_› (.inr (.inl ‹_›))
  · show((gI O2_c1 vP).length-(gI (List.set Nq (Int.toNat vP) ((gI Nq vP)+1)) vP).toNat)<((gI O2_c1 vP).length-(gI Nq vP).toNat)
    (rw[dG (by omega) (by omega)];omega)
 refine am rfl (df p3_c20) (aM rfl (a9 ?_))
 clear cel1014 r1015
 refine a6 rfl (ai 0 (af (aF (vs:=[vi 0]) Try.func32 (.tmp rfl .nil) ?_)))
 replace bH:=bH.cn ch1011
 replace bH:=bH.cn hc1018
 replace Rt:=(Rt.cn ch1011).cn hc1018
 replace r_t_v1:=(r_t_v1.cn ch1011).cn hc1018
 replace bx5:=(bx5.cn ch1011).cn hc1018
 replace bx10:=(bx10.cn ch1011).cn hc1018
 replace o23:=o23.cn hc1018
 replace o24:=(o24.cn ch1011).cn hc1018
 replace o25:=(o25.cn ch1011).cn hc1018
 replace o26:=o26.cn hc1018
 replace bx35:=bx35.cn hc1018
 replace o_W2_c1:=(o_W2_c1.cn ch1011).cn hc1018
 refine⟨(Wq,Nq,0,g1010),rfl,bH,Rt,r_t_v1,bx5,bx10,o23,o24,o25,o26,bx35,o_W2_c1,?_⟩
 show 0=(cL O2_c1 xP xL (t.1+1) fu vP mP Wr Nr).1/\Wq=(cL O2_c1 xP xL (t.1+1) fu vP mP Wr Nr).2.1/\Nq=(cL O2_c1 xP xL (t.1+1) fu vP mP Wr Nr).2.2
 (rw[hpw.done ‹_›];exact⟨rfl,rfl,rfl⟩)
end TL
