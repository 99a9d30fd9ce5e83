import Derived.Test.YtmakonaaojadbaaBaTlP4
import Derived.Test.YtmakonaaojadbaaBaTlGmA
import Derived.Test.YtmakonaaojadbaaBaTlGenA
import Derived.Test.YtmakonaaojadbaaBaTlBkC
import Derived.Test.YtmakonaaojadbaaProg
import Derived.Test.YtmakonaaojadbaaBaTlAli
set_option linter.all false
set_option maxRecDepth 20000
namespace TL
open Go Go.Proofs
theorem dG:Try.prog.follows .mixedOrders=true:=by kernel_rfl
set_option maxHeartbeats 8000000 in
theorem mA{b47:Nat}{v_c1:Nat}{w0:World}{g_v:Value}{g:(Int)×(List Pt)}{b3:Nat}{v37:Value}{O_c2:gC}{v38:Value}{v39:Value}{v40:Value}{v41:Value}{v42:Value}{v43:Value}{b49:Nat}{pl_c1:List Int}{lo_c1:List Int}{by_c1:List Int}{nx_c1:List Int}{fo_c1:Int}{ed_c1:List Int}{la_c1:List Bool}{bl_c1:List Int}{co_c1:Int}{g254:aJ}{w253:World}{ed_c1_v:Value}{e_c2:Nat}(bH:bv w0 g254 w253)(Rg:Sl g254 (is 0) w253 g_v g.2)(bx5:Bx g254 (is 1) w253 b3 [vi g.1,g_v])(o27:cP g254 4 w253 v37 O_c2)(o28:Ow g254 (is 5) (is 5) w253 v38 pl_c1)(o29:Ow g254 (is 6) (is 6) w253 v39 lo_c1)(o30:Ow g254 (is 7) (is 7) w253 v40 by_c1)(o31:Ow g254 (is 8) (is 8) w253 v41 nx_c1)(o32:Ow g254 (is 9) (is 9) w253 v42 la_c1)(o33:Ow g254 (is 10) (is 10) w253 v43 bl_c1)(bx53:Bx g254 (is 12) w253 b49 [vp b47 0])(bx251:Bx g254 (is 11) w253 b47 [vi g.1,g_v,v37,v38,v39,v40,v41,vi fo_c1,ed_c1_v,v42,v43,vi co_c1,Value.func (.func 77) #[] (List.toArray [vp b49 0])])(o_ed_c1:Ow g254 (is 17) (is 17) w253 ed_c1_v ed_c1)(hm:bg g)(hO:O_c2=am g)(hov_c2:dA O_c2 g e_c2)(hec:(e_c2:Int)=(g.2.length:Int))(hsi:dS g (bs pl_c1 lo_c1 by_c1 nx_c1 fo_c1 ed_c1 la_c1 bl_c1 co_c1) [])(hv0:0<=(v_c1:Int))(hv1:(v_c1:Int)<g.1)(hp0:gI pl_c1 ↑v_c1=0):
    Calls Try.prog 61 (List.toArray [vp b47 0,vi ↑v_c1]) w253 (λee w=>∃xx:Int×Value×(List Int)×Int×(List Int)×(List Int)×(List Int)×(List Int)×(List Bool)×(List Int)×aJ,ee= .returned ((λ⟨fo_c3,ed_c3_v,ed_c3,co_c3,pl_c3,lo_c3,by_c3,nx_c3,la_c3,bl_c3,gq⟩=>vt []) xx)/\(λ(⟨fo_c3,ed_c3_v,ed_c3,co_c3,pl_c3,lo_c3,by_c3,nx_c3,la_c3,bl_c3,gq⟩:Int×Value×(List Int)×Int×(List Int)×(List Int)×(List Int)×(List Int)×(List Bool)×(List Int)×aJ) (w:World)=>bv w0 gq w/\Sl gq (is 0) w g_v g.2/\Bx gq (is 1) w b3 [vi g.1,g_v]/\cP gq 4 w v37 O_c2/\Ow gq (is 5) (is 5) w v38 pl_c3/\Ow gq (is 6) (is 6) w v39 lo_c3/\Ow gq (is 7) (is 7) w v40 by_c3/\Ow gq (is 8) (is 8) w v41 nx_c3/\Ow gq (is 9) (is 9) w v42 la_c3/\Ow gq (is 10) (is 10) w v43 bl_c3/\Bx gq (is 12) w b49 [vp b47 0]/\Bx gq (is 11) w b47 [vi g.1,g_v,v37,v38,v39,v40,v41,vi fo_c3,ed_c3_v,v42,v43,vi co_c3,Value.func (.func 77) #[] (List.toArray [vp b49 0])]/\Ow gq (is 17) (is 17) w ed_c3_v ed_c3/\((bs pl_c3 lo_c3 by_c3 nx_c3 fo_c3 ed_c3 la_c3 bl_c3 co_c3)=dH g (bs pl_c1 lo_c1 by_c1 nx_c1 fo_c1 ed_c1 la_c1 bl_c1 co_c1) (v_c1:Int))) xx w):=by
 refine aC Try.func61 rfl nq ?_
 have hm0:=hm
 obtain⟨hm1,hm2,hm3,hm4⟩:=hm0
 have hov1:=hov_c2.len
 have hl1:((pl_c1).length:Int)=g.1:=hsi.l1
 have hl2:((lo_c1).length:Int)=g.1:=hsi.l2
 have hl3:((by_c1).length:Int)=g.1:=hsi.l3
 have hl4:((nx_c1).length:Int)=g.1:=hsi.l4
 have hl5:((la_c1).length:Int)=g.2.length:=hsi.l5
 have hl6:((bl_c1).length:Int)=g.2.length:=hsi.l6
 obtain⟨hb1,hb2,hb3,hb4⟩:0<=fo_c1/\fo_c1<=g.1/\0<=co_c1/\co_c1+((ed_c1).length:Int)<=(g.2.length:Int):=lD (s:=bs pl_c1 lo_c1 by_c1 nx_c1 fo_c1 ed_c1 la_c1 bl_c1 co_c1) hsi
 refine ab (a8 rfl (mv (vp b47 0) (mi ↑v_c1 (lo (cv (b9 (vals:=[vp b47 0,vi ↑v_c1]) Try.func78 iT iG rfl) (aC Try.func78 rfl nq (ab (a8 rfl (mv (vp b47 0) ?_)))))))))
 refine lw (vp b47 0) (ao rfl) (lx (ad cF rfl rfl rfl rfl) (lx (af ah rfl bx251 rfl) (lx (aG (m:=fo_c1) (n:=1) rfl rfl (by omega)) (lw (vp b47 0) (ao rfl) (lx (ad cF rfl rfl rfl rfl) (lo (aI (cs':=[vi g.1,g_v,v37,v38,v39,v40,v41,vi (fo_c1+1),ed_c1_v,v42,v43,vi co_c1,Value.func (.func 77) #[] (List.toArray [vp b49 0])]) ah rfl rfl bx251 rfl nq (AllOne.all (.cons rfl .nil)) rfl ?_)))))))
 intro w255 ch256 bx257
 clear bx251
 refine ag (bA g254 [0,1,2,3,4,5,6,7,8,9,10,11,12,13,14,15,16,17,18,20] dG ?_)
 intro w259 ch258
 refine xp (v:=vp b47 0) 0 rfl (λw=>au rfl) (xp (v:=vp b47 0) 1 rfl (λw=>ao rfl) (xp 2 rfl (λw=>ad cF rfl rfl rfl rfl) ?_))
 replace bx257:=bx257.cn ch258
 refine xv 3 [2,1,0,4,5,9,10,14,6,11,15,7,12,16,8,13,17] rfl (af ay rfl bx257 rfl) (xp (v:=vi ↑v_c1) 4 rfl (λw=>au rfl) (xp (v:=vp b47 0) 5 rfl (λw=>au rfl) (xp (v:=vp b47 0) 6 rfl (λw=>ao rfl) (xp 7 rfl (λw=>ad cF rfl rfl rfl rfl) (xv 8 [7,6,5,4,3,2,1,0,9,10,14,11,15,12,16,13,17] rfl (af ay rfl bx257 rfl) (xp (v:=vi ↑v_c1) 9 rfl (λw=>au rfl) (xp (v:=vp b47 0) 10 rfl (λw=>au rfl) (xp (v:=vp b47 0) 11 rfl (λw=>ao rfl) (xp 12 rfl (λw=>ad cF rfl rfl rfl rfl) ?_)))))))))
 refine xv 13 [12,11,10,9,8,7,6,5,4,3,2,1,0,14,15,16,17] rfl (af ah rfl bx257 rfl) (xp (v:=vp b47 0) 14 rfl (λw=>au rfl) (xp (v:=vp b47 0) 15 rfl (λw=>ao rfl) (xp 16 rfl (λw=>ad cF rfl rfl rfl rfl) (xv 17 [16,15,14,13,12,11,10,9,8,7,6,5,4,3,2,1,0] rfl (af ah rfl bx257 rfl) ?_))))
 replace o28:=(o28.ce ch256).cn ch258
 refine xv 18 [17,16,15,14,13,12,11,10,9,8,7,6,5,4,3,2,1,0] rfl (ae (v:=v38) (i:=↑v_c1) bf rfl rfl o28.flat rfl (by omega) (by omega)) (bw 19 rfl (by kernel_rfl) rfl (aD (i:=↑v_c1) (fo_c1+1) ah rfl rfl o28 (by omega) (by omega) rfl ?_))
 intro w260 ch261 bx262
 clear o28
 have C263:=cg [5,11] ((ch256.l rfl).seq (ch258.n.seq (ch261.l rfl)))
 replace o29:=o29.ca C263
 refine xv 20 [19,18,17,16,15,14,13,12,11,10,9,8,7,6,5,4,3,2,1,0] rfl (ae (v:=v39) (i:=↑v_c1) bf rfl rfl o29.flat rfl (by omega) (by omega)) (bw 21 rfl (by kernel_rfl) rfl (aD (i:=↑v_c1) (fo_c1+1) ah rfl rfl o29 (by omega) (by omega) rfl ?_))
 intro w264 ch265 bx266
 clear o29
 refine c6 (by kernel_rfl) (dw (vs:=[]) Try.func78 .nil ?_)
 refine⟨vt [],rfl,?_⟩
 refine ag (ab (a8 rfl (mi ↑v_c1 (lo (aM (α:=Int) g254 (is 15) (is 15) (15,0) rfl [(v_c1:Int)] bf ah (by decide) (by decide) (vs:=[(0,vi ↑v_c1)]) rfl rfl (.cons rfl .nil) ?_)))))
 intro g267 w268 v269 ch270 o271
 refine ma v269 (ag (ar ?_))
 refine bc (σ:=Value×(List Int)×Value×(List Int)×Int×Int×(List Int)×(List Int)×(List Int)×(List Bool)×(List Int)×(List Int)×aJ) (λ⟨path_c3_v,path_c3,ed_c3_v,ed_c3,co_c3,fo_c3,lo_c3,bl_c3,nx_c3,la_c3,pl_c3,by_c3,gq⟩ f w=>bv w0 gq w/\f 0=vp b47 0/\f 4=path_c3_v/\Sl gq (is 0) w g_v g.2/\Bx gq (is 1) w b3 [vi g.1,g_v]/\cP gq 4 w v37 O_c2/\Ow gq (is 7) (is 7) w v40 by_c3/\Ow gq (is 8) (is 8) w v41 nx_c3/\Ow gq (is 9) (is 9) w v42 la_c3/\Ow gq (is 10) (is 10) w v43 bl_c3/\Bx gq (is 12) w b49 [vp b47 0]/\Bx gq (is 11) w b47 [vi g.1,g_v,v37,v38,v39,v40,v41,vi fo_c3,ed_c3_v,v42,v43,vi co_c3,Value.func (.func 77) #[] (List.toArray [vp b49 0])]/\Ow gq (is 5) (is 5) w v38 pl_c3/\Ow gq (is 6) (is 6) w v39 lo_c3/\Ow gq (is 15) (is 15) w path_c3_v path_c3/\Ow gq (is 17) (is 17) w ed_c3_v ed_c3/\(eO g (dH g (bs pl_c1 lo_c1 by_c1 nx_c1 fo_c1 ed_c1 la_c1 bl_c1 co_c1) (v_c1:Int)) (bs pl_c3 lo_c3 by_c3 nx_c3 fo_c3 ed_c3 la_c3 bl_c3 co_c3) path_c3)) (λ⟨path_c3_v,path_c3,ed_c3_v,ed_c3,co_c3,fo_c3,lo_c3,bl_c3,nx_c3,la_c3,pl_c3,by_c3,gq⟩=>bO g (bs pl_c3 lo_c3 by_c3 nx_c3 fo_c3 ed_c3 la_c3 bl_c3 co_c3) path_c3) (v269,[(v_c1:Int)],ed_c1_v,ed_c1,co_c1,fo_c1+1,(List.set lo_c1 (Int.toNat ↑v_c1) (fo_c1+1)),bl_c1,nx_c1,la_c1,(List.set pl_c1 (Int.toNat ↑v_c1) (fo_c1+1)),by_c1,g267) ?_ ?_
 have C272:=cg [5,6,11] ((ch256.l rfl).seq (ch258.n.seq ((ch261.l rfl).seq ((ch265.l rfl).seq ch270.n))))
 have C273:=cg [5,6] ((ch261.l rfl).seq ((ch265.l rfl).seq ch270.n))
 · exact⟨bH.ca C272,rfl,rfl,Rg.ca C272,bx5.ca C272,o27.ca C272,o30.ca C272,o31.ca C272,o32.ca C272,o33.ca C272,bx53.ca C272,bx257.ca C273,(bx262.ce ch265).cn ch270,bx266.cn ch270,o271,o_ed_c1.ca C272,by exact eO.start ‹_› (by omega) (by omega) ‹_›⟩
 clear Rg bx5 o27 o30 o31 o32 o33 bx53 o_ed_c1 bx257 bx262 bx266 o271 bH
 rintro⟨path_c3_v,path_c3,ed_c3_v,ed_c3,co_c3,fo_c3,lo_c3,bl_c3,nx_c3,la_c3,pl_c3,by_c3,g276⟩ f274 w275 ⟨bH,zs0_c3,zs4_c3,Rg,bx5,o27,o30,o31,o32,o33,bx53,bx257,bx262,bx266,o_path_c3,o_ed_c3,hfr⟩ back2_c3
 have hfi:=hfr.i
 have hpg:=oL hm1 hfi
 have hl1_c3:(pl_c3.length:Int)=g.1:=hfi.l1
 have hl2_c3:(lo_c3.length:Int)=g.1:=hfi.l2
 have hl3_c3:(by_c3.length:Int)=g.1:=hfi.l3
 have hl4_c3:(nx_c3.length:Int)=g.1:=hfi.l4
 have hl5_c3:(la_c3.length:Int)=g.2.length:=hfi.l5
 have hl6_c3:(bl_c3.length:Int)=g.2.length:=hfi.l6
 obtain⟨hb1_c3,hb2_c3,hb3_c3,hb4_c3⟩:0<=fo_c3/\fo_c3<=g.1/\0<=co_c3/\co_c3+(ed_c3.length:Int)<=(g.2.length:Int):=lD (s:=bs pl_c3 lo_c3 by_c3 nx_c3 fo_c3 ed_c3 la_c3 bl_c3 co_c3) hfi
 refine ab (ab (a8 rfl (mz zs4_c3 ?_)))
 have len277:=(o_path_c3.flat).small
 refine lx (bu bf rfl o_path_c3.flat) (lx (e7 (m:=(path_c3.length:Int)) (n:=0) rfl rfl) (ag ?_))
 by_cases p2_c3:0<(path_c3.length:Int)
 ·
  refine al rfl (dt p2_c3) (av (ar (ab ?_)))
  have hpz:0<(path_c3.length:Int):=by omega
  refine a8 rfl (mz zs4_c3 (mz zs4_c3 (lx (bu bf rfl o_path_c3.flat) (lx (dm (m:=(path_c3.length:Int)) (n:=1) rfl rfl (by omega)) (lx (ae (v:=path_c3_v) (i:=(path_c3.length:Int)-1) bf rfl rfl o_path_c3.flat rfl (by omega) (by omega)) (lx (aq (v:=path_c3_v) (i:=(path_c3.length:Int)-1) ah rfl o_path_c3.flat (by omega) (by omega) (by decide) rfl) ?_))))))
  obtain⟨u_c3,hn_u_c3⟩:∃q_:Int,(gI path_c3 ((path_c3.length:Int)-1))=q_:=⟨_,rfl⟩
  refine lw (vi u_c3) (c7 (congrArg (Value.int .i64) hn_u_c3)) (ag (ab (ab ?_)))
  obtain⟨⟨⟨hu0,hu1⟩,hnx0,hnx1⟩,hby0⟩:=pq hfi hO hpz hn_u_c3
  have hrl:=hov_c2.rl hu0 hu1
  refine cq g276 rfl dG (by kernel_rfl) ?_
  intro w279 ch278
  refine qz zs0_c3 (qv (vp b47 0) (λw' hw'=>ao rfl) (qx (λw' hw'=>ad cF rfl rfl rfl rfl) ?_))
  replace bx257:=bx257.cn ch278
  refine qx (λw' hw'=>af ay rfl (bx257.bel hw') rfl) (qm (vi u_c3) ?_)
  replace o31:=o31.cn ch278
  refine qx (λw' hw'=>ae (v:=v41) (i:=u_c3) bf rfl rfl (o31.flat.bel hw') rfl (by omega) (by omega)) (qx (λw' hw'=>aq (v:=v41) (i:=u_c3) ah rfl (o31.flat.bel hw') (by omega) (by omega) (by decide) rfl) (qz zs0_c3 (qv (vp b47 0) (λw' hw'=>ao rfl) (qx (λw' hw'=>ad cF rfl rfl rfl rfl) (qx (λw' hw'=>af bW rfl (bx257.bel hw') rfl) (qm (vi u_c3) ?_))))))
  replace o27:=o27.cn ch278
  refine qx (λw' hw'=>ae (v:=v37) (i:=u_c3) dB rfl rfl (o27.sl.bel hw') rfl (by omega) (by omega)) ?_
  obtain⟨v280,cel281,r282⟩:=bR (r:=u_c3) o27 (by omega) (by omega)
  refine qx (λw' hw'=>bB ay rfl (eC cel281 hw')) ?_
  have len283:=(r282.row_sl).small
  refine qx (λw' hw'=>bu bf rfl (r282.row_sl.bel hw')) (qx (λw' hw'=>cH (m:=(gI nx_c3 u_c3)) (n:=(List.length (gI O_c2 u_c3):Int)) rfl rfl) (d8 ?_))
  intro w284 hc285
  replace hc285:=aS hc285 g276
  by_cases p4_c3:(gI nx_c3 u_c3)=(List.length (gI O_c2 u_c3):Int)
  ·
   refine al rfl (dt p4_c3) (ab ?_)
   clear cel281 r282
   have hny:gI nx_c3 u_c3=((gI (am g) u_c3).length:Int):=by rw[<-hO];assumption
   refine a8 rfl (mz zs0_c3 (mi u_c3 (lo (cv (b9 (vals:=[vp b47 0,vi u_c3]) Try.func79 mJ ni rfl) (aC Try.func79 rfl nq ?_)))))
   replace Rg:=(Rg.cn ch278).cn hc285
   replace o27:=o27.cn hc285
   replace bx262:=(bx262.cn ch278).cn hc285
   replace bx266:=(bx266.cn ch278).cn hc285
   replace o30:=(o30.cn ch278).cn hc285
   replace o31:=o31.cn hc285
   replace o_ed_c3:=(o_ed_c3.cn ch278).cn hc285
   replace o32:=(o32.cn ch278).cn hc285
   replace o33:=(o33.cn ch278).cn hc285
   refine ab (a8 rfl (mv (vp b47 0) (lw (vp b47 0) (ao rfl) (lx (ad cF rfl rfl rfl rfl) ?_))))
   replace bx257:=bx257.cn hc285
   refine lx (af ay rfl bx257 rfl) (mi u_c3 (lx (ae (v:=v40) (i:=u_c3) bf rfl rfl o30.flat rfl (by omega) (by omega)) (lx (aq (v:=v40) (i:=u_c3) ah rfl o30.flat (by omega) (by omega) (by decide) rfl) ?_)))
   obtain⟨b_c5,hn_b_c5⟩:∃q_:Int,(gI by_c3 u_c3)=q_:=⟨_,rfl⟩
   refine lw (vi b_c5) (c7 (congrArg (Value.int .i64) hn_b_c5)) (ag (ab (ab (a8 rfl (mi b_c5 (lx (bn (m:=b_c5) (n:=0) rfl rfl) (ag ?_)))))))
   by_cases p1_c5:b_c5<0
   ·
    refine al rfl (dt p1_c5) (aQ (vs:=[]) Try.func79 .nil ?_)
    refine⟨vt [],rfl,?_⟩
    refine ag (ab (a8 rfl (mz zs4_c3 (mz zs4_c3 ?_))))
    replace o_path_c3:=(o_path_c3.cn ch278).cn hc285
    refine lx (bu bf rfl o_path_c3.flat) (lx (dm (m:=(path_c3.length:Int)) (n:=1) rfl rfl (by omega)) (lw ((ci path_c3_v 1 (Int.toNat 0) (Int.toNat ((path_c3.length:Int)-1)))) (dp (v:=path_c3_v) (l:=0) (h:=(path_c3.length:Int)-1) bf rfl rfl o_path_c3.flat (.inr ⟨rfl,rfl⟩) (.inl (congrArg some rfl)) (by omega) (by omega) (by omega)) ?_))
    have r287:=fp o_path_c3 (show Int.toNat ((path_c3.length:Int)-1)<=List.length _ by omega)
    refine ma ((ci path_c3_v 1 (Int.toNat 0) (Int.toNat ((path_c3.length:Int)-1)))) (ag (aF rfl ?_))
    replace bH:=bH.cn ch278
    refine back2_c3 ((ci path_c3_v 1 (Int.toNat 0) (Int.toNat ((path_c3.length:Int)-1))),(List.take (Int.toNat ((path_c3.length:Int)-1)) path_c3),ed_c3_v,ed_c3,co_c3,fo_c3,lo_c3,bl_c3,nx_c3,la_c3,pl_c3,by_c3,g276) _ _ ⟨bH.cn hc285,zs0_c3,rfl,Rg,(bx5.cn ch278).cn hc285,o27,o30,o31,o32,o33,(bx53.cn ch278).cn hc285,bx257,bx262,bx266,r287,o_ed_c3,?_⟩ ?_
    · show eO g (dH g (bs pl_c1 lo_c1 by_c1 nx_c1 fo_c1 ed_c1 la_c1 bl_c1 co_c1) (v_c1:Int)) (bs pl_c3 lo_c3 by_c3 nx_c3 fo_c3 ed_c3 la_c3 bl_c3 co_c3) (List.take (Int.toNat ((path_c3.length:Int)-1)) path_c3)
      (rw[du];exact And.left (hfr.off0 hm hpz hn_u_c3.symm hny (by omega)))
    · show bO g (bs pl_c3 lo_c3 by_c3 nx_c3 fo_c3 ed_c3 la_c3 bl_c3 co_c3) (List.take (Int.toNat ((path_c3.length:Int)-1)) path_c3)<bO g (bs pl_c3 lo_c3 by_c3 nx_c3 fo_c3 ed_c3 la_c3 bl_c3 co_c3) path_c3
      (rw[du];exact And.right (hfr.off0 hm hpz hn_u_c3.symm hny (by omega)))
   refine aj rfl (df p1_c5) (av (ab ?_))
   have hyb:hf g b_c5:=by rw[<-hn_b_c5];exact hby0.resolve_left (by omega)
   obtain⟨htw01,htw2,_,htw3⟩:=dl (g:=g) hyb
   obtain⟨htw0,htw1⟩:=htw01
   obtain⟨hb0,hb1⟩:=hyb
   have hto:=dM hm htw0 htw1
   unfold b6 at hto htw3
   obtain⟨hto0,hto1⟩:=hto
   have hnb:=hn_b_c5
   have hfb:aw g (gI by_c3 u_c3)=aw g b_c5:=by rw[hn_b_c5]
   refine a8 rfl (mv (vp b47 0) (mi b_c5 (lw (vi (dN b_c5)) (lX (op:=.xor) (m:=b_c5) (n:=1) rfl rfl (i9 _ (by omega) (by omega))) (lo (cv (b9 (vals:=[vp b47 0,vi (dN b_c5)]) Try.func48 gf gr rfl) (aC Try.func48 rfl nq (ab (a8 rfl (ai 0 ?_)))))))))
   refine ag (ab (a8 rfl (mv (vp b47 0) (lw (vp b47 0) (ao rfl) (lx (ad cF rfl rfl rfl rfl) (lx (ad cZ rfl rfl rfl rfl) (lx (af bC rfl bx257 rfl) (mi (dN b_c5) (lx (fe (m:=dN b_c5) (n:=2) rfl rfl (by omega) (by omega) (by omega)) ?_)))))))))
   refine mi (dN b_c5) (lx (jT (m:=dN b_c5) (n:=2) rfl rfl (by omega) (by omega)) (lx (dm (m:=1) (n:=(dN b_c5)%2) rfl rfl (by omega)) (lx (ae (v:=g_v) (i:=(dN b_c5)/2) dD rfl rfl Rg rfl (by omega) (by omega)) (lx (bM (i:=1-((dN b_c5)%2)) dg rfl rfl rfl (by omega) (by omega) (Nat.mul_one _)) (lx (cw (v:=g_v) (i:=(dN b_c5)/2) ah rfl Rg (by omega) (by omega) (show Int.toNat (1-((dN b_c5)%2))<2 by omega) (fg _ (by omega) (by omega))) ?_)))))
   obtain⟨w_c6,hn_w_c6⟩:∃q_:Int,pI (gI g.2 ((dN b_c5)/2)) (1-((dN b_c5)%2))=q_:=⟨_,rfl⟩
   refine lw (vi w_c6) (c7 (congrArg (Value.int .i64) hn_w_c6)) (ag (aQ (vs:=[vi w_c6]) Try.func48 (.tmp rfl .nil) ?_))
   refine⟨vi w_c6,rfl,?_⟩
   refine ai w_c6 (ag (ab (bA g276 [0,1,2,3,4,5,6,7,8,9,10,11,12,13,14,15,16,17,18,19,20] dG ?_)))
   intro w289 ch288
   refine xp (v:=vp b47 0) 0 rfl (λw=>au rfl) (xp (v:=vp b47 0) 1 rfl (λw=>ao rfl) (xp 2 rfl (λw=>ad cF rfl rfl rfl rfl) ?_))
   replace bx257:=bx257.cn ch288
   refine xv 3 [2,1,0,4,5,9,12,16,6,13,7,14,8,15,10,17,11,18,19] rfl (af ay rfl bx257 rfl) (xp (v:=vi w_c6) 4 rfl (λw=>au rfl) (xp (v:=vp b47 0) 5 rfl (λw=>au rfl) (xp (v:=vp b47 0) 6 rfl (λw=>ao rfl) (xp 7 rfl (λw=>ad cF rfl rfl rfl rfl) (xv 8 [7,6,5,4,3,2,1,0,9,12,16,13,14,15,17,18] rfl (af ay rfl bx257 rfl) (xp (v:=vi w_c6) 9 rfl (λw=>au rfl) ?_))))))
   replace bx266:=bx266.cn ch288
   refine xv 10 [9,8,7,6,5,4,3,2,1,0,12,16,13,14,15,17,18] rfl (ae (v:=v39) (i:=w_c6) bf rfl rfl bx266.flat rfl (by omega) (by omega)) (xv 11 [10,9,8,7,6,5,4,3,2,1,0,12,16,13,14,15,17,18] rfl (aq (v:=v39) (i:=w_c6) ah rfl bx266.flat (by omega) (by omega) (by decide) rfl) (xp (v:=vp b47 0) 12 rfl (λw=>au rfl) (xp (v:=vp b47 0) 13 rfl (λw=>ao rfl) (xp 14 rfl (λw=>ad cF rfl rfl rfl rfl) (xv 15 [14,13,12,11,10,9,8,7,6,5,4,3,2,1,0,16] rfl (af ay rfl bx257 rfl) (xp (v:=vi u_c3) 16 rfl (λw=>au rfl) ?_))))))
   refine xv 17 [16,15,14,13,12,11,10,9,8,7,6,5,4,3,2,1,0] rfl (ae (v:=v39) (i:=u_c3) bf rfl rfl bx266.flat rfl (by omega) (by omega)) (xv 18 [17,16,15,14,13,12,11,10,9,8,7,6,5,4,3,2,1,0] rfl (aq (v:=v39) (i:=u_c3) ah rfl bx266.flat (by omega) (by omega) (by decide) rfl) (xp (v:=vi (min (gI lo_c3 w_c6) (gI lo_c3 u_c3))) 19 rfl (λw=>ls rfl rfl) (xv 20 [19,18,17,16,15,14,13,12,11,10,9,8,7,6,5,4,3,2,1,0] rfl (ae (v:=v39) (i:=w_c6) bf rfl rfl bx266.flat rfl (by omega) (by omega)) (bw 21 rfl (by kernel_rfl) rfl (aD (i:=w_c6) (min (gI lo_c3 w_c6) (gI lo_c3 u_c3)) ah rfl rfl bx266 (by omega) (by omega) rfl ?_)))))
   intro w290 ch291 bx292
   clear bx266
   refine c6 (by kernel_rfl) (ab (cq g276 rfl dG (by kernel_rfl) ?_))
   intro w294 ch293
   refine qm (vp b47 0) (qv (vp b47 0) (λw' hw'=>ao rfl) (qx (λw' hw'=>ad cF rfl rfl rfl rfl) ?_))
   replace bx257:=(bx257.ce ch291).cn ch293
   refine qx (λw' hw'=>af ay rfl (bx257.bel hw') rfl) (qm (vi u_c3) ?_)
   replace bx292:=bx292.cn ch293
   refine qx (λw' hw'=>ae (v:=v39) (i:=u_c3) bf rfl rfl (bx292.flat.bel hw') rfl (by omega) (by(simp only[List.length_set,List.length_append,List.length_cons,List.length_nil,List.length_replicate,List.length_map,List.length_take,List.length_drop];omega))) (qx (λw' hw'=>aq (v:=v39) (i:=u_c3) ah rfl (bx292.flat.bel hw') (by omega) (by(simp only[List.length_set,List.length_append,List.length_cons,List.length_nil,List.length_replicate,List.length_map,List.length_take,List.length_drop];omega)) (by decide) rfl) (qm (vp b47 0) (qv (vp b47 0) (λw' hw'=>ao rfl) (qx (λw' hw'=>ad cF rfl rfl rfl rfl) (qx (λw' hw'=>af ay rfl (bx257.bel hw') rfl) (qm (vi w_c6) ?_))))))
   have C295:=cg [6] (ch288.n.seq ((ch291.l rfl).seq ch293.n))
   replace bx262:=bx262.ca C295
   refine qx (λw' hw'=>ae (v:=v38) (i:=w_c6) bf rfl rfl (bx262.flat.bel hw') rfl (by omega) (by omega)) (qx (λw' hw'=>aq (v:=v38) (i:=w_c6) ah rfl (bx262.flat.bel hw') (by omega) (by omega) (by decide) rfl) (qx (λw' hw'=>gJ (m:=(gI (List.set lo_c3 (Int.toNat w_c6) (min (gI lo_c3 w_c6) (gI lo_c3 u_c3))) u_c3)) (n:=(gI pl_c3 w_c6)) rfl rfl) (d8 ?_)))
   intro w296 hc297
   replace hc297:=aS hc297 g276
   by_cases p4_c5:(gI pl_c3 w_c6)<=(gI (List.set lo_c3 (Int.toNat w_c6) (min (gI lo_c3 w_c6) (gI lo_c3 u_c3))) u_c3)
   ·
    refine al rfl (dt p4_c5) ?_
    have hfw:=hfb.trans (htw3.symm.trans hn_w_c6)
    have hxn:(ed_c3).Nodup:=hfi.en
    have hxm:(b_c5/2)∈ed_c3:=by rw[<-hn_b_c5];exact(hfi.top (List.ne_nil_of_length_pos (by omega)) hn_u_c3.symm (show¬gI by_c3 u_c3<0 by rw[hn_b_c5];omega)).1
    have hxe:∀x∈ed_c3,0<=x/\x<(g.2.length:Int):=λx hx=>(hfi.el x hx).1
    refine a8 rfl (mv (vp b47 0) (lw (vp b47 0) (ao rfl) (lx (ad cF rfl rfl rfl rfl) ?_)))
    replace bx257:=bx257.cn hc297
    refine lx (af gi rfl bx257 rfl) (mi b_c5 (lx (fe (m:=b_c5) (n:=2) rfl rfl (by omega) (by omega) (by omega)) (lo (cv (kb (fid:=77) (vals:=[vi (b_c5/2)]) (caps:=[vp b49 0]) rfl Try.func77 iL iN rfl) (aC Try.func77 rfl nq ?_)))))
    have C298:=cg [6] (ch288.n.seq ((ch291.l rfl).seq (ch293.n.seq hc297.n)))
    replace Rg:=Rg.ca C298
    replace o27:=o27.ca C298
    replace bx262:=bx262.cn hc297
    replace bx292:=bx292.cn hc297
    replace o30:=o30.ca C298
    replace o31:=o31.ca C298
    replace o_ed_c3:=o_ed_c3.ca C298
    replace o32:=o32.ca C298
    replace o33:=o33.ca C298
    refine ab (a8 rfl ?_)
    have C299:=cg [6] (ch278.n.seq (hc285.n.seq (ch288.n.seq ((ch291.l rfl).seq (ch293.n.seq hc297.n)))))
    replace bx53:=bx53.ca C299
    refine lx (af bq rfl bx53 rfl) (lw (vp b47 0) (ao rfl) (lx (ad cF rfl rfl rfl rfl) (lx (af ay rfl bx257 rfl) ?_)))
    have len300:=(o_ed_c3.flat).small
    refine lx (bu bf rfl o_ed_c3.flat) (lx (dm (m:=(ed_c3.length:Int)) (n:=1) rfl rfl (by omega)) (ai ((ed_c3.length:Int)-1) (ag (ab (ar ?_)))))
    refine bc (σ:=Int×aJ) (λ⟨at_c7,gq⟩ f w=>bv w0 gq w/\f 0=vi (b_c5/2)/\f 1=vp b49 0/\f 3=vi at_c7/\Sl gq (is 0) w g_v g.2/\Bx gq (is 1) w b3 [vi g.1,g_v]/\cP gq 4 w v37 O_c2/\Ow gq (is 7) (is 7) w v40 by_c3/\Ow gq (is 8) (is 8) w v41 nx_c3/\Ow gq (is 9) (is 9) w v42 la_c3/\Ow gq (is 10) (is 10) w v43 bl_c3/\Bx gq (is 12) w b49 [vp b47 0]/\Bx gq (is 11) w b47 [vi g.1,g_v,v37,v38,v39,v40,v41,vi fo_c3,ed_c3_v,v42,v43,vi co_c3,Value.func (.func 77) #[] (List.toArray [vp b49 0])]/\Ow gq (is 5) (is 5) w v38 pl_c3/\Ow gq (is 15) (is 15) w path_c3_v path_c3/\Ow gq (is 17) (is 17) w ed_c3_v ed_c3/\Ow gq (is 6) (is 6) w v39 (List.set lo_c3 (Int.toNat w_c6) (min (gI lo_c3 w_c6) (gI lo_c3 u_c3)))/\(lq ed_c3 (b_c5/2) at_c7)) (λ⟨at_c7,gq⟩=>Int.toNat at_c7) ((ed_c3.length:Int)-1,g276) ?_ ?_
    · exact⟨bH.ca C299,rfl,rfl,rfl,Rg,bx5.ca C299,o27,o30,o31,o32,o33,bx53,bx257,bx262,o_path_c3.ca C299,o_ed_c3,bx292,by exact lq.start hxn hxm⟩
    clear Rg bx5 o27 o30 o31 o32 o33 bx53 bx257 bx262 o_path_c3 o_ed_c3 bx292 bH
    rintro⟨at_c7,g303⟩ f301 w302 ⟨bH,zs0_c7,zs1_c7,zs3_c7,Rg,bx5,o27,o30,o31,o32,o33,bx53,bx257,bx262,o_path_c3,o_ed_c3,bx292,hat_c7⟩ back1_c7
    have hA1_c7:=hat_c7.lo
    have hA2_c7:=hat_c7.hi
    refine ab (ab (a8 rfl (lx (af bq zs1_c7 bx53 rfl) (lw (vp b47 0) (ao rfl) (lx (ad cF rfl rfl rfl rfl) (lx (af ay rfl bx257 rfl) (mz zs3_c7 (lx (ae (v:=ed_c3_v) (i:=at_c7) bf rfl rfl o_ed_c3.flat rfl (by omega) (by omega)) (lx (aq (v:=ed_c3_v) (i:=at_c7) ah rfl o_ed_c3.flat (by omega) (by omega) (by decide) rfl) ?_)))))))))
    refine mz zs0_c7 (lx (dW (m:=(gI ed_c3 at_c7)) (n:=b_c5/2) rfl rfl) (ag ?_))
    by_cases p1_c7:(gI ed_c3 at_c7)=(b_c5/2)
    ·
     refine aj rfl (congrArg Bool.not (dt p1_c7)) (aF rfl (ab (ab (a8 rfl (lx (af bq zs1_c7 bx53 rfl) (lw (vp b47 0) (ao rfl) (lx (ad cF rfl rfl rfl rfl) (lx (af ay rfl bx257 rfl) (mz zs3_c7 ?_)))))))))
     refine lw ((ci ed_c3_v 1 (Int.toNat at_c7) (Int.toNat ed_c3.length))) (dp (v:=ed_c3_v) (l:=at_c7) (h:=ed_c3.length) bf rfl rfl o_ed_c3.flat (.inl (congrArg some rfl)) (.inr ⟨rfl,rfl⟩) (by omega) (by omega) (by omega)) ?_
     have r305:=jp o_ed_c3.flat (show Int.toNat at_c7<=Int.toNat ed_c3.length by omega) (show Int.toNat ed_c3.length<=List.length _ by omega)
     have len306:=(r305).small
     refine lx (bu bf rfl r305) (mi 0 (ag (ar ?_)))
     refine bc (σ:=Nat×(List Int)×aJ) (λ⟨k_c7,bk_c7,gq⟩ f w=>bv w0 gq w/\f 1=vp b49 0/\f 3=vi at_c7/\f 28=(ci ed_c3_v 1 (Int.toNat at_c7) (Int.toNat ed_c3.length))/\f 29=vi (List.length (List.drop (Int.toNat at_c7) (List.take (Int.toNat ed_c3.length) ed_c3)):Int)/\f 30=vi ↑k_c7/\Sl gq (is 0) w g_v g.2/\Bx gq (is 1) w b3 [vi g.1,g_v]/\cP gq 4 w v37 O_c2/\Ow gq (is 7) (is 7) w v40 by_c3/\Ow gq (is 8) (is 8) w v41 nx_c3/\Ow gq (is 9) (is 9) w v42 la_c3/\Ow gq (is 10) (is 10) w v43 bk_c7/\Bx gq (is 12) w b49 [vp b47 0]/\Bx gq (is 11) w b47 [vi g.1,g_v,v37,v38,v39,v40,v41,vi fo_c3,ed_c3_v,v42,v43,vi co_c3,Value.func (.func 77) #[] (List.toArray [vp b49 0])]/\Ow gq (is 5) (is 5) w v38 pl_c3/\Ow gq (is 15) (is 15) w path_c3_v path_c3/\Ow gq (is 17) (is 17) w ed_c3_v ed_c3/\Ow gq (is 6) (is 6) w v39 (List.set lo_c3 (Int.toNat w_c6) (min (gI lo_c3 w_c6) (gI lo_c3 u_c3)))/\Sl gq (is 17) w (ci ed_c3_v 1 (Int.toNat at_c7) (Int.toNat ed_c3.length)) (List.drop (Int.toNat at_c7) (List.take (Int.toNat ed_c3.length) ed_c3))/\(k_c7:Int)<=((List.length (List.drop (Int.toNat at_c7) (List.take (Int.toNat ed_c3.length) ed_c3)):Int):Int)/\(bk_c7=nD (List.drop (Int.toNat at_c7) (List.take (Int.toNat ((ed_c3).length:Int)) ed_c3)) bl_c3 co_c3 k_c7)) (λ⟨k_c7,bk_c7,gq⟩=>Int.toNat (((List.length (List.drop (Int.toNat at_c7) (List.take (Int.toNat ed_c3.length) ed_c3)):Int):Int)-(k_c7:Int))) (0,bl_c3,g303) ?_ ?_
     · exact⟨bH,zs1_c7,zs3_c7,rfl,rfl,rfl,Rg,bx5,o27,o30,o31,o32,o33,bx53,bx257,bx262,o_path_c3,o_ed_c3,bx292,r305,by omega,by exact oM⟩
     clear Rg bx5 o27 o30 o31 o32 o33 bx53 bx257 bx262 o_path_c3 o_ed_c3 bx292 r305 bH
     rintro⟨k_c7,bk_c7,g309⟩ f307 w308 ⟨bH,zs1_c7,zs3_c7,zs28_c7,zs29_c7,zs30_c7,Rg,bx5,o27,o30,o31,o32,o33,bx53,bx257,bx262,o_path_c3,o_ed_c3,bx292,r305,hle_k_c7,hbk_c7⟩ back4_c7
     have hbkl_c7:=ke hbk_c7
     refine ab (a8 rfl (lx (bn (m:=↑k_c7) (n:=(List.length (List.drop (Int.toNat at_c7) (List.take (Int.toNat ed_c3.length) ed_c3)):Int)) zs30_c7 zs29_c7) (ag (ab ?_))))
     by_cases p4_c7:(k_c7:Int)<(List.length (List.drop (Int.toNat at_c7) (List.take (Int.toNat ed_c3.length) ed_c3)):Int)
     ·
      refine al rfl (dt p4_c7) ?_
      have hei_c7:=hxe _ (List.mem_of_mem_take (List.mem_of_mem_drop (bP (xs:=(List.drop (Int.toNat at_c7) (List.take (Int.toNat ((ed_c3).length:Int)) ed_c3))) (i:=↑k_c7) (by omega) (by omega))))
      refine av (ab (ar (ab (a8 rfl (lx (ae (v:=(ci ed_c3_v 1 (Int.toNat at_c7) (Int.toNat ed_c3.length))) (i:=↑k_c7) bf rfl zs28_c7 r305 zs30_c7 (by omega) (by omega)) (lx (aq (v:=(ci ed_c3_v 1 (Int.toNat at_c7) (Int.toNat ed_c3.length))) (i:=↑k_c7) ah rfl r305 (by omega) (by omega) (by decide) rfl) (ai (gI (List.drop (Int.toNat at_c7) (List.take (Int.toNat ed_c3.length) ed_c3)) (k_c7:Int)) (ag (bA g309 [0,1,2,3,4,5,6,7,8,9] dG ?_)))))))))
      intro w311 ch310
      replace bx53:=bx53.cn ch310
      refine xv 0 [4,5,6,7,8] rfl (af bq zs1_c7 bx53 rfl) (xp (v:=vp b47 0) 1 rfl (λw=>ao rfl) (xp 2 rfl (λw=>ad cF rfl rfl rfl rfl) ?_))
      replace bx257:=bx257.cn ch310
      refine xv 3 [2,1,0,4,5,6,7,8] rfl (af ay rfl bx257 rfl) (xp (v:=vi (gI (List.drop (Int.toNat at_c7) (List.take (Int.toNat ed_c3.length) ed_c3)) (k_c7:Int))) 4 rfl (λw=>au rfl) (xv 5 [4,3,2,1,0] rfl (af bq zs1_c7 bx53 rfl) (xp (v:=vp b47 0) 6 rfl (λw=>ao rfl) (xp 7 rfl (λw=>ad cF rfl rfl rfl rfl) (xv 8 [7,6,5,4,3,2,1,0] rfl (af ah rfl bx257 rfl) ?_)))))
      replace o33:=o33.cn ch310
      refine xv 9 [8,7,6,5,4,3,2,1,0] rfl (ae (v:=v43) (i:=(gI (List.drop (Int.toNat at_c7) (List.take (Int.toNat ed_c3.length) ed_c3)) (k_c7:Int))) bf rfl rfl o33.flat rfl (by omega) (by omega)) (bw 10 rfl (by kernel_rfl) rfl (aD (i:=(gI (List.drop (Int.toNat at_c7) (List.take (Int.toNat ed_c3.length) ed_c3)) (k_c7:Int))) co_c3 ah rfl rfl o33 (by omega) (by omega) rfl ?_))
      intro w312 ch313 bx314
      clear o33
      refine c6 (by kernel_rfl) (ak (a8 rfl (lx (aG (m:=↑k_c7) (n:=1) zs30_c7 rfl (by omega)) (mi ((k_c7:Int)+1) (ag ?_)))))
      replace bH:=bH.cn ch310
      refine back4_c7 (k_c7+1,(List.set bk_c7 (Int.toNat (gI (List.drop (Int.toNat at_c7) (List.take (Int.toNat ed_c3.length) ed_c3)) (k_c7:Int))) co_c3),g309) _ _ ⟨bH.ce ch313,zs1_c7,zs3_c7,zs28_c7,zs29_c7,rfl,(Rg.cn ch310).ce ch313,(bx5.cn ch310).ce ch313,(o27.cn ch310).ce ch313,(o30.cn ch310).ce ch313,(o31.cn ch310).ce ch313,(o32.cn ch310).ce ch313,bx314,bx53.ce ch313,bx257.ce ch313,(bx262.cn ch310).ce ch313,(o_path_c3.cn ch310).ce ch313,(o_ed_c3.cn ch310).ce ch313,(bx292.cn ch310).ce ch313,(r305.cn ch310).ce ch313,by omega,?_⟩ ?_
      · show(List.set bk_c7 (Int.toNat (gI (List.drop (Int.toNat at_c7) (List.take (Int.toNat ed_c3.length) ed_c3)) (k_c7:Int))) co_c3)=nD (List.drop (Int.toNat at_c7) (List.take (Int.toNat ((ed_c3).length:Int)) ed_c3)) bl_c3 co_c3 (k_c7+1)
        exact iP hbk_c7 ‹_›
      · show Int.toNat (((List.length (List.drop (Int.toNat at_c7) (List.take (Int.toNat ed_c3.length) ed_c3)):Int):Int)-((k_c7+1):Int))<Int.toNat (((List.length (List.drop (Int.toNat at_c7) (List.take (Int.toNat ed_c3.length) ed_c3)):Int):Int)-(k_c7:Int))
        omega
     refine aj rfl (df p4_c7) (aF rfl (ab ?_))
     clear r305
     refine bA g309 [0,1,2,3,4,5,6,7,8] dG ?_
     intro w316 ch315
     replace bx53:=bx53.cn ch315
     refine xv 0 [1,5,2,3,4,6] rfl (af bq zs1_c7 bx53 rfl) (xv 1 [0,5] rfl (af bq zs1_c7 bx53 rfl) (xp (v:=vp b47 0) 2 rfl (λw=>ao rfl) (xp 3 rfl (λw=>ad cF rfl rfl rfl rfl) ?_)))
     replace bx257:=bx257.cn ch315
     refine xv 4 [3,2,1,0,5] rfl (af ay rfl bx257 rfl) (xp (v:=vi at_c7) 5 rfl (λw=>au zs3_c7) ?_)
     replace o_ed_c3:=o_ed_c3.cn ch315
     refine xp (v:=(ci ed_c3_v 1 (Int.toNat 0) (Int.toNat at_c7))) 6 rfl (λw=>dp (v:=ed_c3_v) (l:=0) (h:=at_c7) bf rfl rfl o_ed_c3.flat (.inr ⟨rfl,rfl⟩) (.inl (congrArg some rfl)) (by omega) (by omega) (by omega)) ?_
     have r318:=fp o_ed_c3 (show Int.toNat at_c7<=List.length _ by omega)
     refine xp (v:=vp b47 0) 7 rfl (λw=>ao rfl) (xp 8 rfl (λw=>ad cF rfl rfl rfl rfl) (bw 9 rfl (by kernel_rfl) rfl (cj (cs':=[vi g.1,g_v,v37,v38,v39,v40,v41,vi fo_c3,(ci ed_c3_v 1 (Int.toNat 0) (Int.toNat at_c7)),v42,v43,vi co_c3,Value.func (.func 77) #[] (List.toArray [vp b49 0])]) ay rfl rfl bx257 (cd r318.flat) nq (bQ r318.flat) rfl ?_)))
     intro w319 ch320 bx321
     clear bx257
     refine c6 (by kernel_rfl) (a8 rfl ?_)
     replace bx53:=bx53.ce ch320
     refine lx (af bq zs1_c7 bx53 rfl) (lw (vp b47 0) (ao rfl) (lx (ad cF rfl rfl rfl rfl) (lx (af ah rfl bx321 rfl) (lx (aG (m:=co_c3) (n:=1) rfl rfl (by omega)) (lw (vp b47 0) (ao rfl) (lx (ad cF rfl rfl rfl rfl) (lo (aI (cs':=[vi g.1,g_v,v37,v38,v39,v40,v41,vi fo_c3,(ci ed_c3_v 1 (Int.toNat 0) (Int.toNat at_c7)),v42,v43,vi (co_c3+1),Value.func (.func 77) #[] (List.toArray [vp b49 0])]) ah rfl rfl bx321 rfl nq (AllOne.all (.cons rfl .nil)) rfl ?_))))))))
     intro w322 ch323 bx324
     clear bx321
     refine ag (dw (vs:=[]) Try.func77 .nil ?_)
     refine⟨vt [],rfl,?_⟩
     refine ag (dw (vs:=[]) Try.func79 .nil ?_)
     refine⟨vt [],rfl,?_⟩
     refine ag (ab ?_)
     clear o_ed_c3
     refine a8 rfl (mz zs4_c3 (mz zs4_c3 ?_))
     have C325:=cg [11] (ch315.n.seq ((ch320.l rfl).seq (ch323.l rfl)))
     replace o_path_c3:=o_path_c3.ca C325
     refine lx (bu bf rfl o_path_c3.flat) (lx (dm (m:=(path_c3.length:Int)) (n:=1) rfl rfl (by omega)) (lw ((ci path_c3_v 1 (Int.toNat 0) (Int.toNat ((path_c3.length:Int)-1)))) (dp (v:=path_c3_v) (l:=0) (h:=(path_c3.length:Int)-1) bf rfl rfl o_path_c3.flat (.inr ⟨rfl,rfl⟩) (.inl (congrArg some rfl)) (by omega) (by omega) (by omega)) ?_))
     have r327:=fp o_path_c3 (show Int.toNat ((path_c3.length:Int)-1)<=List.length _ by omega)
     refine ma ((ci path_c3_v 1 (Int.toNat 0) (Int.toNat ((path_c3.length:Int)-1)))) (ag (aF rfl ?_))
     refine back2_c3 ((ci path_c3_v 1 (Int.toNat 0) (Int.toNat ((path_c3.length:Int)-1))),(List.take (Int.toNat ((path_c3.length:Int)-1)) path_c3),(ci ed_c3_v 1 (Int.toNat 0) (Int.toNat at_c7)),(List.take (Int.toNat at_c7) ed_c3),co_c3+1,fo_c3,(List.set lo_c3 (Int.toNat w_c6) (min (gI lo_c3 w_c6) (gI lo_c3 u_c3))),bk_c7,nx_c3,la_c3,pl_c3,by_c3,g309) _ _ ⟨bH.ca C325,zs0_c3,rfl,Rg.ca C325,bx5.ca C325,o27.ca C325,o30.ca C325,o31.ca C325,o32.ca C325,o33.ca C325,bx53.ce ch323,bx324,bx262.ca C325,bx292.ca C325,r327,(r318.ce ch320).ce ch323,?_⟩ ?_
     · show eO g (dH g (bs pl_c1 lo_c1 by_c1 nx_c1 fo_c1 ed_c1 la_c1 bl_c1 co_c1) (v_c1:Int)) (bs pl_c3 (List.set lo_c3 (Int.toNat w_c6) (min (gI lo_c3 w_c6) (gI lo_c3 u_c3))) by_c3 nx_c3 fo_c3 (List.take (Int.toNat at_c7) ed_c3) la_c3 bk_c7 (co_c3+1)) (List.take (Int.toNat ((path_c3.length:Int)-1)) path_c3)
       (rw[du];exact And.left (hfr.off3 hm hpz hn_u_c3.symm hny (by omega) hfw rfl ‹_› (by rw[hnb];exact(fc ‹_› ‹_› ‹_› ‹_› ‹_›))))
     · show bO g (bs pl_c3 (List.set lo_c3 (Int.toNat w_c6) (min (gI lo_c3 w_c6) (gI lo_c3 u_c3))) by_c3 nx_c3 fo_c3 (List.take (Int.toNat at_c7) ed_c3) la_c3 bk_c7 (co_c3+1)) (List.take (Int.toNat ((path_c3.length:Int)-1)) path_c3)<bO g (bs pl_c3 lo_c3 by_c3 nx_c3 fo_c3 ed_c3 la_c3 bl_c3 co_c3) path_c3
       (rw[du];exact And.right (hfr.off3 hm hpz hn_u_c3.symm hny (by omega) hfw rfl ‹_› (by rw[hnb];exact(fc ‹_› ‹_› ‹_› ‹_› ‹_›))))
    refine al rfl (congrArg Bool.not (df p1_c7)) (av (ar (a8 rfl (mz zs3_c7 (lx (dm (m:=at_c7) (n:=1) rfl rfl (by omega)) (ai (at_c7-1) (ag (ak ?_))))))))
    refine back1_c7 (at_c7-1,g303) _ _ ⟨bH,zs0_c7,zs1_c7,rfl,Rg,bx5,o27,o30,o31,o32,o33,bx53,bx257,bx262,o_path_c3,o_ed_c3,bx292,?_⟩ ?_
    · show lq ed_c3 (b_c5/2) (at_c7-1)
      exact(hat_c7.next ‹_›).1
    · show Int.toNat (at_c7-1)<Int.toNat at_c7
      (have:=(hat_c7.next ‹_›).2;omega)
   refine aj rfl (df p4_c5) (av (dw (vs:=[]) Try.func79 .nil ?_))
   refine⟨vt [],rfl,?_⟩
   refine ag (ab (a8 rfl (mz zs4_c3 (mz zs4_c3 ?_))))
   have C328:=cg [6] (ch278.n.seq (hc285.n.seq (ch288.n.seq ((ch291.l rfl).seq (ch293.n.seq hc297.n)))))
   replace o_path_c3:=o_path_c3.ca C328
   refine lx (bu bf rfl o_path_c3.flat) (lx (dm (m:=(path_c3.length:Int)) (n:=1) rfl rfl (by omega)) (lw ((ci path_c3_v 1 (Int.toNat 0) (Int.toNat ((path_c3.length:Int)-1)))) (dp (v:=path_c3_v) (l:=0) (h:=(path_c3.length:Int)-1) bf rfl rfl o_path_c3.flat (.inr ⟨rfl,rfl⟩) (.inl (congrArg some rfl)) (by omega) (by omega) (by omega)) ?_))
   have r330:=fp o_path_c3 (show Int.toNat ((path_c3.length:Int)-1)<=List.length _ by omega)
   refine ma ((ci path_c3_v 1 (Int.toNat 0) (Int.toNat ((path_c3.length:Int)-1)))) (ag (aF rfl ?_))
   have C331:=cg [6] (ch288.n.seq ((ch291.l rfl).seq (ch293.n.seq hc297.n)))
   refine back2_c3 ((ci path_c3_v 1 (Int.toNat 0) (Int.toNat ((path_c3.length:Int)-1))),(List.take (Int.toNat ((path_c3.length:Int)-1)) path_c3),ed_c3_v,ed_c3,co_c3,fo_c3,(List.set lo_c3 (Int.toNat w_c6) (min (gI lo_c3 w_c6) (gI lo_c3 u_c3))),bl_c3,nx_c3,la_c3,pl_c3,by_c3,g276) _ _ ⟨bH.ca C328,zs0_c3,rfl,Rg.ca C331,bx5.ca C328,o27.ca C331,o30.ca C331,o31.ca C331,o32.ca C331,o33.ca C331,bx53.ca C328,bx257.cn hc297,bx262.cn hc297,bx292.cn hc297,r330,o_ed_c3.ca C331,?_⟩ ?_
   · show eO g (dH g (bs pl_c1 lo_c1 by_c1 nx_c1 fo_c1 ed_c1 la_c1 bl_c1 co_c1) (v_c1:Int)) (bs pl_c3 (List.set lo_c3 (Int.toNat w_c6) (min (gI lo_c3 w_c6) (gI lo_c3 u_c3))) by_c3 nx_c3 fo_c3 ed_c3 la_c3 bl_c3 co_c3) (List.take (Int.toNat ((path_c3.length:Int)-1)) path_c3)
     (rw[du];exact And.left (hfr.off1 hm hpz hn_u_c3.symm hny (by omega) (by omega) rfl ‹_›))
   · show bO g (bs pl_c3 (List.set lo_c3 (Int.toNat w_c6) (min (gI lo_c3 w_c6) (gI lo_c3 u_c3))) by_c3 nx_c3 fo_c3 ed_c3 la_c3 bl_c3 co_c3) (List.take (Int.toNat ((path_c3.length:Int)-1)) path_c3)<bO g (bs pl_c3 lo_c3 by_c3 nx_c3 fo_c3 ed_c3 la_c3 bl_c3 co_c3) path_c3
     (rw[du];exact And.right (hfr.off1 hm hpz hn_u_c3.symm hny (by omega) (by omega) rfl ‹_›))
  refine aj rfl (df p4_c3) (av (ab ?_))
  clear cel281 r282
  refine cq g276 rfl dG (by kernel_rfl) ?_
  intro w333 ch332
  refine qz zs0_c3 (qv (vp b47 0) (λw' hw'=>ao rfl) (qx (λw' hw'=>ad cF rfl rfl rfl rfl) ?_))
  replace bx257:=(bx257.cn hc285).cn ch332
  refine qx (λw' hw'=>af bW rfl (bx257.bel hw') rfl) (qm (vi u_c3) ?_)
  replace o27:=(o27.cn hc285).cn ch332
  refine qx (λw' hw'=>ae (v:=v37) (i:=u_c3) dB rfl rfl (o27.sl.bel hw') rfl (by omega) (by omega)) ?_
  obtain⟨v334,cel335,r336⟩:=bR (r:=u_c3) o27 (by omega) (by omega)
  refine qx (λw' hw'=>bB ay rfl (eC cel335 hw')) (qz zs0_c3 (qv (vp b47 0) (λw' hw'=>ao rfl) (qx (λw' hw'=>ad cF rfl rfl rfl rfl) (qx (λw' hw'=>af ay rfl (bx257.bel hw') rfl) (qm (vi u_c3) ?_)))))
  replace o31:=(o31.cn hc285).cn ch332
  refine qx (λw' hw'=>ae (v:=v41) (i:=u_c3) bf rfl rfl (o31.flat.bel hw') rfl (by omega) (by omega)) (qx (λw' hw'=>aq (v:=v41) (i:=u_c3) ah rfl (o31.flat.bel hw') (by omega) (by omega) (by decide) rfl) (qx (λw' hw'=>ae (v:=v334) (i:=(gI nx_c3 u_c3)) bf rfl rfl (r336.row_sl.bel hw') rfl (by omega) (by omega)) (qx (λw' hw'=>aq (v:=v334) (i:=(gI nx_c3 u_c3)) ah rfl (r336.row_sl.bel hw') (by omega) (by omega) (by decide) rfl) ?_)))
  obtain⟨h_c3,hn_h_c3⟩:∃q_:Int,(gI (gI O_c2 u_c3) (gI nx_c3 u_c3))=q_:=⟨_,rfl⟩
  refine qv (vi h_c3) (λw' hw'=>c7 (congrArg (Value.int .i64) hn_h_c3)) (d8 ?_)
  intro w337 hc338
  replace hc338:=aS hc338 g276
  refine ab ?_
  clear cel335 r336
  have hnn:¬gI nx_c3 u_c3=((gI (am g) u_c3).length:Int):=by rw[<-hO];assumption
  have heh:gI (gI (am g) u_c3) (gI nx_c3 u_c3)=h_c3:=by rw[<-hO];assumption
  obtain⟨⟨hh0,hh1⟩,hw0⟩:=pk hm hfi hO hu0 hu1 ‹_›
  rw[hn_h_c3] at hh0 hh1 hw0
  unfold b6 at hw0
  obtain⟨hw0,hw1⟩:=hw0
  refine a8 rfl (mz zs0_c3 (lw (vp b47 0) (ao rfl) (lx (ad cF rfl rfl rfl rfl) ?_)))
  replace bx257:=bx257.cn hc338
  refine lx (af ay rfl bx257 rfl) (mi u_c3 ?_)
  replace o31:=o31.cn hc338
  refine lx (ae (v:=v41) (i:=u_c3) bf rfl rfl o31.flat rfl (by omega) (by omega)) (lx (aq (v:=v41) (i:=u_c3) ah rfl o31.flat (by omega) (by omega) (by decide) rfl) (lx (aG (m:=(gI nx_c3 u_c3)) (n:=1) rfl rfl (by omega)) (lx (ae (v:=v41) (i:=u_c3) bf rfl rfl o31.flat rfl (by omega) (by omega)) (lo (aD (i:=u_c3) ((gI nx_c3 u_c3)+1) ah rfl rfl o31 (by omega) (by omega) rfl ?_)))))
  intro w339 ch340 bx341
  clear o31
  refine ag (ab (a8 rfl (mz zs0_c3 (mi u_c3 (mi h_c3 (lo (cv (b9 (vals:=[vp b47 0,vi u_c3,vi h_c3]) Try.func80 mP ns rfl) (aC Try.func80 rfl nq ?_))))))))
  have C342:=cg [8] (ch278.n.seq (hc285.n.seq (ch332.n.seq (hc338.n.seq (ch340.l rfl)))))
  replace Rg:=Rg.ca C342
  replace o27:=(o27.cn hc338).ce ch340
  replace bx262:=bx262.ca C342
  replace bx266:=bx266.ca C342
  replace o30:=o30.ca C342
  replace o_ed_c3:=o_ed_c3.ca C342
  replace o32:=o32.ca C342
  replace o33:=o33.ca C342
  refine ab (a8 rfl (ai 0 (ma (vb false) (ag (ab (a8 rfl (mi h_c3 (lx (fe (m:=h_c3) (n:=2) rfl rfl (by omega) (by omega) (by omega)) (mv (vp b47 0) ?_)))))))))
  refine mi h_c3 (lo (cv (b9 (vals:=[vp b47 0,vi h_c3]) Try.func48 gf gr rfl) (aC Try.func48 rfl nq (ab (a8 rfl (ai 0 (ag (ab (a8 rfl ?_)))))))))
  refine mv (vp b47 0) (lw (vp b47 0) (ao rfl) (lx (ad cF rfl rfl rfl rfl) (lx (ad cZ rfl rfl rfl rfl) ?_)))
  replace bx257:=bx257.ce ch340
  refine lx (af bC rfl bx257 rfl) (mi h_c3 (lx (fe (m:=h_c3) (n:=2) rfl rfl (by omega) (by omega) (by omega)) (mi h_c3 (lx (jT (m:=h_c3) (n:=2) rfl rfl (by omega) (by omega)) (lx (dm (m:=1) (n:=h_c3%2) rfl rfl (by omega)) (lx (ae (v:=g_v) (i:=h_c3/2) dD rfl rfl Rg rfl (by omega) (by omega)) (lx (bM (i:=1-(h_c3%2)) dg rfl rfl rfl (by omega) (by omega) (Nat.mul_one _)) (lx (cw (v:=g_v) (i:=h_c3/2) ah rfl Rg (by omega) (by omega) (show Int.toNat (1-(h_c3%2))<2 by omega) (fg _ (by omega) (by omega))) ?_))))))))
  obtain⟨w_c9,hn_w_c9⟩:∃q_:Int,pI (gI g.2 (h_c3/2)) (1-(h_c3%2))=q_:=⟨_,rfl⟩
  refine lw (vi w_c9) (c7 (congrArg (Value.int .i64) hn_w_c9)) (ag (aQ (vs:=[vi w_c9]) Try.func48 (.tmp rfl .nil) ?_))
  refine⟨vi w_c9,rfl,?_⟩
  refine ai (h_c3/2) (ai w_c9 (ag (ab (ab (a8 rfl (mv (vp b47 0) (lw (vp b47 0) (ao rfl) (lx (ad cF rfl rfl rfl rfl) (lx (af je rfl bx257 rfl) ?_)))))))))
  refine mi (h_c3/2) (lx (ae (v:=v42) (i:=h_c3/2) fk rfl rfl o32.flat rfl (by omega) (by omega)) (lx (aq (v:=v42) (i:=h_c3/2) bX rfl o32.flat (by omega) (by omega) (by decide) rfl) (ag ?_)))
  by_cases p2_c8:(gI la_c3 (h_c3/2))=true
  ·
   refine al rfl p2_c8 (ab (a8 rfl (ai 0 (ma (vb false) (ag (aQ (vs:=[vi 0,vb false]) Try.func80 (.tmp rfl (.tmp rfl .nil)) ?_))))))
   refine⟨vt [vi 0,vb false],rfl,?_⟩
   refine mv (vt [vi 0,vb false]) (lx (aR rfl rfl) (lx (aR rfl rfl) (ai 0 (ma (vb false) (ag (ab (a8 rfl (mv (vb false) (ag ?_)))))))))
   refine aj rfl rfl (av (ak ?_))
   refine back2_c3 (path_c3_v,path_c3,ed_c3_v,ed_c3,co_c3,fo_c3,lo_c3,bl_c3,(List.set nx_c3 (Int.toNat u_c3) ((gI nx_c3 u_c3)+1)),la_c3,pl_c3,by_c3,g276) _ _ ⟨bH.ca C342,zs0_c3,zs4_c3,Rg,bx5.ca C342,o27,o30,bx341,o32,o33,bx53.ca C342,bx257,bx262,bx266,o_path_c3.ca C342,o_ed_c3,?_⟩ ?_
   · show eO g (dH g (bs pl_c1 lo_c1 by_c1 nx_c1 fo_c1 ed_c1 la_c1 bl_c1 co_c1) (v_c1:Int)) (bs pl_c3 lo_c3 by_c3 (List.set nx_c3 (Int.toNat u_c3) ((gI nx_c3 u_c3)+1)) fo_c3 ed_c3 la_c3 bl_c3 co_c3) path_c3
     exact And.left (hfr.skip hm hpz hn_u_c3.symm hnn heh ‹_›)
   · show bO g (bs pl_c3 lo_c3 by_c3 (List.set nx_c3 (Int.toNat u_c3) ((gI nx_c3 u_c3)+1)) fo_c3 ed_c3 la_c3 bl_c3 co_c3) path_c3<bO g (bs pl_c3 lo_c3 by_c3 nx_c3 fo_c3 ed_c3 la_c3 bl_c3 co_c3) path_c3
     exact And.right (hfr.skip hm hpz hn_u_c3.symm hnn heh ‹_›)
  refine aj rfl (Bool.eq_false_iff.2 p2_c8) (av (ab (a8 rfl (mv (vp b47 0) (lw (vp b47 0) (ao rfl) (lx (ad cF rfl rfl rfl rfl) (lx (af je rfl bx257 rfl) (mi (h_c3/2) (lx (ae (v:=v42) (i:=h_c3/2) fk rfl rfl o32.flat rfl (by omega) (by omega)) ?_)))))))))
  refine lo (aD (i:=h_c3/2) true bX rfl rfl o32 (by omega) (by omega) rfl ?_)
  intro w343 ch344 bx345
  clear o32
  refine ag (ab (a8 rfl (mv (vp b47 0) (mv (vp b47 0) (lw (vp b47 0) (ao rfl) (lx (ad cF rfl rfl rfl rfl) ?_))))))
  replace bx257:=bx257.ce ch344
  refine lx (af ay rfl bx257 rfl) (mi (h_c3/2) (lo (aM (α:=Int) g276 (is 16) (is 16) (16,0) rfl [h_c3/2] bf ah (by decide) (by decide) (vs:=[(0,vi (h_c3/2))]) rfl rfl (.cons rfl .nil) ?_)))
  intro g346 w347 v348 ch349 o350
  refine lo ?_
  replace o_ed_c3:=(o_ed_c3.ce ch344).cn ch349
  refine bD (α:=Int) (xs:=ed_c3) (ys:=([h_c3/2])) g346 (J:=is 17) (S:=is 17) (17,0) rfl bf ah (by decide) rfl rfl rfl o_ed_c3 o350.flat (by decide) (by(simp;omega)) ?_
  intro g351 w352 v353 ch354 o355
  clear o_ed_c3
  refine lw (vp b47 0) (ao rfl) (lx (ad cF rfl rfl rfl rfl) (lo ?_))
  replace bx257:=(bx257.cn ch349).ce ch354
  refine cj (cs':=[vi g.1,g_v,v37,v38,v39,v40,v41,vi fo_c3,v353,v42,v43,vi co_c3,Value.func (.func 77) #[] (List.toArray [vp b49 0])]) ay rfl rfl bx257 (cd o355.flat) nq (bQ o355.flat) rfl ?_
  intro w356 ch357 bx358
  clear bx257
  refine ag (ab (ar (ab ?_)))
  clear o350
  refine a8 rfl (mi w_c9 (mi u_c3 (lx (cH (m:=w_c9) (n:=u_c3) rfl rfl) (ma (vb (decide (w_c9=u_c3))) (ag ?_)))))
  by_cases p7_c8:w_c9=u_c3
  ·
   refine al rfl (dt p7_c8) ?_
   have hlay:=hfi.lay (e:=h_c3/2) (by omega) (by omega) ‹_›
   have hxn:(ed_c3++[h_c3/2]).Nodup:=hlay.1.en
   have hxm:(h_c3/2)∈(ed_c3++[h_c3/2]):=by simp
   have hxe:∀x∈(ed_c3++[h_c3/2]),0<=x/\x<(g.2.length:Int):=λx hx=>(hlay.1.el x hx).1
   refine a8 rfl (mv (vp b47 0) (lw (vp b47 0) (ao rfl) (lx (ad cF rfl rfl rfl rfl) (lx (af gi rfl bx358 rfl) (mi (h_c3/2) (lo (cv (kb (fid:=77) (vals:=[vi (h_c3/2)]) (caps:=[vp b49 0]) rfl Try.func77 iL iN rfl) (aC Try.func77 rfl nq ?_))))))))
   have C359:=cg [9,11,17] ((ch344.l rfl).seq (ch349.n.seq ((ch354.l rfl).seq (ch357.l rfl))))
   have C360:=cg [11,17] (ch349.n.seq ((ch354.l rfl).seq (ch357.l rfl)))
   replace Rg:=Rg.ca C359
   replace o27:=o27.ca C359
   replace bx262:=bx262.ca C359
   replace bx266:=bx266.ca C359
   replace o30:=o30.ca C359
   replace bx341:=bx341.ca C359
   replace o355:=o355.ce ch357
   replace bx345:=bx345.ca C360
   replace o33:=o33.ca C359
   refine ab (a8 rfl ?_)
   have C361:=cg [8,9,11,17] (ch278.n.seq (hc285.n.seq (ch332.n.seq (hc338.n.seq ((ch340.l rfl).seq ((ch344.l rfl).seq (ch349.n.seq ((ch354.l rfl).seq (ch357.l rfl)))))))))
   replace bx53:=bx53.ca C361
   refine lx (af bq rfl bx53 rfl) (lw (vp b47 0) (ao rfl) (lx (ad cF rfl rfl rfl rfl) (lx (af ay rfl bx358 rfl) ?_)))
   have len362:=(o355.flat).small
   refine lx (bu bf rfl o355.flat) (lx (dm (m:=(List.length (ed_c3++[h_c3/2]):Int)) (n:=1) rfl rfl (by omega)) (ai ((List.length (ed_c3++[h_c3/2]):Int)-1) (ag (ab (ar ?_)))))
   refine bc (σ:=Int×aJ) (λ⟨at_c10,gq⟩ f w=>bv w0 gq w/\f 0=vi (h_c3/2)/\f 1=vp b49 0/\f 3=vi at_c10/\Sl gq (is 0) w g_v g.2/\Bx gq (is 1) w b3 [vi g.1,g_v]/\cP gq 4 w v37 O_c2/\Ow gq (is 7) (is 7) w v40 by_c3/\Ow gq (is 10) (is 10) w v43 bl_c3/\Bx gq (is 12) w b49 [vp b47 0]/\Ow gq (is 5) (is 5) w v38 pl_c3/\Ow gq (is 6) (is 6) w v39 lo_c3/\Ow gq (is 15) (is 15) w path_c3_v path_c3/\Ow gq (is 8) (is 8) w v41 (List.set nx_c3 (Int.toNat u_c3) ((gI nx_c3 u_c3)+1))/\Ow gq (is 9) (is 9) w v42 (List.set la_c3 (Int.toNat (h_c3/2)) true)/\Ow gq (is 17) (is 17) w v353 (ed_c3++[h_c3/2])/\Bx gq (is 11) w b47 [vi g.1,g_v,v37,v38,v39,v40,v41,vi fo_c3,v353,v42,v43,vi co_c3,Value.func (.func 77) #[] (List.toArray [vp b49 0])]/\(lq (ed_c3++[h_c3/2]) (h_c3/2) at_c10)) (λ⟨at_c10,gq⟩=>Int.toNat at_c10) ((List.length (ed_c3++[h_c3/2]):Int)-1,g351) ?_ ?_
   · exact⟨bH.ca C361,rfl,rfl,rfl,Rg,bx5.ca C361,o27,o30,o33,bx53,bx262,bx266,o_path_c3.ca C361,bx341,bx345,o355,bx358,by exact lq.start hxn hxm⟩
   clear Rg bx5 o27 o30 o33 bx53 bx262 bx266 o_path_c3 bx341 bx345 o355 bx358 bH
   rintro⟨at_c10,g365⟩ f363 w364 ⟨bH,zs0_c10,zs1_c10,zs3_c10,Rg,bx5,o27,o30,o33,bx53,bx262,bx266,o_path_c3,bx341,bx345,o355,bx358,hat_c10⟩ back1_c10
   have hA1_c10:=hat_c10.lo
   have hA2_c10:=hat_c10.hi
   refine ab (ab (a8 rfl (lx (af bq zs1_c10 bx53 rfl) (lw (vp b47 0) (ao rfl) (lx (ad cF rfl rfl rfl rfl) (lx (af ay rfl bx358 rfl) (mz zs3_c10 (lx (ae (v:=v353) (i:=at_c10) bf rfl rfl o355.flat rfl (by omega) (by omega)) (lx (aq (v:=v353) (i:=at_c10) ah rfl o355.flat (by omega) (by omega) (by decide) rfl) ?_)))))))))
   refine mz zs0_c10 (lx (dW (m:=(gI (ed_c3++[h_c3/2]) at_c10)) (n:=h_c3/2) rfl rfl) (ag ?_))
   by_cases p1_c10:(gI (ed_c3++[h_c3/2]) at_c10)=(h_c3/2)
   ·
    refine aj rfl (congrArg Bool.not (dt p1_c10)) (aF rfl (ab (ab (a8 rfl (lx (af bq zs1_c10 bx53 rfl) (lw (vp b47 0) (ao rfl) (lx (ad cF rfl rfl rfl rfl) (lx (af ay rfl bx358 rfl) (mz zs3_c10 ?_)))))))))
    refine lw ((ci v353 1 (Int.toNat at_c10) (Int.toNat ((ed_c3++[h_c3/2]).length)))) (dp (v:=v353) (l:=at_c10) (h:=(ed_c3++[h_c3/2]).length) bf rfl rfl o355.flat (.inl (congrArg some rfl)) (.inr ⟨rfl,rfl⟩) (by omega) (by omega) (by omega)) ?_
    have r367:=jp o355.flat (show Int.toNat at_c10<=Int.toNat ((ed_c3++[h_c3/2]).length) by omega) (show Int.toNat ((ed_c3++[h_c3/2]).length)<=List.length _ by omega)
    have len368:=(r367).small
    refine lx (bu bf rfl r367) (mi 0 (ag (ar ?_)))
    refine bc (σ:=Nat×(List Int)×aJ) (λ⟨k_c10,bk_c10,gq⟩ f w=>bv w0 gq w/\f 1=vp b49 0/\f 3=vi at_c10/\f 28=(ci v353 1 (Int.toNat at_c10) (Int.toNat ((ed_c3++[h_c3/2]).length)))/\f 29=vi (List.length (List.drop (Int.toNat at_c10) (List.take (Int.toNat ((ed_c3++[h_c3/2]).length)) (ed_c3++[h_c3/2]))):Int)/\f 30=vi ↑k_c10/\Sl gq (is 0) w g_v g.2/\Bx gq (is 1) w b3 [vi g.1,g_v]/\cP gq 4 w v37 O_c2/\Ow gq (is 7) (is 7) w v40 by_c3/\Ow gq (is 10) (is 10) w v43 bk_c10/\Bx gq (is 12) w b49 [vp b47 0]/\Ow gq (is 5) (is 5) w v38 pl_c3/\Ow gq (is 6) (is 6) w v39 lo_c3/\Ow gq (is 15) (is 15) w path_c3_v path_c3/\Ow gq (is 8) (is 8) w v41 (List.set nx_c3 (Int.toNat u_c3) ((gI nx_c3 u_c3)+1))/\Ow gq (is 9) (is 9) w v42 (List.set la_c3 (Int.toNat (h_c3/2)) true)/\Ow gq (is 17) (is 17) w v353 (ed_c3++[h_c3/2])/\Bx gq (is 11) w b47 [vi g.1,g_v,v37,v38,v39,v40,v41,vi fo_c3,v353,v42,v43,vi co_c3,Value.func (.func 77) #[] (List.toArray [vp b49 0])]/\Sl gq (is 17) w (ci v353 1 (Int.toNat at_c10) (Int.toNat ((ed_c3++[h_c3/2]).length))) (List.drop (Int.toNat at_c10) (List.take (Int.toNat ((ed_c3++[h_c3/2]).length)) (ed_c3++[h_c3/2])))/\(k_c10:Int)<=((List.length (List.drop (Int.toNat at_c10) (List.take (Int.toNat ((ed_c3++[h_c3/2]).length)) (ed_c3++[h_c3/2]))):Int):Int)/\(bk_c10=nD (List.drop (Int.toNat at_c10) (List.take (Int.toNat (((ed_c3++[h_c3/2])).length:Int)) (ed_c3++[h_c3/2]))) bl_c3 co_c3 k_c10)) (λ⟨k_c10,bk_c10,gq⟩=>Int.toNat (((List.length (List.drop (Int.toNat at_c10) (List.take (Int.toNat ((ed_c3++[h_c3/2]).length)) (ed_c3++[h_c3/2]))):Int):Int)-(k_c10:Int))) (0,bl_c3,g365) ?_ ?_
    · exact⟨bH,zs1_c10,zs3_c10,rfl,rfl,rfl,Rg,bx5,o27,o30,o33,bx53,bx262,bx266,o_path_c3,bx341,bx345,o355,bx358,r367,by omega,by exact oM⟩
    clear Rg bx5 o27 o30 o33 bx53 bx262 bx266 o_path_c3 bx341 bx345 o355 bx358 r367 bH
    rintro⟨k_c10,bk_c10,g371⟩ f369 w370 ⟨bH,zs1_c10,zs3_c10,zs28_c10,zs29_c10,zs30_c10,Rg,bx5,o27,o30,o33,bx53,bx262,bx266,o_path_c3,bx341,bx345,o355,bx358,r367,hle_k_c10,hbk_c10⟩ back4_c10
    have hbkl_c10:=ke hbk_c10
    refine ab (a8 rfl (lx (bn (m:=↑k_c10) (n:=(List.length (List.drop (Int.toNat at_c10) (List.take (Int.toNat ((ed_c3++[h_c3/2]).length)) (ed_c3++[h_c3/2]))):Int)) zs30_c10 zs29_c10) (ag (ab ?_))))
    by_cases p4_c10:(k_c10:Int)<(List.length (List.drop (Int.toNat at_c10) (List.take (Int.toNat ((ed_c3++[h_c3/2]).length)) (ed_c3++[h_c3/2]))):Int)
    ·
     refine al rfl (dt p4_c10) ?_
     have hei_c10:=hxe _ (List.mem_of_mem_take (List.mem_of_mem_drop (bP (xs:=(List.drop (Int.toNat at_c10) (List.take (Int.toNat (((ed_c3++[h_c3/2])).length:Int)) (ed_c3++[h_c3/2])))) (i:=↑k_c10) (by omega) (by omega))))
     refine av (ab (ar (ab (a8 rfl (lx (ae (v:=(ci v353 1 (Int.toNat at_c10) (Int.toNat ((ed_c3++[h_c3/2]).length)))) (i:=↑k_c10) bf rfl zs28_c10 r367 zs30_c10 (by omega) (by omega)) (lx (aq (v:=(ci v353 1 (Int.toNat at_c10) (Int.toNat ((ed_c3++[h_c3/2]).length)))) (i:=↑k_c10) ah rfl r367 (by omega) (by omega) (by decide) rfl) (ai (gI (List.drop (Int.toNat at_c10) (List.take (Int.toNat ((ed_c3++[h_c3/2]).length)) (ed_c3++[h_c3/2]))) (k_c10:Int)) (ag (bA g371 [0,1,2,3,4,5,6,7,8,9] dG ?_)))))))))
     intro w373 ch372
     replace bx53:=bx53.cn ch372
     refine xv 0 [4,5,6,7,8] rfl (af bq zs1_c10 bx53 rfl) (xp (v:=vp b47 0) 1 rfl (λw=>ao rfl) (xp 2 rfl (λw=>ad cF rfl rfl rfl rfl) ?_))
     replace bx358:=bx358.cn ch372
     refine xv 3 [2,1,0,4,5,6,7,8] rfl (af ay rfl bx358 rfl) (xp (v:=vi (gI (List.drop (Int.toNat at_c10) (List.take (Int.toNat ((ed_c3++[h_c3/2]).length)) (ed_c3++[h_c3/2]))) (k_c10:Int))) 4 rfl (λw=>au rfl) (xv 5 [4,3,2,1,0] rfl (af bq zs1_c10 bx53 rfl) (xp (v:=vp b47 0) 6 rfl (λw=>ao rfl) (xp 7 rfl (λw=>ad cF rfl rfl rfl rfl) (xv 8 [7,6,5,4,3,2,1,0] rfl (af ah rfl bx358 rfl) ?_)))))
     replace o33:=o33.cn ch372
     refine xv 9 [8,7,6,5,4,3,2,1,0] rfl (ae (v:=v43) (i:=(gI (List.drop (Int.toNat at_c10) (List.take (Int.toNat ((ed_c3++[h_c3/2]).length)) (ed_c3++[h_c3/2]))) (k_c10:Int))) bf rfl rfl o33.flat rfl (by omega) (by omega)) (bw 10 rfl (by kernel_rfl) rfl (aD (i:=(gI (List.drop (Int.toNat at_c10) (List.take (Int.toNat ((ed_c3++[h_c3/2]).length)) (ed_c3++[h_c3/2]))) (k_c10:Int))) co_c3 ah rfl rfl o33 (by omega) (by omega) rfl ?_))
     intro w374 ch375 bx376
     clear o33
     refine c6 (by kernel_rfl) (ak (a8 rfl (lx (aG (m:=↑k_c10) (n:=1) zs30_c10 rfl (by omega)) (mi ((k_c10:Int)+1) (ag ?_)))))
     replace bH:=bH.cn ch372
     refine back4_c10 (k_c10+1,(List.set bk_c10 (Int.toNat (gI (List.drop (Int.toNat at_c10) (List.take (Int.toNat ((ed_c3++[h_c3/2]).length)) (ed_c3++[h_c3/2]))) (k_c10:Int))) co_c3),g371) _ _ ⟨bH.ce ch375,zs1_c10,zs3_c10,zs28_c10,zs29_c10,rfl,(Rg.cn ch372).ce ch375,(bx5.cn ch372).ce ch375,(o27.cn ch372).ce ch375,(o30.cn ch372).ce ch375,bx376,bx53.ce ch375,(bx262.cn ch372).ce ch375,(bx266.cn ch372).ce ch375,(o_path_c3.cn ch372).ce ch375,(bx341.cn ch372).ce ch375,(bx345.cn ch372).ce ch375,(o355.cn ch372).ce ch375,bx358.ce ch375,(r367.cn ch372).ce ch375,by omega,?_⟩ ?_
     · show(List.set bk_c10 (Int.toNat (gI (List.drop (Int.toNat at_c10) (List.take (Int.toNat ((ed_c3++[h_c3/2]).length)) (ed_c3++[h_c3/2]))) (k_c10:Int))) co_c3)=nD (List.drop (Int.toNat at_c10) (List.take (Int.toNat (((ed_c3++[h_c3/2])).length:Int)) (ed_c3++[h_c3/2]))) bl_c3 co_c3 (k_c10+1)
       exact iP hbk_c10 ‹_›
     · show Int.toNat (((List.length (List.drop (Int.toNat at_c10) (List.take (Int.toNat ((ed_c3++[h_c3/2]).length)) (ed_c3++[h_c3/2]))):Int):Int)-((k_c10+1):Int))<Int.toNat (((List.length (List.drop (Int.toNat at_c10) (List.take (Int.toNat ((ed_c3++[h_c3/2]).length)) (ed_c3++[h_c3/2]))):Int):Int)-(k_c10:Int))
       omega
    refine aj rfl (df p4_c10) (aF rfl (ab ?_))
    clear r367
    refine bA g371 [0,1,2,3,4,5,6,7,8] dG ?_
    intro w378 ch377
    replace bx53:=bx53.cn ch377
    refine xv 0 [1,5,2,3,4,6] rfl (af bq zs1_c10 bx53 rfl) (xv 1 [0,5] rfl (af bq zs1_c10 bx53 rfl) (xp (v:=vp b47 0) 2 rfl (λw=>ao rfl) (xp 3 rfl (λw=>ad cF rfl rfl rfl rfl) ?_)))
    replace bx358:=bx358.cn ch377
    refine xv 4 [3,2,1,0,5] rfl (af ay rfl bx358 rfl) (xp (v:=vi at_c10) 5 rfl (λw=>au zs3_c10) ?_)
    replace o355:=o355.cn ch377
    refine xp (v:=(ci v353 1 (Int.toNat 0) (Int.toNat at_c10))) 6 rfl (λw=>dp (v:=v353) (l:=0) (h:=at_c10) bf rfl rfl o355.flat (.inr ⟨rfl,rfl⟩) (.inl (congrArg some rfl)) (by omega) (by omega) (by omega)) ?_
    have r380:=fp o355 (show Int.toNat at_c10<=List.length _ by omega)
    refine xp (v:=vp b47 0) 7 rfl (λw=>ao rfl) (xp 8 rfl (λw=>ad cF rfl rfl rfl rfl) (bw 9 rfl (by kernel_rfl) rfl (cj (cs':=[vi g.1,g_v,v37,v38,v39,v40,v41,vi fo_c3,(ci v353 1 (Int.toNat 0) (Int.toNat at_c10)),v42,v43,vi co_c3,Value.func (.func 77) #[] (List.toArray [vp b49 0])]) ay rfl rfl bx358 (cd r380.flat) nq (bQ r380.flat) rfl ?_)))
    intro w381 ch382 bx383
    clear bx358
    refine c6 (by kernel_rfl) (a8 rfl ?_)
    replace bx53:=bx53.ce ch382
    refine lx (af bq zs1_c10 bx53 rfl) (lw (vp b47 0) (ao rfl) (lx (ad cF rfl rfl rfl rfl) (lx (af ah rfl bx383 rfl) (lx (aG (m:=co_c3) (n:=1) rfl rfl (by omega)) (lw (vp b47 0) (ao rfl) (lx (ad cF rfl rfl rfl rfl) (lo (aI (cs':=[vi g.1,g_v,v37,v38,v39,v40,v41,vi fo_c3,(ci v353 1 (Int.toNat 0) (Int.toNat at_c10)),v42,v43,vi (co_c3+1),Value.func (.func 77) #[] (List.toArray [vp b49 0])]) ah rfl rfl bx383 rfl nq (AllOne.all (.cons rfl .nil)) rfl ?_))))))))
    intro w384 ch385 bx386
    clear bx383
    refine ag (dw (vs:=[]) Try.func77 .nil ?_)
    refine⟨vt [],rfl,?_⟩
    refine ag (ak (ab ?_))
    clear o355
    refine a8 rfl (ai 0 (ma (vb false) (ag (aQ (vs:=[vi 0,vb false]) Try.func80 (.tmp rfl (.tmp rfl .nil)) ?_))))
    refine⟨vt [vi 0,vb false],rfl,?_⟩
    refine mv (vt [vi 0,vb false]) (lx (aR rfl rfl) (lx (aR rfl rfl) (ai 0 (ma (vb false) (ag (ab (a8 rfl (mv (vb false) (ag ?_)))))))))
    refine aj rfl rfl (av (ak ?_))
    have C387:=cg [11] (ch377.n.seq ((ch382.l rfl).seq (ch385.l rfl)))
    refine back2_c3 (path_c3_v,path_c3,(ci v353 1 (Int.toNat 0) (Int.toNat at_c10)),(List.take (Int.toNat at_c10) (ed_c3++[h_c3/2])),co_c3+1,fo_c3,lo_c3,bk_c10,(List.set nx_c3 (Int.toNat u_c3) ((gI nx_c3 u_c3)+1)),(List.set la_c3 (Int.toNat (h_c3/2)) true),pl_c3,by_c3,g371) _ _ ⟨bH.ca C387,zs0_c3,zs4_c3,Rg.ca C387,bx5.ca C387,o27.ca C387,o30.ca C387,bx341.ca C387,bx345.ca C387,o33.ca C387,bx53.ce ch385,bx386,bx262.ca C387,bx266.ca C387,o_path_c3.ca C387,(r380.ce ch382).ce ch385,?_⟩ ?_
    · show eO g (dH g (bs pl_c1 lo_c1 by_c1 nx_c1 fo_c1 ed_c1 la_c1 bl_c1 co_c1) (v_c1:Int)) (bs pl_c3 lo_c3 by_c3 (List.set nx_c3 (Int.toNat u_c3) ((gI nx_c3 u_c3)+1)) fo_c3 (List.take (Int.toNat at_c10) (ed_c3++[h_c3/2])) (List.set la_c3 (Int.toNat (h_c3/2)) true) bk_c10 (co_c3+1)) path_c3
      exact And.left (hfr.loop1 hm hpz hn_u_c3.symm hnn heh ‹_› (by unfold b6;omega) (fc ‹_› ‹_› ‹_› ‹_› ‹_›))
    · show bO g (bs pl_c3 lo_c3 by_c3 (List.set nx_c3 (Int.toNat u_c3) ((gI nx_c3 u_c3)+1)) fo_c3 (List.take (Int.toNat at_c10) (ed_c3++[h_c3/2])) (List.set la_c3 (Int.toNat (h_c3/2)) true) bk_c10 (co_c3+1)) path_c3<bO g (bs pl_c3 lo_c3 by_c3 nx_c3 fo_c3 ed_c3 la_c3 bl_c3 co_c3) path_c3
      exact And.right (hfr.loop1 hm hpz hn_u_c3.symm hnn heh ‹_› (by unfold b6;omega) (fc ‹_› ‹_› ‹_› ‹_› ‹_›))
   refine al rfl (congrArg Bool.not (df p1_c10)) (av (ar (a8 rfl (mz zs3_c10 (lx (dm (m:=at_c10) (n:=1) rfl rfl (by omega)) (ai (at_c10-1) (ag (ak ?_))))))))
   refine back1_c10 (at_c10-1,g365) _ _ ⟨bH,zs0_c10,zs1_c10,rfl,Rg,bx5,o27,o30,o33,bx53,bx262,bx266,o_path_c3,bx341,bx345,o355,bx358,?_⟩ ?_
   · show lq (ed_c3++[h_c3/2]) (h_c3/2) (at_c10-1)
     exact(hat_c10.next ‹_›).1
   · show Int.toNat (at_c10-1)<Int.toNat at_c10
     (have:=(hat_c10.next ‹_›).2;omega)
  refine aj rfl (df p7_c8) (ab (a8 rfl (mv (vp b47 0) (lw (vp b47 0) (ao rfl) (lx (ad cF rfl rfl rfl rfl) (lx (af ay rfl bx358 rfl) (mi w_c9 ?_)))))))
  have C388:=cg [9,11,17] ((ch344.l rfl).seq (ch349.n.seq ((ch354.l rfl).seq (ch357.l rfl))))
  replace bx262:=bx262.ca C388
  refine lx (ae (v:=v38) (i:=w_c9) bf rfl rfl bx262.flat rfl (by omega) (by omega)) (lx (aq (v:=v38) (i:=w_c9) ah rfl bx262.flat (by omega) (by omega) (by decide) rfl) (lx (cH (m:=(gI pl_c3 w_c9)) (n:=0) rfl rfl) (ma (vb (decide ((gI pl_c3 w_c9)=0))) (ag ?_))))
  by_cases p9_c8:(gI pl_c3 w_c9)=0
  ·
   refine al rfl (dt p9_c8) (ab (a8 rfl (mv (vp b47 0) (lw (vp b47 0) (ao rfl) (lx (ad cF rfl rfl rfl rfl) (lx (af ay rfl bx358 rfl) (mi w_c9 (mi h_c3 ?_))))))))
   replace o30:=o30.ca C388
   refine lx (ae (v:=v40) (i:=w_c9) bf rfl rfl o30.flat rfl (by omega) (by omega)) (lo (aD (i:=w_c9) h_c3 ah rfl rfl o30 (by omega) (by omega) rfl ?_))
   intro w389 ch390 bx391
   clear o30
   refine ag (ab (a8 rfl (mv (vp b47 0) (mi w_c9 (lo (cv (b9 (vals:=[vp b47 0,vi w_c9]) Try.func78 iT iG rfl) (aC Try.func78 rfl nq ?_)))))))
   have C392:=cg [7,9,11,17] ((ch344.l rfl).seq (ch349.n.seq ((ch354.l rfl).seq ((ch357.l rfl).seq (ch390.l rfl)))))
   have C393:=cg [7,11,17] (ch349.n.seq ((ch354.l rfl).seq ((ch357.l rfl).seq (ch390.l rfl))))
   replace Rg:=Rg.ca C392
   replace o27:=o27.ca C392
   replace bx262:=bx262.ce ch390
   replace bx266:=bx266.ca C392
   replace bx341:=bx341.ca C392
   replace o355:=(o355.ce ch357).ce ch390
   replace bx345:=bx345.ca C393
   replace o33:=o33.ca C392
   refine ab (a8 rfl (mv (vp b47 0) (lw (vp b47 0) (ao rfl) (lx (ad cF rfl rfl rfl rfl) ?_))))
   replace bx358:=bx358.ce ch390
   refine lx (af ah rfl bx358 rfl) (lx (aG (m:=fo_c3) (n:=1) rfl rfl (by omega)) (lw (vp b47 0) (ao rfl) (lx (ad cF rfl rfl rfl rfl) (lo (aI (cs':=[vi g.1,g_v,v37,v38,v39,v40,v41,vi (fo_c3+1),v353,v42,v43,vi co_c3,Value.func (.func 77) #[] (List.toArray [vp b49 0])]) ah rfl rfl bx358 rfl nq (AllOne.all (.cons rfl .nil)) rfl ?_)))))
   intro w394 ch395 bx396
   clear bx358
   refine ag (bA g351 [0,1,2,3,4,5,6,7,8,9,10,11,12,13,14,15,16,17,18,20] dG ?_)
   intro w398 ch397
   refine xp (v:=vp b47 0) 0 rfl (λw=>au rfl) (xp (v:=vp b47 0) 1 rfl (λw=>ao rfl) (xp 2 rfl (λw=>ad cF rfl rfl rfl rfl) ?_))
   replace bx396:=bx396.cn ch397
   refine xv 3 [2,1,0,4,5,9,10,14,6,11,15,7,12,16,8,13,17] rfl (af ay rfl bx396 rfl) (xp (v:=vi w_c9) 4 rfl (λw=>au rfl) (xp (v:=vp b47 0) 5 rfl (λw=>au rfl) (xp (v:=vp b47 0) 6 rfl (λw=>ao rfl) (xp 7 rfl (λw=>ad cF rfl rfl rfl rfl) (xv 8 [7,6,5,4,3,2,1,0,9,10,14,11,15,12,16,13,17] rfl (af ay rfl bx396 rfl) (xp (v:=vi w_c9) 9 rfl (λw=>au rfl) (xp (v:=vp b47 0) 10 rfl (λw=>au rfl) (xp (v:=vp b47 0) 11 rfl (λw=>ao rfl) (xp 12 rfl (λw=>ad cF rfl rfl rfl rfl) ?_)))))))))
   refine xv 13 [12,11,10,9,8,7,6,5,4,3,2,1,0,14,15,16,17] rfl (af ah rfl bx396 rfl) (xp (v:=vp b47 0) 14 rfl (λw=>au rfl) (xp (v:=vp b47 0) 15 rfl (λw=>ao rfl) (xp 16 rfl (λw=>ad cF rfl rfl rfl rfl) (xv 17 [16,15,14,13,12,11,10,9,8,7,6,5,4,3,2,1,0] rfl (af ah rfl bx396 rfl) ?_))))
   replace bx262:=(bx262.ce ch395).cn ch397
   refine xv 18 [17,16,15,14,13,12,11,10,9,8,7,6,5,4,3,2,1,0] rfl (ae (v:=v38) (i:=w_c9) bf rfl rfl bx262.flat rfl (by omega) (by omega)) (bw 19 rfl (by kernel_rfl) rfl (aD (i:=w_c9) (fo_c3+1) ah rfl rfl bx262 (by omega) (by omega) rfl ?_))
   intro w399 ch400 bx401
   clear bx262
   have C402:=cg [5,11] ((ch395.l rfl).seq (ch397.n.seq (ch400.l rfl)))
   replace bx266:=bx266.ca C402
   refine xv 20 [19,18,17,16,15,14,13,12,11,10,9,8,7,6,5,4,3,2,1,0] rfl (ae (v:=v39) (i:=w_c9) bf rfl rfl bx266.flat rfl (by omega) (by omega)) (bw 21 rfl (by kernel_rfl) rfl (aD (i:=w_c9) (fo_c3+1) ah rfl rfl bx266 (by omega) (by omega) rfl ?_))
   intro w403 ch404 bx405
   clear bx266
   refine c6 (by kernel_rfl) (dw (vs:=[]) Try.func78 .nil ?_)
   refine⟨vt [],rfl,?_⟩
   refine ag (ab (a8 rfl (mi w_c9 (ai w_c9 (ma (vb true) (ag (aQ (vs:=[vi w_c9,vb true]) Try.func80 (.tmp rfl (.tmp rfl .nil)) ?_)))))))
   refine⟨vt [vi w_c9,vb true],rfl,?_⟩
   refine mv (vt [vi w_c9,vb true]) (lx (aR rfl rfl) (lx (aR rfl rfl) (ai w_c9 (ma (vb true) (ag (ab (a8 rfl (mv (vb true) (ag ?_)))))))))
   refine al rfl rfl (a8 rfl (mz zs4_c3 (mi w_c9 (lo (aM (α:=Int) g351 (is 18) (is 18) (18,0) rfl [w_c9] bf ah (by decide) (by decide) (vs:=[(0,vi w_c9)]) rfl rfl (.cons rfl .nil) ?_)))))
   intro g406 w407 v408 ch409 o410
   refine lo ?_
   have C411:=cg [5,6,7,8,9,11,17] (ch278.n.seq (hc285.n.seq (ch332.n.seq (hc338.n.seq ((ch340.l rfl).seq ((ch344.l rfl).seq (ch349.n.seq ((ch354.l rfl).seq ((ch357.l rfl).seq ((ch390.l rfl).seq ((ch395.l rfl).seq (ch397.n.seq ((ch400.l rfl).seq ((ch404.l rfl).seq ch409.n))))))))))))))
   replace o_path_c3:=o_path_c3.ca C411
   refine bD (α:=Int) (xs:=path_c3) (ys:=([w_c9])) g406 (J:=is 15) (S:=is 15) (15,0) rfl bf ah (by decide) rfl rfl rfl o_path_c3 o410.flat (by decide) (by(simp;omega)) ?_
   intro g412 w413 v414 ch415 o416
   clear o_path_c3
   refine ma v414 (ag (ak ?_))
   have C417:=cg [5,6,7,8,9,11,15,17] (ch278.n.seq (hc285.n.seq (ch332.n.seq (hc338.n.seq ((ch340.l rfl).seq ((ch344.l rfl).seq (ch349.n.seq ((ch354.l rfl).seq ((ch357.l rfl).seq ((ch390.l rfl).seq ((ch395.l rfl).seq (ch397.n.seq ((ch400.l rfl).seq ((ch404.l rfl).seq (ch409.n.seq (ch415.l rfl))))))))))))))))
   have C418:=cg [5,6,11,15] ((ch395.l rfl).seq (ch397.n.seq ((ch400.l rfl).seq ((ch404.l rfl).seq (ch409.n.seq (ch415.l rfl))))))
   have C419:=cg [5,6,15] ((ch400.l rfl).seq ((ch404.l rfl).seq (ch409.n.seq (ch415.l rfl))))
   have C420:=cg [6,15] ((ch404.l rfl).seq (ch409.n.seq (ch415.l rfl)))
   refine back2_c3 (v414,(path_c3++[w_c9]),v353,(ed_c3++[h_c3/2]),co_c3,fo_c3+1,(List.set lo_c3 (Int.toNat w_c9) (fo_c3+1)),bl_c3,(List.set nx_c3 (Int.toNat u_c3) ((gI nx_c3 u_c3)+1)),(List.set la_c3 (Int.toNat (h_c3/2)) true),(List.set pl_c3 (Int.toNat w_c9) (fo_c3+1)),(List.set by_c3 (Int.toNat w_c9) h_c3),g412) _ _ ⟨bH.ca C417,zs0_c3,rfl,Rg.ca C418,bx5.ca C417,o27.ca C418,bx391.ca C418,bx341.ca C418,bx345.ca C418,o33.ca C418,bx53.ca C417,bx396.ca C419,bx401.ca C420,(bx405.cn ch409).ce ch415,o416,o355.ca C418,?_⟩ ?_
   · show eO g (dH g (bs pl_c1 lo_c1 by_c1 nx_c1 fo_c1 ed_c1 la_c1 bl_c1 co_c1) (v_c1:Int)) (bs (List.set pl_c3 (Int.toNat w_c9) (fo_c3+1)) (List.set lo_c3 (Int.toNat w_c9) (fo_c3+1)) (List.set by_c3 (Int.toNat w_c9) h_c3) (List.set nx_c3 (Int.toNat u_c3) ((gI nx_c3 u_c3)+1)) (fo_c3+1) (ed_c3++[h_c3/2]) (List.set la_c3 (Int.toNat (h_c3/2)) true) bl_c3 co_c3) (path_c3++[w_c9])
     exact And.left (hfr.new hm hpz hn_u_c3.symm hnn heh ‹_› ‹_› ‹_› ‹_›)
   · show bO g (bs (List.set pl_c3 (Int.toNat w_c9) (fo_c3+1)) (List.set lo_c3 (Int.toNat w_c9) (fo_c3+1)) (List.set by_c3 (Int.toNat w_c9) h_c3) (List.set nx_c3 (Int.toNat u_c3) ((gI nx_c3 u_c3)+1)) (fo_c3+1) (ed_c3++[h_c3/2]) (List.set la_c3 (Int.toNat (h_c3/2)) true) bl_c3 co_c3) (path_c3++[w_c9])<bO g (bs pl_c3 lo_c3 by_c3 nx_c3 fo_c3 ed_c3 la_c3 bl_c3 co_c3) path_c3
     exact And.right (hfr.new hm hpz hn_u_c3.symm hnn heh ‹_› ‹_› ‹_› ‹_›)
  refine aj rfl (df p9_c8) (bA g351 [0,1,2,3,4,5,6,7,8,9,10,11,12,13,14,15,16,17,18,19,20] dG ?_)
  intro w422 ch421
  refine xp (v:=vp b47 0) 0 rfl (λw=>au rfl) (xp (v:=vp b47 0) 1 rfl (λw=>ao rfl) (xp 2 rfl (λw=>ad cF rfl rfl rfl rfl) ?_))
  replace bx358:=bx358.cn ch421
  refine xv 3 [2,1,0,4,5,9,12,16,6,13,7,14,8,15,10,17,11,18,19] rfl (af ay rfl bx358 rfl) (xp (v:=vi u_c3) 4 rfl (λw=>au rfl) (xp (v:=vp b47 0) 5 rfl (λw=>au rfl) (xp (v:=vp b47 0) 6 rfl (λw=>ao rfl) (xp 7 rfl (λw=>ad cF rfl rfl rfl rfl) (xv 8 [7,6,5,4,3,2,1,0,9,12,16,13,14,15,17,18] rfl (af ay rfl bx358 rfl) (xp (v:=vi u_c3) 9 rfl (λw=>au rfl) ?_))))))
  have C423:=cg [9,11,17] ((ch344.l rfl).seq (ch349.n.seq ((ch354.l rfl).seq ((ch357.l rfl).seq ch421.n))))
  replace bx266:=bx266.ca C423
  refine xv 10 [9,8,7,6,5,4,3,2,1,0,12,16,13,14,15,17,18] rfl (ae (v:=v39) (i:=u_c3) bf rfl rfl bx266.flat rfl (by omega) (by omega)) (xv 11 [10,9,8,7,6,5,4,3,2,1,0,12,16,13,14,15,17,18] rfl (aq (v:=v39) (i:=u_c3) ah rfl bx266.flat (by omega) (by omega) (by decide) rfl) (xp (v:=vp b47 0) 12 rfl (λw=>au rfl) (xp (v:=vp b47 0) 13 rfl (λw=>ao rfl) (xp 14 rfl (λw=>ad cF rfl rfl rfl rfl) (xv 15 [14,13,12,11,10,9,8,7,6,5,4,3,2,1,0,16] rfl (af ay rfl bx358 rfl) (xp (v:=vi w_c9) 16 rfl (λw=>au rfl) ?_))))))
  replace bx262:=bx262.cn ch421
  refine xv 17 [16,15,14,13,12,11,10,9,8,7,6,5,4,3,2,1,0] rfl (ae (v:=v38) (i:=w_c9) bf rfl rfl bx262.flat rfl (by omega) (by omega)) (xv 18 [17,16,15,14,13,12,11,10,9,8,7,6,5,4,3,2,1,0] rfl (aq (v:=v38) (i:=w_c9) ah rfl bx262.flat (by omega) (by omega) (by decide) rfl) (xp (v:=vi (min (gI lo_c3 u_c3) (gI pl_c3 w_c9))) 19 rfl (λw=>ls rfl rfl) (xv 20 [19,18,17,16,15,14,13,12,11,10,9,8,7,6,5,4,3,2,1,0] rfl (ae (v:=v39) (i:=u_c3) bf rfl rfl bx266.flat rfl (by omega) (by omega)) (bw 21 rfl (by kernel_rfl) rfl (aD (i:=u_c3) (min (gI lo_c3 u_c3) (gI pl_c3 w_c9)) ah rfl rfl bx266 (by omega) (by omega) rfl ?_)))))
  intro w424 ch425 bx426
  clear bx266
  refine c6 (by kernel_rfl) (ak (ab (a8 rfl (ai 0 (ma (vb false) (ag (aQ (vs:=[vi 0,vb false]) Try.func80 (.tmp rfl (.tmp rfl .nil)) ?_)))))))
  refine⟨vt [vi 0,vb false],rfl,?_⟩
  refine mv (vt [vi 0,vb false]) (lx (aR rfl rfl) (lx (aR rfl rfl) (ai 0 (ma (vb false) (ag (ab (a8 rfl (mv (vb false) (ag ?_)))))))))
  refine aj rfl rfl (av (ak ?_))
  have C427:=cg [6,8,9,11,17] (ch278.n.seq (hc285.n.seq (ch332.n.seq (hc338.n.seq ((ch340.l rfl).seq ((ch344.l rfl).seq (ch349.n.seq ((ch354.l rfl).seq ((ch357.l rfl).seq (ch421.n.seq (ch425.l rfl)))))))))))
  have C428:=cg [6,9,11,17] ((ch344.l rfl).seq (ch349.n.seq ((ch354.l rfl).seq ((ch357.l rfl).seq (ch421.n.seq (ch425.l rfl))))))
  have C429:=cg [6,11,17] (ch349.n.seq ((ch354.l rfl).seq ((ch357.l rfl).seq (ch421.n.seq (ch425.l rfl)))))
  have C430:=cg [6,11] ((ch357.l rfl).seq (ch421.n.seq (ch425.l rfl)))
  refine back2_c3 (path_c3_v,path_c3,v353,(ed_c3++[h_c3/2]),co_c3,fo_c3,(List.set lo_c3 (Int.toNat u_c3) (min (gI lo_c3 u_c3) (gI pl_c3 w_c9))),bl_c3,(List.set nx_c3 (Int.toNat u_c3) ((gI nx_c3 u_c3)+1)),(List.set la_c3 (Int.toNat (h_c3/2)) true),pl_c3,by_c3,g351) _ _ ⟨bH.ca C427,zs0_c3,zs4_c3,Rg.ca C428,bx5.ca C427,o27.ca C428,o30.ca C428,bx341.ca C428,bx345.ca C429,o33.ca C428,bx53.ca C427,bx358.ce ch425,bx262.ce ch425,bx426,o_path_c3.ca C427,o355.ca C430,?_⟩ ?_
  · show eO g (dH g (bs pl_c1 lo_c1 by_c1 nx_c1 fo_c1 ed_c1 la_c1 bl_c1 co_c1) (v_c1:Int)) (bs pl_c3 (List.set lo_c3 (Int.toNat u_c3) (min (gI lo_c3 u_c3) (gI pl_c3 w_c9))) by_c3 (List.set nx_c3 (Int.toNat u_c3) ((gI nx_c3 u_c3)+1)) fo_c3 (ed_c3++[h_c3/2]) (List.set la_c3 (Int.toNat (h_c3/2)) true) bl_c3 co_c3) path_c3
    exact And.left (hfr.back hm hpz hn_u_c3.symm hnn heh ‹_› ‹_› ‹_› ‹_›)
  · show bO g (bs pl_c3 (List.set lo_c3 (Int.toNat u_c3) (min (gI lo_c3 u_c3) (gI pl_c3 w_c9))) by_c3 (List.set nx_c3 (Int.toNat u_c3) ((gI nx_c3 u_c3)+1)) fo_c3 (ed_c3++[h_c3/2]) (List.set la_c3 (Int.toNat (h_c3/2)) true) bl_c3 co_c3) path_c3<bO g (bs pl_c3 lo_c3 by_c3 nx_c3 fo_c3 ed_c3 la_c3 bl_c3 co_c3) path_c3
    exact And.right (hfr.back hm hpz hn_u_c3.symm hnn heh ‹_› ‹_› ‹_› ‹_›)
 refine aj rfl (df p2_c3) (aF rfl (dw (vs:=[]) Try.func61 .nil ?_))
 refine⟨(fo_c3,ed_c3_v,ed_c3,co_c3,pl_c3,lo_c3,by_c3,nx_c3,la_c3,bl_c3,g276),rfl,bH,Rg,bx5,o27,bx262,bx266,o30,o31,o32,o33,bx53,bx257,o_ed_c3,?_⟩
 show(bs pl_c3 lo_c3 by_c3 nx_c3 fo_c3 ed_c3 la_c3 bl_c3 co_c3)=dH g (bs pl_c1 lo_c1 by_c1 nx_c1 fo_c1 ed_c1 la_c1 bl_c1 co_c1) (v_c1:Int)
 exact hfr.fin (by omega)
end TL
