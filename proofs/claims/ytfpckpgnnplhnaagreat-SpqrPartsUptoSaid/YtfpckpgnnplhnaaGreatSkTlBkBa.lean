import Derived.Test.YtfpckpgnnplhnaaGreatSkTlGmA
import Derived.Test.YtfpckpgnnplhnaaGreatSkTlGenA
import Derived.Test.YtfpckpgnnplhnaaGreatSkTlBkA
import Derived.Test.YtfpckpgnnplhnaaGreatSkTlAli
set_option linter.all false
set_option maxRecDepth 20000
namespace TL
open Go Go.Proofs
theorem dV:Tryz.prog.follows .mixedOrders=true:=by kernel_rfl
theorem b5:Tp Tryz.prog 38 false 1 24 (.slice none 0 0):=Tp.of (by kernel_rfl)
theorem pW:Tp Tryz.prog 70 false 1 24 (.slice none 0 0):=Tp.of (by kernel_rfl)
theorem hL:Tp Tryz.prog 85 false 1 24 (.slice none 0 0):=Tp.of (by kernel_rfl)
theorem kn:Tp Tryz.prog 127 false 1 8 (.nilFunc):=Tp.of (by kernel_rfl)
theorem bU:Tp Tryz.prog 130 false 1 8 (.pointer none):=Tp.of (by kernel_rfl)
theorem nl:Tryz.f121.body.isNone=false:=rfl
theorem nE:(Tryz.f121.name== "runtime.NumGoroutine")=false:=by decide+kernel
theorem na:Tryz.f122.body.isNone=false:=rfl
theorem nT:(Tryz.f122.name== "runtime.NumGoroutine")=false:=by decide+kernel
theorem tY:Tryz.f123.body.isNone=false:=rfl
theorem sJ:(Tryz.f123.name== "runtime.NumGoroutine")=false:=by decide+kernel
theorem tg:Tryz.f124.body.isNone=false:=rfl
theorem tT:(Tryz.f124.name== "runtime.NumGoroutine")=false:=by decide+kernel
theorem nM:Tryz.f147.body.isNone=false:=rfl
theorem nD:(Tryz.f147.name== "runtime.NumGoroutine")=false:=by decide+kernel
set_option maxHeartbeats 8000000 in
theorem mu{b53:Nat}{v_c1:Nat}{w0:World}{g_v:Value}{g:(Int)×(List Pt)}{b3:Nat}{b8:Nat}{b13:Nat}{v43:Value}{O_c2:jH}{v44:Value}{v45:Value}{v46:Value}{v47:Value}{v48:Value}{v49:Value}{b55:Nat}{pl_c1:List Int}{lo_c1:List Int}{by_c1:List Int}{nx_c1:List Int}{fo_c1:Int}{ed_c1:List Int}{la_c1:List Bool}{bl_c1:List Int}{co_c1:Int}{g261:aw}{w260:World}{ed_c1_v:Value}{e_c2:Nat}(bH:b6 w0 g261 w260)(Rg:Sl g261 (is 0) w260 g_v g.2)(bx5:Bx g261 (is 1) w260 b3 [vi g.1,g_v])(bx10:Bx g261 (is 2) w260 b8 [vn,vn,vi 0])(bx15:Bx g261 (is 3) w260 b13 [vn,vn,vi 0])(o33:dr g261 6 w260 v43 O_c2)(o34:Ow g261 (is 7) (is 7) w260 v44 pl_c1)(o35:Ow g261 (is 8) (is 8) w260 v45 lo_c1)(o36:Ow g261 (is 9) (is 9) w260 v46 by_c1)(o37:Ow g261 (is 10) (is 10) w260 v47 nx_c1)(o38:Ow g261 (is 11) (is 11) w260 v48 la_c1)(o39:Ow g261 (is 12) (is 12) w260 v49 bl_c1)(bx59:Bx g261 (is 14) w260 b55 [vp b53 0])(bx258:Bx g261 (is 13) w260 b53 [vi g.1,g_v,v43,v44,v45,v46,v47,vi fo_c1,ed_c1_v,v48,v49,vi co_c1,Value.func (.func 121) #[] (List.toArray [vp b55 0])])(o_ed_c1:Ow g261 (is 19) (is 19) w260 ed_c1_v ed_c1)(hm:c7 g)(hO:O_c2=bX g)(hov_c2:dT O_c2 g e_c2)(hec:(e_c2:Int)=(g.2.length:Int))(hsi:fR g (bs pl_c1 lo_c1 by_c1 nx_c1 fo_c1 ed_c1 la_c1 bl_c1 co_c1) [])(hv0:0<=(v_c1:Int))(hv1:(v_c1:Int)<g.1)(hp0:gI pl_c1 ↑v_c1=0):
    Calls Tryz.prog 95 (List.toArray [vp b53 0,vi ↑v_c1]) w260 (λee w=>∃xx:Int×Value×(List Int)×Int×(List Int)×(List Int)×(List Int)×(List Int)×(List Bool)×(List Int)×aw,ee= .returned ((λ⟨fo_c3,ed_c3_v,ed_c3,co_c3,pl_c3,lo_c3,by_c3,nx_c3,la_c3,bl_c3,gq⟩=>vt []) xx)/\(λ(⟨fo_c3,ed_c3_v,ed_c3,co_c3,pl_c3,lo_c3,by_c3,nx_c3,la_c3,bl_c3,gq⟩:Int×Value×(List Int)×Int×(List Int)×(List Int)×(List Int)×(List Int)×(List Bool)×(List Int)×aw) (w:World)=>b6 w0 gq w/\Sl gq (is 0) w g_v g.2/\Bx gq (is 1) w b3 [vi g.1,g_v]/\Bx gq (is 2) w b8 [vn,vn,vi 0]/\Bx gq (is 3) w b13 [vn,vn,vi 0]/\dr gq 6 w v43 O_c2/\Ow gq (is 7) (is 7) w v44 pl_c3/\Ow gq (is 8) (is 8) w v45 lo_c3/\Ow gq (is 9) (is 9) w v46 by_c3/\Ow gq (is 10) (is 10) w v47 nx_c3/\Ow gq (is 11) (is 11) w v48 la_c3/\Ow gq (is 12) (is 12) w v49 bl_c3/\Bx gq (is 14) w b55 [vp b53 0]/\Bx gq (is 13) w b53 [vi g.1,g_v,v43,v44,v45,v46,v47,vi fo_c3,ed_c3_v,v48,v49,vi co_c3,Value.func (.func 121) #[] (List.toArray [vp b55 0])]/\Ow gq (is 19) (is 19) w ed_c3_v ed_c3/\((bs pl_c3 lo_c3 by_c3 nx_c3 fo_c3 ed_c3 la_c3 bl_c3 co_c3)=gc g (bs pl_c1 lo_c1 by_c1 nx_c1 fo_c1 ed_c1 la_c1 bl_c1 co_c1) (v_c1:Int))) xx w):=by
 refine ap Tryz.func95 rfl nq ?_
 have hm0:=hm
 obtain⟨hm1,hm2,hm3,hm4⟩:=hm0
 have hov1:=hov_c2.len
 have hl1:((pl_c1).length:Int)=g.1:=hsi.l1
 have hl2:((lo_c1).length:Int)=g.1:=hsi.l2
 have hl3:((by_c1).length:Int)=g.1:=hsi.l3
 have hl4:((nx_c1).length:Int)=g.1:=hsi.l4
 have hl5:((la_c1).length:Int)=g.2.length:=hsi.l5
 have hl6:((bl_c1).length:Int)=g.2.length:=hsi.l6
 obtain⟨hb1,hb2,hb3,hb4⟩:0<=fo_c1/\fo_c1<=g.1/\0<=co_c1/\co_c1+((ed_c1).length:Int)<=(g.2.length:Int):=xm (s:=bs pl_c1 lo_c1 by_c1 nx_c1 fo_c1 ed_c1 la_c1 bl_c1 co_c1) hsi
 refine a7 (a6 rfl (mv (vp b53 0) (mi ↑v_c1 (lo (br (aH (vals:=[vp b53 0,vi ↑v_c1]) Tryz.func122 na nT rfl) (ap Tryz.func122 rfl nq (a7 (a6 rfl (mv (vp b53 0) ?_)))))))))
 refine lw (vp b53 0) (ae rfl) (lx (aa cL rfl rfl rfl rfl) (lx (a8 ah rfl bx258 rfl) (lx (aS (m:=fo_c1) (n:=1) rfl rfl (by omega)) (lw (vp b53 0) (ae rfl) (lx (aa cL rfl rfl rfl rfl) (lo (ax (cs':=[vi g.1,g_v,v43,v44,v45,v46,v47,vi (fo_c1+1),ed_c1_v,v48,v49,vi co_c1,Value.func (.func 121) #[] (List.toArray [vp b55 0])]) ah rfl rfl bx258 rfl nq (AllOne.all (.cons rfl .nil)) rfl ?_)))))))
 intro w262 ch263 bx264
 clear bx258
 refine ab (bq g261 [0,1,2,3,4,5,6,7,8,9,10,11,12,13,14,15,16,17,18,20] dV ?_)
 intro w266 ch265
 refine xp (v:=vp b53 0) 0 rfl (λw=>aq rfl) (xp (v:=vp b53 0) 1 rfl (λw=>ae rfl) (xp 2 rfl (λw=>aa cL rfl rfl rfl rfl) ?_))
 replace bx264:=bx264.cn ch265
 refine xv 3 [2,1,0,4,5,9,10,14,6,11,15,7,12,16,8,13,17] rfl (a8 b5 rfl bx264 rfl) (xp (v:=vi ↑v_c1) 4 rfl (λw=>aq rfl) (xp (v:=vp b53 0) 5 rfl (λw=>aq rfl) (xp (v:=vp b53 0) 6 rfl (λw=>ae rfl) (xp 7 rfl (λw=>aa cL rfl rfl rfl rfl) (xv 8 [7,6,5,4,3,2,1,0,9,10,14,11,15,12,16,13,17] rfl (a8 b5 rfl bx264 rfl) (xp (v:=vi ↑v_c1) 9 rfl (λw=>aq rfl) (xp (v:=vp b53 0) 10 rfl (λw=>aq rfl) (xp (v:=vp b53 0) 11 rfl (λw=>ae rfl) (xp 12 rfl (λw=>aa cL rfl rfl rfl rfl) ?_)))))))))
 refine xv 13 [12,11,10,9,8,7,6,5,4,3,2,1,0,14,15,16,17] rfl (a8 ah rfl bx264 rfl) (xp (v:=vp b53 0) 14 rfl (λw=>aq rfl) (xp (v:=vp b53 0) 15 rfl (λw=>ae rfl) (xp 16 rfl (λw=>aa cL rfl rfl rfl rfl) (xv 17 [16,15,14,13,12,11,10,9,8,7,6,5,4,3,2,1,0] rfl (a8 ah rfl bx264 rfl) ?_))))
 replace o34:=(o34.ce ch263).cn ch265
 refine xv 18 [17,16,15,14,13,12,11,10,9,8,7,6,5,4,3,2,1,0] rfl (ad (v:=v44) (i:=↑v_c1) bF rfl rfl o34.flat rfl (by omega) (by omega)) (b9 19 rfl (by kernel_rfl) rfl (aZ (i:=↑v_c1) (fo_c1+1) ah rfl rfl o34 (by omega) (by omega) rfl ?_))
 intro w267 ch268 bx269
 clear o34
 have C270:=cg [7,13] ((ch263.l rfl).seq (ch265.n.seq (ch268.l rfl)))
 replace o35:=o35.ca C270
 refine xv 20 [19,18,17,16,15,14,13,12,11,10,9,8,7,6,5,4,3,2,1,0] rfl (ad (v:=v45) (i:=↑v_c1) bF rfl rfl o35.flat rfl (by omega) (by omega)) (b9 21 rfl (by kernel_rfl) rfl (aZ (i:=↑v_c1) (fo_c1+1) ah rfl rfl o35 (by omega) (by omega) rfl ?_))
 intro w271 ch272 bx273
 clear o35
 refine bS (by kernel_rfl) (dS (vs:=[]) Tryz.func122 .nil ?_)
 refine⟨vt [],rfl,?_⟩
 refine ab (a7 (a6 rfl (mi ↑v_c1 (lo (ar (α:=Int) g261 (is 17) (is 17) (17,0) rfl [(v_c1:Int)] bF ah (by decide) (by decide) (vs:=[(0,vi ↑v_c1)]) rfl rfl (.cons rfl .nil) ?_)))))
 intro g274 w275 v276 ch277 o278
 refine ma v276 (ab (am ?_))
 refine aV (σ:=Value×(List Int)×Value×(List Int)×Int×Int×(List Int)×(List Int)×(List Int)×(List Bool)×(List Int)×(List Int)×aw) (λ⟨path_c3_v,path_c3,ed_c3_v,ed_c3,co_c3,fo_c3,lo_c3,bl_c3,nx_c3,la_c3,pl_c3,by_c3,gq⟩ f w=>b6 w0 gq w/\f 0=vp b53 0/\f 4=path_c3_v/\Sl gq (is 0) w g_v g.2/\Bx gq (is 1) w b3 [vi g.1,g_v]/\Bx gq (is 2) w b8 [vn,vn,vi 0]/\Bx gq (is 3) w b13 [vn,vn,vi 0]/\dr gq 6 w v43 O_c2/\Ow gq (is 9) (is 9) w v46 by_c3/\Ow gq (is 10) (is 10) w v47 nx_c3/\Ow gq (is 11) (is 11) w v48 la_c3/\Ow gq (is 12) (is 12) w v49 bl_c3/\Bx gq (is 14) w b55 [vp b53 0]/\Bx gq (is 13) w b53 [vi g.1,g_v,v43,v44,v45,v46,v47,vi fo_c3,ed_c3_v,v48,v49,vi co_c3,Value.func (.func 121) #[] (List.toArray [vp b55 0])]/\Ow gq (is 7) (is 7) w v44 pl_c3/\Ow gq (is 8) (is 8) w v45 lo_c3/\Ow gq (is 17) (is 17) w path_c3_v path_c3/\Ow gq (is 19) (is 19) w ed_c3_v ed_c3/\(gr g (gc g (bs pl_c1 lo_c1 by_c1 nx_c1 fo_c1 ed_c1 la_c1 bl_c1 co_c1) (v_c1:Int)) (bs pl_c3 lo_c3 by_c3 nx_c3 fo_c3 ed_c3 la_c3 bl_c3 co_c3) path_c3)) (λ⟨path_c3_v,path_c3,ed_c3_v,ed_c3,co_c3,fo_c3,lo_c3,bl_c3,nx_c3,la_c3,pl_c3,by_c3,gq⟩=>cj g (bs pl_c3 lo_c3 by_c3 nx_c3 fo_c3 ed_c3 la_c3 bl_c3 co_c3) path_c3) (v276,[(v_c1:Int)],ed_c1_v,ed_c1,co_c1,fo_c1+1,(List.set lo_c1 (Int.toNat ↑v_c1) (fo_c1+1)),bl_c1,nx_c1,la_c1,(List.set pl_c1 (Int.toNat ↑v_c1) (fo_c1+1)),by_c1,g274) ?_ ?_
 have C279:=cg [7,8,13] ((ch263.l rfl).seq (ch265.n.seq ((ch268.l rfl).seq ((ch272.l rfl).seq ch277.n))))
 have C280:=cg [7,8] ((ch268.l rfl).seq ((ch272.l rfl).seq ch277.n))
 · exact⟨bH.ca C279,rfl,rfl,Rg.ca C279,bx5.ca C279,bx10.ca C279,bx15.ca C279,o33.ca C279,o36.ca C279,o37.ca C279,o38.ca C279,o39.ca C279,bx59.ca C279,bx264.ca C280,(bx269.ce ch272).cn ch277,bx273.cn ch277,o278,o_ed_c1.ca C279,by exact gr.start ‹_› (by omega) (by omega) ‹_›⟩
 clear Rg bx5 bx10 bx15 o33 o36 o37 o38 o39 bx59 o_ed_c1 bx264 bx269 bx273 o278 bH
 rintro⟨path_c3_v,path_c3,ed_c3_v,ed_c3,co_c3,fo_c3,lo_c3,bl_c3,nx_c3,la_c3,pl_c3,by_c3,g283⟩ f281 w282 ⟨bH,zs0_c3,zs4_c3,Rg,bx5,bx10,bx15,o33,o36,o37,o38,o39,bx59,bx264,bx269,bx273,o_path_c3,o_ed_c3,hfr⟩ back2_c3
 have hfi:=hfr.i
 have hpg:=zg hm1 hfi
 have hl1_c3:(pl_c3.length:Int)=g.1:=hfi.l1
 have hl2_c3:(lo_c3.length:Int)=g.1:=hfi.l2
 have hl3_c3:(by_c3.length:Int)=g.1:=hfi.l3
 have hl4_c3:(nx_c3.length:Int)=g.1:=hfi.l4
 have hl5_c3:(la_c3.length:Int)=g.2.length:=hfi.l5
 have hl6_c3:(bl_c3.length:Int)=g.2.length:=hfi.l6
 obtain⟨hb1_c3,hb2_c3,hb3_c3,hb4_c3⟩:0<=fo_c3/\fo_c3<=g.1/\0<=co_c3/\co_c3+(ed_c3.length:Int)<=(g.2.length:Int):=xm (s:=bs pl_c3 lo_c3 by_c3 nx_c3 fo_c3 ed_c3 la_c3 bl_c3 co_c3) hfi
 refine a7 (a7 (a6 rfl (mz zs4_c3 ?_)))
 have len284:=(o_path_c3.flat).small
 refine lx (bp bF rfl o_path_c3.flat) (lx (fm (m:=(path_c3.length:Int)) (n:=0) rfl rfl) (ab ?_))
 by_cases p2_c3:0<(path_c3.length:Int)
 ·
  refine af rfl (dt p2_c3) (ao (am (a7 ?_)))
  have hpz:0<(path_c3.length:Int):=by omega
  refine a6 rfl (mz zs4_c3 (mz zs4_c3 (lx (bp bF rfl o_path_c3.flat) (lx (ej (m:=(path_c3.length:Int)) (n:=1) rfl rfl (by omega)) (lx (ad (v:=path_c3_v) (i:=(path_c3.length:Int)-1) bF rfl rfl o_path_c3.flat rfl (by omega) (by omega)) (lx (av (v:=path_c3_v) (i:=(path_c3.length:Int)-1) ah rfl o_path_c3.flat (by omega) (by omega) (by decide) rfl) ?_))))))
  obtain⟨u_c3,hn_u_c3⟩:∃q_:Int,(gI path_c3 ((path_c3.length:Int)-1))=q_:=⟨_,rfl⟩
  refine lw (vi u_c3) (bm (congrArg (Value.int .i64) hn_u_c3)) (ab (a7 (a7 ?_)))
  obtain⟨⟨⟨hu0,hu1⟩,hnx0,hnx1⟩,hby0⟩:=yT hfi hO hpz hn_u_c3
  have hrl:=hov_c2.rl hu0 hu1
  refine cG g283 rfl dV (by kernel_rfl) ?_
  intro w286 ch285
  refine qz zs0_c3 (qv (vp b53 0) (λw' hw'=>ae rfl) (qx (λw' hw'=>aa cL rfl rfl rfl rfl) ?_))
  replace bx264:=bx264.cn ch285
  refine qx (λw' hw'=>a8 b5 rfl (bx264.bel hw') rfl) (qm (vi u_c3) ?_)
  replace o37:=o37.cn ch285
  refine qx (λw' hw'=>ad (v:=v47) (i:=u_c3) bF rfl rfl (o37.flat.bel hw') rfl (by omega) (by omega)) (qx (λw' hw'=>av (v:=v47) (i:=u_c3) ah rfl (o37.flat.bel hw') (by omega) (by omega) (by decide) rfl) (qz zs0_c3 (qv (vp b53 0) (λw' hw'=>ae rfl) (qx (λw' hw'=>aa cL rfl rfl rfl rfl) (qx (λw' hw'=>a8 hL rfl (bx264.bel hw') rfl) (qm (vi u_c3) ?_))))))
  replace o33:=o33.cn ch285
  refine qx (λw' hw'=>ad (v:=v43) (i:=u_c3) gf rfl rfl (o33.sl.bel hw') rfl (by omega) (by omega)) ?_
  obtain⟨v287,cel288,r289⟩:=dv (r:=u_c3) o33 (by omega) (by omega)
  refine qx (λw' hw'=>cH b5 rfl (jX cel288 hw')) ?_
  have len290:=(r289.row_sl).small
  refine qx (λw' hw'=>bp bF rfl (r289.row_sl.bel hw')) (qx (λw' hw'=>dA (m:=(gI nx_c3 u_c3)) (n:=(List.length (gI O_c2 u_c3):Int)) rfl rfl) (ep ?_))
  intro w291 hc292
  replace hc292:=aN hc292 g283
  by_cases p4_c3:(gI nx_c3 u_c3)=(List.length (gI O_c2 u_c3):Int)
  ·
   refine af rfl (dt p4_c3) (a7 ?_)
   clear cel288 r289
   have hny:gI nx_c3 u_c3=((gI (bX g) u_c3).length:Int):=by rw[<-hO];assumption
   refine a6 rfl (mz zs0_c3 (mi u_c3 (lo (br (aH (vals:=[vp b53 0,vi u_c3]) Tryz.func123 tY sJ rfl) (ap Tryz.func123 rfl nq ?_)))))
   replace Rg:=(Rg.cn ch285).cn hc292
   replace o33:=o33.cn hc292
   replace bx269:=(bx269.cn ch285).cn hc292
   replace bx273:=(bx273.cn ch285).cn hc292
   replace o36:=(o36.cn ch285).cn hc292
   replace o37:=o37.cn hc292
   replace o_ed_c3:=(o_ed_c3.cn ch285).cn hc292
   replace o38:=(o38.cn ch285).cn hc292
   replace o39:=(o39.cn ch285).cn hc292
   refine a7 (a6 rfl (mv (vp b53 0) (lw (vp b53 0) (ae rfl) (lx (aa cL rfl rfl rfl rfl) ?_))))
   replace bx264:=bx264.cn hc292
   refine lx (a8 b5 rfl bx264 rfl) (mi u_c3 (lx (ad (v:=v46) (i:=u_c3) bF rfl rfl o36.flat rfl (by omega) (by omega)) (lx (av (v:=v46) (i:=u_c3) ah rfl o36.flat (by omega) (by omega) (by decide) rfl) ?_)))
   obtain⟨b_c5,hn_b_c5⟩:∃q_:Int,(gI by_c3 u_c3)=q_:=⟨_,rfl⟩
   refine lw (vi b_c5) (bm (congrArg (Value.int .i64) hn_b_c5)) (ab (a7 (a7 (a6 rfl (mi b_c5 (lx (bw (m:=b_c5) (n:=0) rfl rfl) (ab ?_)))))))
   by_cases p1_c5:b_c5<0
   ·
    refine af rfl (dt p1_c5) (au (vs:=[]) Tryz.func123 .nil ?_)
    refine⟨vt [],rfl,?_⟩
    refine ab (a7 (a6 rfl (mz zs4_c3 (mz zs4_c3 ?_))))
    replace o_path_c3:=(o_path_c3.cn ch285).cn hc292
    refine lx (bp bF rfl o_path_c3.flat) (lx (ej (m:=(path_c3.length:Int)) (n:=1) rfl rfl (by omega)) (lw ((bM path_c3_v 1 (Int.toNat 0) (Int.toNat ((path_c3.length:Int)-1)))) (gE (v:=path_c3_v) (l:=0) (h:=(path_c3.length:Int)-1) bF rfl rfl o_path_c3.flat (.inr ⟨rfl,rfl⟩) (.inl (congrArg some rfl)) (by omega) (by omega) (by omega)) ?_))
    have r294:=kV o_path_c3 (show Int.toNat ((path_c3.length:Int)-1)<=List.length _ by omega)
    refine ma ((bM path_c3_v 1 (Int.toNat 0) (Int.toNat ((path_c3.length:Int)-1)))) (ab (aO rfl ?_))
    replace bH:=bH.cn ch285
    refine back2_c3 ((bM path_c3_v 1 (Int.toNat 0) (Int.toNat ((path_c3.length:Int)-1))),(List.take (Int.toNat ((path_c3.length:Int)-1)) path_c3),ed_c3_v,ed_c3,co_c3,fo_c3,lo_c3,bl_c3,nx_c3,la_c3,pl_c3,by_c3,g283) _ _ ⟨bH.cn hc292,zs0_c3,rfl,Rg,(bx5.cn ch285).cn hc292,(bx10.cn ch285).cn hc292,(bx15.cn ch285).cn hc292,o33,o36,o37,o38,o39,(bx59.cn ch285).cn hc292,bx264,bx269,bx273,r294,o_ed_c3,?_⟩ ?_
    · show gr g (gc g (bs pl_c1 lo_c1 by_c1 nx_c1 fo_c1 ed_c1 la_c1 bl_c1 co_c1) (v_c1:Int)) (bs pl_c3 lo_c3 by_c3 nx_c3 fo_c3 ed_c3 la_c3 bl_c3 co_c3) (List.take (Int.toNat ((path_c3.length:Int)-1)) path_c3)
      (rw[gn];exact And.left (hfr.off0 hm hpz hn_u_c3.symm hny (by omega)))
    · show cj g (bs pl_c3 lo_c3 by_c3 nx_c3 fo_c3 ed_c3 la_c3 bl_c3 co_c3) (List.take (Int.toNat ((path_c3.length:Int)-1)) path_c3)<cj g (bs pl_c3 lo_c3 by_c3 nx_c3 fo_c3 ed_c3 la_c3 bl_c3 co_c3) path_c3
      (rw[gn];exact And.right (hfr.off0 hm hpz hn_u_c3.symm hny (by omega)))
   refine ag rfl (df p1_c5) (ao (a7 ?_))
   have hyb:hf g b_c5:=by rw[<-hn_b_c5];exact hby0.resolve_left (by omega)
   obtain⟨htw01,htw2,_,htw3⟩:=AB (g:=g) hyb
   obtain⟨htw0,htw1⟩:=htw01
   obtain⟨hb0,hb1⟩:=hyb
   have hto:=mt hm htw0 htw1
   unfold fZ at hto htw3
   obtain⟨hto0,hto1⟩:=hto
   have hnb:=hn_b_c5
   have hfb:dz g (gI by_c3 u_c3)=dz g b_c5:=by rw[hn_b_c5]
   refine a6 rfl (mv (vp b53 0) (mi b_c5 (lw (vi (ko b_c5)) (AX (op:=.xor) (m:=b_c5) (n:=1) rfl rfl (sw _ (by omega) (by omega))) (lo (br (aH (vals:=[vp b53 0,vi (ko b_c5)]) Tryz.func147 nM nD rfl) (ap Tryz.func147 rfl nq (a7 (a6 rfl (ai 0 ?_)))))))))
   refine ab (a7 (a6 rfl (mv (vp b53 0) (lw (vp b53 0) (ae rfl) (lx (aa cL rfl rfl rfl rfl) (lx (aa ea rfl rfl rfl rfl) (lx (a8 bR rfl bx264 rfl) (mi (ko b_c5) (lx (mK (m:=ko b_c5) (n:=2) rfl rfl (by omega) (by omega) (by omega)) ?_)))))))))
   refine mi (ko b_c5) (lx (pQ (m:=ko b_c5) (n:=2) rfl rfl (by omega) (by omega)) (lx (ej (m:=1) (n:=(ko b_c5)%2) rfl rfl (by omega)) (lx (ad (v:=g_v) (i:=(ko b_c5)/2) eR rfl rfl Rg rfl (by omega) (by omega)) (lx (cA (i:=1-((ko b_c5)%2)) eO rfl rfl rfl (by omega) (by omega) (Nat.mul_one _)) (lx (cK (v:=g_v) (i:=(ko b_c5)/2) ah rfl Rg (by omega) (by omega) (show Int.toNat (1-((ko b_c5)%2))<2 by omega) (iN _ (by omega) (by omega))) ?_)))))
   obtain⟨w_c6,hn_w_c6⟩:∃q_:Int,pI (gI g.2 ((ko b_c5)/2)) (1-((ko b_c5)%2))=q_:=⟨_,rfl⟩
   refine lw (vi w_c6) (bm (congrArg (Value.int .i64) hn_w_c6)) (ab (au (vs:=[vi w_c6]) Tryz.func147 (.tmp rfl .nil) ?_))
   refine⟨vi w_c6,rfl,?_⟩
   refine ai w_c6 (ab (a7 (bq g283 [0,1,2,3,4,5,6,7,8,9,10,11,12,13,14,15,16,17,18,19,20] dV ?_)))
   intro w296 ch295
   refine xp (v:=vp b53 0) 0 rfl (λw=>aq rfl) (xp (v:=vp b53 0) 1 rfl (λw=>ae rfl) (xp 2 rfl (λw=>aa cL rfl rfl rfl rfl) ?_))
   replace bx264:=bx264.cn ch295
   refine xv 3 [2,1,0,4,5,9,12,16,6,13,7,14,8,15,10,17,11,18,19] rfl (a8 b5 rfl bx264 rfl) (xp (v:=vi w_c6) 4 rfl (λw=>aq rfl) (xp (v:=vp b53 0) 5 rfl (λw=>aq rfl) (xp (v:=vp b53 0) 6 rfl (λw=>ae rfl) (xp 7 rfl (λw=>aa cL rfl rfl rfl rfl) (xv 8 [7,6,5,4,3,2,1,0,9,12,16,13,14,15,17,18] rfl (a8 b5 rfl bx264 rfl) (xp (v:=vi w_c6) 9 rfl (λw=>aq rfl) ?_))))))
   replace bx273:=bx273.cn ch295
   refine xv 10 [9,8,7,6,5,4,3,2,1,0,12,16,13,14,15,17,18] rfl (ad (v:=v45) (i:=w_c6) bF rfl rfl bx273.flat rfl (by omega) (by omega)) (xv 11 [10,9,8,7,6,5,4,3,2,1,0,12,16,13,14,15,17,18] rfl (av (v:=v45) (i:=w_c6) ah rfl bx273.flat (by omega) (by omega) (by decide) rfl) (xp (v:=vp b53 0) 12 rfl (λw=>aq rfl) (xp (v:=vp b53 0) 13 rfl (λw=>ae rfl) (xp 14 rfl (λw=>aa cL rfl rfl rfl rfl) (xv 15 [14,13,12,11,10,9,8,7,6,5,4,3,2,1,0,16] rfl (a8 b5 rfl bx264 rfl) (xp (v:=vi u_c3) 16 rfl (λw=>aq rfl) ?_))))))
   refine xv 17 [16,15,14,13,12,11,10,9,8,7,6,5,4,3,2,1,0] rfl (ad (v:=v45) (i:=u_c3) bF rfl rfl bx273.flat rfl (by omega) (by omega)) (xv 18 [17,16,15,14,13,12,11,10,9,8,7,6,5,4,3,2,1,0] rfl (av (v:=v45) (i:=u_c3) ah rfl bx273.flat (by omega) (by omega) (by decide) rfl) (xp (v:=vi (min (gI lo_c3 w_c6) (gI lo_c3 u_c3))) 19 rfl (λw=>jj rfl rfl) (xv 20 [19,18,17,16,15,14,13,12,11,10,9,8,7,6,5,4,3,2,1,0] rfl (ad (v:=v45) (i:=w_c6) bF rfl rfl bx273.flat rfl (by omega) (by omega)) (b9 21 rfl (by kernel_rfl) rfl (aZ (i:=w_c6) (min (gI lo_c3 w_c6) (gI lo_c3 u_c3)) ah rfl rfl bx273 (by omega) (by omega) rfl ?_)))))
   intro w297 ch298 bx299
   clear bx273
   refine bS (by kernel_rfl) (a7 (cG g283 rfl dV (by kernel_rfl) ?_))
   intro w301 ch300
   refine qm (vp b53 0) (qv (vp b53 0) (λw' hw'=>ae rfl) (qx (λw' hw'=>aa cL rfl rfl rfl rfl) ?_))
   replace bx264:=(bx264.ce ch298).cn ch300
   refine qx (λw' hw'=>a8 b5 rfl (bx264.bel hw') rfl) (qm (vi u_c3) ?_)
   replace bx299:=bx299.cn ch300
   refine qx (λw' hw'=>ad (v:=v45) (i:=u_c3) bF rfl rfl (bx299.flat.bel hw') rfl (by omega) (by(simp only[List.length_set,List.length_append,List.length_cons,List.length_nil,List.length_replicate,List.length_map,List.length_take,List.length_drop];omega))) (qx (λw' hw'=>av (v:=v45) (i:=u_c3) ah rfl (bx299.flat.bel hw') (by omega) (by(simp only[List.length_set,List.length_append,List.length_cons,List.length_nil,List.length_replicate,List.length_map,List.length_take,List.length_drop];omega)) (by decide) rfl) (qm (vp b53 0) (qv (vp b53 0) (λw' hw'=>ae rfl) (qx (λw' hw'=>aa cL rfl rfl rfl rfl) (qx (λw' hw'=>a8 b5 rfl (bx264.bel hw') rfl) (qm (vi w_c6) ?_))))))
   have C302:=cg [8] (ch295.n.seq ((ch298.l rfl).seq ch300.n))
   replace bx269:=bx269.ca C302
   refine qx (λw' hw'=>ad (v:=v44) (i:=w_c6) bF rfl rfl (bx269.flat.bel hw') rfl (by omega) (by omega)) (qx (λw' hw'=>av (v:=v44) (i:=w_c6) ah rfl (bx269.flat.bel hw') (by omega) (by omega) (by decide) rfl) (qx (λw' hw'=>eB (m:=(gI (List.set lo_c3 (Int.toNat w_c6) (min (gI lo_c3 w_c6) (gI lo_c3 u_c3))) u_c3)) (n:=(gI pl_c3 w_c6)) rfl rfl) (ep ?_)))
   intro w303 hc304
   replace hc304:=aN hc304 g283
   by_cases p4_c5:(gI pl_c3 w_c6)<=(gI (List.set lo_c3 (Int.toNat w_c6) (min (gI lo_c3 w_c6) (gI lo_c3 u_c3))) u_c3)
   ·
    refine af rfl (dt p4_c5) ?_
    have hfw:=hfb.trans (htw3.symm.trans hn_w_c6)
    have hxn:(ed_c3).Nodup:=hfi.en
    have hxm:(b_c5/2)∈ed_c3:=by rw[<-hn_b_c5];exact(hfi.top (List.ne_nil_of_length_pos (by omega)) hn_u_c3.symm (show¬gI by_c3 u_c3<0 by rw[hn_b_c5];omega)).1
    have hxe:∀x∈ed_c3,0<=x/\x<(g.2.length:Int):=λx hx=>(hfi.el x hx).1
    refine a6 rfl (mv (vp b53 0) (lw (vp b53 0) (ae rfl) (lx (aa cL rfl rfl rfl rfl) ?_)))
    replace bx264:=bx264.cn hc304
    refine lx (a8 kn rfl bx264 rfl) (mi b_c5 (lx (mK (m:=b_c5) (n:=2) rfl rfl (by omega) (by omega) (by omega)) (lo (br (ke (fid:=121) (vals:=[vi (b_c5/2)]) (caps:=[vp b55 0]) rfl Tryz.func121 nl nE rfl) (ap Tryz.func121 rfl nq ?_)))))
    have C305:=cg [8] (ch295.n.seq ((ch298.l rfl).seq (ch300.n.seq hc304.n)))
    replace Rg:=Rg.ca C305
    replace o33:=o33.ca C305
    replace bx269:=bx269.cn hc304
    replace bx299:=bx299.cn hc304
    replace o36:=o36.ca C305
    replace o37:=o37.ca C305
    replace o_ed_c3:=o_ed_c3.ca C305
    replace o38:=o38.ca C305
    replace o39:=o39.ca C305
    refine a7 (a6 rfl ?_)
    have C306:=cg [8] (ch285.n.seq (hc292.n.seq (ch295.n.seq ((ch298.l rfl).seq (ch300.n.seq hc304.n)))))
    replace bx59:=bx59.ca C306
    refine lx (a8 bU rfl bx59 rfl) (lw (vp b53 0) (ae rfl) (lx (aa cL rfl rfl rfl rfl) (lx (a8 b5 rfl bx264 rfl) ?_)))
    have len307:=(o_ed_c3.flat).small
    refine lx (bp bF rfl o_ed_c3.flat) (lx (ej (m:=(ed_c3.length:Int)) (n:=1) rfl rfl (by omega)) (ai ((ed_c3.length:Int)-1) (ab (a7 (am ?_)))))
    refine aV (σ:=Int×aw) (λ⟨at_c7,gq⟩ f w=>b6 w0 gq w/\f 0=vi (b_c5/2)/\f 1=vp b55 0/\f 3=vi at_c7/\Sl gq (is 0) w g_v g.2/\Bx gq (is 1) w b3 [vi g.1,g_v]/\Bx gq (is 2) w b8 [vn,vn,vi 0]/\Bx gq (is 3) w b13 [vn,vn,vi 0]/\dr gq 6 w v43 O_c2/\Ow gq (is 9) (is 9) w v46 by_c3/\Ow gq (is 10) (is 10) w v47 nx_c3/\Ow gq (is 11) (is 11) w v48 la_c3/\Ow gq (is 12) (is 12) w v49 bl_c3/\Bx gq (is 14) w b55 [vp b53 0]/\Bx gq (is 13) w b53 [vi g.1,g_v,v43,v44,v45,v46,v47,vi fo_c3,ed_c3_v,v48,v49,vi co_c3,Value.func (.func 121) #[] (List.toArray [vp b55 0])]/\Ow gq (is 7) (is 7) w v44 pl_c3/\Ow gq (is 17) (is 17) w path_c3_v path_c3/\Ow gq (is 19) (is 19) w ed_c3_v ed_c3/\Ow gq (is 8) (is 8) w v45 (List.set lo_c3 (Int.toNat w_c6) (min (gI lo_c3 w_c6) (gI lo_c3 u_c3)))/\(sc ed_c3 (b_c5/2) at_c7)) (λ⟨at_c7,gq⟩=>Int.toNat at_c7) ((ed_c3.length:Int)-1,g283) ?_ ?_
    · exact⟨bH.ca C306,rfl,rfl,rfl,Rg,bx5.ca C306,bx10.ca C306,bx15.ca C306,o33,o36,o37,o38,o39,bx59,bx264,bx269,o_path_c3.ca C306,o_ed_c3,bx299,by exact sc.start hxn hxm⟩
    clear Rg bx5 bx10 bx15 o33 o36 o37 o38 o39 bx59 bx264 bx269 o_path_c3 o_ed_c3 bx299 bH
    rintro⟨at_c7,g310⟩ f308 w309 ⟨bH,zs0_c7,zs1_c7,zs3_c7,Rg,bx5,bx10,bx15,o33,o36,o37,o38,o39,bx59,bx264,bx269,o_path_c3,o_ed_c3,bx299,hat_c7⟩ back1_c7
    have hA1_c7:=hat_c7.lo
    have hA2_c7:=hat_c7.hi
    refine a7 (a7 (a6 rfl (lx (a8 bU zs1_c7 bx59 rfl) (lw (vp b53 0) (ae rfl) (lx (aa cL rfl rfl rfl rfl) (lx (a8 b5 rfl bx264 rfl) (mz zs3_c7 (lx (ad (v:=ed_c3_v) (i:=at_c7) bF rfl rfl o_ed_c3.flat rfl (by omega) (by omega)) (lx (av (v:=ed_c3_v) (i:=at_c7) ah rfl o_ed_c3.flat (by omega) (by omega) (by decide) rfl) ?_)))))))))
    refine mz zs0_c7 (lx (dq (m:=(gI ed_c3 at_c7)) (n:=b_c5/2) rfl rfl) (ab ?_))
    by_cases p1_c7:(gI ed_c3 at_c7)=(b_c5/2)
    ·
     refine ag rfl (congrArg Bool.not (dt p1_c7)) (aO rfl (a7 (a7 (a6 rfl (lx (a8 bU zs1_c7 bx59 rfl) (lw (vp b53 0) (ae rfl) (lx (aa cL rfl rfl rfl rfl) (lx (a8 b5 rfl bx264 rfl) (mz zs3_c7 ?_)))))))))
     refine lw ((bM ed_c3_v 1 (Int.toNat at_c7) (Int.toNat ed_c3.length))) (gE (v:=ed_c3_v) (l:=at_c7) (h:=ed_c3.length) bF rfl rfl o_ed_c3.flat (.inl (congrArg some rfl)) (.inr ⟨rfl,rfl⟩) (by omega) (by omega) (by omega)) ?_
     have r312:=yk o_ed_c3.flat (show Int.toNat at_c7<=Int.toNat ed_c3.length by omega) (show Int.toNat ed_c3.length<=List.length _ by omega)
     have len313:=(r312).small
     refine lx (bp bF rfl r312) (mi 0 (ab (am ?_)))
     refine aV (σ:=Nat×(List Int)×aw) (λ⟨k_c7,bk_c7,gq⟩ f w=>b6 w0 gq w/\f 1=vp b55 0/\f 3=vi at_c7/\f 28=(bM ed_c3_v 1 (Int.toNat at_c7) (Int.toNat ed_c3.length))/\f 29=vi (List.length (List.drop (Int.toNat at_c7) (List.take (Int.toNat ed_c3.length) ed_c3)):Int)/\f 30=vi ↑k_c7/\Sl gq (is 0) w g_v g.2/\Bx gq (is 1) w b3 [vi g.1,g_v]/\Bx gq (is 2) w b8 [vn,vn,vi 0]/\Bx gq (is 3) w b13 [vn,vn,vi 0]/\dr gq 6 w v43 O_c2/\Ow gq (is 9) (is 9) w v46 by_c3/\Ow gq (is 10) (is 10) w v47 nx_c3/\Ow gq (is 11) (is 11) w v48 la_c3/\Ow gq (is 12) (is 12) w v49 bk_c7/\Bx gq (is 14) w b55 [vp b53 0]/\Bx gq (is 13) w b53 [vi g.1,g_v,v43,v44,v45,v46,v47,vi fo_c3,ed_c3_v,v48,v49,vi co_c3,Value.func (.func 121) #[] (List.toArray [vp b55 0])]/\Ow gq (is 7) (is 7) w v44 pl_c3/\Ow gq (is 17) (is 17) w path_c3_v path_c3/\Ow gq (is 19) (is 19) w ed_c3_v ed_c3/\Ow gq (is 8) (is 8) w v45 (List.set lo_c3 (Int.toNat w_c6) (min (gI lo_c3 w_c6) (gI lo_c3 u_c3)))/\Sl gq (is 19) w (bM ed_c3_v 1 (Int.toNat at_c7) (Int.toNat ed_c3.length)) (List.drop (Int.toNat at_c7) (List.take (Int.toNat ed_c3.length) ed_c3))/\(k_c7:Int)<=((List.length (List.drop (Int.toNat at_c7) (List.take (Int.toNat ed_c3.length) ed_c3)):Int):Int)/\(bk_c7=u5 (List.drop (Int.toNat at_c7) (List.take (Int.toNat ((ed_c3).length:Int)) ed_c3)) bl_c3 co_c3 k_c7)) (λ⟨k_c7,bk_c7,gq⟩=>Int.toNat (((List.length (List.drop (Int.toNat at_c7) (List.take (Int.toNat ed_c3.length) ed_c3)):Int):Int)-(k_c7:Int))) (0,bl_c3,g310) ?_ ?_
     · exact⟨bH,zs1_c7,zs3_c7,rfl,rfl,rfl,Rg,bx5,bx10,bx15,o33,o36,o37,o38,o39,bx59,bx264,bx269,o_path_c3,o_ed_c3,bx299,r312,by omega,by exact A0⟩
     clear Rg bx5 bx10 bx15 o33 o36 o37 o38 o39 bx59 bx264 bx269 o_path_c3 o_ed_c3 bx299 r312 bH
     rintro⟨k_c7,bk_c7,g316⟩ f314 w315 ⟨bH,zs1_c7,zs3_c7,zs28_c7,zs29_c7,zs30_c7,Rg,bx5,bx10,bx15,o33,o36,o37,o38,o39,bx59,bx264,bx269,o_path_c3,o_ed_c3,bx299,r312,hle_k_c7,hbk_c7⟩ back4_c7
     have hbkl_c7:=rP hbk_c7
     refine a7 (a6 rfl (lx (bw (m:=↑k_c7) (n:=(List.length (List.drop (Int.toNat at_c7) (List.take (Int.toNat ed_c3.length) ed_c3)):Int)) zs30_c7 zs29_c7) (ab (a7 ?_))))
     by_cases p4_c7:(k_c7:Int)<(List.length (List.drop (Int.toNat at_c7) (List.take (Int.toNat ed_c3.length) ed_c3)):Int)
     ·
      refine af rfl (dt p4_c7) ?_
      have hei_c7:=hxe _ (List.mem_of_mem_take (List.mem_of_mem_drop (bC (xs:=(List.drop (Int.toNat at_c7) (List.take (Int.toNat ((ed_c3).length:Int)) ed_c3))) (i:=↑k_c7) (by omega) (by omega))))
      refine ao (a7 (am (a7 (a6 rfl (lx (ad (v:=(bM ed_c3_v 1 (Int.toNat at_c7) (Int.toNat ed_c3.length))) (i:=↑k_c7) bF rfl zs28_c7 r312 zs30_c7 (by omega) (by omega)) (lx (av (v:=(bM ed_c3_v 1 (Int.toNat at_c7) (Int.toNat ed_c3.length))) (i:=↑k_c7) ah rfl r312 (by omega) (by omega) (by decide) rfl) (ai (gI (List.drop (Int.toNat at_c7) (List.take (Int.toNat ed_c3.length) ed_c3)) (k_c7:Int)) (ab (bq g316 [0,1,2,3,4,5,6,7,8,9] dV ?_)))))))))
      intro w318 ch317
      replace bx59:=bx59.cn ch317
      refine xv 0 [4,5,6,7,8] rfl (a8 bU zs1_c7 bx59 rfl) (xp (v:=vp b53 0) 1 rfl (λw=>ae rfl) (xp 2 rfl (λw=>aa cL rfl rfl rfl rfl) ?_))
      replace bx264:=bx264.cn ch317
      refine xv 3 [2,1,0,4,5,6,7,8] rfl (a8 b5 rfl bx264 rfl) (xp (v:=vi (gI (List.drop (Int.toNat at_c7) (List.take (Int.toNat ed_c3.length) ed_c3)) (k_c7:Int))) 4 rfl (λw=>aq rfl) (xv 5 [4,3,2,1,0] rfl (a8 bU zs1_c7 bx59 rfl) (xp (v:=vp b53 0) 6 rfl (λw=>ae rfl) (xp 7 rfl (λw=>aa cL rfl rfl rfl rfl) (xv 8 [7,6,5,4,3,2,1,0] rfl (a8 ah rfl bx264 rfl) ?_)))))
      replace o39:=o39.cn ch317
      refine xv 9 [8,7,6,5,4,3,2,1,0] rfl (ad (v:=v49) (i:=(gI (List.drop (Int.toNat at_c7) (List.take (Int.toNat ed_c3.length) ed_c3)) (k_c7:Int))) bF rfl rfl o39.flat rfl (by omega) (by omega)) (b9 10 rfl (by kernel_rfl) rfl (aZ (i:=(gI (List.drop (Int.toNat at_c7) (List.take (Int.toNat ed_c3.length) ed_c3)) (k_c7:Int))) co_c3 ah rfl rfl o39 (by omega) (by omega) rfl ?_))
      intro w319 ch320 bx321
      clear o39
      refine bS (by kernel_rfl) (ak (a6 rfl (lx (aS (m:=↑k_c7) (n:=1) zs30_c7 rfl (by omega)) (mi ((k_c7:Int)+1) (ab ?_)))))
      replace bH:=bH.cn ch317
      refine back4_c7 (k_c7+1,(List.set bk_c7 (Int.toNat (gI (List.drop (Int.toNat at_c7) (List.take (Int.toNat ed_c3.length) ed_c3)) (k_c7:Int))) co_c3),g316) _ _ ⟨bH.ce ch320,zs1_c7,zs3_c7,zs28_c7,zs29_c7,rfl,(Rg.cn ch317).ce ch320,(bx5.cn ch317).ce ch320,(bx10.cn ch317).ce ch320,(bx15.cn ch317).ce ch320,(o33.cn ch317).ce ch320,(o36.cn ch317).ce ch320,(o37.cn ch317).ce ch320,(o38.cn ch317).ce ch320,bx321,bx59.ce ch320,bx264.ce ch320,(bx269.cn ch317).ce ch320,(o_path_c3.cn ch317).ce ch320,(o_ed_c3.cn ch317).ce ch320,(bx299.cn ch317).ce ch320,(r312.cn ch317).ce ch320,by omega,?_⟩ ?_
      · show(List.set bk_c7 (Int.toNat (gI (List.drop (Int.toNat at_c7) (List.take (Int.toNat ed_c3.length) ed_c3)) (k_c7:Int))) co_c3)=u5 (List.drop (Int.toNat at_c7) (List.take (Int.toNat ((ed_c3).length:Int)) ed_c3)) bl_c3 co_c3 (k_c7+1)
        exact pf hbk_c7 ‹_›
      · show Int.toNat (_-_)<Int.toNat (_-_)
        omega
     refine ag rfl (df p4_c7) (aO rfl (a7 ?_))
     clear r312
     refine bq g316 [0,1,2,3,4,5,6,7,8] dV ?_
     intro w323 ch322
     replace bx59:=bx59.cn ch322
     refine xv 0 [1,5,2,3,4,6] rfl (a8 bU zs1_c7 bx59 rfl) (xv 1 [0,5] rfl (a8 bU zs1_c7 bx59 rfl) (xp (v:=vp b53 0) 2 rfl (λw=>ae rfl) (xp 3 rfl (λw=>aa cL rfl rfl rfl rfl) ?_)))
     replace bx264:=bx264.cn ch322
     refine xv 4 [3,2,1,0,5] rfl (a8 b5 rfl bx264 rfl) (xp (v:=vi at_c7) 5 rfl (λw=>aq zs3_c7) ?_)
     replace o_ed_c3:=o_ed_c3.cn ch322
     refine xp (v:=(bM ed_c3_v 1 (Int.toNat 0) (Int.toNat at_c7))) 6 rfl (λw=>gE (v:=ed_c3_v) (l:=0) (h:=at_c7) bF rfl rfl o_ed_c3.flat (.inr ⟨rfl,rfl⟩) (.inl (congrArg some rfl)) (by omega) (by omega) (by omega)) ?_
     have r325:=kV o_ed_c3 (show Int.toNat at_c7<=List.length _ by omega)
     refine xp (v:=vp b53 0) 7 rfl (λw=>ae rfl) (xp 8 rfl (λw=>aa cL rfl rfl rfl rfl) (b9 9 rfl (by kernel_rfl) rfl (aC (cs':=[vi g.1,g_v,v43,v44,v45,v46,v47,vi fo_c3,(bM ed_c3_v 1 (Int.toNat 0) (Int.toNat at_c7)),v48,v49,vi co_c3,Value.func (.func 121) #[] (List.toArray [vp b55 0])]) b5 rfl rfl bx264 (aP r325.flat) nq (aG r325.flat) rfl ?_)))
     intro w326 ch327 bx328
     clear bx264
     refine bS (by kernel_rfl) (a6 rfl ?_)
     replace bx59:=bx59.ce ch327
     refine lx (a8 bU zs1_c7 bx59 rfl) (lw (vp b53 0) (ae rfl) (lx (aa cL rfl rfl rfl rfl) (lx (a8 ah rfl bx328 rfl) (lx (aS (m:=co_c3) (n:=1) rfl rfl (by omega)) (lw (vp b53 0) (ae rfl) (lx (aa cL rfl rfl rfl rfl) (lo (ax (cs':=[vi g.1,g_v,v43,v44,v45,v46,v47,vi fo_c3,(bM ed_c3_v 1 (Int.toNat 0) (Int.toNat at_c7)),v48,v49,vi (co_c3+1),Value.func (.func 121) #[] (List.toArray [vp b55 0])]) ah rfl rfl bx328 rfl nq (AllOne.all (.cons rfl .nil)) rfl ?_))))))))
     intro w329 ch330 bx331
     clear bx328
     refine ab (dS (vs:=[]) Tryz.func121 .nil ?_)
     refine⟨vt [],rfl,?_⟩
     refine ab (dS (vs:=[]) Tryz.func123 .nil ?_)
     refine⟨vt [],rfl,?_⟩
     refine ab (a7 ?_)
     clear o_ed_c3
     refine a6 rfl (mz zs4_c3 (mz zs4_c3 ?_))
     have C332:=cg [13] (ch322.n.seq ((ch327.l rfl).seq (ch330.l rfl)))
     replace o_path_c3:=o_path_c3.ca C332
     refine lx (bp bF rfl o_path_c3.flat) (lx (ej (m:=(path_c3.length:Int)) (n:=1) rfl rfl (by omega)) (lw ((bM path_c3_v 1 (Int.toNat 0) (Int.toNat ((path_c3.length:Int)-1)))) (gE (v:=path_c3_v) (l:=0) (h:=(path_c3.length:Int)-1) bF rfl rfl o_path_c3.flat (.inr ⟨rfl,rfl⟩) (.inl (congrArg some rfl)) (by omega) (by omega) (by omega)) ?_))
     have r334:=kV o_path_c3 (show Int.toNat ((path_c3.length:Int)-1)<=List.length _ by omega)
     refine ma ((bM path_c3_v 1 (Int.toNat 0) (Int.toNat ((path_c3.length:Int)-1)))) (ab (aO rfl ?_))
     refine back2_c3 ((bM path_c3_v 1 (Int.toNat 0) (Int.toNat ((path_c3.length:Int)-1))),(List.take (Int.toNat ((path_c3.length:Int)-1)) path_c3),(bM ed_c3_v 1 (Int.toNat 0) (Int.toNat at_c7)),(List.take (Int.toNat at_c7) ed_c3),co_c3+1,fo_c3,(List.set lo_c3 (Int.toNat w_c6) (min (gI lo_c3 w_c6) (gI lo_c3 u_c3))),bk_c7,nx_c3,la_c3,pl_c3,by_c3,g316) _ _ ⟨bH.ca C332,zs0_c3,rfl,Rg.ca C332,bx5.ca C332,bx10.ca C332,bx15.ca C332,o33.ca C332,o36.ca C332,o37.ca C332,o38.ca C332,o39.ca C332,bx59.ce ch330,bx331,bx269.ca C332,bx299.ca C332,r334,(r325.ce ch327).ce ch330,?_⟩ ?_
     · show gr g (gc g (bs pl_c1 lo_c1 by_c1 nx_c1 fo_c1 ed_c1 la_c1 bl_c1 co_c1) (v_c1:Int)) (bs pl_c3 (List.set lo_c3 (Int.toNat w_c6) (min (gI lo_c3 w_c6) (gI lo_c3 u_c3))) by_c3 nx_c3 fo_c3 (List.take (Int.toNat at_c7) ed_c3) la_c3 bk_c7 (co_c3+1)) (List.take (Int.toNat ((path_c3.length:Int)-1)) path_c3)
       (rw[gn];exact And.left (hfr.off3 hm hpz hn_u_c3.symm hny (by omega) hfw rfl ‹_› (by rw[hnb];exact(kg ‹_› ‹_› ‹_› ‹_› ‹_›))))
     · show cj g (bs pl_c3 (List.set lo_c3 (Int.toNat w_c6) (min (gI lo_c3 w_c6) (gI lo_c3 u_c3))) by_c3 nx_c3 fo_c3 (List.take (Int.toNat at_c7) ed_c3) la_c3 bk_c7 (co_c3+1)) (List.take (Int.toNat ((path_c3.length:Int)-1)) path_c3)<cj g (bs pl_c3 lo_c3 by_c3 nx_c3 fo_c3 ed_c3 la_c3 bl_c3 co_c3) path_c3
       (rw[gn];exact And.right (hfr.off3 hm hpz hn_u_c3.symm hny (by omega) hfw rfl ‹_› (by rw[hnb];exact(kg ‹_› ‹_› ‹_› ‹_› ‹_›))))
    refine af rfl (congrArg Bool.not (df p1_c7)) (ao (am (a6 rfl (mz zs3_c7 (lx (ej (m:=at_c7) (n:=1) rfl rfl (by omega)) (ai (at_c7-1) (ab (ak ?_))))))))
    refine back1_c7 (at_c7-1,g310) _ _ ⟨bH,zs0_c7,zs1_c7,rfl,Rg,bx5,bx10,bx15,o33,o36,o37,o38,o39,bx59,bx264,bx269,o_path_c3,o_ed_c3,bx299,?_⟩ ?_
    · show sc ed_c3 (b_c5/2) (at_c7-1)
      exact(hat_c7.next ‹_›).1
    · show Int.toNat (at_c7-1)<Int.toNat at_c7
      (have:=(hat_c7.next ‹_›).2;omega)
   refine ag rfl (df p4_c5) (ao (dS (vs:=[]) Tryz.func123 .nil ?_))
   refine⟨vt [],rfl,?_⟩
   refine ab (a7 (a6 rfl (mz zs4_c3 (mz zs4_c3 ?_))))
   have C335:=cg [8] (ch285.n.seq (hc292.n.seq (ch295.n.seq ((ch298.l rfl).seq (ch300.n.seq hc304.n)))))
   replace o_path_c3:=o_path_c3.ca C335
   refine lx (bp bF rfl o_path_c3.flat) (lx (ej (m:=(path_c3.length:Int)) (n:=1) rfl rfl (by omega)) (lw ((bM path_c3_v 1 (Int.toNat 0) (Int.toNat ((path_c3.length:Int)-1)))) (gE (v:=path_c3_v) (l:=0) (h:=(path_c3.length:Int)-1) bF rfl rfl o_path_c3.flat (.inr ⟨rfl,rfl⟩) (.inl (congrArg some rfl)) (by omega) (by omega) (by omega)) ?_))
   have r337:=kV o_path_c3 (show Int.toNat ((path_c3.length:Int)-1)<=List.length _ by omega)
   refine ma ((bM path_c3_v 1 (Int.toNat 0) (Int.toNat ((path_c3.length:Int)-1)))) (ab (aO rfl ?_))
   have C338:=cg [8] (ch295.n.seq ((ch298.l rfl).seq (ch300.n.seq hc304.n)))
   refine back2_c3 ((bM path_c3_v 1 (Int.toNat 0) (Int.toNat ((path_c3.length:Int)-1))),(List.take (Int.toNat ((path_c3.length:Int)-1)) path_c3),ed_c3_v,ed_c3,co_c3,fo_c3,(List.set lo_c3 (Int.toNat w_c6) (min (gI lo_c3 w_c6) (gI lo_c3 u_c3))),bl_c3,nx_c3,la_c3,pl_c3,by_c3,g283) _ _ ⟨bH.ca C335,zs0_c3,rfl,Rg.ca C338,bx5.ca C335,bx10.ca C335,bx15.ca C335,o33.ca C338,o36.ca C338,o37.ca C338,o38.ca C338,o39.ca C338,bx59.ca C335,bx264.cn hc304,bx269.cn hc304,bx299.cn hc304,r337,o_ed_c3.ca C338,?_⟩ ?_
   · show gr g (gc g (bs pl_c1 lo_c1 by_c1 nx_c1 fo_c1 ed_c1 la_c1 bl_c1 co_c1) (v_c1:Int)) (bs pl_c3 (List.set lo_c3 (Int.toNat w_c6) (min (gI lo_c3 w_c6) (gI lo_c3 u_c3))) by_c3 nx_c3 fo_c3 ed_c3 la_c3 bl_c3 co_c3) (List.take (Int.toNat ((path_c3.length:Int)-1)) path_c3)
     (rw[gn];exact And.left (hfr.off1 hm hpz hn_u_c3.symm hny (by omega) (by omega) rfl ‹_›))
   · show cj g (bs pl_c3 (List.set lo_c3 (Int.toNat w_c6) (min (gI lo_c3 w_c6) (gI lo_c3 u_c3))) by_c3 nx_c3 fo_c3 ed_c3 la_c3 bl_c3 co_c3) (List.take (Int.toNat ((path_c3.length:Int)-1)) path_c3)<cj g (bs pl_c3 lo_c3 by_c3 nx_c3 fo_c3 ed_c3 la_c3 bl_c3 co_c3) path_c3
     (rw[gn];exact And.right (hfr.off1 hm hpz hn_u_c3.symm hny (by omega) (by omega) rfl ‹_›))
  refine ag rfl (df p4_c3) (ao (a7 ?_))
  clear cel288 r289
  refine cG g283 rfl dV (by kernel_rfl) ?_
  intro w340 ch339
  refine qz zs0_c3 (qv (vp b53 0) (λw' hw'=>ae rfl) (qx (λw' hw'=>aa cL rfl rfl rfl rfl) ?_))
  replace bx264:=(bx264.cn hc292).cn ch339
  refine qx (λw' hw'=>a8 hL rfl (bx264.bel hw') rfl) (qm (vi u_c3) ?_)
  replace o33:=(o33.cn hc292).cn ch339
  refine qx (λw' hw'=>ad (v:=v43) (i:=u_c3) gf rfl rfl (o33.sl.bel hw') rfl (by omega) (by omega)) ?_
  obtain⟨v341,cel342,r343⟩:=dv (r:=u_c3) o33 (by omega) (by omega)
  refine qx (λw' hw'=>cH b5 rfl (jX cel342 hw')) (qz zs0_c3 (qv (vp b53 0) (λw' hw'=>ae rfl) (qx (λw' hw'=>aa cL rfl rfl rfl rfl) (qx (λw' hw'=>a8 b5 rfl (bx264.bel hw') rfl) (qm (vi u_c3) ?_)))))
  replace o37:=(o37.cn hc292).cn ch339
  refine qx (λw' hw'=>ad (v:=v47) (i:=u_c3) bF rfl rfl (o37.flat.bel hw') rfl (by omega) (by omega)) (qx (λw' hw'=>av (v:=v47) (i:=u_c3) ah rfl (o37.flat.bel hw') (by omega) (by omega) (by decide) rfl) (qx (λw' hw'=>ad (v:=v341) (i:=(gI nx_c3 u_c3)) bF rfl rfl (r343.row_sl.bel hw') rfl (by omega) (by omega)) (qx (λw' hw'=>av (v:=v341) (i:=(gI nx_c3 u_c3)) ah rfl (r343.row_sl.bel hw') (by omega) (by omega) (by decide) rfl) ?_)))
  obtain⟨h_c3,hn_h_c3⟩:∃q_:Int,(gI (gI O_c2 u_c3) (gI nx_c3 u_c3))=q_:=⟨_,rfl⟩
  refine qv (vi h_c3) (λw' hw'=>bm (congrArg (Value.int .i64) hn_h_c3)) (ep ?_)
  intro w344 hc345
  replace hc345:=aN hc345 g283
  refine a7 ?_
  clear cel342 r343
  have hnn:¬gI nx_c3 u_c3=((gI (bX g) u_c3).length:Int):=by rw[<-hO];assumption
  have heh:gI (gI (bX g) u_c3) (gI nx_c3 u_c3)=h_c3:=by rw[<-hO];assumption
  obtain⟨⟨hh0,hh1⟩,hw0⟩:=yK hm hfi hO hu0 hu1 ‹_›
  rw[hn_h_c3] at hh0 hh1 hw0
  unfold fZ at hw0
  obtain⟨hw0,hw1⟩:=hw0
  refine a6 rfl (mz zs0_c3 (lw (vp b53 0) (ae rfl) (lx (aa cL rfl rfl rfl rfl) ?_)))
  replace bx264:=bx264.cn hc345
  refine lx (a8 b5 rfl bx264 rfl) (mi u_c3 ?_)
  replace o37:=o37.cn hc345
  refine lx (ad (v:=v47) (i:=u_c3) bF rfl rfl o37.flat rfl (by omega) (by omega)) (lx (av (v:=v47) (i:=u_c3) ah rfl o37.flat (by omega) (by omega) (by decide) rfl) (lx (aS (m:=(gI nx_c3 u_c3)) (n:=1) rfl rfl (by omega)) (lx (ad (v:=v47) (i:=u_c3) bF rfl rfl o37.flat rfl (by omega) (by omega)) (lo (aZ (i:=u_c3) ((gI nx_c3 u_c3)+1) ah rfl rfl o37 (by omega) (by omega) rfl ?_)))))
  intro w346 ch347 bx348
  clear o37
  refine ab (a7 (a6 rfl (mz zs0_c3 (mi u_c3 (mi h_c3 (lo (br (aH (vals:=[vp b53 0,vi u_c3,vi h_c3]) Tryz.func124 tg tT rfl) (ap Tryz.func124 rfl nq ?_))))))))
  have C349:=cg [10] (ch285.n.seq (hc292.n.seq (ch339.n.seq (hc345.n.seq (ch347.l rfl)))))
  replace Rg:=Rg.ca C349
  replace o33:=(o33.cn hc345).ce ch347
  replace bx269:=bx269.ca C349
  replace bx273:=bx273.ca C349
  replace o36:=o36.ca C349
  replace o_ed_c3:=o_ed_c3.ca C349
  replace o38:=o38.ca C349
  replace o39:=o39.ca C349
  refine a7 (a6 rfl (ai 0 (ma (vb false) (ab (a7 (a6 rfl (mi h_c3 (lx (mK (m:=h_c3) (n:=2) rfl rfl (by omega) (by omega) (by omega)) (mv (vp b53 0) ?_)))))))))
  refine mi h_c3 (lo (br (aH (vals:=[vp b53 0,vi h_c3]) Tryz.func147 nM nD rfl) (ap Tryz.func147 rfl nq (a7 (a6 rfl (ai 0 (ab (a7 (a6 rfl ?_)))))))))
  refine mv (vp b53 0) (lw (vp b53 0) (ae rfl) (lx (aa cL rfl rfl rfl rfl) (lx (aa ea rfl rfl rfl rfl) ?_)))
  replace bx264:=bx264.ce ch347
  refine lx (a8 bR rfl bx264 rfl) (mi h_c3 (lx (mK (m:=h_c3) (n:=2) rfl rfl (by omega) (by omega) (by omega)) (mi h_c3 (lx (pQ (m:=h_c3) (n:=2) rfl rfl (by omega) (by omega)) (lx (ej (m:=1) (n:=h_c3%2) rfl rfl (by omega)) (lx (ad (v:=g_v) (i:=h_c3/2) eR rfl rfl Rg rfl (by omega) (by omega)) (lx (cA (i:=1-(h_c3%2)) eO rfl rfl rfl (by omega) (by omega) (Nat.mul_one _)) (lx (cK (v:=g_v) (i:=h_c3/2) ah rfl Rg (by omega) (by omega) (show Int.toNat (1-(h_c3%2))<2 by omega) (iN _ (by omega) (by omega))) ?_))))))))
  obtain⟨w_c9,hn_w_c9⟩:∃q_:Int,pI (gI g.2 (h_c3/2)) (1-(h_c3%2))=q_:=⟨_,rfl⟩
  refine lw (vi w_c9) (bm (congrArg (Value.int .i64) hn_w_c9)) (ab (au (vs:=[vi w_c9]) Tryz.func147 (.tmp rfl .nil) ?_))
  refine⟨vi w_c9,rfl,?_⟩
  refine ai (h_c3/2) (ai w_c9 (ab (a7 (a7 (a6 rfl (mv (vp b53 0) (lw (vp b53 0) (ae rfl) (lx (aa cL rfl rfl rfl rfl) (lx (a8 pW rfl bx264 rfl) ?_)))))))))
  refine mi (h_c3/2) (lx (ad (v:=v48) (i:=h_c3/2) jG rfl rfl o38.flat rfl (by omega) (by omega)) (lx (av (v:=v48) (i:=h_c3/2) dL rfl o38.flat (by omega) (by omega) (by decide) rfl) (ab ?_)))
  by_cases p2_c8:(gI la_c3 (h_c3/2))=true
  ·
   refine af rfl p2_c8 (a7 (a6 rfl (ai 0 (ma (vb false) (ab (au (vs:=[vi 0,vb false]) Tryz.func124 (.tmp rfl (.tmp rfl .nil)) ?_))))))
   refine⟨vt [vi 0,vb false],rfl,?_⟩
   refine mv (vt [vi 0,vb false]) (lx (aJ rfl rfl) (lx (aJ rfl rfl) (ai 0 (ma (vb false) (ab (a7 (a6 rfl (mv (vb false) (ab ?_)))))))))
   refine ag rfl rfl (ao (ak ?_))
   refine back2_c3 (path_c3_v,path_c3,ed_c3_v,ed_c3,co_c3,fo_c3,lo_c3,bl_c3,(List.set nx_c3 (Int.toNat u_c3) ((gI nx_c3 u_c3)+1)),la_c3,pl_c3,by_c3,g283) _ _ ⟨bH.ca C349,zs0_c3,zs4_c3,Rg,bx5.ca C349,bx10.ca C349,bx15.ca C349,o33,o36,bx348,o38,o39,bx59.ca C349,bx264,bx269,bx273,o_path_c3.ca C349,o_ed_c3,?_⟩ ?_
   · show gr g (gc g (bs pl_c1 lo_c1 by_c1 nx_c1 fo_c1 ed_c1 la_c1 bl_c1 co_c1) (v_c1:Int)) (bs pl_c3 lo_c3 by_c3 (List.set nx_c3 (Int.toNat u_c3) ((gI nx_c3 u_c3)+1)) fo_c3 ed_c3 la_c3 bl_c3 co_c3) path_c3
     exact And.left (hfr.skip hm hpz hn_u_c3.symm hnn heh ‹_›)
   · show cj g (bs pl_c3 lo_c3 by_c3 (List.set nx_c3 (Int.toNat u_c3) ((gI nx_c3 u_c3)+1)) fo_c3 ed_c3 la_c3 bl_c3 co_c3) path_c3<cj g (bs pl_c3 lo_c3 by_c3 nx_c3 fo_c3 ed_c3 la_c3 bl_c3 co_c3) path_c3
     exact And.right (hfr.skip hm hpz hn_u_c3.symm hnn heh ‹_›)
  refine ag rfl (Bool.eq_false_iff.2 p2_c8) (ao (a7 (a6 rfl (mv (vp b53 0) (lw (vp b53 0) (ae rfl) (lx (aa cL rfl rfl rfl rfl) (lx (a8 pW rfl bx264 rfl) (mi (h_c3/2) (lx (ad (v:=v48) (i:=h_c3/2) jG rfl rfl o38.flat rfl (by omega) (by omega)) ?_)))))))))
  refine lo (aZ (i:=h_c3/2) true dL rfl rfl o38 (by omega) (by omega) rfl ?_)
  intro w350 ch351 bx352
  clear o38
  refine ab (a7 (a6 rfl (mv (vp b53 0) (mv (vp b53 0) (lw (vp b53 0) (ae rfl) (lx (aa cL rfl rfl rfl rfl) ?_))))))
  replace bx264:=bx264.ce ch351
  refine lx (a8 b5 rfl bx264 rfl) (mi (h_c3/2) (lo (ar (α:=Int) g283 (is 18) (is 18) (18,0) rfl [h_c3/2] bF ah (by decide) (by decide) (vs:=[(0,vi (h_c3/2))]) rfl rfl (.cons rfl .nil) ?_)))
  intro g353 w354 v355 ch356 o357
  refine lo ?_
  replace o_ed_c3:=(o_ed_c3.ce ch351).cn ch356
  refine aK (α:=Int) (xs:=ed_c3) (ys:=([h_c3/2])) g353 (J:=is 19) (S:=is 19) (19,0) rfl bF ah (by decide) rfl rfl rfl o_ed_c3 o357.flat (by decide) (by(simp;omega)) ?_
  intro g358 w359 v360 ch361 o362
  clear o_ed_c3
  refine lw (vp b53 0) (ae rfl) (lx (aa cL rfl rfl rfl rfl) (lo ?_))
  replace bx264:=(bx264.cn ch356).ce ch361
  refine aC (cs':=[vi g.1,g_v,v43,v44,v45,v46,v47,vi fo_c3,v360,v48,v49,vi co_c3,Value.func (.func 121) #[] (List.toArray [vp b55 0])]) b5 rfl rfl bx264 (aP o362.flat) nq (aG o362.flat) rfl ?_
  intro w363 ch364 bx365
  clear bx264
  refine ab (a7 (am (a7 ?_)))
  clear o357
  refine a6 rfl (mi w_c9 (mi u_c3 (lx (dA (m:=w_c9) (n:=u_c3) rfl rfl) (ma (vb (decide (w_c9=u_c3))) (ab ?_)))))
  by_cases p7_c8:w_c9=u_c3
  ·
   refine af rfl (dt p7_c8) ?_
   have hlay:=hfi.lay (e:=h_c3/2) (by omega) (by omega) ‹_›
   have hxn:(ed_c3++[h_c3/2]).Nodup:=hlay.1.en
   have hxm:(h_c3/2)∈(ed_c3++[h_c3/2]):=by simp
   have hxe:∀x∈(ed_c3++[h_c3/2]),0<=x/\x<(g.2.length:Int):=λx hx=>(hlay.1.el x hx).1
   refine a6 rfl (mv (vp b53 0) (lw (vp b53 0) (ae rfl) (lx (aa cL rfl rfl rfl rfl) (lx (a8 kn rfl bx365 rfl) (mi (h_c3/2) (lo (br (ke (fid:=121) (vals:=[vi (h_c3/2)]) (caps:=[vp b55 0]) rfl Tryz.func121 nl nE rfl) (ap Tryz.func121 rfl nq ?_))))))))
   have C366:=cg [11,13,19] ((ch351.l rfl).seq (ch356.n.seq ((ch361.l rfl).seq (ch364.l rfl))))
   have C367:=cg [13,19] (ch356.n.seq ((ch361.l rfl).seq (ch364.l rfl)))
   replace Rg:=Rg.ca C366
   replace o33:=o33.ca C366
   replace bx269:=bx269.ca C366
   replace bx273:=bx273.ca C366
   replace o36:=o36.ca C366
   replace bx348:=bx348.ca C366
   replace o362:=o362.ce ch364
   replace bx352:=bx352.ca C367
   replace o39:=o39.ca C366
   refine a7 (a6 rfl ?_)
   have C368:=cg [10,11,13,19] (ch285.n.seq (hc292.n.seq (ch339.n.seq (hc345.n.seq ((ch347.l rfl).seq ((ch351.l rfl).seq (ch356.n.seq ((ch361.l rfl).seq (ch364.l rfl)))))))))
   replace bx59:=bx59.ca C368
   refine lx (a8 bU rfl bx59 rfl) (lw (vp b53 0) (ae rfl) (lx (aa cL rfl rfl rfl rfl) (lx (a8 b5 rfl bx365 rfl) ?_)))
   have len369:=(o362.flat).small
   refine lx (bp bF rfl o362.flat) (lx (ej (m:=(List.length (ed_c3++[h_c3/2]):Int)) (n:=1) rfl rfl (by omega)) (ai ((List.length (ed_c3++[h_c3/2]):Int)-1) (ab (a7 (am ?_)))))
   refine aV (σ:=Int×aw) (λ⟨at_c10,gq⟩ f w=>b6 w0 gq w/\f 0=vi (h_c3/2)/\f 1=vp b55 0/\f 3=vi at_c10/\Sl gq (is 0) w g_v g.2/\Bx gq (is 1) w b3 [vi g.1,g_v]/\Bx gq (is 2) w b8 [vn,vn,vi 0]/\Bx gq (is 3) w b13 [vn,vn,vi 0]/\dr gq 6 w v43 O_c2/\Ow gq (is 9) (is 9) w v46 by_c3/\Ow gq (is 12) (is 12) w v49 bl_c3/\Bx gq (is 14) w b55 [vp b53 0]/\Ow gq (is 7) (is 7) w v44 pl_c3/\Ow gq (is 8) (is 8) w v45 lo_c3/\Ow gq (is 17) (is 17) w path_c3_v path_c3/\Ow gq (is 10) (is 10) w v47 (List.set nx_c3 (Int.toNat u_c3) ((gI nx_c3 u_c3)+1))/\Ow gq (is 11) (is 11) w v48 (List.set la_c3 (Int.toNat (h_c3/2)) true)/\Ow gq (is 19) (is 19) w v360 (ed_c3++[h_c3/2])/\Bx gq (is 13) w b53 [vi g.1,g_v,v43,v44,v45,v46,v47,vi fo_c3,v360,v48,v49,vi co_c3,Value.func (.func 121) #[] (List.toArray [vp b55 0])]/\(sc (ed_c3++[h_c3/2]) (h_c3/2) at_c10)) (λ⟨at_c10,gq⟩=>Int.toNat at_c10) ((List.length (ed_c3++[h_c3/2]):Int)-1,g358) ?_ ?_
   · exact⟨bH.ca C368,rfl,rfl,rfl,Rg,bx5.ca C368,bx10.ca C368,bx15.ca C368,o33,o36,o39,bx59,bx269,bx273,o_path_c3.ca C368,bx348,bx352,o362,bx365,by exact sc.start hxn hxm⟩
   clear Rg bx5 bx10 bx15 o33 o36 o39 bx59 bx269 bx273 o_path_c3 bx348 bx352 o362 bx365 bH
   rintro⟨at_c10,g372⟩ f370 w371 ⟨bH,zs0_c10,zs1_c10,zs3_c10,Rg,bx5,bx10,bx15,o33,o36,o39,bx59,bx269,bx273,o_path_c3,bx348,bx352,o362,bx365,hat_c10⟩ back1_c10
   have hA1_c10:=hat_c10.lo
   have hA2_c10:=hat_c10.hi
   refine a7 (a7 (a6 rfl (lx (a8 bU zs1_c10 bx59 rfl) (lw (vp b53 0) (ae rfl) (lx (aa cL rfl rfl rfl rfl) (lx (a8 b5 rfl bx365 rfl) (mz zs3_c10 (lx (ad (v:=v360) (i:=at_c10) bF rfl rfl o362.flat rfl (by omega) (by omega)) (lx (av (v:=v360) (i:=at_c10) ah rfl o362.flat (by omega) (by omega) (by decide) rfl) ?_)))))))))
   refine mz zs0_c10 (lx (dq (m:=(gI (ed_c3++[h_c3/2]) at_c10)) (n:=h_c3/2) rfl rfl) (ab ?_))
   by_cases p1_c10:(gI (ed_c3++[h_c3/2]) at_c10)=(h_c3/2)
   ·
    refine ag rfl (congrArg Bool.not (dt p1_c10)) (aO rfl (a7 (a7 (a6 rfl (lx (a8 bU zs1_c10 bx59 rfl) (lw (vp b53 0) (ae rfl) (lx (aa cL rfl rfl rfl rfl) (lx (a8 b5 rfl bx365 rfl) (mz zs3_c10 ?_)))))))))
    refine lw ((bM v360 1 (Int.toNat at_c10) (Int.toNat ((ed_c3++[h_c3/2]).length)))) (gE (v:=v360) (l:=at_c10) (h:=(ed_c3++[h_c3/2]).length) bF rfl rfl o362.flat (.inl (congrArg some rfl)) (.inr ⟨rfl,rfl⟩) (by omega) (by omega) (by omega)) ?_
    have r374:=yk o362.flat (show Int.toNat at_c10<=Int.toNat ((ed_c3++[h_c3/2]).length) by omega) (show Int.toNat ((ed_c3++[h_c3/2]).length)<=List.length _ by omega)
    have len375:=(r374).small
    refine lx (bp bF rfl r374) (mi 0 (ab (am ?_)))
    refine aV (σ:=Nat×(List Int)×aw) (λ⟨k_c10,bk_c10,gq⟩ f w=>b6 w0 gq w/\f 1=vp b55 0/\f 3=vi at_c10/\f 28=(bM v360 1 (Int.toNat at_c10) (Int.toNat ((ed_c3++[h_c3/2]).length)))/\f 29=vi (List.length (List.drop (Int.toNat at_c10) (List.take (Int.toNat ((ed_c3++[h_c3/2]).length)) (ed_c3++[h_c3/2]))):Int)/\f 30=vi ↑k_c10/\Sl gq (is 0) w g_v g.2/\Bx gq (is 1) w b3 [vi g.1,g_v]/\Bx gq (is 2) w b8 [vn,vn,vi 0]/\Bx gq (is 3) w b13 [vn,vn,vi 0]/\dr gq 6 w v43 O_c2/\Ow gq (is 9) (is 9) w v46 by_c3/\Ow gq (is 12) (is 12) w v49 bk_c10/\Bx gq (is 14) w b55 [vp b53 0]/\Ow gq (is 7) (is 7) w v44 pl_c3/\Ow gq (is 8) (is 8) w v45 lo_c3/\Ow gq (is 17) (is 17) w path_c3_v path_c3/\Ow gq (is 10) (is 10) w v47 (List.set nx_c3 (Int.toNat u_c3) ((gI nx_c3 u_c3)+1))/\Ow gq (is 11) (is 11) w v48 (List.set la_c3 (Int.toNat (h_c3/2)) true)/\Ow gq (is 19) (is 19) w v360 (ed_c3++[h_c3/2])/\Bx gq (is 13) w b53 [vi g.1,g_v,v43,v44,v45,v46,v47,vi fo_c3,v360,v48,v49,vi co_c3,Value.func (.func 121) #[] (List.toArray [vp b55 0])]/\Sl gq (is 19) w (bM v360 1 (Int.toNat at_c10) (Int.toNat ((ed_c3++[h_c3/2]).length))) (List.drop (Int.toNat at_c10) (List.take (Int.toNat ((ed_c3++[h_c3/2]).length)) (ed_c3++[h_c3/2])))/\(k_c10:Int)<=((List.length (List.drop (Int.toNat at_c10) (List.take (Int.toNat ((ed_c3++[h_c3/2]).length)) (ed_c3++[h_c3/2]))):Int):Int)/\(bk_c10=u5 (List.drop (Int.toNat at_c10) (List.take (Int.toNat (((ed_c3++[h_c3/2])).length:Int)) (ed_c3++[h_c3/2]))) bl_c3 co_c3 k_c10)) (λ⟨k_c10,bk_c10,gq⟩=>Int.toNat (((List.length (List.drop (Int.toNat at_c10) (List.take (Int.toNat ((ed_c3++[h_c3/2]).length)) (ed_c3++[h_c3/2]))):Int):Int)-(k_c10:Int))) (0,bl_c3,g372) ?_ ?_
    · exact⟨bH,zs1_c10,zs3_c10,rfl,rfl,rfl,Rg,bx5,bx10,bx15,o33,o36,o39,bx59,bx269,bx273,o_path_c3,bx348,bx352,o362,bx365,r374,by omega,by exact A0⟩
    clear Rg bx5 bx10 bx15 o33 o36 o39 bx59 bx269 bx273 o_path_c3 bx348 bx352 o362 bx365 r374 bH
    rintro⟨k_c10,bk_c10,g378⟩ f376 w377 ⟨bH,zs1_c10,zs3_c10,zs28_c10,zs29_c10,zs30_c10,Rg,bx5,bx10,bx15,o33,o36,o39,bx59,bx269,bx273,o_path_c3,bx348,bx352,o362,bx365,r374,hle_k_c10,hbk_c10⟩ back4_c10
    have hbkl_c10:=rP hbk_c10
    refine a7 (a6 rfl (lx (bw (m:=↑k_c10) (n:=(List.length (List.drop (Int.toNat at_c10) (List.take (Int.toNat ((ed_c3++[h_c3/2]).length)) (ed_c3++[h_c3/2]))):Int)) zs30_c10 zs29_c10) (ab (a7 ?_))))
    by_cases p4_c10:(k_c10:Int)<(List.length (List.drop (Int.toNat at_c10) (List.take (Int.toNat ((ed_c3++[h_c3/2]).length)) (ed_c3++[h_c3/2]))):Int)
    ·
     refine af rfl (dt p4_c10) ?_
     have hei_c10:=hxe _ (List.mem_of_mem_take (List.mem_of_mem_drop (bC (xs:=(List.drop (Int.toNat at_c10) (List.take (Int.toNat (((ed_c3++[h_c3/2])).length:Int)) (ed_c3++[h_c3/2])))) (i:=↑k_c10) (by omega) (by omega))))
     refine ao (a7 (am (a7 (a6 rfl (lx (ad (v:=(bM v360 1 (Int.toNat at_c10) (Int.toNat ((ed_c3++[h_c3/2]).length)))) (i:=↑k_c10) bF rfl zs28_c10 r374 zs30_c10 (by omega) (by omega)) (lx (av (v:=(bM v360 1 (Int.toNat at_c10) (Int.toNat ((ed_c3++[h_c3/2]).length)))) (i:=↑k_c10) ah rfl r374 (by omega) (by omega) (by decide) rfl) (ai (gI (List.drop (Int.toNat at_c10) (List.take (Int.toNat ((ed_c3++[h_c3/2]).length)) (ed_c3++[h_c3/2]))) (k_c10:Int)) (ab (bq g378 [0,1,2,3,4,5,6,7,8,9] dV ?_)))))))))
     intro w380 ch379
     replace bx59:=bx59.cn ch379
     refine xv 0 [4,5,6,7,8] rfl (a8 bU zs1_c10 bx59 rfl) (xp (v:=vp b53 0) 1 rfl (λw=>ae rfl) (xp 2 rfl (λw=>aa cL rfl rfl rfl rfl) ?_))
     replace bx365:=bx365.cn ch379
     refine xv 3 [2,1,0,4,5,6,7,8] rfl (a8 b5 rfl bx365 rfl) (xp (v:=vi (gI (List.drop (Int.toNat at_c10) (List.take (Int.toNat ((ed_c3++[h_c3/2]).length)) (ed_c3++[h_c3/2]))) (k_c10:Int))) 4 rfl (λw=>aq rfl) (xv 5 [4,3,2,1,0] rfl (a8 bU zs1_c10 bx59 rfl) (xp (v:=vp b53 0) 6 rfl (λw=>ae rfl) (xp 7 rfl (λw=>aa cL rfl rfl rfl rfl) (xv 8 [7,6,5,4,3,2,1,0] rfl (a8 ah rfl bx365 rfl) ?_)))))
     replace o39:=o39.cn ch379
     refine xv 9 [8,7,6,5,4,3,2,1,0] rfl (ad (v:=v49) (i:=(gI (List.drop (Int.toNat at_c10) (List.take (Int.toNat ((ed_c3++[h_c3/2]).length)) (ed_c3++[h_c3/2]))) (k_c10:Int))) bF rfl rfl o39.flat rfl (by omega) (by omega)) (b9 10 rfl (by kernel_rfl) rfl (aZ (i:=(gI (List.drop (Int.toNat at_c10) (List.take (Int.toNat ((ed_c3++[h_c3/2]).length)) (ed_c3++[h_c3/2]))) (k_c10:Int))) co_c3 ah rfl rfl o39 (by omega) (by omega) rfl ?_))
     intro w381 ch382 bx383
     clear o39
     refine bS (by kernel_rfl) (ak (a6 rfl (lx (aS (m:=↑k_c10) (n:=1) zs30_c10 rfl (by omega)) (mi ((k_c10:Int)+1) (ab ?_)))))
     replace bH:=bH.cn ch379
     refine back4_c10 (k_c10+1,(List.set bk_c10 (Int.toNat (gI (List.drop (Int.toNat at_c10) (List.take (Int.toNat ((ed_c3++[h_c3/2]).length)) (ed_c3++[h_c3/2]))) (k_c10:Int))) co_c3),g378) _ _ ⟨bH.ce ch382,zs1_c10,zs3_c10,zs28_c10,zs29_c10,rfl,(Rg.cn ch379).ce ch382,(bx5.cn ch379).ce ch382,(bx10.cn ch379).ce ch382,(bx15.cn ch379).ce ch382,(o33.cn ch379).ce ch382,(o36.cn ch379).ce ch382,bx383,bx59.ce ch382,(bx269.cn ch379).ce ch382,(bx273.cn ch379).ce ch382,(o_path_c3.cn ch379).ce ch382,(bx348.cn ch379).ce ch382,(bx352.cn ch379).ce ch382,(o362.cn ch379).ce ch382,bx365.ce ch382,(r374.cn ch379).ce ch382,by omega,?_⟩ ?_
     · show(List.set bk_c10 (Int.toNat (gI (List.drop (Int.toNat at_c10) (List.take (Int.toNat ((ed_c3++[h_c3/2]).length)) (ed_c3++[h_c3/2]))) (k_c10:Int))) co_c3)=u5 (List.drop (Int.toNat at_c10) (List.take (Int.toNat (((ed_c3++[h_c3/2])).length:Int)) (ed_c3++[h_c3/2]))) bl_c3 co_c3 (k_c10+1)
       exact pf hbk_c10 ‹_›
     · show Int.toNat (_-_)<Int.toNat (_-_)
       omega
    refine ag rfl (df p4_c10) (aO rfl (a7 ?_))
    clear r374
    refine bq g378 [0,1,2,3,4,5,6,7,8] dV ?_
    intro w385 ch384
    replace bx59:=bx59.cn ch384
    refine xv 0 [1,5,2,3,4,6] rfl (a8 bU zs1_c10 bx59 rfl) (xv 1 [0,5] rfl (a8 bU zs1_c10 bx59 rfl) (xp (v:=vp b53 0) 2 rfl (λw=>ae rfl) (xp 3 rfl (λw=>aa cL rfl rfl rfl rfl) ?_)))
    replace bx365:=bx365.cn ch384
    refine xv 4 [3,2,1,0,5] rfl (a8 b5 rfl bx365 rfl) (xp (v:=vi at_c10) 5 rfl (λw=>aq zs3_c10) ?_)
    replace o362:=o362.cn ch384
    refine xp (v:=(bM v360 1 (Int.toNat 0) (Int.toNat at_c10))) 6 rfl (λw=>gE (v:=v360) (l:=0) (h:=at_c10) bF rfl rfl o362.flat (.inr ⟨rfl,rfl⟩) (.inl (congrArg some rfl)) (by omega) (by omega) (by omega)) ?_
    have r387:=kV o362 (show Int.toNat at_c10<=List.length _ by omega)
    refine xp (v:=vp b53 0) 7 rfl (λw=>ae rfl) (xp 8 rfl (λw=>aa cL rfl rfl rfl rfl) (b9 9 rfl (by kernel_rfl) rfl (aC (cs':=[vi g.1,g_v,v43,v44,v45,v46,v47,vi fo_c3,(bM v360 1 (Int.toNat 0) (Int.toNat at_c10)),v48,v49,vi co_c3,Value.func (.func 121) #[] (List.toArray [vp b55 0])]) b5 rfl rfl bx365 (aP r387.flat) nq (aG r387.flat) rfl ?_)))
    intro w388 ch389 bx390
    clear bx365
    refine bS (by kernel_rfl) (a6 rfl ?_)
    replace bx59:=bx59.ce ch389
    refine lx (a8 bU zs1_c10 bx59 rfl) (lw (vp b53 0) (ae rfl) (lx (aa cL rfl rfl rfl rfl) (lx (a8 ah rfl bx390 rfl) (lx (aS (m:=co_c3) (n:=1) rfl rfl (by omega)) (lw (vp b53 0) (ae rfl) (lx (aa cL rfl rfl rfl rfl) (lo (ax (cs':=[vi g.1,g_v,v43,v44,v45,v46,v47,vi fo_c3,(bM v360 1 (Int.toNat 0) (Int.toNat at_c10)),v48,v49,vi (co_c3+1),Value.func (.func 121) #[] (List.toArray [vp b55 0])]) ah rfl rfl bx390 rfl nq (AllOne.all (.cons rfl .nil)) rfl ?_))))))))
    intro w391 ch392 bx393
    clear bx390
    refine ab (dS (vs:=[]) Tryz.func121 .nil ?_)
    refine⟨vt [],rfl,?_⟩
    refine ab (ak (a7 ?_))
    clear o362
    refine a6 rfl (ai 0 (ma (vb false) (ab (au (vs:=[vi 0,vb false]) Tryz.func124 (.tmp rfl (.tmp rfl .nil)) ?_))))
    refine⟨vt [vi 0,vb false],rfl,?_⟩
    refine mv (vt [vi 0,vb false]) (lx (aJ rfl rfl) (lx (aJ rfl rfl) (ai 0 (ma (vb false) (ab (a7 (a6 rfl (mv (vb false) (ab ?_)))))))))
    refine ag rfl rfl (ao (ak ?_))
    have C394:=cg [13] (ch384.n.seq ((ch389.l rfl).seq (ch392.l rfl)))
    refine back2_c3 (path_c3_v,path_c3,(bM v360 1 (Int.toNat 0) (Int.toNat at_c10)),(List.take (Int.toNat at_c10) (ed_c3++[h_c3/2])),co_c3+1,fo_c3,lo_c3,bk_c10,(List.set nx_c3 (Int.toNat u_c3) ((gI nx_c3 u_c3)+1)),(List.set la_c3 (Int.toNat (h_c3/2)) true),pl_c3,by_c3,g378) _ _ ⟨bH.ca C394,zs0_c3,zs4_c3,Rg.ca C394,bx5.ca C394,bx10.ca C394,bx15.ca C394,o33.ca C394,o36.ca C394,bx348.ca C394,bx352.ca C394,o39.ca C394,bx59.ce ch392,bx393,bx269.ca C394,bx273.ca C394,o_path_c3.ca C394,(r387.ce ch389).ce ch392,?_⟩ ?_
    · show gr g (gc g (bs pl_c1 lo_c1 by_c1 nx_c1 fo_c1 ed_c1 la_c1 bl_c1 co_c1) (v_c1:Int)) (bs pl_c3 lo_c3 by_c3 (List.set nx_c3 (Int.toNat u_c3) ((gI nx_c3 u_c3)+1)) fo_c3 (List.take (Int.toNat at_c10) (ed_c3++[h_c3/2])) (List.set la_c3 (Int.toNat (h_c3/2)) true) bk_c10 (co_c3+1)) path_c3
      exact And.left (hfr.loop1 hm hpz hn_u_c3.symm hnn heh ‹_› (by unfold fZ;omega) (kg ‹_› ‹_› ‹_› ‹_› ‹_›))
    · show cj g (bs pl_c3 lo_c3 by_c3 (List.set nx_c3 (Int.toNat u_c3) ((gI nx_c3 u_c3)+1)) fo_c3 (List.take (Int.toNat at_c10) (ed_c3++[h_c3/2])) (List.set la_c3 (Int.toNat (h_c3/2)) true) bk_c10 (co_c3+1)) path_c3<cj g (bs pl_c3 lo_c3 by_c3 nx_c3 fo_c3 ed_c3 la_c3 bl_c3 co_c3) path_c3
      exact And.right (hfr.loop1 hm hpz hn_u_c3.symm hnn heh ‹_› (by unfold fZ;omega) (kg ‹_› ‹_› ‹_› ‹_› ‹_›))
   refine af rfl (congrArg Bool.not (df p1_c10)) (ao (am (a6 rfl (mz zs3_c10 (lx (ej (m:=at_c10) (n:=1) rfl rfl (by omega)) (ai (at_c10-1) (ab (ak ?_))))))))
   refine back1_c10 (at_c10-1,g372) _ _ ⟨bH,zs0_c10,zs1_c10,rfl,Rg,bx5,bx10,bx15,o33,o36,o39,bx59,bx269,bx273,o_path_c3,bx348,bx352,o362,bx365,?_⟩ ?_
   · show sc (ed_c3++[h_c3/2]) (h_c3/2) (at_c10-1)
     exact(hat_c10.next ‹_›).1
   · show Int.toNat (at_c10-1)<Int.toNat at_c10
     (have:=(hat_c10.next ‹_›).2;omega)
  refine ag rfl (df p7_c8) (a7 (a6 rfl (mv (vp b53 0) (lw (vp b53 0) (ae rfl) (lx (aa cL rfl rfl rfl rfl) (lx (a8 b5 rfl bx365 rfl) (mi w_c9 ?_)))))))
  have C395:=cg [11,13,19] ((ch351.l rfl).seq (ch356.n.seq ((ch361.l rfl).seq (ch364.l rfl))))
  replace bx269:=bx269.ca C395
  refine lx (ad (v:=v44) (i:=w_c9) bF rfl rfl bx269.flat rfl (by omega) (by omega)) (lx (av (v:=v44) (i:=w_c9) ah rfl bx269.flat (by omega) (by omega) (by decide) rfl) (lx (dA (m:=(gI pl_c3 w_c9)) (n:=0) rfl rfl) (ma (vb (decide ((gI pl_c3 w_c9)=0))) (ab ?_))))
  by_cases p9_c8:(gI pl_c3 w_c9)=0
  ·
   refine af rfl (dt p9_c8) (a7 (a6 rfl (mv (vp b53 0) (lw (vp b53 0) (ae rfl) (lx (aa cL rfl rfl rfl rfl) (lx (a8 b5 rfl bx365 rfl) (mi w_c9 (mi h_c3 ?_))))))))
   replace o36:=o36.ca C395
   refine lx (ad (v:=v46) (i:=w_c9) bF rfl rfl o36.flat rfl (by omega) (by omega)) (lo (aZ (i:=w_c9) h_c3 ah rfl rfl o36 (by omega) (by omega) rfl ?_))
   intro w396 ch397 bx398
   clear o36
   refine ab (a7 (a6 rfl (mv (vp b53 0) (mi w_c9 (lo (br (aH (vals:=[vp b53 0,vi w_c9]) Tryz.func122 na nT rfl) (ap Tryz.func122 rfl nq ?_)))))))
   have C399:=cg [9,11,13,19] ((ch351.l rfl).seq (ch356.n.seq ((ch361.l rfl).seq ((ch364.l rfl).seq (ch397.l rfl)))))
   have C400:=cg [9,13,19] (ch356.n.seq ((ch361.l rfl).seq ((ch364.l rfl).seq (ch397.l rfl))))
   replace Rg:=Rg.ca C399
   replace o33:=o33.ca C399
   replace bx269:=bx269.ce ch397
   replace bx273:=bx273.ca C399
   replace bx348:=bx348.ca C399
   replace o362:=(o362.ce ch364).ce ch397
   replace bx352:=bx352.ca C400
   replace o39:=o39.ca C399
   refine a7 (a6 rfl (mv (vp b53 0) (lw (vp b53 0) (ae rfl) (lx (aa cL rfl rfl rfl rfl) ?_))))
   replace bx365:=bx365.ce ch397
   refine lx (a8 ah rfl bx365 rfl) (lx (aS (m:=fo_c3) (n:=1) rfl rfl (by omega)) (lw (vp b53 0) (ae rfl) (lx (aa cL rfl rfl rfl rfl) (lo (ax (cs':=[vi g.1,g_v,v43,v44,v45,v46,v47,vi (fo_c3+1),v360,v48,v49,vi co_c3,Value.func (.func 121) #[] (List.toArray [vp b55 0])]) ah rfl rfl bx365 rfl nq (AllOne.all (.cons rfl .nil)) rfl ?_)))))
   intro w401 ch402 bx403
   clear bx365
   refine ab (bq g358 [0,1,2,3,4,5,6,7,8,9,10,11,12,13,14,15,16,17,18,20] dV ?_)
   intro w405 ch404
   refine xp (v:=vp b53 0) 0 rfl (λw=>aq rfl) (xp (v:=vp b53 0) 1 rfl (λw=>ae rfl) (xp 2 rfl (λw=>aa cL rfl rfl rfl rfl) ?_))
   replace bx403:=bx403.cn ch404
   refine xv 3 [2,1,0,4,5,9,10,14,6,11,15,7,12,16,8,13,17] rfl (a8 b5 rfl bx403 rfl) (xp (v:=vi w_c9) 4 rfl (λw=>aq rfl) (xp (v:=vp b53 0) 5 rfl (λw=>aq rfl) (xp (v:=vp b53 0) 6 rfl (λw=>ae rfl) (xp 7 rfl (λw=>aa cL rfl rfl rfl rfl) (xv 8 [7,6,5,4,3,2,1,0,9,10,14,11,15,12,16,13,17] rfl (a8 b5 rfl bx403 rfl) (xp (v:=vi w_c9) 9 rfl (λw=>aq rfl) (xp (v:=vp b53 0) 10 rfl (λw=>aq rfl) (xp (v:=vp b53 0) 11 rfl (λw=>ae rfl) (xp 12 rfl (λw=>aa cL rfl rfl rfl rfl) ?_)))))))))
   refine xv 13 [12,11,10,9,8,7,6,5,4,3,2,1,0,14,15,16,17] rfl (a8 ah rfl bx403 rfl) (xp (v:=vp b53 0) 14 rfl (λw=>aq rfl) (xp (v:=vp b53 0) 15 rfl (λw=>ae rfl) (xp 16 rfl (λw=>aa cL rfl rfl rfl rfl) (xv 17 [16,15,14,13,12,11,10,9,8,7,6,5,4,3,2,1,0] rfl (a8 ah rfl bx403 rfl) ?_))))
   replace bx269:=(bx269.ce ch402).cn ch404
   refine xv 18 [17,16,15,14,13,12,11,10,9,8,7,6,5,4,3,2,1,0] rfl (ad (v:=v44) (i:=w_c9) bF rfl rfl bx269.flat rfl (by omega) (by omega)) (b9 19 rfl (by kernel_rfl) rfl (aZ (i:=w_c9) (fo_c3+1) ah rfl rfl bx269 (by omega) (by omega) rfl ?_))
   intro w406 ch407 bx408
   clear bx269
   have C409:=cg [7,13] ((ch402.l rfl).seq (ch404.n.seq (ch407.l rfl)))
   replace bx273:=bx273.ca C409
   refine xv 20 [19,18,17,16,15,14,13,12,11,10,9,8,7,6,5,4,3,2,1,0] rfl (ad (v:=v45) (i:=w_c9) bF rfl rfl bx273.flat rfl (by omega) (by omega)) (b9 21 rfl (by kernel_rfl) rfl (aZ (i:=w_c9) (fo_c3+1) ah rfl rfl bx273 (by omega) (by omega) rfl ?_))
   intro w410 ch411 bx412
   clear bx273
   refine bS (by kernel_rfl) (dS (vs:=[]) Tryz.func122 .nil ?_)
   refine⟨vt [],rfl,?_⟩
   refine ab (a7 (a6 rfl (mi w_c9 (ai w_c9 (ma (vb true) (ab (au (vs:=[vi w_c9,vb true]) Tryz.func124 (.tmp rfl (.tmp rfl .nil)) ?_)))))))
   refine⟨vt [vi w_c9,vb true],rfl,?_⟩
   refine mv (vt [vi w_c9,vb true]) (lx (aJ rfl rfl) (lx (aJ rfl rfl) (ai w_c9 (ma (vb true) (ab (a7 (a6 rfl (mv (vb true) (ab ?_)))))))))
   refine af rfl rfl (a6 rfl (mz zs4_c3 (mi w_c9 (lo (ar (α:=Int) g358 (is 20) (is 20) (20,0) rfl [w_c9] bF ah (by decide) (by decide) (vs:=[(0,vi w_c9)]) rfl rfl (.cons rfl .nil) ?_)))))
   intro g413 w414 v415 ch416 o417
   refine lo ?_
   have C418:=cg [7,8,9,10,11,13,19] (ch285.n.seq (hc292.n.seq (ch339.n.seq (hc345.n.seq ((ch347.l rfl).seq ((ch351.l rfl).seq (ch356.n.seq ((ch361.l rfl).seq ((ch364.l rfl).seq ((ch397.l rfl).seq ((ch402.l rfl).seq (ch404.n.seq ((ch407.l rfl).seq ((ch411.l rfl).seq ch416.n))))))))))))))
   replace o_path_c3:=o_path_c3.ca C418
   refine aK (α:=Int) (xs:=path_c3) (ys:=([w_c9])) g413 (J:=is 17) (S:=is 17) (17,0) rfl bF ah (by decide) rfl rfl rfl o_path_c3 o417.flat (by decide) (by(simp;omega)) ?_
   intro g419 w420 v421 ch422 o423
   clear o_path_c3
   refine ma v421 (ab (ak ?_))
   have C424:=cg [7,8,9,10,11,13,17,19] (ch285.n.seq (hc292.n.seq (ch339.n.seq (hc345.n.seq ((ch347.l rfl).seq ((ch351.l rfl).seq (ch356.n.seq ((ch361.l rfl).seq ((ch364.l rfl).seq ((ch397.l rfl).seq ((ch402.l rfl).seq (ch404.n.seq ((ch407.l rfl).seq ((ch411.l rfl).seq (ch416.n.seq (ch422.l rfl))))))))))))))))
   have C425:=cg [7,8,13,17] ((ch402.l rfl).seq (ch404.n.seq ((ch407.l rfl).seq ((ch411.l rfl).seq (ch416.n.seq (ch422.l rfl))))))
   have C426:=cg [7,8,17] ((ch407.l rfl).seq ((ch411.l rfl).seq (ch416.n.seq (ch422.l rfl))))
   have C427:=cg [8,17] ((ch411.l rfl).seq (ch416.n.seq (ch422.l rfl)))
   refine back2_c3 (v421,(path_c3++[w_c9]),v360,(ed_c3++[h_c3/2]),co_c3,fo_c3+1,(List.set lo_c3 (Int.toNat w_c9) (fo_c3+1)),bl_c3,(List.set nx_c3 (Int.toNat u_c3) ((gI nx_c3 u_c3)+1)),(List.set la_c3 (Int.toNat (h_c3/2)) true),(List.set pl_c3 (Int.toNat w_c9) (fo_c3+1)),(List.set by_c3 (Int.toNat w_c9) h_c3),g419) _ _ ⟨bH.ca C424,zs0_c3,rfl,Rg.ca C425,bx5.ca C424,bx10.ca C424,bx15.ca C424,o33.ca C425,bx398.ca C425,bx348.ca C425,bx352.ca C425,o39.ca C425,bx59.ca C424,bx403.ca C426,bx408.ca C427,(bx412.cn ch416).ce ch422,o423,o362.ca C425,?_⟩ ?_
   · show gr g (gc g (bs pl_c1 lo_c1 by_c1 nx_c1 fo_c1 ed_c1 la_c1 bl_c1 co_c1) (v_c1:Int)) (bs (List.set pl_c3 (Int.toNat w_c9) (fo_c3+1)) (List.set lo_c3 (Int.toNat w_c9) (fo_c3+1)) (List.set by_c3 (Int.toNat w_c9) h_c3) (List.set nx_c3 (Int.toNat u_c3) ((gI nx_c3 u_c3)+1)) (fo_c3+1) (ed_c3++[h_c3/2]) (List.set la_c3 (Int.toNat (h_c3/2)) true) bl_c3 co_c3) (path_c3++[w_c9])
     exact And.left (hfr.new hm hpz hn_u_c3.symm hnn heh ‹_› ‹_› ‹_› ‹_›)
   · show cj g (bs (List.set pl_c3 (Int.toNat w_c9) (fo_c3+1)) (List.set lo_c3 (Int.toNat w_c9) (fo_c3+1)) (List.set by_c3 (Int.toNat w_c9) h_c3) (List.set nx_c3 (Int.toNat u_c3) ((gI nx_c3 u_c3)+1)) (fo_c3+1) (ed_c3++[h_c3/2]) (List.set la_c3 (Int.toNat (h_c3/2)) true) bl_c3 co_c3) (path_c3++[w_c9])<cj g (bs pl_c3 lo_c3 by_c3 nx_c3 fo_c3 ed_c3 la_c3 bl_c3 co_c3) path_c3
     exact And.right (hfr.new hm hpz hn_u_c3.symm hnn heh ‹_› ‹_› ‹_› ‹_›)
  refine ag rfl (df p9_c8) (bq g358 [0,1,2,3,4,5,6,7,8,9,10,11,12,13,14,15,16,17,18,19,20] dV ?_)
  intro w429 ch428
  refine xp (v:=vp b53 0) 0 rfl (λw=>aq rfl) (xp (v:=vp b53 0) 1 rfl (λw=>ae rfl) (xp 2 rfl (λw=>aa cL rfl rfl rfl rfl) ?_))
  replace bx365:=bx365.cn ch428
  refine xv 3 [2,1,0,4,5,9,12,16,6,13,7,14,8,15,10,17,11,18,19] rfl (a8 b5 rfl bx365 rfl) (xp (v:=vi u_c3) 4 rfl (λw=>aq rfl) (xp (v:=vp b53 0) 5 rfl (λw=>aq rfl) (xp (v:=vp b53 0) 6 rfl (λw=>ae rfl) (xp 7 rfl (λw=>aa cL rfl rfl rfl rfl) (xv 8 [7,6,5,4,3,2,1,0,9,12,16,13,14,15,17,18] rfl (a8 b5 rfl bx365 rfl) (xp (v:=vi u_c3) 9 rfl (λw=>aq rfl) ?_))))))
  have C430:=cg [11,13,19] ((ch351.l rfl).seq (ch356.n.seq ((ch361.l rfl).seq ((ch364.l rfl).seq ch428.n))))
  replace bx273:=bx273.ca C430
  refine xv 10 [9,8,7,6,5,4,3,2,1,0,12,16,13,14,15,17,18] rfl (ad (v:=v45) (i:=u_c3) bF rfl rfl bx273.flat rfl (by omega) (by omega)) (xv 11 [10,9,8,7,6,5,4,3,2,1,0,12,16,13,14,15,17,18] rfl (av (v:=v45) (i:=u_c3) ah rfl bx273.flat (by omega) (by omega) (by decide) rfl) (xp (v:=vp b53 0) 12 rfl (λw=>aq rfl) (xp (v:=vp b53 0) 13 rfl (λw=>ae rfl) (xp 14 rfl (λw=>aa cL rfl rfl rfl rfl) (xv 15 [14,13,12,11,10,9,8,7,6,5,4,3,2,1,0,16] rfl (a8 b5 rfl bx365 rfl) (xp (v:=vi w_c9) 16 rfl (λw=>aq rfl) ?_))))))
  replace bx269:=bx269.cn ch428
  refine xv 17 [16,15,14,13,12,11,10,9,8,7,6,5,4,3,2,1,0] rfl (ad (v:=v44) (i:=w_c9) bF rfl rfl bx269.flat rfl (by omega) (by omega)) (xv 18 [17,16,15,14,13,12,11,10,9,8,7,6,5,4,3,2,1,0] rfl (av (v:=v44) (i:=w_c9) ah rfl bx269.flat (by omega) (by omega) (by decide) rfl) (xp (v:=vi (min (gI lo_c3 u_c3) (gI pl_c3 w_c9))) 19 rfl (λw=>jj rfl rfl) (xv 20 [19,18,17,16,15,14,13,12,11,10,9,8,7,6,5,4,3,2,1,0] rfl (ad (v:=v45) (i:=u_c3) bF rfl rfl bx273.flat rfl (by omega) (by omega)) (b9 21 rfl (by kernel_rfl) rfl (aZ (i:=u_c3) (min (gI lo_c3 u_c3) (gI pl_c3 w_c9)) ah rfl rfl bx273 (by omega) (by omega) rfl ?_)))))
  intro w431 ch432 bx433
  clear bx273
  refine bS (by kernel_rfl) (ak (a7 (a6 rfl (ai 0 (ma (vb false) (ab (au (vs:=[vi 0,vb false]) Tryz.func124 (.tmp rfl (.tmp rfl .nil)) ?_)))))))
  refine⟨vt [vi 0,vb false],rfl,?_⟩
  refine mv (vt [vi 0,vb false]) (lx (aJ rfl rfl) (lx (aJ rfl rfl) (ai 0 (ma (vb false) (ab (a7 (a6 rfl (mv (vb false) (ab ?_)))))))))
  refine ag rfl rfl (ao (ak ?_))
  have C434:=cg [8,10,11,13,19] (ch285.n.seq (hc292.n.seq (ch339.n.seq (hc345.n.seq ((ch347.l rfl).seq ((ch351.l rfl).seq (ch356.n.seq ((ch361.l rfl).seq ((ch364.l rfl).seq (ch428.n.seq (ch432.l rfl)))))))))))
  have C435:=cg [8,11,13,19] ((ch351.l rfl).seq (ch356.n.seq ((ch361.l rfl).seq ((ch364.l rfl).seq (ch428.n.seq (ch432.l rfl))))))
  have C436:=cg [8,13,19] (ch356.n.seq ((ch361.l rfl).seq ((ch364.l rfl).seq (ch428.n.seq (ch432.l rfl)))))
  have C437:=cg [8,13] ((ch364.l rfl).seq (ch428.n.seq (ch432.l rfl)))
  refine back2_c3 (path_c3_v,path_c3,v360,(ed_c3++[h_c3/2]),co_c3,fo_c3,(List.set lo_c3 (Int.toNat u_c3) (min (gI lo_c3 u_c3) (gI pl_c3 w_c9))),bl_c3,(List.set nx_c3 (Int.toNat u_c3) ((gI nx_c3 u_c3)+1)),(List.set la_c3 (Int.toNat (h_c3/2)) true),pl_c3,by_c3,g358) _ _ ⟨bH.ca C434,zs0_c3,zs4_c3,Rg.ca C435,bx5.ca C434,bx10.ca C434,bx15.ca C434,o33.ca C435,o36.ca C435,bx348.ca C435,bx352.ca C436,o39.ca C435,bx59.ca C434,bx365.ce ch432,bx269.ce ch432,bx433,o_path_c3.ca C434,o362.ca C437,?_⟩ ?_
  · show gr g (gc g (bs pl_c1 lo_c1 by_c1 nx_c1 fo_c1 ed_c1 la_c1 bl_c1 co_c1) (v_c1:Int)) (bs pl_c3 (List.set lo_c3 (Int.toNat u_c3) (min (gI lo_c3 u_c3) (gI pl_c3 w_c9))) by_c3 (List.set nx_c3 (Int.toNat u_c3) ((gI nx_c3 u_c3)+1)) fo_c3 (ed_c3++[h_c3/2]) (List.set la_c3 (Int.toNat (h_c3/2)) true) bl_c3 co_c3) path_c3
    exact And.left (hfr.back hm hpz hn_u_c3.symm hnn heh ‹_› ‹_› ‹_› ‹_›)
  · show cj g (bs pl_c3 (List.set lo_c3 (Int.toNat u_c3) (min (gI lo_c3 u_c3) (gI pl_c3 w_c9))) by_c3 (List.set nx_c3 (Int.toNat u_c3) ((gI nx_c3 u_c3)+1)) fo_c3 (ed_c3++[h_c3/2]) (List.set la_c3 (Int.toNat (h_c3/2)) true) bl_c3 co_c3) path_c3<cj g (bs pl_c3 lo_c3 by_c3 nx_c3 fo_c3 ed_c3 la_c3 bl_c3 co_c3) path_c3
    exact And.right (hfr.back hm hpz hn_u_c3.symm hnn heh ‹_› ‹_› ‹_› ‹_›)
 refine ag rfl (df p2_c3) (aO rfl (dS (vs:=[]) Tryz.func95 .nil ?_))
 refine⟨(fo_c3,ed_c3_v,ed_c3,co_c3,pl_c3,lo_c3,by_c3,nx_c3,la_c3,bl_c3,g283),rfl,bH,Rg,bx5,bx10,bx15,o33,bx269,bx273,o36,o37,o38,o39,bx59,bx264,o_ed_c3,?_⟩
 show(bs pl_c3 lo_c3 by_c3 nx_c3 fo_c3 ed_c3 la_c3 bl_c3 co_c3)=gc g (bs pl_c1 lo_c1 by_c1 nx_c1 fo_c1 ed_c1 la_c1 bl_c1 co_c1) (v_c1:Int)
 exact hfr.fin (by omega)
end TL
