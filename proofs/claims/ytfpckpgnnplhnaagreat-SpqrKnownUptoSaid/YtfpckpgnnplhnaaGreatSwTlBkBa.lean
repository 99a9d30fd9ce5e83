import Derived.Test.YtfpckpgnnplhnaaGreatSwTlGmA
import Derived.Test.YtfpckpgnnplhnaaGreatSwTlGenA
import Derived.Test.YtfpckpgnnplhnaaGreatSwTlBkA
import Derived.Test.YtfpckpgnnplhnaaGreatSwTlAli
set_option linter.all false
set_option maxRecDepth 20000
namespace TL
open Go Go.Proofs
theorem e8:Tryz.prog.follows .mixedOrders=true:=by kernel_rfl
theorem b9:Tp Tryz.prog 38 false 1 24 (.slice none 0 0):=Tp.of (by kernel_rfl)
theorem qJ:Tp Tryz.prog 70 false 1 24 (.slice none 0 0):=Tp.of (by kernel_rfl)
theorem it:Tp Tryz.prog 85 false 1 24 (.slice none 0 0):=Tp.of (by kernel_rfl)
theorem lK:Tp Tryz.prog 127 false 1 8 (.nilFunc):=Tp.of (by kernel_rfl)
theorem bZ:Tp Tryz.prog 130 false 1 8 (.pointer none):=Tp.of (by kernel_rfl)
theorem oA:Tryz.f121.body.isNone=false:=rfl
theorem oB:(Tryz.f121.name== "runtime.NumGoroutine")=false:=by decide+kernel
theorem ow:Tryz.f122.body.isNone=false:=rfl
theorem pd:(Tryz.f122.name== "runtime.NumGoroutine")=false:=by decide+kernel
theorem vq:Tryz.f123.body.isNone=false:=rfl
theorem uW:(Tryz.f123.name== "runtime.NumGoroutine")=false:=by decide+kernel
theorem vL:Tryz.f124.body.isNone=false:=rfl
theorem uZ:(Tryz.f124.name== "runtime.NumGoroutine")=false:=by decide+kernel
theorem oC:Tryz.f147.body.isNone=false:=rfl
theorem oy:(Tryz.f147.name== "runtime.NumGoroutine")=false:=by decide+kernel
set_option maxHeartbeats 8000000 in
theorem nB{b53:Nat}{v_c1:Nat}{w0:World}{g_v:Value}{g:(Int)×(List Pt)}{b3:Nat}{b8:Nat}{b13:Nat}{v43:Value}{O_c2:j7}{v44:Value}{v45:Value}{v46:Value}{v47:Value}{v48:Value}{v49:Value}{b55:Nat}{pl_c1:List Int}{lo_c1:List Int}{by_c1:List Int}{nx_c1:List Int}{fo_c1:Int}{ed_c1:List Int}{la_c1:List Bool}{bl_c1:List Int}{co_c1:Int}{g261:ax}{w260:World}{ed_c1_v:Value}{e_c2:Nat}(bH:aW w0 g261 w260)(Rg:Sl g261 (is 0) w260 g_v g.2)(bx5:Bx g261 (is 1) w260 b3 [vi g.1,g_v])(bx10:Bx g261 (is 2) w260 b8 [vn,vn,vi 0])(bx15:Bx g261 (is 3) w260 b13 [vn,vn,vi 0])(o33:dr g261 6 w260 v43 O_c2)(o34:Ow g261 (is 7) (is 7) w260 v44 pl_c1)(o35:Ow g261 (is 8) (is 8) w260 v45 lo_c1)(o36:Ow g261 (is 9) (is 9) w260 v46 by_c1)(o37:Ow g261 (is 10) (is 10) w260 v47 nx_c1)(o38:Ow g261 (is 11) (is 11) w260 v48 la_c1)(o39:Ow g261 (is 12) (is 12) w260 v49 bl_c1)(bx59:Bx g261 (is 14) w260 b55 [vp b53 0])(bx258:Bx g261 (is 13) w260 b53 [vi g.1,g_v,v43,v44,v45,v46,v47,vi fo_c1,ed_c1_v,v48,v49,vi co_c1,Value.func (.func 121) #[] (List.toArray [vp b55 0])])(o_ed_c1:Ow g261 (is 19) (is 19) w260 ed_c1_v ed_c1)(hm:bO g)(hO:O_c2=aX g)(hov_c2:dW O_c2 g e_c2)(hec:(e_c2:Int)=(g.2.length:Int))(hsi:ga g (bs pl_c1 lo_c1 by_c1 nx_c1 fo_c1 ed_c1 la_c1 bl_c1 co_c1) [])(hv0:0<=(v_c1:Int))(hv1:(v_c1:Int)<g.1)(hp0:gI pl_c1 ↑v_c1=0):
    Calls Tryz.prog 95 (List.toArray [vp b53 0,vi ↑v_c1]) w260 (λee w=>∃xx:Int×Value×(List Int)×Int×(List Int)×(List Int)×(List Int)×(List Int)×(List Bool)×(List Int)×ax,ee= .returned ((λ⟨fo_c3,ed_c3_v,ed_c3,co_c3,pl_c3,lo_c3,by_c3,nx_c3,la_c3,bl_c3,gq⟩=>vt []) xx)/\(λ(⟨fo_c3,ed_c3_v,ed_c3,co_c3,pl_c3,lo_c3,by_c3,nx_c3,la_c3,bl_c3,gq⟩:Int×Value×(List Int)×Int×(List Int)×(List Int)×(List Int)×(List Int)×(List Bool)×(List Int)×ax) (w:World)=>aW w0 gq w/\Sl gq (is 0) w g_v g.2/\Bx gq (is 1) w b3 [vi g.1,g_v]/\Bx gq (is 2) w b8 [vn,vn,vi 0]/\Bx gq (is 3) w b13 [vn,vn,vi 0]/\dr gq 6 w v43 O_c2/\Ow gq (is 7) (is 7) w v44 pl_c3/\Ow gq (is 8) (is 8) w v45 lo_c3/\Ow gq (is 9) (is 9) w v46 by_c3/\Ow gq (is 10) (is 10) w v47 nx_c3/\Ow gq (is 11) (is 11) w v48 la_c3/\Ow gq (is 12) (is 12) w v49 bl_c3/\Bx gq (is 14) w b55 [vp b53 0]/\Bx gq (is 13) w b53 [vi g.1,g_v,v43,v44,v45,v46,v47,vi fo_c3,ed_c3_v,v48,v49,vi co_c3,Value.func (.func 121) #[] (List.toArray [vp b55 0])]/\Ow gq (is 19) (is 19) w ed_c3_v ed_c3/\((bs pl_c3 lo_c3 by_c3 nx_c3 fo_c3 ed_c3 la_c3 bl_c3 co_c3)=gF g (bs pl_c1 lo_c1 by_c1 nx_c1 fo_c1 ed_c1 la_c1 bl_c1 co_c1) (v_c1:Int))) xx w):=by
 refine ah Tryz.func95 rfl nq ?_
 have hm0:=hm
 obtain⟨hm1,hm2,hm3,hm4⟩:=hm0
 have hov1:=hov_c2.len
 have hl1:((pl_c1).length:Int)=g.1:=hsi.l1
 have hl2:((lo_c1).length:Int)=g.1:=hsi.l2
 have hl3:((by_c1).length:Int)=g.1:=hsi.l3
 have hl4:((nx_c1).length:Int)=g.1:=hsi.l4
 have hl5:((la_c1).length:Int)=g.2.length:=hsi.l5
 have hl6:((bl_c1).length:Int)=g.2.length:=hsi.l6
 obtain⟨hb1,hb2,hb3,hb4⟩:0<=fo_c1/\fo_c1<=g.1/\0<=co_c1/\co_c1+((ed_c1).length:Int)<=(g.2.length:Int):=xH (s:=bs pl_c1 lo_c1 by_c1 nx_c1 fo_c1 ed_c1 la_c1 bl_c1 co_c1) hsi
 refine a7 (a6 rfl (mv (vp b53 0) (mi ↑v_c1 (lo (aV (aB (vals:=[vp b53 0,vi ↑v_c1]) Tryz.func122 ow pd rfl) (ah Tryz.func122 rfl nq (a7 (a6 rfl (mv (vp b53 0) ?_)))))))))
 refine lw (vp b53 0) (ae rfl) (lx (aa cO rfl rfl rfl rfl) (lx (a8 ap rfl bx258 rfl) (lx (aJ (m:=fo_c1) (n:=1) rfl rfl (by omega)) (lw (vp b53 0) (ae rfl) (lx (aa cO rfl rfl rfl rfl) (lo (aA (cs':=[vi g.1,g_v,v43,v44,v45,v46,v47,vi (fo_c1+1),ed_c1_v,v48,v49,vi co_c1,Value.func (.func 121) #[] (List.toArray [vp b55 0])]) ap rfl rfl bx258 rfl nq (AllOne.all (.cons rfl .nil)) rfl ?_)))))))
 intro w262 ch263 bx264
 refine ab (bp g261 [0,1,2,3,4,5,6,7,8,9,10,11,12,13,14,15,16,17,18,20] e8 ?_)
 intro w266 ch265
 refine xp (v:=vp b53 0) 0 rfl (λw=>ar rfl) (xp (v:=vp b53 0) 1 rfl (λw=>ae rfl) (xp 2 rfl (λw=>aa cO rfl rfl rfl rfl) ?_))
 refine xv 3 [2,1,0,4,5,9,10,14,6,11,15,7,12,16,8,13,17] rfl (a8 b9 rfl bx264.t rfl) (xp (v:=vi ↑v_c1) 4 rfl (λw=>ar rfl) (xp (v:=vp b53 0) 5 rfl (λw=>ar rfl) (xp (v:=vp b53 0) 6 rfl (λw=>ae rfl) (xp 7 rfl (λw=>aa cO rfl rfl rfl rfl) (xv 8 [7,6,5,4,3,2,1,0,9,10,14,11,15,12,16,13,17] rfl (a8 b9 rfl bx264.t rfl) (xp (v:=vi ↑v_c1) 9 rfl (λw=>ar rfl) (xp (v:=vp b53 0) 10 rfl (λw=>ar rfl) (xp (v:=vp b53 0) 11 rfl (λw=>ae rfl) (xp 12 rfl (λw=>aa cO rfl rfl rfl rfl) ?_)))))))))
 refine xv 13 [12,11,10,9,8,7,6,5,4,3,2,1,0,14,15,16,17] rfl (a8 ap rfl bx264.t rfl) (xp (v:=vp b53 0) 14 rfl (λw=>ar rfl) (xp (v:=vp b53 0) 15 rfl (λw=>ae rfl) (xp 16 rfl (λw=>aa cO rfl rfl rfl rfl) (xv 17 [16,15,14,13,12,11,10,9,8,7,6,5,4,3,2,1,0] rfl (a8 ap rfl bx264.t rfl) ?_))))
 refine xv 18 [17,16,15,14,13,12,11,10,9,8,7,6,5,4,3,2,1,0] rfl (ad (v:=v44) (i:=↑v_c1) bF rfl rfl o34.t.flat rfl (by omega) (by omega)) (cE 19 rfl (aU (i:=↑v_c1) (fo_c1+1) ap rfl rfl o34.t (by omega) (by omega) rfl ?_))
 intro w267 ch268 bx269
 refine xv 20 [19,18,17,16,15,14,13,12,11,10,9,8,7,6,5,4,3,2,1,0] rfl (ad (v:=v45) (i:=↑v_c1) bF rfl rfl o35.t.flat rfl (by omega) (by omega)) (cE 21 rfl (aU (i:=↑v_c1) (fo_c1+1) ap rfl rfl o35.t (by omega) (by omega) rfl ?_))
 intro w271 ch272 bx273
 refine bV (by kernel_rfl) (ck (vs:=[]) Tryz.func122 .nil ?_)
 refine⟨vt [],rfl,?_⟩
 refine ab (a7 (a6 rfl (mi ↑v_c1 (lo (aq (α:=Int) g261 (is 17) (is 17) (17,0) rfl [(v_c1:Int)] bF ap (by decide) (by decide) (vs:=[(0,vi ↑v_c1)]) rfl rfl (.cons rfl .nil) ?_)))))
 intro g274 w275 v276 ch277 o278
 refine ma v276 (ab (aj ?_))
 refine aR (σ:=Value×(List Int)×Value×(List Int)×Int×Int×(List Int)×(List Int)×(List Int)×(List Bool)×(List Int)×(List Int)×ax) (λ⟨path_c3_v,path_c3,ed_c3_v,ed_c3,co_c3,fo_c3,lo_c3,bl_c3,nx_c3,la_c3,pl_c3,by_c3,gq⟩ f w=>aW w0 gq w/\f 0=vp b53 0/\f 4=path_c3_v/\Sl gq (is 0) w g_v g.2/\Bx gq (is 1) w b3 [vi g.1,g_v]/\Bx gq (is 2) w b8 [vn,vn,vi 0]/\Bx gq (is 3) w b13 [vn,vn,vi 0]/\dr gq 6 w v43 O_c2/\Ow gq (is 9) (is 9) w v46 by_c3/\Ow gq (is 10) (is 10) w v47 nx_c3/\Ow gq (is 11) (is 11) w v48 la_c3/\Ow gq (is 12) (is 12) w v49 bl_c3/\Bx gq (is 14) w b55 [vp b53 0]/\Bx gq (is 13) w b53 [vi g.1,g_v,v43,v44,v45,v46,v47,vi fo_c3,ed_c3_v,v48,v49,vi co_c3,Value.func (.func 121) #[] (List.toArray [vp b55 0])]/\Ow gq (is 7) (is 7) w v44 pl_c3/\Ow gq (is 8) (is 8) w v45 lo_c3/\Ow gq (is 17) (is 17) w path_c3_v path_c3/\Ow gq (is 19) (is 19) w ed_c3_v ed_c3/\(gO g (gF g (bs pl_c1 lo_c1 by_c1 nx_c1 fo_c1 ed_c1 la_c1 bl_c1 co_c1) (v_c1:Int)) (bs pl_c3 lo_c3 by_c3 nx_c3 fo_c3 ed_c3 la_c3 bl_c3 co_c3) path_c3)) (λ⟨path_c3_v,path_c3,ed_c3_v,ed_c3,co_c3,fo_c3,lo_c3,bl_c3,nx_c3,la_c3,pl_c3,by_c3,gq⟩=>cr g (bs pl_c3 lo_c3 by_c3 nx_c3 fo_c3 ed_c3 la_c3 bl_c3 co_c3) path_c3) (v276,[(v_c1:Int)],ed_c1_v,ed_c1,co_c1,fo_c1+1,(List.set lo_c1 (Int.toNat ↑v_c1) (fo_c1+1)),bl_c1,nx_c1,la_c1,(List.set pl_c1 (Int.toNat ↑v_c1) (fo_c1+1)),by_c1,g274) ?_ ?_
 · exact⟨bH.t,rfl,rfl,Rg.t,bx5.t,bx10.t,bx15.t,o33.t,o36.t,o37.t,o38.t,o39.t,bx59.t,bx264.t,bx269.t,bx273.t,o278,o_ed_c1.t,by exact gO.start ‹_› (by omega) (by omega) ‹_›⟩
 rintro⟨path_c3_v,path_c3,ed_c3_v,ed_c3,co_c3,fo_c3,lo_c3,bl_c3,nx_c3,la_c3,pl_c3,by_c3,g283⟩ f281 w282 ⟨bH,zs0_c3,zs4_c3,Rg,bx5,bx10,bx15,o33,o36,o37,o38,o39,bx59,bx264,bx269,bx273,o_path_c3,o_ed_c3,hfr⟩ back2_c3
 have hfi:=hfr.i
 have hpg:=Bb hm1 hfi
 have hl1_c3:(pl_c3.length:Int)=g.1:=hfi.l1
 have hl2_c3:(lo_c3.length:Int)=g.1:=hfi.l2
 have hl3_c3:(by_c3.length:Int)=g.1:=hfi.l3
 have hl4_c3:(nx_c3.length:Int)=g.1:=hfi.l4
 have hl5_c3:(la_c3.length:Int)=g.2.length:=hfi.l5
 have hl6_c3:(bl_c3.length:Int)=g.2.length:=hfi.l6
 obtain⟨hb1_c3,hb2_c3,hb3_c3,hb4_c3⟩:0<=fo_c3/\fo_c3<=g.1/\0<=co_c3/\co_c3+(ed_c3.length:Int)<=(g.2.length:Int):=xH (s:=bs pl_c3 lo_c3 by_c3 nx_c3 fo_c3 ed_c3 la_c3 bl_c3 co_c3) hfi
 refine a7 (a7 (a6 rfl (mz zs4_c3 ?_)))
 have len284:=(o_path_c3.flat).small
 refine lx (bG bF rfl o_path_c3.flat) (lx (eX (m:=(path_c3.length:Int)) (n:=0) rfl rfl) (ab ?_))
 by_cases p2_c3:0<(path_c3.length:Int)
 ·
  refine ag rfl (dt p2_c3) (am (aj (a7 ?_)))
  have hpz:0<(path_c3.length:Int):=by omega
  refine a6 rfl (mz zs4_c3 (mz zs4_c3 (lx (bG bF rfl o_path_c3.flat) (lx (da (m:=(path_c3.length:Int)) (n:=1) rfl rfl (by omega)) (lx (ad (v:=path_c3_v) (i:=(path_c3.length:Int)-1) bF rfl rfl o_path_c3.flat rfl (by omega) (by omega)) (lx (aw (v:=path_c3_v) (i:=(path_c3.length:Int)-1) ap rfl o_path_c3.flat (by omega) (by omega) (by decide) rfl) ?_))))))
  obtain⟨u_c3,hn_u_c3⟩:∃q_:Int,(gI path_c3 ((path_c3.length:Int)-1))=q_:=⟨_,rfl⟩
  refine lw (vi u_c3) (bK (congrArg (Value.int .i64) hn_u_c3)) (ab (a7 (a7 ?_)))
  obtain⟨⟨⟨hu0,hu1⟩,hnx0,hnx1⟩,hby0⟩:=Cu hfi hO hpz hn_u_c3
  have hrl:=hov_c2.rl hu0 hu1
  refine dy g283 rfl e8 (by kernel_rfl) ?_
  intro w286 ch285
  refine qz zs0_c3 (qv (vp b53 0) (λw' hw'=>ae rfl) (qx (λw' hw'=>aa cO rfl rfl rfl rfl) ?_))
  refine qx (λw' hw'=>a8 b9 rfl (bx264.t.bel hw') rfl) (qm (vi u_c3) ?_)
  refine qx (λw' hw'=>ad (v:=v47) (i:=u_c3) bF rfl rfl (o37.t.flat.bel hw') rfl (by omega) (by omega)) (qx (λw' hw'=>aw (v:=v47) (i:=u_c3) ap rfl (o37.t.flat.bel hw') (by omega) (by omega) (by decide) rfl) (qz zs0_c3 (qv (vp b53 0) (λw' hw'=>ae rfl) (qx (λw' hw'=>aa cO rfl rfl rfl rfl) (qx (λw' hw'=>a8 it rfl (bx264.t.bel hw') rfl) (qm (vi u_c3) ?_))))))
  refine qx (λw' hw'=>ad (v:=v43) (i:=u_c3) fh rfl rfl (o33.t.sl.bel hw') rfl (by omega) (by omega)) ?_
  obtain⟨v287,cel288,r289⟩:=cG (r:=u_c3) (o33.a ch285) (by omega) (by omega)
  refine qx (λw' hw'=>cv b9 rfl (jJ cel288 hw')) ?_
  have len290:=(r289.row_sl).small
  refine qx (λw' hw'=>bG bF rfl (r289.row_sl.bel hw')) (qx (λw' hw'=>dd (m:=(gI nx_c3 u_c3)) (n:=(List.length (gI O_c2 u_c3):Int)) rfl rfl) (gf ?_))
  intro w291 hc292
  replace hc292:=aG hc292 g283
  by_cases p4_c3:(gI nx_c3 u_c3)=(List.length (gI O_c2 u_c3):Int)
  ·
   refine ag rfl (dt p4_c3) (a7 ?_)
   have hny:gI nx_c3 u_c3=((gI (aX g) u_c3).length:Int):=by rw[<-hO];assumption
   refine a6 rfl (mz zs0_c3 (mi u_c3 (lo (aV (aB (vals:=[vp b53 0,vi u_c3]) Tryz.func123 vq uW rfl) (ah Tryz.func123 rfl nq ?_)))))
   refine a7 (a6 rfl (mv (vp b53 0) (lw (vp b53 0) (ae rfl) (lx (aa cO rfl rfl rfl rfl) ?_))))
   refine lx (a8 b9 rfl bx264.t rfl) (mi u_c3 (lx (ad (v:=v46) (i:=u_c3) bF rfl rfl o36.t.flat rfl (by omega) (by omega)) (lx (aw (v:=v46) (i:=u_c3) ap rfl o36.t.flat (by omega) (by omega) (by decide) rfl) ?_)))
   obtain⟨b_c5,hn_b_c5⟩:∃q_:Int,(gI by_c3 u_c3)=q_:=⟨_,rfl⟩
   refine lw (vi b_c5) (bK (congrArg (Value.int .i64) hn_b_c5)) (ab (a7 (a7 (a6 rfl (mi b_c5 (lx (br (m:=b_c5) (n:=0) rfl rfl) (ab ?_)))))))
   by_cases p1_c5:b_c5<0
   ·
    refine ag rfl (dt p1_c5) (az (vs:=[]) Tryz.func123 .nil ?_)
    refine⟨vt [],rfl,?_⟩
    refine ab (a7 (a6 rfl (mz zs4_c3 (mz zs4_c3 ?_))))
    refine lx (bG bF rfl o_path_c3.t.flat) (lx (da (m:=(path_c3.length:Int)) (n:=1) rfl rfl (by omega)) (lw ((bP path_c3_v 1 (Int.toNat 0) (Int.toNat ((path_c3.length:Int)-1)))) (gJ (v:=path_c3_v) (l:=0) (h:=(path_c3.length:Int)-1) bF rfl rfl o_path_c3.t.flat (.inr ⟨rfl,rfl⟩) (.inl (congrArg some rfl)) (by omega) (by omega) (by omega)) ?_))
    have r294:=kB (o_path_c3.a hc292) (show Int.toNat ((path_c3.length:Int)-1)<=List.length _ by omega)
    refine ma ((bP path_c3_v 1 (Int.toNat 0) (Int.toNat ((path_c3.length:Int)-1)))) (ab (aF rfl ?_))
    refine back2_c3 ((bP path_c3_v 1 (Int.toNat 0) (Int.toNat ((path_c3.length:Int)-1))),(List.take (Int.toNat ((path_c3.length:Int)-1)) path_c3),ed_c3_v,ed_c3,co_c3,fo_c3,lo_c3,bl_c3,nx_c3,la_c3,pl_c3,by_c3,g283) _ _ ⟨bH.t,zs0_c3,rfl,Rg.t,bx5.t,bx10.t,bx15.t,o33.t,o36.t,o37.t,o38.t,o39.t,bx59.t,bx264.t,bx269.t,bx273.t,r294,o_ed_c3.t,?_⟩ ?_
    · show gO g (gF g (bs pl_c1 lo_c1 by_c1 nx_c1 fo_c1 ed_c1 la_c1 bl_c1 co_c1) (v_c1:Int)) (bs pl_c3 lo_c3 by_c3 nx_c3 fo_c3 ed_c3 la_c3 bl_c3 co_c3) (List.take (Int.toNat ((path_c3.length:Int)-1)) path_c3)
      (rw[gN];exact And.left (hfr.off0 hm hpz hn_u_c3.symm hny (by omega)))
    · show cr g (bs pl_c3 lo_c3 by_c3 nx_c3 fo_c3 ed_c3 la_c3 bl_c3 co_c3) (List.take (Int.toNat ((path_c3.length:Int)-1)) path_c3)<cr g (bs pl_c3 lo_c3 by_c3 nx_c3 fo_c3 ed_c3 la_c3 bl_c3 co_c3) path_c3
      (rw[gN];exact And.right (hfr.off0 hm hpz hn_u_c3.symm hny (by omega)))
   refine af rfl (df p1_c5) (am (a7 ?_))
   have hyb:hf g b_c5:=by rw[<-hn_b_c5];exact hby0.resolve_left (by omega)
   obtain⟨htw01,htw2,_,htw3⟩:=Dc (g:=g) hyb
   obtain⟨htw0,htw1⟩:=htw01
   obtain⟨hb0,hb1⟩:=hyb
   have hto:=fQ hm htw0 htw1
   unfold cF at hto htw3
   obtain⟨hto0,hto1⟩:=hto
   have hnb:=hn_b_c5
   have hfb:bf g (gI by_c3 u_c3)=bf g b_c5:=by rw[hn_b_c5]
   refine a6 rfl (mv (vp b53 0) (mi b_c5 (lw (vi (lN b_c5)) (D8 (op:=.xor) (m:=b_c5) (n:=1) rfl rfl (vH _ (by omega) (by omega))) (lo (aV (aB (vals:=[vp b53 0,vi (lN b_c5)]) Tryz.func147 oC oy rfl) (ah Tryz.func147 rfl nq (a7 (a6 rfl (ai 0 ?_)))))))))
   refine ab (a7 (a6 rfl (mv (vp b53 0) (lw (vp b53 0) (ae rfl) (lx (aa cO rfl rfl rfl rfl) (lx (aa dK rfl rfl rfl rfl) (lx (a8 bM rfl bx264.t rfl) (mi (lN b_c5) (lx (kh (m:=lN b_c5) (n:=2) rfl rfl (by omega) (by omega) (by omega)) ?_)))))))))
   refine mi (lN b_c5) (lx (nc (m:=lN b_c5) (n:=2) rfl rfl (by omega) (by omega)) (lx (da (m:=1) (n:=(lN b_c5)%2) rfl rfl (by omega)) (lx (ad (v:=g_v) (i:=(lN b_c5)/2) eG rfl rfl Rg.t rfl (by omega) (by omega)) (lx (d3 (i:=1-((lN b_c5)%2)) eS rfl rfl rfl (by omega) (by omega) (Nat.mul_one _)) (lx (dH (v:=g_v) (i:=(lN b_c5)/2) ap rfl Rg.t (by omega) (by omega) (show Int.toNat (1-((lN b_c5)%2))<2 by omega) (gU _ (by omega) (by omega))) ?_)))))
   obtain⟨w_c6,hn_w_c6⟩:∃q_:Int,pI (gI g.2 ((lN b_c5)/2)) (1-((lN b_c5)%2))=q_:=⟨_,rfl⟩
   refine lw (vi w_c6) (bK (congrArg (Value.int .i64) hn_w_c6)) (ab (az (vs:=[vi w_c6]) Tryz.func147 (.tmp rfl .nil) ?_))
   refine⟨vi w_c6,rfl,?_⟩
   refine ai w_c6 (ab (a7 (bp g283 [0,1,2,3,4,5,6,7,8,9,10,11,12,13,14,15,16,17,18,19,20] e8 ?_)))
   intro w296 ch295
   refine xp (v:=vp b53 0) 0 rfl (λw=>ar rfl) (xp (v:=vp b53 0) 1 rfl (λw=>ae rfl) (xp 2 rfl (λw=>aa cO rfl rfl rfl rfl) ?_))
   refine xv 3 [2,1,0,4,5,9,12,16,6,13,7,14,8,15,10,17,11,18,19] rfl (a8 b9 rfl bx264.t rfl) (xp (v:=vi w_c6) 4 rfl (λw=>ar rfl) (xp (v:=vp b53 0) 5 rfl (λw=>ar rfl) (xp (v:=vp b53 0) 6 rfl (λw=>ae rfl) (xp 7 rfl (λw=>aa cO rfl rfl rfl rfl) (xv 8 [7,6,5,4,3,2,1,0,9,12,16,13,14,15,17,18] rfl (a8 b9 rfl bx264.t rfl) (xp (v:=vi w_c6) 9 rfl (λw=>ar rfl) ?_))))))
   refine xv 10 [9,8,7,6,5,4,3,2,1,0,12,16,13,14,15,17,18] rfl (ad (v:=v45) (i:=w_c6) bF rfl rfl bx273.t.flat rfl (by omega) (by omega)) (xv 11 [10,9,8,7,6,5,4,3,2,1,0,12,16,13,14,15,17,18] rfl (aw (v:=v45) (i:=w_c6) ap rfl bx273.t.flat (by omega) (by omega) (by decide) rfl) (xp (v:=vp b53 0) 12 rfl (λw=>ar rfl) (xp (v:=vp b53 0) 13 rfl (λw=>ae rfl) (xp 14 rfl (λw=>aa cO rfl rfl rfl rfl) (xv 15 [14,13,12,11,10,9,8,7,6,5,4,3,2,1,0,16] rfl (a8 b9 rfl bx264.t rfl) (xp (v:=vi u_c3) 16 rfl (λw=>ar rfl) ?_))))))
   refine xv 17 [16,15,14,13,12,11,10,9,8,7,6,5,4,3,2,1,0] rfl (ad (v:=v45) (i:=u_c3) bF rfl rfl bx273.t.flat rfl (by omega) (by omega)) (xv 18 [17,16,15,14,13,12,11,10,9,8,7,6,5,4,3,2,1,0] rfl (aw (v:=v45) (i:=u_c3) ap rfl bx273.t.flat (by omega) (by omega) (by decide) rfl) (xp (v:=vi (min (gI lo_c3 w_c6) (gI lo_c3 u_c3))) 19 rfl (λw=>io rfl rfl) (xv 20 [19,18,17,16,15,14,13,12,11,10,9,8,7,6,5,4,3,2,1,0] rfl (ad (v:=v45) (i:=w_c6) bF rfl rfl bx273.t.flat rfl (by omega) (by omega)) (cE 21 rfl (aU (i:=w_c6) (min (gI lo_c3 w_c6) (gI lo_c3 u_c3)) ap rfl rfl bx273.t (by omega) (by omega) rfl ?_)))))
   intro w297 ch298 bx299
   refine bV (by kernel_rfl) (a7 (dy g283 rfl e8 (by kernel_rfl) ?_))
   intro w301 ch300
   refine qm (vp b53 0) (qv (vp b53 0) (λw' hw'=>ae rfl) (qx (λw' hw'=>aa cO rfl rfl rfl rfl) ?_))
   refine qx (λw' hw'=>a8 b9 rfl (bx264.t.bel hw') rfl) (qm (vi u_c3) ?_)
   refine qx (λw' hw'=>ad (v:=v45) (i:=u_c3) bF rfl rfl (bx299.t.flat.bel hw') rfl (by omega) (by(simp only[List.length_set,List.length_append,List.length_cons,List.length_nil,List.length_replicate,List.length_map,List.length_take,List.length_drop];omega))) (qx (λw' hw'=>aw (v:=v45) (i:=u_c3) ap rfl (bx299.t.flat.bel hw') (by omega) (by(simp only[List.length_set,List.length_append,List.length_cons,List.length_nil,List.length_replicate,List.length_map,List.length_take,List.length_drop];omega)) (by decide) rfl) (qm (vp b53 0) (qv (vp b53 0) (λw' hw'=>ae rfl) (qx (λw' hw'=>aa cO rfl rfl rfl rfl) (qx (λw' hw'=>a8 b9 rfl (bx264.t.bel hw') rfl) (qm (vi w_c6) ?_))))))
   refine qx (λw' hw'=>ad (v:=v44) (i:=w_c6) bF rfl rfl (bx269.t.flat.bel hw') rfl (by omega) (by omega)) (qx (λw' hw'=>aw (v:=v44) (i:=w_c6) ap rfl (bx269.t.flat.bel hw') (by omega) (by omega) (by decide) rfl) (qx (λw' hw'=>eL (m:=(gI (List.set lo_c3 (Int.toNat w_c6) (min (gI lo_c3 w_c6) (gI lo_c3 u_c3))) u_c3)) (n:=(gI pl_c3 w_c6)) rfl rfl) (gf ?_)))
   intro w303 hc304
   replace hc304:=aG hc304 g283
   by_cases p4_c5:(gI pl_c3 w_c6)<=(gI (List.set lo_c3 (Int.toNat w_c6) (min (gI lo_c3 w_c6) (gI lo_c3 u_c3))) u_c3)
   ·
    refine ag rfl (dt p4_c5) ?_
    have hfw:=hfb.trans (htw3.symm.trans hn_w_c6)
    have hxn:(ed_c3).Nodup:=hfi.en
    have hxm:(b_c5/2)∈ed_c3:=by rw[<-hn_b_c5];exact(hfi.top (List.ne_nil_of_length_pos (by omega)) hn_u_c3.symm (show¬gI by_c3 u_c3<0 by rw[hn_b_c5];omega)).1
    have hxe:∀x∈ed_c3,0<=x/\x<(g.2.length:Int):=λx hx=>(hfi.el x hx).1
    refine a6 rfl (mv (vp b53 0) (lw (vp b53 0) (ae rfl) (lx (aa cO rfl rfl rfl rfl) ?_)))
    refine lx (a8 lK rfl bx264.t rfl) (mi b_c5 (lx (kh (m:=b_c5) (n:=2) rfl rfl (by omega) (by omega) (by omega)) (lo (aV (fW (fid:=121) (vals:=[vi (b_c5/2)]) (caps:=[vp b55 0]) rfl Tryz.func121 oA oB rfl) (ah Tryz.func121 rfl nq ?_)))))
    refine a7 (a6 rfl ?_)
    refine lx (a8 bZ rfl bx59.t rfl) (lw (vp b53 0) (ae rfl) (lx (aa cO rfl rfl rfl rfl) (lx (a8 b9 rfl bx264.t rfl) ?_)))
    have len307:=((o_ed_c3.a hc304).flat).small
    refine lx (bG bF rfl o_ed_c3.t.flat) (lx (da (m:=(ed_c3.length:Int)) (n:=1) rfl rfl (by omega)) (ai ((ed_c3.length:Int)-1) (ab (a7 (aj ?_)))))
    refine aR (σ:=Int×ax) (λ⟨at_c7,gq⟩ f w=>aW w0 gq w/\f 0=vi (b_c5/2)/\f 1=vp b55 0/\f 3=vi at_c7/\Sl gq (is 0) w g_v g.2/\Bx gq (is 1) w b3 [vi g.1,g_v]/\Bx gq (is 2) w b8 [vn,vn,vi 0]/\Bx gq (is 3) w b13 [vn,vn,vi 0]/\dr gq 6 w v43 O_c2/\Ow gq (is 9) (is 9) w v46 by_c3/\Ow gq (is 10) (is 10) w v47 nx_c3/\Ow gq (is 11) (is 11) w v48 la_c3/\Ow gq (is 12) (is 12) w v49 bl_c3/\Bx gq (is 14) w b55 [vp b53 0]/\Bx gq (is 13) w b53 [vi g.1,g_v,v43,v44,v45,v46,v47,vi fo_c3,ed_c3_v,v48,v49,vi co_c3,Value.func (.func 121) #[] (List.toArray [vp b55 0])]/\Ow gq (is 7) (is 7) w v44 pl_c3/\Ow gq (is 17) (is 17) w path_c3_v path_c3/\Ow gq (is 19) (is 19) w ed_c3_v ed_c3/\Ow gq (is 8) (is 8) w v45 (List.set lo_c3 (Int.toNat w_c6) (min (gI lo_c3 w_c6) (gI lo_c3 u_c3)))/\(tQ ed_c3 (b_c5/2) at_c7)) (λ⟨at_c7,gq⟩=>Int.toNat at_c7) ((ed_c3.length:Int)-1,g283) ?_ ?_
    · exact⟨bH.t,rfl,rfl,rfl,Rg.t,bx5.t,bx10.t,bx15.t,o33.t,o36.t,o37.t,o38.t,o39.t,bx59.t,bx264.t,bx269.t,o_path_c3.t,o_ed_c3.t,bx299.t,by exact tQ.start hxn hxm⟩
    rintro⟨at_c7,g310⟩ f308 w309 ⟨bH,zs0_c7,zs1_c7,zs3_c7,Rg,bx5,bx10,bx15,o33,o36,o37,o38,o39,bx59,bx264,bx269,o_path_c3,o_ed_c3,bx299,hat_c7⟩ back1_c7
    have hA1_c7:=hat_c7.lo
    have hA2_c7:=hat_c7.hi
    refine a7 (a7 (a6 rfl (lx (a8 bZ zs1_c7 bx59 rfl) (lw (vp b53 0) (ae rfl) (lx (aa cO rfl rfl rfl rfl) (lx (a8 b9 rfl bx264 rfl) (mz zs3_c7 (lx (ad (v:=ed_c3_v) (i:=at_c7) bF rfl rfl o_ed_c3.flat rfl (by omega) (by omega)) (lx (aw (v:=ed_c3_v) (i:=at_c7) ap rfl o_ed_c3.flat (by omega) (by omega) (by decide) rfl) ?_)))))))))
    refine mz zs0_c7 (lx (du (m:=(gI ed_c3 at_c7)) (n:=b_c5/2) rfl rfl) (ab ?_))
    by_cases p1_c7:(gI ed_c3 at_c7)=(b_c5/2)
    ·
     refine af rfl (congrArg Bool.not (dt p1_c7)) (aF rfl (a7 (a7 (a6 rfl (lx (a8 bZ zs1_c7 bx59 rfl) (lw (vp b53 0) (ae rfl) (lx (aa cO rfl rfl rfl rfl) (lx (a8 b9 rfl bx264 rfl) (mz zs3_c7 ?_)))))))))
     refine lw ((bP ed_c3_v 1 (Int.toNat at_c7) (Int.toNat ed_c3.length))) (gJ (v:=ed_c3_v) (l:=at_c7) (h:=ed_c3.length) bF rfl rfl o_ed_c3.flat (.inl (congrArg some rfl)) (.inr ⟨rfl,rfl⟩) (by omega) (by omega) (by omega)) ?_
     have r312:=wU o_ed_c3.flat (show Int.toNat at_c7<=Int.toNat ed_c3.length by omega) (show Int.toNat ed_c3.length<=List.length _ by omega)
     have len313:=(r312).small
     refine lx (bG bF rfl r312) (mi 0 (ab (aj ?_)))
     refine aR (σ:=Nat×(List Int)×ax) (λ⟨k_c7,bk_c7,gq⟩ f w=>aW w0 gq w/\f 1=vp b55 0/\f 3=vi at_c7/\f 28=(bP ed_c3_v 1 (Int.toNat at_c7) (Int.toNat ed_c3.length))/\f 29=vi (List.length (List.drop (Int.toNat at_c7) (List.take (Int.toNat ed_c3.length) ed_c3)):Int)/\f 30=vi ↑k_c7/\Sl gq (is 0) w g_v g.2/\Bx gq (is 1) w b3 [vi g.1,g_v]/\Bx gq (is 2) w b8 [vn,vn,vi 0]/\Bx gq (is 3) w b13 [vn,vn,vi 0]/\dr gq 6 w v43 O_c2/\Ow gq (is 9) (is 9) w v46 by_c3/\Ow gq (is 10) (is 10) w v47 nx_c3/\Ow gq (is 11) (is 11) w v48 la_c3/\Ow gq (is 12) (is 12) w v49 bk_c7/\Bx gq (is 14) w b55 [vp b53 0]/\Bx gq (is 13) w b53 [vi g.1,g_v,v43,v44,v45,v46,v47,vi fo_c3,ed_c3_v,v48,v49,vi co_c3,Value.func (.func 121) #[] (List.toArray [vp b55 0])]/\Ow gq (is 7) (is 7) w v44 pl_c3/\Ow gq (is 17) (is 17) w path_c3_v path_c3/\Ow gq (is 19) (is 19) w ed_c3_v ed_c3/\Ow gq (is 8) (is 8) w v45 (List.set lo_c3 (Int.toNat w_c6) (min (gI lo_c3 w_c6) (gI lo_c3 u_c3)))/\Sl gq (is 19) w (bP ed_c3_v 1 (Int.toNat at_c7) (Int.toNat ed_c3.length)) (List.drop (Int.toNat at_c7) (List.take (Int.toNat ed_c3.length) ed_c3))/\(k_c7:Int)<=((List.length (List.drop (Int.toNat at_c7) (List.take (Int.toNat ed_c3.length) ed_c3)):Int):Int)/\(bk_c7=vW (List.drop (Int.toNat at_c7) (List.take (Int.toNat ((ed_c3).length:Int)) ed_c3)) bl_c3 co_c3 k_c7)) (λ⟨k_c7,bk_c7,gq⟩=>Int.toNat (((List.length (List.drop (Int.toNat at_c7) (List.take (Int.toNat ed_c3.length) ed_c3)):Int):Int)-(k_c7:Int))) (0,bl_c3,g310) ?_ ?_
     · exact⟨bH,zs1_c7,zs3_c7,rfl,rfl,rfl,Rg,bx5,bx10,bx15,o33,o36,o37,o38,o39,bx59,bx264,bx269,o_path_c3,o_ed_c3,bx299,r312,by omega,by exact CV⟩
     rintro⟨k_c7,bk_c7,g316⟩ f314 w315 ⟨bH,zs1_c7,zs3_c7,zs28_c7,zs29_c7,zs30_c7,Rg,bx5,bx10,bx15,o33,o36,o37,o38,o39,bx59,bx264,bx269,o_path_c3,o_ed_c3,bx299,r312,hle_k_c7,hbk_c7⟩ back4_c7
     have hbkl_c7:=tL hbk_c7
     refine a7 (a6 rfl (lx (br (m:=↑k_c7) (n:=(List.length (List.drop (Int.toNat at_c7) (List.take (Int.toNat ed_c3.length) ed_c3)):Int)) zs30_c7 zs29_c7) (ab (a7 ?_))))
     by_cases p4_c7:(k_c7:Int)<(List.length (List.drop (Int.toNat at_c7) (List.take (Int.toNat ed_c3.length) ed_c3)):Int)
     ·
      refine ag rfl (dt p4_c7) ?_
      have hei_c7:=hxe _ (List.mem_of_mem_take (List.mem_of_mem_drop (bz (xs:=(List.drop (Int.toNat at_c7) (List.take (Int.toNat ((ed_c3).length:Int)) ed_c3))) (i:=↑k_c7) (by omega) (by omega))))
      refine am (a7 (aj (a7 (a6 rfl (lx (ad (v:=(bP ed_c3_v 1 (Int.toNat at_c7) (Int.toNat ed_c3.length))) (i:=↑k_c7) bF rfl zs28_c7 r312 zs30_c7 (by omega) (by omega)) (lx (aw (v:=(bP ed_c3_v 1 (Int.toNat at_c7) (Int.toNat ed_c3.length))) (i:=↑k_c7) ap rfl r312 (by omega) (by omega) (by decide) rfl) (ai (gI (List.drop (Int.toNat at_c7) (List.take (Int.toNat ed_c3.length) ed_c3)) (k_c7:Int)) (ab (bp g316 [0,1,2,3,4,5,6,7,8,9] e8 ?_)))))))))
      intro w318 ch317
      refine xv 0 [4,5,6,7,8] rfl (a8 bZ zs1_c7 bx59.t rfl) (xp (v:=vp b53 0) 1 rfl (λw=>ae rfl) (xp 2 rfl (λw=>aa cO rfl rfl rfl rfl) ?_))
      refine xv 3 [2,1,0,4,5,6,7,8] rfl (a8 b9 rfl bx264.t rfl) (xp (v:=vi (gI (List.drop (Int.toNat at_c7) (List.take (Int.toNat ed_c3.length) ed_c3)) (k_c7:Int))) 4 rfl (λw=>ar rfl) (xv 5 [4,3,2,1,0] rfl (a8 bZ zs1_c7 bx59.t rfl) (xp (v:=vp b53 0) 6 rfl (λw=>ae rfl) (xp 7 rfl (λw=>aa cO rfl rfl rfl rfl) (xv 8 [7,6,5,4,3,2,1,0] rfl (a8 ap rfl bx264.t rfl) ?_)))))
      refine xv 9 [8,7,6,5,4,3,2,1,0] rfl (ad (v:=v49) (i:=(gI (List.drop (Int.toNat at_c7) (List.take (Int.toNat ed_c3.length) ed_c3)) (k_c7:Int))) bF rfl rfl o39.t.flat rfl (by omega) (by omega)) (cE 10 rfl (aU (i:=(gI (List.drop (Int.toNat at_c7) (List.take (Int.toNat ed_c3.length) ed_c3)) (k_c7:Int))) co_c3 ap rfl rfl o39.t (by omega) (by omega) rfl ?_))
      intro w319 ch320 bx321
      refine bV (by kernel_rfl) (ak (a6 rfl (lx (aJ (m:=↑k_c7) (n:=1) zs30_c7 rfl (by omega)) (mi ((k_c7:Int)+1) (ab ?_)))))
      refine back4_c7 (k_c7+1,(List.set bk_c7 (Int.toNat (gI (List.drop (Int.toNat at_c7) (List.take (Int.toNat ed_c3.length) ed_c3)) (k_c7:Int))) co_c3),g316) _ _ ⟨bH.t,zs1_c7,zs3_c7,zs28_c7,zs29_c7,rfl,Rg.t,bx5.t,bx10.t,bx15.t,o33.t,o36.t,o37.t,o38.t,bx321,bx59.t,bx264.t,bx269.t,o_path_c3.t,o_ed_c3.t,bx299.t,r312.t,by omega,?_⟩ ?_
      · show(List.set bk_c7 (Int.toNat (gI (List.drop (Int.toNat at_c7) (List.take (Int.toNat ed_c3.length) ed_c3)) (k_c7:Int))) co_c3)=vW (List.drop (Int.toNat at_c7) (List.take (Int.toNat ((ed_c3).length:Int)) ed_c3)) bl_c3 co_c3 (k_c7+1)
        exact qC hbk_c7 ‹_›
      · show Int.toNat (_-_)<Int.toNat (_-_)
        omega
     refine af rfl (df p4_c7) (aF rfl (a7 ?_))
     refine bp g316 [0,1,2,3,4,5,6,7,8] e8 ?_
     intro w323 ch322
     refine xv 0 [1,5,2,3,4,6] rfl (a8 bZ zs1_c7 bx59.t rfl) (xv 1 [0,5] rfl (a8 bZ zs1_c7 bx59.t rfl) (xp (v:=vp b53 0) 2 rfl (λw=>ae rfl) (xp 3 rfl (λw=>aa cO rfl rfl rfl rfl) ?_)))
     refine xv 4 [3,2,1,0,5] rfl (a8 b9 rfl bx264.t rfl) (xp (v:=vi at_c7) 5 rfl (λw=>ar zs3_c7) ?_)
     refine xp (v:=(bP ed_c3_v 1 (Int.toNat 0) (Int.toNat at_c7))) 6 rfl (λw=>gJ (v:=ed_c3_v) (l:=0) (h:=at_c7) bF rfl rfl o_ed_c3.t.flat (.inr ⟨rfl,rfl⟩) (.inl (congrArg some rfl)) (by omega) (by omega) (by omega)) ?_
     have r325:=kB (o_ed_c3.a ch322) (show Int.toNat at_c7<=List.length _ by omega)
     refine xp (v:=vp b53 0) 7 rfl (λw=>ae rfl) (xp 8 rfl (λw=>aa cO rfl rfl rfl rfl) (cE 9 rfl (aC (cs':=[vi g.1,g_v,v43,v44,v45,v46,v47,vi fo_c3,(bP ed_c3_v 1 (Int.toNat 0) (Int.toNat at_c7)),v48,v49,vi co_c3,Value.func (.func 121) #[] (List.toArray [vp b55 0])]) b9 rfl rfl bx264.t (aL r325.flat) nq (aM r325.flat) rfl ?_)))
     intro w326 ch327 bx328
     refine bV (by kernel_rfl) (a6 rfl ?_)
     refine lx (a8 bZ zs1_c7 bx59.t rfl) (lw (vp b53 0) (ae rfl) (lx (aa cO rfl rfl rfl rfl) (lx (a8 ap rfl bx328 rfl) (lx (aJ (m:=co_c3) (n:=1) rfl rfl (by omega)) (lw (vp b53 0) (ae rfl) (lx (aa cO rfl rfl rfl rfl) (lo (aA (cs':=[vi g.1,g_v,v43,v44,v45,v46,v47,vi fo_c3,(bP ed_c3_v 1 (Int.toNat 0) (Int.toNat at_c7)),v48,v49,vi (co_c3+1),Value.func (.func 121) #[] (List.toArray [vp b55 0])]) ap rfl rfl bx328 rfl nq (AllOne.all (.cons rfl .nil)) rfl ?_))))))))
     intro w329 ch330 bx331
     refine ab (ck (vs:=[]) Tryz.func121 .nil ?_)
     refine⟨vt [],rfl,?_⟩
     refine ab (ck (vs:=[]) Tryz.func123 .nil ?_)
     refine⟨vt [],rfl,?_⟩
     refine ab (a7 ?_)
     refine a6 rfl (mz zs4_c3 (mz zs4_c3 ?_))
     refine lx (bG bF rfl o_path_c3.t.flat) (lx (da (m:=(path_c3.length:Int)) (n:=1) rfl rfl (by omega)) (lw ((bP path_c3_v 1 (Int.toNat 0) (Int.toNat ((path_c3.length:Int)-1)))) (gJ (v:=path_c3_v) (l:=0) (h:=(path_c3.length:Int)-1) bF rfl rfl o_path_c3.t.flat (.inr ⟨rfl,rfl⟩) (.inl (congrArg some rfl)) (by omega) (by omega) (by omega)) ?_))
     have r334:=kB (o_path_c3.a ch330) (show Int.toNat ((path_c3.length:Int)-1)<=List.length _ by omega)
     refine ma ((bP path_c3_v 1 (Int.toNat 0) (Int.toNat ((path_c3.length:Int)-1)))) (ab (aF rfl ?_))
     refine back2_c3 ((bP path_c3_v 1 (Int.toNat 0) (Int.toNat ((path_c3.length:Int)-1))),(List.take (Int.toNat ((path_c3.length:Int)-1)) path_c3),(bP ed_c3_v 1 (Int.toNat 0) (Int.toNat at_c7)),(List.take (Int.toNat at_c7) ed_c3),co_c3+1,fo_c3,(List.set lo_c3 (Int.toNat w_c6) (min (gI lo_c3 w_c6) (gI lo_c3 u_c3))),bk_c7,nx_c3,la_c3,pl_c3,by_c3,g316) _ _ ⟨bH.t,zs0_c3,rfl,Rg.t,bx5.t,bx10.t,bx15.t,o33.t,o36.t,o37.t,o38.t,o39.t,bx59.t,bx331,bx269.t,bx299.t,r334,r325.t,?_⟩ ?_
     · show gO g (gF g (bs pl_c1 lo_c1 by_c1 nx_c1 fo_c1 ed_c1 la_c1 bl_c1 co_c1) (v_c1:Int)) (bs pl_c3 (List.set lo_c3 (Int.toNat w_c6) (min (gI lo_c3 w_c6) (gI lo_c3 u_c3))) by_c3 nx_c3 fo_c3 (List.take (Int.toNat at_c7) ed_c3) la_c3 bk_c7 (co_c3+1)) (List.take (Int.toNat ((path_c3.length:Int)-1)) path_c3)
       (rw[gN];exact And.left (hfr.off3 hm hpz hn_u_c3.symm hny (by omega) hfw rfl ‹_› (by rw[hnb];exact(lg ‹_› ‹_› ‹_› ‹_› ‹_›))))
     · show cr g (bs pl_c3 (List.set lo_c3 (Int.toNat w_c6) (min (gI lo_c3 w_c6) (gI lo_c3 u_c3))) by_c3 nx_c3 fo_c3 (List.take (Int.toNat at_c7) ed_c3) la_c3 bk_c7 (co_c3+1)) (List.take (Int.toNat ((path_c3.length:Int)-1)) path_c3)<cr g (bs pl_c3 lo_c3 by_c3 nx_c3 fo_c3 ed_c3 la_c3 bl_c3 co_c3) path_c3
       (rw[gN];exact And.right (hfr.off3 hm hpz hn_u_c3.symm hny (by omega) hfw rfl ‹_› (by rw[hnb];exact(lg ‹_› ‹_› ‹_› ‹_› ‹_›))))
    refine ag rfl (congrArg Bool.not (df p1_c7)) (am (aj (a6 rfl (mz zs3_c7 (lx (da (m:=at_c7) (n:=1) rfl rfl (by omega)) (ai (at_c7-1) (ab (ak ?_))))))))
    refine back1_c7 (at_c7-1,g310) _ _ ⟨bH.t,zs0_c7,zs1_c7,rfl,Rg,bx5,bx10,bx15,o33,o36,o37,o38,o39.t,bx59.t,bx264.t,bx269,o_path_c3.t,o_ed_c3.t,bx299,?_⟩ ?_
    · show tQ ed_c3 (b_c5/2) (at_c7-1)
      exact(hat_c7.next ‹_›).1
    · show Int.toNat (at_c7-1)<Int.toNat at_c7
      (have:=(hat_c7.next ‹_›).2;omega)
   refine af rfl (df p4_c5) (am (ck (vs:=[]) Tryz.func123 .nil ?_))
   refine⟨vt [],rfl,?_⟩
   refine ab (a7 (a6 rfl (mz zs4_c3 (mz zs4_c3 ?_))))
   refine lx (bG bF rfl o_path_c3.t.flat) (lx (da (m:=(path_c3.length:Int)) (n:=1) rfl rfl (by omega)) (lw ((bP path_c3_v 1 (Int.toNat 0) (Int.toNat ((path_c3.length:Int)-1)))) (gJ (v:=path_c3_v) (l:=0) (h:=(path_c3.length:Int)-1) bF rfl rfl o_path_c3.t.flat (.inr ⟨rfl,rfl⟩) (.inl (congrArg some rfl)) (by omega) (by omega) (by omega)) ?_))
   have r337:=kB (o_path_c3.a hc304) (show Int.toNat ((path_c3.length:Int)-1)<=List.length _ by omega)
   refine ma ((bP path_c3_v 1 (Int.toNat 0) (Int.toNat ((path_c3.length:Int)-1)))) (ab (aF rfl ?_))
   refine back2_c3 ((bP path_c3_v 1 (Int.toNat 0) (Int.toNat ((path_c3.length:Int)-1))),(List.take (Int.toNat ((path_c3.length:Int)-1)) path_c3),ed_c3_v,ed_c3,co_c3,fo_c3,(List.set lo_c3 (Int.toNat w_c6) (min (gI lo_c3 w_c6) (gI lo_c3 u_c3))),bl_c3,nx_c3,la_c3,pl_c3,by_c3,g283) _ _ ⟨bH.t,zs0_c3,rfl,Rg.t,bx5.t,bx10.t,bx15.t,o33.t,o36.t,o37.t,o38.t,o39.t,bx59.t,bx264.t,bx269.t,bx299.t,r337,o_ed_c3.t,?_⟩ ?_
   · show gO g (gF g (bs pl_c1 lo_c1 by_c1 nx_c1 fo_c1 ed_c1 la_c1 bl_c1 co_c1) (v_c1:Int)) (bs pl_c3 (List.set lo_c3 (Int.toNat w_c6) (min (gI lo_c3 w_c6) (gI lo_c3 u_c3))) by_c3 nx_c3 fo_c3 ed_c3 la_c3 bl_c3 co_c3) (List.take (Int.toNat ((path_c3.length:Int)-1)) path_c3)
     (rw[gN];exact And.left (hfr.off1 hm hpz hn_u_c3.symm hny (by omega) (by omega) rfl ‹_›))
   · show cr g (bs pl_c3 (List.set lo_c3 (Int.toNat w_c6) (min (gI lo_c3 w_c6) (gI lo_c3 u_c3))) by_c3 nx_c3 fo_c3 ed_c3 la_c3 bl_c3 co_c3) (List.take (Int.toNat ((path_c3.length:Int)-1)) path_c3)<cr g (bs pl_c3 lo_c3 by_c3 nx_c3 fo_c3 ed_c3 la_c3 bl_c3 co_c3) path_c3
     (rw[gN];exact And.right (hfr.off1 hm hpz hn_u_c3.symm hny (by omega) (by omega) rfl ‹_›))
  refine af rfl (df p4_c3) (am (a7 ?_))
  refine dy g283 rfl e8 (by kernel_rfl) ?_
  intro w340 ch339
  refine qz zs0_c3 (qv (vp b53 0) (λw' hw'=>ae rfl) (qx (λw' hw'=>aa cO rfl rfl rfl rfl) ?_))
  refine qx (λw' hw'=>a8 it rfl (bx264.t.bel hw') rfl) (qm (vi u_c3) ?_)
  refine qx (λw' hw'=>ad (v:=v43) (i:=u_c3) fh rfl rfl (o33.t.sl.bel hw') rfl (by omega) (by omega)) ?_
  obtain⟨v341,cel342,r343⟩:=cG (r:=u_c3) (o33.a ch339) (by omega) (by omega)
  refine qx (λw' hw'=>cv b9 rfl (jJ cel342 hw')) (qz zs0_c3 (qv (vp b53 0) (λw' hw'=>ae rfl) (qx (λw' hw'=>aa cO rfl rfl rfl rfl) (qx (λw' hw'=>a8 b9 rfl (bx264.t.bel hw') rfl) (qm (vi u_c3) ?_)))))
  refine qx (λw' hw'=>ad (v:=v47) (i:=u_c3) bF rfl rfl (o37.t.flat.bel hw') rfl (by omega) (by omega)) (qx (λw' hw'=>aw (v:=v47) (i:=u_c3) ap rfl (o37.t.flat.bel hw') (by omega) (by omega) (by decide) rfl) (qx (λw' hw'=>ad (v:=v341) (i:=(gI nx_c3 u_c3)) bF rfl rfl (r343.row_sl.bel hw') rfl (by omega) (by omega)) (qx (λw' hw'=>aw (v:=v341) (i:=(gI nx_c3 u_c3)) ap rfl (r343.row_sl.bel hw') (by omega) (by omega) (by decide) rfl) ?_)))
  obtain⟨h_c3,hn_h_c3⟩:∃q_:Int,(gI (gI O_c2 u_c3) (gI nx_c3 u_c3))=q_:=⟨_,rfl⟩
  refine qv (vi h_c3) (λw' hw'=>bK (congrArg (Value.int .i64) hn_h_c3)) (gf ?_)
  intro w344 hc345
  replace hc345:=aG hc345 g283
  refine a7 ?_
  have hnn:¬gI nx_c3 u_c3=((gI (aX g) u_c3).length:Int):=by rw[<-hO];assumption
  have heh:gI (gI (aX g) u_c3) (gI nx_c3 u_c3)=h_c3:=by rw[<-hO];assumption
  obtain⟨⟨hh0,hh1⟩,hw0⟩:=Bn hm hfi hO hu0 hu1 ‹_›
  rw[hn_h_c3] at hh0 hh1 hw0
  unfold cF at hw0
  obtain⟨hw0,hw1⟩:=hw0
  refine a6 rfl (mz zs0_c3 (lw (vp b53 0) (ae rfl) (lx (aa cO rfl rfl rfl rfl) ?_)))
  refine lx (a8 b9 rfl bx264.t rfl) (mi u_c3 ?_)
  refine lx (ad (v:=v47) (i:=u_c3) bF rfl rfl o37.t.flat rfl (by omega) (by omega)) (lx (aw (v:=v47) (i:=u_c3) ap rfl o37.t.flat (by omega) (by omega) (by decide) rfl) (lx (aJ (m:=(gI nx_c3 u_c3)) (n:=1) rfl rfl (by omega)) (lx (ad (v:=v47) (i:=u_c3) bF rfl rfl o37.t.flat rfl (by omega) (by omega)) (lo (aU (i:=u_c3) ((gI nx_c3 u_c3)+1) ap rfl rfl o37.t (by omega) (by omega) rfl ?_)))))
  intro w346 ch347 bx348
  refine ab (a7 (a6 rfl (mz zs0_c3 (mi u_c3 (mi h_c3 (lo (aV (aB (vals:=[vp b53 0,vi u_c3,vi h_c3]) Tryz.func124 vL uZ rfl) (ah Tryz.func124 rfl nq ?_))))))))
  refine a7 (a6 rfl (ai 0 (ma (vb false) (ab (a7 (a6 rfl (mi h_c3 (lx (kh (m:=h_c3) (n:=2) rfl rfl (by omega) (by omega) (by omega)) (mv (vp b53 0) ?_)))))))))
  refine mi h_c3 (lo (aV (aB (vals:=[vp b53 0,vi h_c3]) Tryz.func147 oC oy rfl) (ah Tryz.func147 rfl nq (a7 (a6 rfl (ai 0 (ab (a7 (a6 rfl ?_)))))))))
  refine mv (vp b53 0) (lw (vp b53 0) (ae rfl) (lx (aa cO rfl rfl rfl rfl) (lx (aa dK rfl rfl rfl rfl) ?_)))
  refine lx (a8 bM rfl bx264.t rfl) (mi h_c3 (lx (kh (m:=h_c3) (n:=2) rfl rfl (by omega) (by omega) (by omega)) (mi h_c3 (lx (nc (m:=h_c3) (n:=2) rfl rfl (by omega) (by omega)) (lx (da (m:=1) (n:=h_c3%2) rfl rfl (by omega)) (lx (ad (v:=g_v) (i:=h_c3/2) eG rfl rfl Rg.t rfl (by omega) (by omega)) (lx (d3 (i:=1-(h_c3%2)) eS rfl rfl rfl (by omega) (by omega) (Nat.mul_one _)) (lx (dH (v:=g_v) (i:=h_c3/2) ap rfl Rg.t (by omega) (by omega) (show Int.toNat (1-(h_c3%2))<2 by omega) (gU _ (by omega) (by omega))) ?_))))))))
  obtain⟨w_c9,hn_w_c9⟩:∃q_:Int,pI (gI g.2 (h_c3/2)) (1-(h_c3%2))=q_:=⟨_,rfl⟩
  refine lw (vi w_c9) (bK (congrArg (Value.int .i64) hn_w_c9)) (ab (az (vs:=[vi w_c9]) Tryz.func147 (.tmp rfl .nil) ?_))
  refine⟨vi w_c9,rfl,?_⟩
  refine ai (h_c3/2) (ai w_c9 (ab (a7 (a7 (a6 rfl (mv (vp b53 0) (lw (vp b53 0) (ae rfl) (lx (aa cO rfl rfl rfl rfl) (lx (a8 qJ rfl bx264.t rfl) ?_)))))))))
  refine mi (h_c3/2) (lx (ad (v:=v48) (i:=h_c3/2) j6 rfl rfl o38.t.flat rfl (by omega) (by omega)) (lx (aw (v:=v48) (i:=h_c3/2) dA rfl o38.t.flat (by omega) (by omega) (by decide) rfl) (ab ?_)))
  by_cases p2_c8:(gI la_c3 (h_c3/2))=true
  ·
   refine ag rfl p2_c8 (a7 (a6 rfl (ai 0 (ma (vb false) (ab (az (vs:=[vi 0,vb false]) Tryz.func124 (.tmp rfl (.tmp rfl .nil)) ?_))))))
   refine⟨vt [vi 0,vb false],rfl,?_⟩
   refine mv (vt [vi 0,vb false]) (lx (ay rfl rfl) (lx (ay rfl rfl) (ai 0 (ma (vb false) (ab (a7 (a6 rfl (mv (vb false) (ab ?_)))))))))
   refine af rfl rfl (am (ak ?_))
   refine back2_c3 (path_c3_v,path_c3,ed_c3_v,ed_c3,co_c3,fo_c3,lo_c3,bl_c3,(List.set nx_c3 (Int.toNat u_c3) ((gI nx_c3 u_c3)+1)),la_c3,pl_c3,by_c3,g283) _ _ ⟨bH.t,zs0_c3,zs4_c3,Rg.t,bx5.t,bx10.t,bx15.t,o33.t,o36.t,bx348,o38.t,o39.t,bx59.t,bx264.t,bx269.t,bx273.t,o_path_c3.t,o_ed_c3.t,?_⟩ ?_
   · show gO g (gF g (bs pl_c1 lo_c1 by_c1 nx_c1 fo_c1 ed_c1 la_c1 bl_c1 co_c1) (v_c1:Int)) (bs pl_c3 lo_c3 by_c3 (List.set nx_c3 (Int.toNat u_c3) ((gI nx_c3 u_c3)+1)) fo_c3 ed_c3 la_c3 bl_c3 co_c3) path_c3
     exact And.left (hfr.skip hm hpz hn_u_c3.symm hnn heh ‹_›)
   · show cr g (bs pl_c3 lo_c3 by_c3 (List.set nx_c3 (Int.toNat u_c3) ((gI nx_c3 u_c3)+1)) fo_c3 ed_c3 la_c3 bl_c3 co_c3) path_c3<cr g (bs pl_c3 lo_c3 by_c3 nx_c3 fo_c3 ed_c3 la_c3 bl_c3 co_c3) path_c3
     exact And.right (hfr.skip hm hpz hn_u_c3.symm hnn heh ‹_›)
  refine af rfl (Bool.eq_false_iff.2 p2_c8) (am (a7 (a6 rfl (mv (vp b53 0) (lw (vp b53 0) (ae rfl) (lx (aa cO rfl rfl rfl rfl) (lx (a8 qJ rfl bx264.t rfl) (mi (h_c3/2) (lx (ad (v:=v48) (i:=h_c3/2) j6 rfl rfl o38.t.flat rfl (by omega) (by omega)) ?_)))))))))
  refine lo (aU (i:=h_c3/2) true dA rfl rfl o38.t (by omega) (by omega) rfl ?_)
  intro w350 ch351 bx352
  refine ab (a7 (a6 rfl (mv (vp b53 0) (mv (vp b53 0) (lw (vp b53 0) (ae rfl) (lx (aa cO rfl rfl rfl rfl) ?_))))))
  refine lx (a8 b9 rfl bx264.t rfl) (mi (h_c3/2) (lo (aq (α:=Int) g283 (is 18) (is 18) (18,0) rfl [h_c3/2] bF ap (by decide) (by decide) (vs:=[(0,vi (h_c3/2))]) rfl rfl (.cons rfl .nil) ?_)))
  intro g353 w354 v355 ch356 o357
  refine lo ?_
  refine aS (α:=Int) (xs:=ed_c3) (ys:=([h_c3/2])) g353 (J:=is 19) (S:=is 19) (19,0) rfl bF ap (by decide) rfl rfl rfl o_ed_c3.t o357.flat (by decide) (by(simp;omega)) ?_
  intro g358 w359 v360 ch361 o362
  refine lw (vp b53 0) (ae rfl) (lx (aa cO rfl rfl rfl rfl) (lo ?_))
  refine aC (cs':=[vi g.1,g_v,v43,v44,v45,v46,v47,vi fo_c3,v360,v48,v49,vi co_c3,Value.func (.func 121) #[] (List.toArray [vp b55 0])]) b9 rfl rfl bx264.t (aL o362.flat) nq (aM o362.flat) rfl ?_
  intro w363 ch364 bx365
  refine ab (a7 (aj (a7 ?_)))
  refine a6 rfl (mi w_c9 (mi u_c3 (lx (dd (m:=w_c9) (n:=u_c3) rfl rfl) (ma (vb (decide (w_c9=u_c3))) (ab ?_)))))
  by_cases p7_c8:w_c9=u_c3
  ·
   refine ag rfl (dt p7_c8) ?_
   have hlay:=hfi.lay (e:=h_c3/2) (by omega) (by omega) ‹_›
   have hxn:(ed_c3++[h_c3/2]).Nodup:=hlay.1.en
   have hxm:(h_c3/2)∈(ed_c3++[h_c3/2]):=by simp
   have hxe:∀x∈(ed_c3++[h_c3/2]),0<=x/\x<(g.2.length:Int):=λx hx=>(hlay.1.el x hx).1
   refine a6 rfl (mv (vp b53 0) (lw (vp b53 0) (ae rfl) (lx (aa cO rfl rfl rfl rfl) (lx (a8 lK rfl bx365 rfl) (mi (h_c3/2) (lo (aV (fW (fid:=121) (vals:=[vi (h_c3/2)]) (caps:=[vp b55 0]) rfl Tryz.func121 oA oB rfl) (ah Tryz.func121 rfl nq ?_))))))))
   refine a7 (a6 rfl ?_)
   refine lx (a8 bZ rfl bx59.t rfl) (lw (vp b53 0) (ae rfl) (lx (aa cO rfl rfl rfl rfl) (lx (a8 b9 rfl bx365 rfl) ?_)))
   have len369:=((o362.a ch364).flat).small
   refine lx (bG bF rfl o362.t.flat) (lx (da (m:=(List.length (ed_c3++[h_c3/2]):Int)) (n:=1) rfl rfl (by omega)) (ai ((List.length (ed_c3++[h_c3/2]):Int)-1) (ab (a7 (aj ?_)))))
   refine aR (σ:=Int×ax) (λ⟨at_c10,gq⟩ f w=>aW w0 gq w/\f 0=vi (h_c3/2)/\f 1=vp b55 0/\f 3=vi at_c10/\Sl gq (is 0) w g_v g.2/\Bx gq (is 1) w b3 [vi g.1,g_v]/\Bx gq (is 2) w b8 [vn,vn,vi 0]/\Bx gq (is 3) w b13 [vn,vn,vi 0]/\dr gq 6 w v43 O_c2/\Ow gq (is 9) (is 9) w v46 by_c3/\Ow gq (is 12) (is 12) w v49 bl_c3/\Bx gq (is 14) w b55 [vp b53 0]/\Ow gq (is 7) (is 7) w v44 pl_c3/\Ow gq (is 8) (is 8) w v45 lo_c3/\Ow gq (is 17) (is 17) w path_c3_v path_c3/\Ow gq (is 10) (is 10) w v47 (List.set nx_c3 (Int.toNat u_c3) ((gI nx_c3 u_c3)+1))/\Ow gq (is 11) (is 11) w v48 (List.set la_c3 (Int.toNat (h_c3/2)) true)/\Ow gq (is 19) (is 19) w v360 (ed_c3++[h_c3/2])/\Bx gq (is 13) w b53 [vi g.1,g_v,v43,v44,v45,v46,v47,vi fo_c3,v360,v48,v49,vi co_c3,Value.func (.func 121) #[] (List.toArray [vp b55 0])]/\(tQ (ed_c3++[h_c3/2]) (h_c3/2) at_c10)) (λ⟨at_c10,gq⟩=>Int.toNat at_c10) ((List.length (ed_c3++[h_c3/2]):Int)-1,g358) ?_ ?_
   · exact⟨bH.t,rfl,rfl,rfl,Rg.t,bx5.t,bx10.t,bx15.t,o33.t,o36.t,o39.t,bx59.t,bx269.t,bx273.t,o_path_c3.t,bx348.t,bx352.t,o362.t,bx365,by exact tQ.start hxn hxm⟩
   rintro⟨at_c10,g372⟩ f370 w371 ⟨bH,zs0_c10,zs1_c10,zs3_c10,Rg,bx5,bx10,bx15,o33,o36,o39,bx59,bx269,bx273,o_path_c3,bx348,bx352,o362,bx365,hat_c10⟩ back1_c10
   have hA1_c10:=hat_c10.lo
   have hA2_c10:=hat_c10.hi
   refine a7 (a7 (a6 rfl (lx (a8 bZ zs1_c10 bx59 rfl) (lw (vp b53 0) (ae rfl) (lx (aa cO rfl rfl rfl rfl) (lx (a8 b9 rfl bx365 rfl) (mz zs3_c10 (lx (ad (v:=v360) (i:=at_c10) bF rfl rfl o362.flat rfl (by omega) (by omega)) (lx (aw (v:=v360) (i:=at_c10) ap rfl o362.flat (by omega) (by omega) (by decide) rfl) ?_)))))))))
   refine mz zs0_c10 (lx (du (m:=(gI (ed_c3++[h_c3/2]) at_c10)) (n:=h_c3/2) rfl rfl) (ab ?_))
   by_cases p1_c10:(gI (ed_c3++[h_c3/2]) at_c10)=(h_c3/2)
   ·
    refine af rfl (congrArg Bool.not (dt p1_c10)) (aF rfl (a7 (a7 (a6 rfl (lx (a8 bZ zs1_c10 bx59 rfl) (lw (vp b53 0) (ae rfl) (lx (aa cO rfl rfl rfl rfl) (lx (a8 b9 rfl bx365 rfl) (mz zs3_c10 ?_)))))))))
    refine lw ((bP v360 1 (Int.toNat at_c10) (Int.toNat ((ed_c3++[h_c3/2]).length)))) (gJ (v:=v360) (l:=at_c10) (h:=(ed_c3++[h_c3/2]).length) bF rfl rfl o362.flat (.inl (congrArg some rfl)) (.inr ⟨rfl,rfl⟩) (by omega) (by omega) (by omega)) ?_
    have r374:=wU o362.flat (show Int.toNat at_c10<=Int.toNat ((ed_c3++[h_c3/2]).length) by omega) (show Int.toNat ((ed_c3++[h_c3/2]).length)<=List.length _ by omega)
    have len375:=(r374).small
    refine lx (bG bF rfl r374) (mi 0 (ab (aj ?_)))
    refine aR (σ:=Nat×(List Int)×ax) (λ⟨k_c10,bk_c10,gq⟩ f w=>aW w0 gq w/\f 1=vp b55 0/\f 3=vi at_c10/\f 28=(bP v360 1 (Int.toNat at_c10) (Int.toNat ((ed_c3++[h_c3/2]).length)))/\f 29=vi (List.length (List.drop (Int.toNat at_c10) (List.take (Int.toNat ((ed_c3++[h_c3/2]).length)) (ed_c3++[h_c3/2]))):Int)/\f 30=vi ↑k_c10/\Sl gq (is 0) w g_v g.2/\Bx gq (is 1) w b3 [vi g.1,g_v]/\Bx gq (is 2) w b8 [vn,vn,vi 0]/\Bx gq (is 3) w b13 [vn,vn,vi 0]/\dr gq 6 w v43 O_c2/\Ow gq (is 9) (is 9) w v46 by_c3/\Ow gq (is 12) (is 12) w v49 bk_c10/\Bx gq (is 14) w b55 [vp b53 0]/\Ow gq (is 7) (is 7) w v44 pl_c3/\Ow gq (is 8) (is 8) w v45 lo_c3/\Ow gq (is 17) (is 17) w path_c3_v path_c3/\Ow gq (is 10) (is 10) w v47 (List.set nx_c3 (Int.toNat u_c3) ((gI nx_c3 u_c3)+1))/\Ow gq (is 11) (is 11) w v48 (List.set la_c3 (Int.toNat (h_c3/2)) true)/\Ow gq (is 19) (is 19) w v360 (ed_c3++[h_c3/2])/\Bx gq (is 13) w b53 [vi g.1,g_v,v43,v44,v45,v46,v47,vi fo_c3,v360,v48,v49,vi co_c3,Value.func (.func 121) #[] (List.toArray [vp b55 0])]/\Sl gq (is 19) w (bP v360 1 (Int.toNat at_c10) (Int.toNat ((ed_c3++[h_c3/2]).length))) (List.drop (Int.toNat at_c10) (List.take (Int.toNat ((ed_c3++[h_c3/2]).length)) (ed_c3++[h_c3/2])))/\(k_c10:Int)<=((List.length (List.drop (Int.toNat at_c10) (List.take (Int.toNat ((ed_c3++[h_c3/2]).length)) (ed_c3++[h_c3/2]))):Int):Int)/\(bk_c10=vW (List.drop (Int.toNat at_c10) (List.take (Int.toNat (((ed_c3++[h_c3/2])).length:Int)) (ed_c3++[h_c3/2]))) bl_c3 co_c3 k_c10)) (λ⟨k_c10,bk_c10,gq⟩=>Int.toNat (((List.length (List.drop (Int.toNat at_c10) (List.take (Int.toNat ((ed_c3++[h_c3/2]).length)) (ed_c3++[h_c3/2]))):Int):Int)-(k_c10:Int))) (0,bl_c3,g372) ?_ ?_
    · exact⟨bH,zs1_c10,zs3_c10,rfl,rfl,rfl,Rg,bx5,bx10,bx15,o33,o36,o39,bx59,bx269,bx273,o_path_c3,bx348,bx352,o362,bx365,r374,by omega,by exact CV⟩
    rintro⟨k_c10,bk_c10,g378⟩ f376 w377 ⟨bH,zs1_c10,zs3_c10,zs28_c10,zs29_c10,zs30_c10,Rg,bx5,bx10,bx15,o33,o36,o39,bx59,bx269,bx273,o_path_c3,bx348,bx352,o362,bx365,r374,hle_k_c10,hbk_c10⟩ back4_c10
    have hbkl_c10:=tL hbk_c10
    refine a7 (a6 rfl (lx (br (m:=↑k_c10) (n:=(List.length (List.drop (Int.toNat at_c10) (List.take (Int.toNat ((ed_c3++[h_c3/2]).length)) (ed_c3++[h_c3/2]))):Int)) zs30_c10 zs29_c10) (ab (a7 ?_))))
    by_cases p4_c10:(k_c10:Int)<(List.length (List.drop (Int.toNat at_c10) (List.take (Int.toNat ((ed_c3++[h_c3/2]).length)) (ed_c3++[h_c3/2]))):Int)
    ·
     refine ag rfl (dt p4_c10) ?_
     have hei_c10:=hxe _ (List.mem_of_mem_take (List.mem_of_mem_drop (bz (xs:=(List.drop (Int.toNat at_c10) (List.take (Int.toNat (((ed_c3++[h_c3/2])).length:Int)) (ed_c3++[h_c3/2])))) (i:=↑k_c10) (by omega) (by omega))))
     refine am (a7 (aj (a7 (a6 rfl (lx (ad (v:=(bP v360 1 (Int.toNat at_c10) (Int.toNat ((ed_c3++[h_c3/2]).length)))) (i:=↑k_c10) bF rfl zs28_c10 r374 zs30_c10 (by omega) (by omega)) (lx (aw (v:=(bP v360 1 (Int.toNat at_c10) (Int.toNat ((ed_c3++[h_c3/2]).length)))) (i:=↑k_c10) ap rfl r374 (by omega) (by omega) (by decide) rfl) (ai (gI (List.drop (Int.toNat at_c10) (List.take (Int.toNat ((ed_c3++[h_c3/2]).length)) (ed_c3++[h_c3/2]))) (k_c10:Int)) (ab (bp g378 [0,1,2,3,4,5,6,7,8,9] e8 ?_)))))))))
     intro w380 ch379
     refine xv 0 [4,5,6,7,8] rfl (a8 bZ zs1_c10 bx59.t rfl) (xp (v:=vp b53 0) 1 rfl (λw=>ae rfl) (xp 2 rfl (λw=>aa cO rfl rfl rfl rfl) ?_))
     refine xv 3 [2,1,0,4,5,6,7,8] rfl (a8 b9 rfl bx365.t rfl) (xp (v:=vi (gI (List.drop (Int.toNat at_c10) (List.take (Int.toNat ((ed_c3++[h_c3/2]).length)) (ed_c3++[h_c3/2]))) (k_c10:Int))) 4 rfl (λw=>ar rfl) (xv 5 [4,3,2,1,0] rfl (a8 bZ zs1_c10 bx59.t rfl) (xp (v:=vp b53 0) 6 rfl (λw=>ae rfl) (xp 7 rfl (λw=>aa cO rfl rfl rfl rfl) (xv 8 [7,6,5,4,3,2,1,0] rfl (a8 ap rfl bx365.t rfl) ?_)))))
     refine xv 9 [8,7,6,5,4,3,2,1,0] rfl (ad (v:=v49) (i:=(gI (List.drop (Int.toNat at_c10) (List.take (Int.toNat ((ed_c3++[h_c3/2]).length)) (ed_c3++[h_c3/2]))) (k_c10:Int))) bF rfl rfl o39.t.flat rfl (by omega) (by omega)) (cE 10 rfl (aU (i:=(gI (List.drop (Int.toNat at_c10) (List.take (Int.toNat ((ed_c3++[h_c3/2]).length)) (ed_c3++[h_c3/2]))) (k_c10:Int))) co_c3 ap rfl rfl o39.t (by omega) (by omega) rfl ?_))
     intro w381 ch382 bx383
     refine bV (by kernel_rfl) (ak (a6 rfl (lx (aJ (m:=↑k_c10) (n:=1) zs30_c10 rfl (by omega)) (mi ((k_c10:Int)+1) (ab ?_)))))
     refine back4_c10 (k_c10+1,(List.set bk_c10 (Int.toNat (gI (List.drop (Int.toNat at_c10) (List.take (Int.toNat ((ed_c3++[h_c3/2]).length)) (ed_c3++[h_c3/2]))) (k_c10:Int))) co_c3),g378) _ _ ⟨bH.t,zs1_c10,zs3_c10,zs28_c10,zs29_c10,rfl,Rg.t,bx5.t,bx10.t,bx15.t,o33.t,o36.t,bx383,bx59.t,bx269.t,bx273.t,o_path_c3.t,bx348.t,bx352.t,o362.t,bx365.t,r374.t,by omega,?_⟩ ?_
     · show(List.set bk_c10 (Int.toNat (gI (List.drop (Int.toNat at_c10) (List.take (Int.toNat ((ed_c3++[h_c3/2]).length)) (ed_c3++[h_c3/2]))) (k_c10:Int))) co_c3)=vW (List.drop (Int.toNat at_c10) (List.take (Int.toNat (((ed_c3++[h_c3/2])).length:Int)) (ed_c3++[h_c3/2]))) bl_c3 co_c3 (k_c10+1)
       exact qC hbk_c10 ‹_›
     · show Int.toNat (_-_)<Int.toNat (_-_)
       omega
    refine af rfl (df p4_c10) (aF rfl (a7 ?_))
    refine bp g378 [0,1,2,3,4,5,6,7,8] e8 ?_
    intro w385 ch384
    refine xv 0 [1,5,2,3,4,6] rfl (a8 bZ zs1_c10 bx59.t rfl) (xv 1 [0,5] rfl (a8 bZ zs1_c10 bx59.t rfl) (xp (v:=vp b53 0) 2 rfl (λw=>ae rfl) (xp 3 rfl (λw=>aa cO rfl rfl rfl rfl) ?_)))
    refine xv 4 [3,2,1,0,5] rfl (a8 b9 rfl bx365.t rfl) (xp (v:=vi at_c10) 5 rfl (λw=>ar zs3_c10) ?_)
    refine xp (v:=(bP v360 1 (Int.toNat 0) (Int.toNat at_c10))) 6 rfl (λw=>gJ (v:=v360) (l:=0) (h:=at_c10) bF rfl rfl o362.t.flat (.inr ⟨rfl,rfl⟩) (.inl (congrArg some rfl)) (by omega) (by omega) (by omega)) ?_
    have r387:=kB (o362.a ch384) (show Int.toNat at_c10<=List.length _ by omega)
    refine xp (v:=vp b53 0) 7 rfl (λw=>ae rfl) (xp 8 rfl (λw=>aa cO rfl rfl rfl rfl) (cE 9 rfl (aC (cs':=[vi g.1,g_v,v43,v44,v45,v46,v47,vi fo_c3,(bP v360 1 (Int.toNat 0) (Int.toNat at_c10)),v48,v49,vi co_c3,Value.func (.func 121) #[] (List.toArray [vp b55 0])]) b9 rfl rfl bx365.t (aL r387.flat) nq (aM r387.flat) rfl ?_)))
    intro w388 ch389 bx390
    refine bV (by kernel_rfl) (a6 rfl ?_)
    refine lx (a8 bZ zs1_c10 bx59.t rfl) (lw (vp b53 0) (ae rfl) (lx (aa cO rfl rfl rfl rfl) (lx (a8 ap rfl bx390 rfl) (lx (aJ (m:=co_c3) (n:=1) rfl rfl (by omega)) (lw (vp b53 0) (ae rfl) (lx (aa cO rfl rfl rfl rfl) (lo (aA (cs':=[vi g.1,g_v,v43,v44,v45,v46,v47,vi fo_c3,(bP v360 1 (Int.toNat 0) (Int.toNat at_c10)),v48,v49,vi (co_c3+1),Value.func (.func 121) #[] (List.toArray [vp b55 0])]) ap rfl rfl bx390 rfl nq (AllOne.all (.cons rfl .nil)) rfl ?_))))))))
    intro w391 ch392 bx393
    refine ab (ck (vs:=[]) Tryz.func121 .nil ?_)
    refine⟨vt [],rfl,?_⟩
    refine ab (ak (a7 ?_))
    refine a6 rfl (ai 0 (ma (vb false) (ab (az (vs:=[vi 0,vb false]) Tryz.func124 (.tmp rfl (.tmp rfl .nil)) ?_))))
    refine⟨vt [vi 0,vb false],rfl,?_⟩
    refine mv (vt [vi 0,vb false]) (lx (ay rfl rfl) (lx (ay rfl rfl) (ai 0 (ma (vb false) (ab (a7 (a6 rfl (mv (vb false) (ab ?_)))))))))
    refine af rfl rfl (am (ak ?_))
    refine back2_c3 (path_c3_v,path_c3,(bP v360 1 (Int.toNat 0) (Int.toNat at_c10)),(List.take (Int.toNat at_c10) (ed_c3++[h_c3/2])),co_c3+1,fo_c3,lo_c3,bk_c10,(List.set nx_c3 (Int.toNat u_c3) ((gI nx_c3 u_c3)+1)),(List.set la_c3 (Int.toNat (h_c3/2)) true),pl_c3,by_c3,g378) _ _ ⟨bH.t,zs0_c3,zs4_c3,Rg.t,bx5.t,bx10.t,bx15.t,o33.t,o36.t,bx348.t,bx352.t,o39.t,bx59.t,bx393,bx269.t,bx273.t,o_path_c3.t,r387.t,?_⟩ ?_
    · show gO g (gF g (bs pl_c1 lo_c1 by_c1 nx_c1 fo_c1 ed_c1 la_c1 bl_c1 co_c1) (v_c1:Int)) (bs pl_c3 lo_c3 by_c3 (List.set nx_c3 (Int.toNat u_c3) ((gI nx_c3 u_c3)+1)) fo_c3 (List.take (Int.toNat at_c10) (ed_c3++[h_c3/2])) (List.set la_c3 (Int.toNat (h_c3/2)) true) bk_c10 (co_c3+1)) path_c3
      exact And.left (hfr.loop1 hm hpz hn_u_c3.symm hnn heh ‹_› (by unfold cF;omega) (lg ‹_› ‹_› ‹_› ‹_› ‹_›))
    · show cr g (bs pl_c3 lo_c3 by_c3 (List.set nx_c3 (Int.toNat u_c3) ((gI nx_c3 u_c3)+1)) fo_c3 (List.take (Int.toNat at_c10) (ed_c3++[h_c3/2])) (List.set la_c3 (Int.toNat (h_c3/2)) true) bk_c10 (co_c3+1)) path_c3<cr g (bs pl_c3 lo_c3 by_c3 nx_c3 fo_c3 ed_c3 la_c3 bl_c3 co_c3) path_c3
      exact And.right (hfr.loop1 hm hpz hn_u_c3.symm hnn heh ‹_› (by unfold cF;omega) (lg ‹_› ‹_› ‹_› ‹_› ‹_›))
   refine ag rfl (congrArg Bool.not (df p1_c10)) (am (aj (a6 rfl (mz zs3_c10 (lx (da (m:=at_c10) (n:=1) rfl rfl (by omega)) (ai (at_c10-1) (ab (ak ?_))))))))
   refine back1_c10 (at_c10-1,g372) _ _ ⟨bH.t,zs0_c10,zs1_c10,rfl,Rg,bx5,bx10,bx15,o33,o36,o39.t,bx59.t,bx269,bx273,o_path_c3,bx348,bx352,o362.t,bx365.t,?_⟩ ?_
   · show tQ (ed_c3++[h_c3/2]) (h_c3/2) (at_c10-1)
     exact(hat_c10.next ‹_›).1
   · show Int.toNat (at_c10-1)<Int.toNat at_c10
     (have:=(hat_c10.next ‹_›).2;omega)
  refine af rfl (df p7_c8) (a7 (a6 rfl (mv (vp b53 0) (lw (vp b53 0) (ae rfl) (lx (aa cO rfl rfl rfl rfl) (lx (a8 b9 rfl bx365.t rfl) (mi w_c9 ?_)))))))
  refine lx (ad (v:=v44) (i:=w_c9) bF rfl rfl bx269.t.flat rfl (by omega) (by omega)) (lx (aw (v:=v44) (i:=w_c9) ap rfl bx269.t.flat (by omega) (by omega) (by decide) rfl) (lx (dd (m:=(gI pl_c3 w_c9)) (n:=0) rfl rfl) (ma (vb (decide ((gI pl_c3 w_c9)=0))) (ab ?_))))
  by_cases p9_c8:(gI pl_c3 w_c9)=0
  ·
   refine ag rfl (dt p9_c8) (a7 (a6 rfl (mv (vp b53 0) (lw (vp b53 0) (ae rfl) (lx (aa cO rfl rfl rfl rfl) (lx (a8 b9 rfl bx365.t rfl) (mi w_c9 (mi h_c3 ?_))))))))
   refine lx (ad (v:=v46) (i:=w_c9) bF rfl rfl o36.t.flat rfl (by omega) (by omega)) (lo (aU (i:=w_c9) h_c3 ap rfl rfl o36.t (by omega) (by omega) rfl ?_))
   intro w396 ch397 bx398
   refine ab (a7 (a6 rfl (mv (vp b53 0) (mi w_c9 (lo (aV (aB (vals:=[vp b53 0,vi w_c9]) Tryz.func122 ow pd rfl) (ah Tryz.func122 rfl nq ?_)))))))
   refine a7 (a6 rfl (mv (vp b53 0) (lw (vp b53 0) (ae rfl) (lx (aa cO rfl rfl rfl rfl) ?_))))
   refine lx (a8 ap rfl bx365.t rfl) (lx (aJ (m:=fo_c3) (n:=1) rfl rfl (by omega)) (lw (vp b53 0) (ae rfl) (lx (aa cO rfl rfl rfl rfl) (lo (aA (cs':=[vi g.1,g_v,v43,v44,v45,v46,v47,vi (fo_c3+1),v360,v48,v49,vi co_c3,Value.func (.func 121) #[] (List.toArray [vp b55 0])]) ap rfl rfl bx365.t rfl nq (AllOne.all (.cons rfl .nil)) rfl ?_)))))
   intro w401 ch402 bx403
   refine ab (bp g358 [0,1,2,3,4,5,6,7,8,9,10,11,12,13,14,15,16,17,18,20] e8 ?_)
   intro w405 ch404
   refine xp (v:=vp b53 0) 0 rfl (λw=>ar rfl) (xp (v:=vp b53 0) 1 rfl (λw=>ae rfl) (xp 2 rfl (λw=>aa cO rfl rfl rfl rfl) ?_))
   refine xv 3 [2,1,0,4,5,9,10,14,6,11,15,7,12,16,8,13,17] rfl (a8 b9 rfl bx403.t rfl) (xp (v:=vi w_c9) 4 rfl (λw=>ar rfl) (xp (v:=vp b53 0) 5 rfl (λw=>ar rfl) (xp (v:=vp b53 0) 6 rfl (λw=>ae rfl) (xp 7 rfl (λw=>aa cO rfl rfl rfl rfl) (xv 8 [7,6,5,4,3,2,1,0,9,10,14,11,15,12,16,13,17] rfl (a8 b9 rfl bx403.t rfl) (xp (v:=vi w_c9) 9 rfl (λw=>ar rfl) (xp (v:=vp b53 0) 10 rfl (λw=>ar rfl) (xp (v:=vp b53 0) 11 rfl (λw=>ae rfl) (xp 12 rfl (λw=>aa cO rfl rfl rfl rfl) ?_)))))))))
   refine xv 13 [12,11,10,9,8,7,6,5,4,3,2,1,0,14,15,16,17] rfl (a8 ap rfl bx403.t rfl) (xp (v:=vp b53 0) 14 rfl (λw=>ar rfl) (xp (v:=vp b53 0) 15 rfl (λw=>ae rfl) (xp 16 rfl (λw=>aa cO rfl rfl rfl rfl) (xv 17 [16,15,14,13,12,11,10,9,8,7,6,5,4,3,2,1,0] rfl (a8 ap rfl bx403.t rfl) ?_))))
   refine xv 18 [17,16,15,14,13,12,11,10,9,8,7,6,5,4,3,2,1,0] rfl (ad (v:=v44) (i:=w_c9) bF rfl rfl bx269.t.flat rfl (by omega) (by omega)) (cE 19 rfl (aU (i:=w_c9) (fo_c3+1) ap rfl rfl bx269.t (by omega) (by omega) rfl ?_))
   intro w406 ch407 bx408
   refine xv 20 [19,18,17,16,15,14,13,12,11,10,9,8,7,6,5,4,3,2,1,0] rfl (ad (v:=v45) (i:=w_c9) bF rfl rfl bx273.t.flat rfl (by omega) (by omega)) (cE 21 rfl (aU (i:=w_c9) (fo_c3+1) ap rfl rfl bx273.t (by omega) (by omega) rfl ?_))
   intro w410 ch411 bx412
   refine bV (by kernel_rfl) (ck (vs:=[]) Tryz.func122 .nil ?_)
   refine⟨vt [],rfl,?_⟩
   refine ab (a7 (a6 rfl (mi w_c9 (ai w_c9 (ma (vb true) (ab (az (vs:=[vi w_c9,vb true]) Tryz.func124 (.tmp rfl (.tmp rfl .nil)) ?_)))))))
   refine⟨vt [vi w_c9,vb true],rfl,?_⟩
   refine mv (vt [vi w_c9,vb true]) (lx (ay rfl rfl) (lx (ay rfl rfl) (ai w_c9 (ma (vb true) (ab (a7 (a6 rfl (mv (vb true) (ab ?_)))))))))
   refine ag rfl rfl (a6 rfl (mz zs4_c3 (mi w_c9 (lo (aq (α:=Int) g358 (is 20) (is 20) (20,0) rfl [w_c9] bF ap (by decide) (by decide) (vs:=[(0,vi w_c9)]) rfl rfl (.cons rfl .nil) ?_)))))
   intro g413 w414 v415 ch416 o417
   refine lo ?_
   refine aS (α:=Int) (xs:=path_c3) (ys:=([w_c9])) g413 (J:=is 17) (S:=is 17) (17,0) rfl bF ap (by decide) rfl rfl rfl o_path_c3.t o417.flat (by decide) (by(simp;omega)) ?_
   intro g419 w420 v421 ch422 o423
   refine ma v421 (ab (ak ?_))
   refine back2_c3 (v421,(path_c3++[w_c9]),v360,(ed_c3++[h_c3/2]),co_c3,fo_c3+1,(List.set lo_c3 (Int.toNat w_c9) (fo_c3+1)),bl_c3,(List.set nx_c3 (Int.toNat u_c3) ((gI nx_c3 u_c3)+1)),(List.set la_c3 (Int.toNat (h_c3/2)) true),(List.set pl_c3 (Int.toNat w_c9) (fo_c3+1)),(List.set by_c3 (Int.toNat w_c9) h_c3),g419) _ _ ⟨bH.t,zs0_c3,rfl,Rg.t,bx5.t,bx10.t,bx15.t,o33.t,bx398.t,bx348.t,bx352.t,o39.t,bx59.t,bx403.t,bx408.t,bx412.t,o423,o362.t,?_⟩ ?_
   · show gO g (gF g (bs pl_c1 lo_c1 by_c1 nx_c1 fo_c1 ed_c1 la_c1 bl_c1 co_c1) (v_c1:Int)) (bs (List.set pl_c3 (Int.toNat w_c9) (fo_c3+1)) (List.set lo_c3 (Int.toNat w_c9) (fo_c3+1)) (List.set by_c3 (Int.toNat w_c9) h_c3) (List.set nx_c3 (Int.toNat u_c3) ((gI nx_c3 u_c3)+1)) (fo_c3+1) (ed_c3++[h_c3/2]) (List.set la_c3 (Int.toNat (h_c3/2)) true) bl_c3 co_c3) (path_c3++[w_c9])
     exact And.left (hfr.new hm hpz hn_u_c3.symm hnn heh ‹_› ‹_› ‹_› ‹_›)
   · show cr g (bs (List.set pl_c3 (Int.toNat w_c9) (fo_c3+1)) (List.set lo_c3 (Int.toNat w_c9) (fo_c3+1)) (List.set by_c3 (Int.toNat w_c9) h_c3) (List.set nx_c3 (Int.toNat u_c3) ((gI nx_c3 u_c3)+1)) (fo_c3+1) (ed_c3++[h_c3/2]) (List.set la_c3 (Int.toNat (h_c3/2)) true) bl_c3 co_c3) (path_c3++[w_c9])<cr g (bs pl_c3 lo_c3 by_c3 nx_c3 fo_c3 ed_c3 la_c3 bl_c3 co_c3) path_c3
     exact And.right (hfr.new hm hpz hn_u_c3.symm hnn heh ‹_› ‹_› ‹_› ‹_›)
  refine af rfl (df p9_c8) (bp g358 [0,1,2,3,4,5,6,7,8,9,10,11,12,13,14,15,16,17,18,19,20] e8 ?_)
  intro w429 ch428
  refine xp (v:=vp b53 0) 0 rfl (λw=>ar rfl) (xp (v:=vp b53 0) 1 rfl (λw=>ae rfl) (xp 2 rfl (λw=>aa cO rfl rfl rfl rfl) ?_))
  refine xv 3 [2,1,0,4,5,9,12,16,6,13,7,14,8,15,10,17,11,18,19] rfl (a8 b9 rfl bx365.t rfl) (xp (v:=vi u_c3) 4 rfl (λw=>ar rfl) (xp (v:=vp b53 0) 5 rfl (λw=>ar rfl) (xp (v:=vp b53 0) 6 rfl (λw=>ae rfl) (xp 7 rfl (λw=>aa cO rfl rfl rfl rfl) (xv 8 [7,6,5,4,3,2,1,0,9,12,16,13,14,15,17,18] rfl (a8 b9 rfl bx365.t rfl) (xp (v:=vi u_c3) 9 rfl (λw=>ar rfl) ?_))))))
  refine xv 10 [9,8,7,6,5,4,3,2,1,0,12,16,13,14,15,17,18] rfl (ad (v:=v45) (i:=u_c3) bF rfl rfl bx273.t.flat rfl (by omega) (by omega)) (xv 11 [10,9,8,7,6,5,4,3,2,1,0,12,16,13,14,15,17,18] rfl (aw (v:=v45) (i:=u_c3) ap rfl bx273.t.flat (by omega) (by omega) (by decide) rfl) (xp (v:=vp b53 0) 12 rfl (λw=>ar rfl) (xp (v:=vp b53 0) 13 rfl (λw=>ae rfl) (xp 14 rfl (λw=>aa cO rfl rfl rfl rfl) (xv 15 [14,13,12,11,10,9,8,7,6,5,4,3,2,1,0,16] rfl (a8 b9 rfl bx365.t rfl) (xp (v:=vi w_c9) 16 rfl (λw=>ar rfl) ?_))))))
  refine xv 17 [16,15,14,13,12,11,10,9,8,7,6,5,4,3,2,1,0] rfl (ad (v:=v44) (i:=w_c9) bF rfl rfl bx269.t.flat rfl (by omega) (by omega)) (xv 18 [17,16,15,14,13,12,11,10,9,8,7,6,5,4,3,2,1,0] rfl (aw (v:=v44) (i:=w_c9) ap rfl bx269.t.flat (by omega) (by omega) (by decide) rfl) (xp (v:=vi (min (gI lo_c3 u_c3) (gI pl_c3 w_c9))) 19 rfl (λw=>io rfl rfl) (xv 20 [19,18,17,16,15,14,13,12,11,10,9,8,7,6,5,4,3,2,1,0] rfl (ad (v:=v45) (i:=u_c3) bF rfl rfl bx273.t.flat rfl (by omega) (by omega)) (cE 21 rfl (aU (i:=u_c3) (min (gI lo_c3 u_c3) (gI pl_c3 w_c9)) ap rfl rfl bx273.t (by omega) (by omega) rfl ?_)))))
  intro w431 ch432 bx433
  refine bV (by kernel_rfl) (ak (a7 (a6 rfl (ai 0 (ma (vb false) (ab (az (vs:=[vi 0,vb false]) Tryz.func124 (.tmp rfl (.tmp rfl .nil)) ?_)))))))
  refine⟨vt [vi 0,vb false],rfl,?_⟩
  refine mv (vt [vi 0,vb false]) (lx (ay rfl rfl) (lx (ay rfl rfl) (ai 0 (ma (vb false) (ab (a7 (a6 rfl (mv (vb false) (ab ?_)))))))))
  refine af rfl rfl (am (ak ?_))
  refine back2_c3 (path_c3_v,path_c3,v360,(ed_c3++[h_c3/2]),co_c3,fo_c3,(List.set lo_c3 (Int.toNat u_c3) (min (gI lo_c3 u_c3) (gI pl_c3 w_c9))),bl_c3,(List.set nx_c3 (Int.toNat u_c3) ((gI nx_c3 u_c3)+1)),(List.set la_c3 (Int.toNat (h_c3/2)) true),pl_c3,by_c3,g358) _ _ ⟨bH.t,zs0_c3,zs4_c3,Rg.t,bx5.t,bx10.t,bx15.t,o33.t,o36.t,bx348.t,bx352.t,o39.t,bx59.t,bx365.t,bx269.t,bx433,o_path_c3.t,o362.t,?_⟩ ?_
  · show gO g (gF g (bs pl_c1 lo_c1 by_c1 nx_c1 fo_c1 ed_c1 la_c1 bl_c1 co_c1) (v_c1:Int)) (bs pl_c3 (List.set lo_c3 (Int.toNat u_c3) (min (gI lo_c3 u_c3) (gI pl_c3 w_c9))) by_c3 (List.set nx_c3 (Int.toNat u_c3) ((gI nx_c3 u_c3)+1)) fo_c3 (ed_c3++[h_c3/2]) (List.set la_c3 (Int.toNat (h_c3/2)) true) bl_c3 co_c3) path_c3
    exact And.left (hfr.back hm hpz hn_u_c3.symm hnn heh ‹_› ‹_› ‹_› ‹_›)
  · show cr g (bs pl_c3 (List.set lo_c3 (Int.toNat u_c3) (min (gI lo_c3 u_c3) (gI pl_c3 w_c9))) by_c3 (List.set nx_c3 (Int.toNat u_c3) ((gI nx_c3 u_c3)+1)) fo_c3 (ed_c3++[h_c3/2]) (List.set la_c3 (Int.toNat (h_c3/2)) true) bl_c3 co_c3) path_c3<cr g (bs pl_c3 lo_c3 by_c3 nx_c3 fo_c3 ed_c3 la_c3 bl_c3 co_c3) path_c3
    exact And.right (hfr.back hm hpz hn_u_c3.symm hnn heh ‹_› ‹_› ‹_› ‹_›)
 refine af rfl (df p2_c3) (aF rfl (ck (vs:=[]) Tryz.func95 .nil ?_))
 refine⟨(fo_c3,ed_c3_v,ed_c3,co_c3,pl_c3,lo_c3,by_c3,nx_c3,la_c3,bl_c3,g283),rfl,bH.t,Rg.t,bx5,bx10,bx15,o33.t,bx269.t,bx273.t,o36.t,o37.t,o38.t,o39.t,bx59.t,bx264.t,o_ed_c3.t,?_⟩
 show(bs pl_c3 lo_c3 by_c3 nx_c3 fo_c3 ed_c3 la_c3 bl_c3 co_c3)=gF g (bs pl_c1 lo_c1 by_c1 nx_c1 fo_c1 ed_c1 la_c1 bl_c1 co_c1) (v_c1:Int)
 exact hfr.fin (by omega)
end TL
