import Derived.Test.YtkhfimgjcdeejaaTlP1
import Derived.Test.YtkhfimgjcdeejaaTlGmA
import Derived.Test.YtkhfimgjcdeejaaTlGenA
import Derived.Test.YtkhfimgjcdeejaaTlGjC
import Derived.Test.YtkhfimgjcdeejaaTlMmA
import Derived.Test.YtkhfimgjcdeejaaTlMmB
import Derived.Test.YtkhfimgjcdeejaaProg
import Derived.Test.YtkhfimgjcdeejaaTlAli
set_option linter.all false
set_option maxRecDepth 20000
namespace TL
open Go Go.Proofs
theorem bV:Try.prog.follows .mixedOrders=true:=by kernel_rfl
theorem aH:Tp Try.prog 32 true 7 56 (.agg #[.float .f64 0,.float .f64 0,.float .f64 0,.float .f64 0,.float .f64 0,.float .f64 0,.float .f64 0]):=Tp.of (by kernel_rfl)
theorem cd:Tp Try.prog 67 false 1 8 (.pointer none):=Tp.of (by kernel_rfl)
theorem lG:Try.f24.body.isNone=false:=rfl
theorem li:(Try.f24.name== "runtime.NumGoroutine")=false:=by decide+kernel
theorem cm:Try.f26.body.isNone=false:=rfl
theorem cl:(Try.f26.name== "runtime.NumGoroutine")=false:=by decide+kernel
set_option maxHeartbeats 4000000 in
theorem bN(w0:World)(g:(Int)×(List Pt))(g_v:Value)(hg_v:Ro w0 g_v g.2)(p:(List Pt)×(List (List Pt)))(p_v p_v1:Value)(hp_v:Ro w0 p_v p.1)(hp_v1:Ro w0 p_v1 p.2)(hfin:aL g p=0->∀k:Int,gI (aC p) k<aD):
    Calls Try.prog 8 #[vg [vi g.1,g_v],vg [p_v,p_v1]] w0 (λee w=>ee= .returned (vt [vg [Value.float .f64 (((a9 g p).1).1),Value.float .f64 ((((a9 g p).1).2).1),Value.float .f64 (((((a9 g p).1).2).2).1),Value.float .f64 ((((((a9 g p).1).2).2).2).1),Value.float .f64 (((((((a9 g p).1).2).2).2).2).1),Value.float .f64 ((((((((a9 g p).1).2).2).2).2).2).1),Value.float .f64 ((((((((a9 g p).1).2).2).2).2).2).2)],vi ((a9 g p).2)])/\cA w0.heap.size w0 w):=by
 refine aR Try.func8 rfl nq ?_
 have bH:=bu.start w0
 have Rg:=hg_v.sl
 have Rp:=hp_v.sl
 have r_p_v1:=hp_v1.sl
 refine a5 (a0 rfl (cq rfl (cD c0 (is 1) (1,0) rfl rfl ?_)))
 intro g4 w1 b3 ch2 bx5
 replace bx5:Bx g4 (is 1) w1 b3 [vi g.1,g_v]:=bx5
 refine lo (cD g4 (is 2) (2,0) rfl rfl ?_)
 intro g9 w6 b8 ch7 bx10
 replace bx10:Bx g9 (is 2) w6 b8 [p_v,p_v1]:=bx10
 refine lo (bc g9 (is 3) (3,0) rfl aH ?_)
 intro g14 w11 b13 ch12 bx15
 replace bx15:Bx g14 (is 3) w11 b13 [Value.float .f64 0,Value.float .f64 0,Value.float .f64 0,Value.float .f64 0,Value.float .f64 0,Value.float .f64 0,Value.float .f64 0]:=bx15
 refine ai 0 (aa (a5 (a5 (a0 rfl ?_))))
 replace bx5:=(bx5.cn ch7).cn ch12
 refine lx (ah (ds:=[vi g.1,g_v]) bm rfl bx5 rfl rfl) ?_
 replace bx10:=bx10.cn ch12
 refine lx (ah (ds:=[p_v,p_v1]) bg rfl bx10 rfl rfl) ?_
 have C16:=cg [] (ch2.n.seq (ch7.n.seq ch12.n))
 replace Rg:=Rg.ca C16
 replace Rp:=Rp.ca C16
 replace r_p_v1:=r_p_v1.ca C16
 refine lo (aG (v:=vi (aL g p)) (aB (vals:=[vg [vi g.1,g_v],vg [p_v,p_v1]]) Try.func22 fE fH rfl) (ef w11 g g_v (Rg).ro p p_v p_v1 (Rp).ro (r_p_v1).ro) ?_)
 intro w17 hb18
 replace hb18:=af hb18 g14
 refine ai (aL g p) (aa (a5 (a0 rfl (mi (aL g p) (lx (ew (m:=aL g p) (n:=0) rfl rfl) (aa ?_))))))
 by_cases p2:(aL g p)=0
 ·
  have hf0:aL g p=0:=p2
  obtain⟨hm,hs,hlp⟩:=gS hf0
  have hs2:=hs.m
  have hm0:=hm
  obtain⟨hm1,hm2,hm3,hm4⟩:=hm0
  have hfi:=hfin hf0
  have hnn:=j5 p
  have hwd:=lu hs hlp
  obtain⟨⟨⟨hw1,hw2⟩,hw3,hw4⟩,hw5,hw6⟩:=hwd
  refine al rfl (congrArg Bool.not (dt p2)) (az (a5 (a0 rfl ?_)))
  replace bx10:=bx10.cn hb18
  refine lx (ah (ds:=[p_v,p_v1]) bg rfl bx10 rfl rfl) ?_
  replace Rp:=Rp.cn hb18
  replace r_p_v1:=r_p_v1.cn hb18
  refine lo (eh (aB (vals:=[vg [p_v,p_v1]]) Try.func23 iT jq rfl) (fX w17 p p_v p_v1 (Rp).ro (r_p_v1).ro (by exact λe h0 h1=>⟨(hs.ln e h0 h1).2,(hs.ln e h0 h1).1⟩) (by omega)) ?_)
  rintro⟨d20,v22⟩ w19 ⟨fr21,o23⟩
  obtain⟨g24,ch25,G24⟩:=n5 g14 fr21 (λn=>if n=1 then 4 else 0)
  replace o23:=o23.gl G24 4
  refine ma v22 (aa (a5 (a0 rfl (cq rfl (aG (v:=Value.float .f64 aD) (aB (vals:=[vi 1]) Try.func24 lG li rfl) (mN w19 1 (by omega)) ?_)))))
  intro w26 hb27
  replace hb27:=af hb27 g24
  refine lw (vg [Value.float .f64 0,Value.float .f64 0,Value.float .f64 aD,Value.float .f64 0,Value.float .f64 0,Value.float .f64 0,Value.float .f64 0]) (b6 (vs:=[(2,Value.float .f64 aD)]) rfl (by kernel_rfl)) (lo (bc g24 (is 5) (5,0) rfl aH ?_))
  intro g31 w28 b30 ch29 bx32
  replace bx32:Bx g31 (is 5) w28 b30 [Value.float .f64 0,Value.float .f64 0,Value.float .f64 0,Value.float .f64 0,Value.float .f64 0,Value.float .f64 0,Value.float .f64 0]:=bx32
  refine lo (ae (cs':=[Value.float .f64 0,Value.float .f64 0,Value.float .f64 aD,Value.float .f64 0,Value.float .f64 0,Value.float .f64 0,Value.float .f64 0]) aH rfl rfl bx32 rfl nq (AllOne.all (.cons rfl (.cons rfl (.cons rfl (.cons rfl (.cons rfl (.cons rfl (.cons rfl .nil)))))))) rfl ?_)
  intro w33 ch34 bx35
  clear bx32
  refine aa (a5 (a5 (a0 rfl (mv v22 ?_))))
  have C36:=cg [5] (hb27.n.seq (ch29.n.seq (ch34.l rfl)))
  replace o23:=o23.ca C36
  have len37:=(o23.flat).small
  refine lx (bM lc rfl o23.flat) (mi 0 (aa (aE ?_)))
  refine bF (σ:=Fb×Fb×Fb×Nat×aT) (λ⟨sm,mn,mx,k,gq⟩ f w=>bu w0 gq w/\f 2=vp b3 0/\f 3=vp b8 0/\f 4=vp b13 0/\f 7=v22/\f 8=vp b30 0/\f 30=v22/\f 31=vi (List.length (aC p):Int)/\f 32=vi ↑k/\Sl gq (is 0) w g_v g.2/\Sl gq (is 0) w p_v p.1/\Sl gq (is 0) w p_v1 p.2/\Bx gq (is 1) w b3 [vi g.1,g_v]/\Bx gq (is 2) w b8 [p_v,p_v1]/\Bx gq (is 3) w b13 [Value.float .f64 0,Value.float .f64 0,Value.float .f64 0,Value.float .f64 0,Value.float .f64 0,Value.float .f64 0,Value.float .f64 0]/\Ow gq (is 4) (is 4) w v22 (aC p)/\Bx gq (is 5) w b30 [Value.float .f64 sm,Value.float .f64 0,Value.float .f64 mn,Value.float .f64 mx,Value.float .f64 0,Value.float .f64 0,Value.float .f64 0]/\(k:Int)<=((List.length (aC p):Int):Int)/\((sm=fh (aC p) k/\sm<=aD)/\(mn=gc (aC p) k/\mn<=aD)/\mx=fM (aC p) k/\mx<=aD)) (λ⟨sm,mn,mx,k,gq⟩=>Int.toNat (((List.length (aC p):Int):Int)-(k:Int))) (0,aD,0,0,g31) ?_ ?_
  have C40:=cg [5] (ch25.n.seq (hb27.n.seq (ch29.n.seq (ch34.l rfl))))
  have C39:=hb18.n.seq C40
  have C38:=ch2.n.seq (ch7.n.seq (ch12.n.seq C39))
  · exact⟨bH.ca C38,rfl,rfl,rfl,rfl,rfl,rfl,rfl,rfl,Rg.ca C39,Rp.ca C40,r_p_v1.ca C40,bx5.ca C39,bx10.ca C40,bx15.ca C39,o23,bx35,by omega,by exact⟨⟨rfl,by decide⟩,⟨rfl,by decide⟩,rfl,by decide⟩⟩
  clear Rg Rp r_p_v1 bx5 bx10 bx15 o23 bx35 bH
  rintro⟨sm,mn,mx,k,g43⟩ f41 w42 ⟨bH,zs2,zs3,zs4,zs7,zs8,zs30,zs31,zs32,Rg,Rp,r_p_v1,bx5,bx10,bx15,o23,bx35,hle_k,hk⟩ back7
  obtain⟨⟨hk1,hk2⟩,⟨hk3,hk4⟩,hk5,hk6⟩:=hk
  refine a5 (a0 rfl (lx (bd (m:=↑k) (n:=(List.length (aC p):Int)) zs32 zs31) (aa (a5 ?_))))
  by_cases p7:(k:Int)<(List.length (aC p):Int)
  ·
   refine aj rfl (dt p7) ?_
   have hx:=hnn (k:Int)
   refine az (a5 (aE (a5 (a0 rfl (lx (ab (v:=v22) (i:=↑k) lc rfl zs30 o23.flat zs32 (by omega) (by omega)) (lx (eF (v:=v22) (i:=↑k) ag rfl o23.flat (by omega) (by omega) (by decide) rfl) (ma (Value.float .f64 (gI (aC p) (k:Int))) (aa (a5 (a0 rfl (lx (a6 bT rfl rfl zs8 rfl) (lx (a7 ag rfl bx35 rfl) ?_))))))))))))
   refine mv (Value.float .f64 (gI (aC p) (k:Int))) (lw (Value.float .f64 (cr sm (gI (aC p) (k:Int)))) (iJ (a:=sm) (b:=(gI (aC p) (k:Int))) rfl rfl (e9 ‹_› ‹_›).1) ?_)
   have nn44:cr sm (gI (aC p) (k:Int))<=aD:=(e9 (x:=sm) (y:=(gI (aC p) (k:Int))) ‹_› ‹_›).2
   refine lx (a6 bT rfl rfl zs8 rfl) (lo (ae (cs':=[Value.float .f64 (cr sm (gI (aC p) (k:Int))),Value.float .f64 0,Value.float .f64 mn,Value.float .f64 mx,Value.float .f64 0,Value.float .f64 0,Value.float .f64 0]) ag rfl rfl bx35 rfl nq (AllOne.all (.cons rfl .nil)) rfl ?_))
   intro w45 ch46 bx47
   clear bx35
   refine aa (a0 rfl (lx (a6 bT rfl rfl zs8 rfl) (lx (a7 ag rfl bx47 rfl) (mv (Value.float .f64 (gI (aC p) (k:Int))) (lw (Value.float .f64 (min mn (gI (aC p) (k:Int)))) (m0 (a:=mn) (b:=(gI (aC p) (k:Int))) rfl rfl ‹_› ‹_›) ?_)))))
   have nn48:min mn (gI (aC p) (k:Int))<=aD:=Nat.le_trans (Nat.min_le_left _ _) ‹_›
   refine lx (a6 bT rfl rfl zs8 rfl) (lx (a7 ag rfl bx47 rfl) (mv (Value.float .f64 (gI (aC p) (k:Int))) (lw (Value.float .f64 (max mx (gI (aC p) (k:Int)))) (mw (a:=mx) (b:=(gI (aC p) (k:Int))) rfl rfl ‹_› ‹_›) ?_)))
   have nn49:max mx (gI (aC p) (k:Int))<=aD:=Nat.max_le.2 ⟨‹_›,‹_›⟩
   refine lx (a6 bT rfl rfl zs8 rfl) (lo (ae (cs':=[Value.float .f64 (cr sm (gI (aC p) (k:Int))),Value.float .f64 0,Value.float .f64 (min mn (gI (aC p) (k:Int))),Value.float .f64 mx,Value.float .f64 0,Value.float .f64 0,Value.float .f64 0]) ag rfl rfl bx47 rfl nq (AllOne.all (.cons rfl .nil)) rfl ?_))
   intro w50 ch51 bx52
   clear bx47
   refine lx (a6 bT rfl rfl zs8 rfl) (lo (ae (cs':=[Value.float .f64 (cr sm (gI (aC p) (k:Int))),Value.float .f64 0,Value.float .f64 (min mn (gI (aC p) (k:Int))),Value.float .f64 (max mx (gI (aC p) (k:Int))),Value.float .f64 0,Value.float .f64 0,Value.float .f64 0]) ag rfl rfl bx52 rfl nq (AllOne.all (.cons rfl .nil)) rfl ?_))
   intro w53 ch54 bx55
   clear bx52
   refine aa (au (a0 rfl (lx (bb (m:=↑k) (n:=1) zs32 rfl (by omega)) (mi ((k:Int)+1) (aa ?_)))))
   have C56:=cg [5] ((ch46.l rfl).seq ((ch51.l rfl).seq (ch54.l rfl)))
   refine back7 (cr sm (gI (aC p) (k:Int)),min mn (gI (aC p) (k:Int)),max mx (gI (aC p) (k:Int)),k+1,g43) _ _ ⟨bH.ca C56,zs2,zs3,zs4,zs7,zs8,zs30,zs31,rfl,Rg.ca C56,Rp.ca C56,r_p_v1.ca C56,bx5.ca C56,bx10.ca C56,bx15.ca C56,o23.ca C56,bx55,by omega,?_⟩ ?_
   · show((cr sm (gI (aC p) (k:Int)))=fh (aC p) (k+1)/\(cr sm (gI (aC p) (k:Int)))<=aD)/\((min mn (gI (aC p) (k:Int)))=gc (aC p) (k+1)/\(min mn (gI (aC p) (k:Int)))<=aD)/\(max mx (gI (aC p) (k:Int)))=fM (aC p) (k+1)/\(max mx (gI (aC p) (k:Int)))<=aD
     exact⟨⟨by rw[hk1];rfl,by assumption⟩,⟨by rw[hk3];rfl,by assumption⟩,by rw[hk5];rfl,by assumption⟩
   · show Int.toNat (((List.length (aC p):Int):Int)-((k+1):Int))<Int.toNat (((List.length (aC p):Int):Int)-(k:Int))
     omega
  refine al rfl (df p7) (aZ rfl (a5 (a0 rfl (mz zs7 (lx (bM lc rfl o23.flat) (lw (Value.float .f64 (ak (List.length (aC p):Int))) (j6 (m:=(List.length (aC p):Int)) U3 nA rfl) ?_))))))
  have nn57:ak (List.length (aC p):Int)<=aD:=eU (by omega)
  refine ma (Value.float .f64 (ak (List.length (aC p):Int))) (aa (a5 ?_))
  have hS:sm=fh (aC p) (aC p).length:=by rw[hk1];congr 1;omega
  have hv58:∀v,Ieee.double.div sm (ak ((aC p).length:Int))=some v->v<=aD:=λv=>iC ‹_› ‹_›
  have hv64:∀v,Ieee.double.div mx mn=some v->v<=aD:=λv=>iC ‹_› ‹_›
  refine a0 rfl (lx (a6 bT rfl rfl zs8 rfl) (lx (a7 ag rfl bx35 rfl) (mv (Value.float .f64 (ak (List.length (aC p):Int))) (lo (iq g43 (a:=sm) (b:=(ak (List.length (aC p):Int))) rfl rfl ?_)))))
  intro fq58 w58 ch59 hfq58
  refine lx (a6 bT rfl rfl zs8 rfl) (lo ?_)
  replace bx35:=bx35.cn ch59
  refine ae (cs':=[Value.float .f64 sm,Value.float .f64 fq58,Value.float .f64 mn,Value.float .f64 mx,Value.float .f64 0,Value.float .f64 0,Value.float .f64 0]) ag rfl rfl bx35 rfl nq (AllOne.all (.cons rfl .nil)) rfl ?_
  intro w60 ch61 bx62
  clear bx35
  refine aa (a5 (a0 rfl (lx (a6 bT rfl rfl zs8 rfl) (lx (a7 ag rfl bx62 rfl) (lx (a6 bT rfl rfl zs8 rfl) (lx (a7 ag rfl bx62 rfl) (lo (iq g43 (a:=mx) (b:=mn) rfl rfl ?_))))))))
  intro fq64 w63 ch64 hfq64
  refine lx (a6 bT rfl rfl zs8 rfl) (lo ?_)
  replace bx62:=bx62.cn ch64
  refine ae (cs':=[Value.float .f64 sm,Value.float .f64 fq58,Value.float .f64 mn,Value.float .f64 mx,Value.float .f64 fq64,Value.float .f64 0,Value.float .f64 0]) ag rfl rfl bx62 rfl nq (AllOne.all (.cons rfl .nil)) rfl ?_
  intro w65 ch66 bx67
  clear bx62
  refine aa (a5 (a5 (a0 rfl (mz zs7 ?_))))
  have C68:=cg [5] (ch59.n.seq ((ch61.l rfl).seq (ch64.n.seq (ch66.l rfl))))
  replace o23:=o23.ca C68
  refine lx (bM lc rfl o23.flat) (mi 0 (aa (aE ?_)))
  refine bF (σ:=Fb×Nat×aT) (λ⟨sp,j,gq⟩ f w=>bu w0 gq w/\f 2=vp b3 0/\f 3=vp b8 0/\f 4=vp b13 0/\f 8=vp b30 0/\f 11=Value.float .f64 (ak (List.length (aC p):Int))/\f 66=v22/\f 67=vi (List.length (aC p):Int)/\f 68=vi ↑j/\Sl gq (is 0) w g_v g.2/\Sl gq (is 0) w p_v p.1/\Sl gq (is 0) w p_v1 p.2/\Bx gq (is 1) w b3 [vi g.1,g_v]/\Bx gq (is 2) w b8 [p_v,p_v1]/\Bx gq (is 3) w b13 [Value.float .f64 0,Value.float .f64 0,Value.float .f64 0,Value.float .f64 0,Value.float .f64 0,Value.float .f64 0,Value.float .f64 0]/\Ow gq (is 4) (is 4) w v22 (aC p)/\Bx gq (is 5) w b30 [Value.float .f64 sm,Value.float .f64 fq58,Value.float .f64 mn,Value.float .f64 mx,Value.float .f64 fq64,Value.float .f64 sp,Value.float .f64 0]/\(j:Int)<=((List.length (aC p):Int):Int)/\(sp=mt fq58 (aC p) j/\sp<=aD)) (λ⟨sp,j,gq⟩=>Int.toNat (((List.length (aC p):Int):Int)-(j:Int))) (0,0,g43) ?_ ?_
  · exact⟨bH.ca C68,zs2,zs3,zs4,zs8,rfl,rfl,rfl,rfl,Rg.ca C68,Rp.ca C68,r_p_v1.ca C68,bx5.ca C68,bx10.ca C68,bx15.ca C68,o23,bx67,by omega,by exact⟨rfl,by decide⟩⟩
  clear Rg Rp r_p_v1 bx5 bx10 bx15 o23 bx67 bH
  rintro⟨sp,j,g71⟩ f69 w70 ⟨bH,zs2,zs3,zs4,zs8,zs11,zs66,zs67,zs68,Rg,Rp,r_p_v1,bx5,bx10,bx15,o23,bx67,hle_j,hj⟩ back16
  obtain⟨hj1,hj2⟩:=hj
  refine a5 (a0 rfl (lx (bd (m:=↑j) (n:=(List.length (aC p):Int)) zs68 zs67) (aa (a5 ?_))))
  by_cases p16:(j:Int)<(List.length (aC p):Int)
  ·
   refine aj rfl (dt p16) ?_
   obtain⟨hM1,hM2⟩:=i2 hnn hS hfq58 (by omega) (by omega)
   refine az (a5 (aE (a5 (a0 rfl (lx (ab (v:=v22) (i:=↑j) lc rfl zs66 o23.flat zs68 (by omega) (by omega)) (lx (eF (v:=v22) (i:=↑j) ag rfl o23.flat (by omega) (by omega) (by decide) rfl) (ma (Value.float .f64 (gI (aC p) (j:Int))) (aa (a5 (a0 rfl (mv (Value.float .f64 (gI (aC p) (j:Int))) (lx (a6 bT rfl rfl zs8 rfl) ?_))))))))))))
   refine lx (a7 ag rfl bx67 rfl) (lw (Value.float .f64 (cF (gI (aC p) (j:Int)) fq58)) (mY (a:=(gI (aC p) (j:Int))) (b:=fq58) rfl rfl (jU (by exact hfi _) ‹_›)) ?_)
   have nn72:ng (cF (gI (aC p) (j:Int)) fq58):=kM (x:=(gI (aC p) (j:Int))) (y:=fq58) (by exact hfi _) ‹_›
   refine ma (Value.float .f64 (cF (gI (aC p) (j:Int)) fq58)) (aa (a0 rfl (lx (a6 bT rfl rfl zs8 rfl) (lx (a7 ag rfl bx67 rfl) (mv (Value.float .f64 (cF (gI (aC p) (j:Int)) fq58)) (mv (Value.float .f64 (cF (gI (aC p) (j:Int)) fq58)) (lw (Value.float .f64 (eM (cF (gI (aC p) (j:Int)) fq58) (cF (gI (aC p) (j:Int)) fq58))) (m5 (a:=(cF (gI (aC p) (j:Int)) fq58)) (b:=(cF (gI (aC p) (j:Int)) fq58)) rfl rfl (lT ‹_›).1) ?_)))))))
   have nn73:eM (cF (gI (aC p) (j:Int)) fq58) (cF (gI (aC p) (j:Int)) fq58)<=aD:=(lT (x:=(cF (gI (aC p) (j:Int)) fq58)) ‹_›).2
   refine lw (Value.float .f64 (cr sp (eM (cF (gI (aC p) (j:Int)) fq58) (cF (gI (aC p) (j:Int)) fq58)))) (iJ (a:=sp) (b:=(eM (cF (gI (aC p) (j:Int)) fq58) (cF (gI (aC p) (j:Int)) fq58))) rfl rfl (e9 ‹_› ‹_›).1) ?_
   have nn74:cr sp (eM (cF (gI (aC p) (j:Int)) fq58) (cF (gI (aC p) (j:Int)) fq58))<=aD:=(e9 (x:=sp) (y:=(eM (cF (gI (aC p) (j:Int)) fq58) (cF (gI (aC p) (j:Int)) fq58))) ‹_› ‹_›).2
   refine lx (a6 bT rfl rfl zs8 rfl) (lo (ae (cs':=[Value.float .f64 sm,Value.float .f64 fq58,Value.float .f64 mn,Value.float .f64 mx,Value.float .f64 fq64,Value.float .f64 (cr sp (eM (cF (gI (aC p) (j:Int)) fq58) (cF (gI (aC p) (j:Int)) fq58))),Value.float .f64 0]) ag rfl rfl bx67 rfl nq (AllOne.all (.cons rfl .nil)) rfl ?_))
   intro w75 ch76 bx77
   clear bx67
   refine aa (au (a0 rfl (lx (bb (m:=↑j) (n:=1) zs68 rfl (by omega)) (mi ((j:Int)+1) (aa ?_)))))
   refine back16 (cr sp (eM (cF (gI (aC p) (j:Int)) fq58) (cF (gI (aC p) (j:Int)) fq58)),j+1,g71) _ _ ⟨bH.ce ch76,zs2,zs3,zs4,zs8,zs11,zs66,zs67,rfl,Rg.ce ch76,Rp.ce ch76,r_p_v1.ce ch76,bx5.ce ch76,bx10.ce ch76,bx15.ce ch76,o23.ce ch76,bx77,by omega,?_⟩ ?_
   · show(cr sp (eM (cF (gI (aC p) (j:Int)) fq58) (cF (gI (aC p) (j:Int)) fq58)))=mt fq58 (aC p) (j+1)/\(cr sp (eM (cF (gI (aC p) (j:Int)) fq58) (cF (gI (aC p) (j:Int)) fq58)))<=aD
     exact⟨by rw[hj1];rfl,by assumption⟩
   · show Int.toNat (((List.length (aC p):Int):Int)-((j+1):Int))<Int.toNat (((List.length (aC p):Int):Int)-(j:Int))
     omega
  refine al rfl (df p16) (aZ rfl (a5 ?_))
  clear o23
  have hv87:∀v,Ieee.double.div sp (ak ((aC p).length:Int))=some v->v<=aD:=λv=>iC ‹_› ‹_›
  refine a0 rfl (lx (a6 bT rfl rfl zs8 rfl) (lx (a7 ag rfl bx67 rfl) (mz zs11 (lo (iq g71 (a:=sp) (b:=(ak (List.length (aC p):Int))) rfl rfl ?_)))))
  intro fq87 w78 ch79 hfq87
  refine lx (a6 bT rfl rfl zs8 rfl) (lo ?_)
  replace bx67:=bx67.cn ch79
  refine ae (cs':=[Value.float .f64 sm,Value.float .f64 fq58,Value.float .f64 mn,Value.float .f64 mx,Value.float .f64 fq64,Value.float .f64 fq87,Value.float .f64 0]) ag rfl rfl bx67 rfl nq (AllOne.all (.cons rfl .nil)) rfl ?_
  intro w80 ch81 bx82
  clear bx67
  refine aa (a5 (a0 rfl ?_))
  replace bx5:=(bx5.cn ch79).ce ch81
  refine lx (ah (ds:=[vi g.1,g_v]) bm zs2 bx5 rfl rfl) ?_
  replace bx10:=(bx10.cn ch79).ce ch81
  refine lx (ah (ds:=[p_v,p_v1]) bg zs3 bx10 rfl rfl) ?_
  replace Rg:=(Rg.cn ch79).ce ch81
  replace Rp:=(Rp.cn ch79).ce ch81
  replace r_p_v1:=(r_p_v1.cn ch79).ce ch81
  refine lo (aG (v:=vt [vg [vi (((a8 g p).1).1),vi ((((a8 g p).1).2).1),vi (((((a8 g p).1).2).2).1),vb ((((((a8 g p).1).2).2).2).1),vb ((((((a8 g p).1).2).2).2).2)],vi ((a8 g p).2)]) (aB (vals:=[vg [vi g.1,g_v],vg [p_v,p_v1]]) Try.func25 iV iZ rfl) (i3 w80 g g_v (Rg).ro p p_v p_v1 (Rp).ro (r_p_v1).ro) ?_)
  intro w83 hb84
  replace hb84:=af hb84 g71
  refine mv (vt [vg [vi (((a8 g p).1).1),vi ((((a8 g p).1).2).1),vi (((((a8 g p).1).2).2).1),vb ((((((a8 g p).1).2).2).2).1),vb ((((((a8 g p).1).2).2).2).2)],vi ((a8 g p).2)]) (lx (aP rfl rfl) (lx (aP rfl rfl) (lo (bc g71 (is 6) (6,0) rfl c7 ?_))))
  intro g88 w85 b87 ch86 bx89
  replace bx89:Bx g88 (is 6) w85 b87 [vi 0,vi 0,vi 0,vb false,vb false]:=bx89
  refine lo (ae (cs':=[vi (((a8 g p).1).1),vi ((((a8 g p).1).2).1),vi (((((a8 g p).1).2).2).1),vb ((((((a8 g p).1).2).2).2).1),vb ((((((a8 g p).1).2).2).2).2)]) c7 rfl rfl bx89 rfl nq (AllOne.all (.cons rfl (.cons rfl (.cons rfl (.cons rfl (.cons rfl .nil)))))) rfl ?_)
  intro w90 ch91 bx92
  clear bx89
  refine ai ((a8 g p).2) (aa (a5 ?_))
  clear bx10
  refine a0 rfl (lx (a6 gj rfl rfl zs2 rfl) ?_)
  have C93:=cg [6] (hb84.n.seq (ch86.n.seq (ch91.l rfl)))
  replace bx5:=bx5.ca C93
  refine lx (a7 aU rfl bx5 rfl) (lw (Value.float .f64 (ak g.1)) (j6 (m:=g.1) U3 nA rfl) ?_)
  have nn94:ak g.1<=aD:=eU (by omega)
  refine lx (a6 jM rfl rfl rfl rfl) (lx (a7 aU rfl bx92 rfl) (lx (bb (m:=(((a8 g p).1).2).1) (n:=1) rfl rfl (by omega)) (lx (a6 jM rfl rfl rfl rfl) (lx (a7 aU rfl bx92 rfl) (lx (bb (m:=((((a8 g p).1).2).2).1) (n:=1) rfl rfl (by omega)) (lx (kk (m:=((((a8 g p).1).2).1)+1) (n:=(((((a8 g p).1).2).2).1)+1) rfl rfl (by omega)) (lw (Value.float .f64 (ak ((((((a8 g p).1).2).1)+1)*((((((a8 g p).1).2).2).1)+1)))) (j6 (m:=(((((a8 g p).1).2).1)+1)*((((((a8 g p).1).2).2).1)+1)) U3 nA rfl) ?_)))))))
  have nn95:ak ((((((a8 g p).1).2).1)+1)*((((((a8 g p).1).2).2).1)+1))<=aD:=eU (by omega)
  refine lw (Value.float .f64 (aJ (ak g.1) (ak ((((((a8 g p).1).2).1)+1)*((((((a8 g p).1).2).2).1)+1))))) (km (a:=(ak g.1)) (b:=(ak ((((((a8 g p).1).2).1)+1)*((((((a8 g p).1).2).2).1)+1)))) rfl rfl (iw ‹_› (by exact gP (by omega) (by omega)) (by exact eJ (by omega))).1) ?_
  have nn96:aJ (ak g.1) (ak ((((((a8 g p).1).2).1)+1)*((((((a8 g p).1).2).2).1)+1)))<=aD:=(iw (x:=(ak g.1)) (y:=(ak ((((((a8 g p).1).2).1)+1)*((((((a8 g p).1).2).2).1)+1)))) ‹_› (by exact gP (by omega) (by omega)) (by exact eJ (by omega))).2
  refine lx (a6 bT rfl rfl zs8 rfl) (lo ?_)
  replace bx82:=bx82.ca C93
  refine ae (cs':=[Value.float .f64 sm,Value.float .f64 fq58,Value.float .f64 mn,Value.float .f64 mx,Value.float .f64 fq64,Value.float .f64 fq87,Value.float .f64 (aJ (ak g.1) (ak ((((((a8 g p).1).2).1)+1)*((((((a8 g p).1).2).2).1)+1))))]) ag rfl rfl bx82 rfl nq (AllOne.all (.cons rfl .nil)) rfl ?_
  intro w97 ch98 bx99
  clear bx82
  refine aa (a5 (a5 ?_))
  clear bx5 bx92
  have hjl:j=(aC p).length:=by omega
  have hSp:sp=mt (dY (aC p)) (aC p) (aC p).length:=by rw[hj1,hjl];exact mG (λh0=>(i2 hnn hS hfq58 h0 (by omega)).1)
  have hmn:mn=gc (aC p) (aC p).length:=by rw[hk3];congr 1;omega
  have hmx:mx=fM (aC p) (aC p).length:=by rw[hk5];congr 1;omega
  have c1:=gC hfq58 hv58 (v:=dY (aC p)) (by rw[hS];rfl)
  have c2:=gC hfq64 hv64 (v:=eZ (aC p)) (by rw[hmn,hmx];rfl)
  have c3:=gC hfq87 hv87 (v:=ek (aC p)) (by rw[hSp];rfl)
  have c4:=nh ‹_› (kN hlp)
  refine a0 rfl (lx (a6 bT rfl rfl zs8 rfl) (lx (a6 bT rfl rfl zs8 rfl) (lx (a6 bT rfl rfl zs8 rfl) (lx (a6 bT rfl rfl zs8 rfl) (lo ?_)))))
  obtain⟨c100,hv101⟩:=e6 (u:=vp b30 1) rfl
  obtain⟨c102,hv103⟩:=e6 (u:=vp b30 4) rfl
  obtain⟨c104,hv105⟩:=e6 (u:=vp b30 5) rfl
  obtain⟨c106,hv107⟩:=e6 (u:=vp b30 6) rfl
  refine aq (α:=Vc) g88 (is 7) (is 7) (7,0) rfl [c100,c102,c104,c106] i9 cd (by decide) (by decide) (vs:=[(0,vp b30 1),(1,vp b30 4),(2,vp b30 5),(3,vp b30 6)]) rfl rfl (.cons (dl hv101 rfl) (.cons (dl hv103 rfl) (.cons (dl hv105 rfl) (.cons (dl hv107 rfl) .nil)))) ?_
  intro g108 w109 v110 ch111 o112
  refine lx (bM i9 rfl o112.flat) (mi 0 (aa (aE (ei (a5 (a0 rfl (lx (bd (m:=0) (n:=4) rfl rfl) (aa (a5 (aj rfl rfl (az ?_)))))))))))
  refine a5 (aE (a5 (a0 rfl (lx (ab (v:=v110) (i:=0) i9 rfl rfl o112.flat rfl (by omega) (by(simp only[List.length_set,List.length_append,List.length_cons,List.length_nil,List.length_replicate,List.length_map,List.length_take,List.length_drop];omega))) (lx (aV cd rfl (cL hv101 o112 rfl)) (ma (vp b30 1) (aa (a5 (bC g108 rfl bV (by kernel_rfl) ?_)))))))))
  intro w114 ch113
  refine qm (vp b30 1) (qv (vp b30 1) (λw' hw'=>ar rfl) ?_)
  replace bx99:=(bx99.cn ch111).cn ch113
  refine qx (λw' hw'=>a7 ag rfl (bx99.bel hw') rfl) (qm (vp b30 1) (qv (vp b30 1) (λw' hw'=>ar rfl) (qx (λw' hw'=>a7 ag rfl (bx99.bel hw') rfl) (qv (vb (bo fq58)) (λw' hw'=>cv (a:=fq58) rfl rfl) (ct ?_)))))
  intro w115 hc116
  replace hc116:=af hc116 g108
  by_cases p27:bo fq58=true
  ·
   refine aj rfl p27 (a0 rfl (mv (vp b30 1) (mv (vp b30 1) (lw (vp b30 1) (ar rfl) ?_))))
   replace bx99:=bx99.cn hc116
   refine lx (a7 ag rfl bx99 rfl) (lo (aG (v:=Value.float .f64 (ad fq58)) (aB (vals:=[Value.float .f64 fq58]) Try.func26 cm cl rfl) (bU w115 fq58 (by exact gh hfq58 hv58)) ?_))
   intro w117 hb118
   replace hb118:=af hb118 g108
   refine lw (vp b30 1) (ar rfl) (lo ?_)
   replace bx99:=bx99.cn hb118
   refine ae (cs':=[Value.float .f64 sm,Value.float .f64 (ad fq58),Value.float .f64 mn,Value.float .f64 mx,Value.float .f64 fq64,Value.float .f64 fq87,Value.float .f64 (aJ (ak g.1) (ak ((((((a8 g p).1).2).1)+1)*((((((a8 g p).1).2).2).1)+1))))]) ag rfl rfl bx99 rfl nq (AllOne.all (.cons rfl .nil)) rfl ?_
   intro w119 ch120 bx121
   clear bx99
   refine aa (au (a0 rfl (lx (bb (m:=0) (n:=1) rfl rfl (by omega)) (mi 1 (aa (aM (a5 (a0 rfl (lx (bd (m:=1) (n:=4) rfl rfl) (aa (a5 ?_)))))))))))
   refine aj rfl rfl (az (a5 (aE (a5 (a0 rfl ?_)))))
   have C122:=cg [5] (ch113.n.seq (hc116.n.seq (hb118.n.seq (ch120.l rfl))))
   replace o112:=o112.ca C122
   refine lx (ab (v:=v110) (i:=1) i9 rfl rfl o112.flat rfl (by omega) (by(simp only[List.length_set,List.length_append,List.length_cons,List.length_nil,List.length_replicate,List.length_map,List.length_take,List.length_drop];omega))) (lx (aV cd rfl (cL hv103 o112 rfl)) (ma (vp b30 4) (aa (a5 (bC g108 rfl bV (by kernel_rfl) ?_)))))
   intro w124 ch123
   refine qm (vp b30 4) (qv (vp b30 4) (λw' hw'=>ar rfl) ?_)
   replace bx121:=bx121.cn ch123
   refine qx (λw' hw'=>a7 ag rfl (bx121.bel hw') rfl) (qm (vp b30 4) (qv (vp b30 4) (λw' hw'=>ar rfl) (qx (λw' hw'=>a7 ag rfl (bx121.bel hw') rfl) (qv (vb (bo fq64)) (λw' hw'=>cv (a:=fq64) rfl rfl) (ct ?_)))))
   intro w125 hc126
   replace hc126:=af hc126 g108
   by_cases p27_127:bo fq64=true
   ·
    refine aj rfl p27_127 (a0 rfl (mv (vp b30 4) (mv (vp b30 4) (lw (vp b30 4) (ar rfl) ?_))))
    replace bx121:=bx121.cn hc126
    refine lx (a7 ag rfl bx121 rfl) (lo (aG (v:=Value.float .f64 (ad fq64)) (aB (vals:=[Value.float .f64 fq64]) Try.func26 cm cl rfl) (bU w125 fq64 (by exact gh hfq64 hv64)) ?_))
    intro w128 hb129
    replace hb129:=af hb129 g108
    refine lw (vp b30 4) (ar rfl) (lo ?_)
    replace bx121:=bx121.cn hb129
    refine ae (cs':=[Value.float .f64 sm,Value.float .f64 (ad fq58),Value.float .f64 mn,Value.float .f64 mx,Value.float .f64 (ad fq64),Value.float .f64 fq87,Value.float .f64 (aJ (ak g.1) (ak ((((((a8 g p).1).2).1)+1)*((((((a8 g p).1).2).2).1)+1))))]) ag rfl rfl bx121 rfl nq (AllOne.all (.cons rfl .nil)) rfl ?_
    intro w130 ch131 bx132
    clear bx121
    refine aa (au (a0 rfl (lx (bb (m:=1) (n:=1) rfl rfl (by omega)) (mi 2 (aa (aM (a5 (a0 rfl (lx (bd (m:=2) (n:=4) rfl rfl) (aa (a5 ?_)))))))))))
    refine aj rfl rfl (az (a5 (aE (a5 (a0 rfl ?_)))))
    have C133:=cg [5] (ch123.n.seq (hc126.n.seq (hb129.n.seq (ch131.l rfl))))
    replace o112:=o112.ca C133
    refine lx (ab (v:=v110) (i:=2) i9 rfl rfl o112.flat rfl (by omega) (by(simp only[List.length_set,List.length_append,List.length_cons,List.length_nil,List.length_replicate,List.length_map,List.length_take,List.length_drop];omega))) (lx (aV cd rfl (cL hv105 o112 rfl)) (ma (vp b30 5) (aa (a5 (bC g108 rfl bV (by kernel_rfl) ?_)))))
    intro w135 ch134
    refine qm (vp b30 5) (qv (vp b30 5) (λw' hw'=>ar rfl) ?_)
    replace bx132:=bx132.cn ch134
    refine qx (λw' hw'=>a7 ag rfl (bx132.bel hw') rfl) (qm (vp b30 5) (qv (vp b30 5) (λw' hw'=>ar rfl) (qx (λw' hw'=>a7 ag rfl (bx132.bel hw') rfl) (qv (vb (bo fq87)) (λw' hw'=>cv (a:=fq87) rfl rfl) (ct ?_)))))
    intro w136 hc137
    replace hc137:=af hc137 g108
    by_cases p27_138:bo fq87=true
    ·
     refine aj rfl p27_138 (a0 rfl (mv (vp b30 5) (mv (vp b30 5) (lw (vp b30 5) (ar rfl) ?_))))
     replace bx132:=bx132.cn hc137
     refine lx (a7 ag rfl bx132 rfl) (lo (aG (v:=Value.float .f64 (ad fq87)) (aB (vals:=[Value.float .f64 fq87]) Try.func26 cm cl rfl) (bU w136 fq87 (by exact gh hfq87 hv87)) ?_))
     intro w139 hb140
     replace hb140:=af hb140 g108
     refine lw (vp b30 5) (ar rfl) (lo ?_)
     replace bx132:=bx132.cn hb140
     refine ae (cs':=[Value.float .f64 sm,Value.float .f64 (ad fq58),Value.float .f64 mn,Value.float .f64 mx,Value.float .f64 (ad fq64),Value.float .f64 (ad fq87),Value.float .f64 (aJ (ak g.1) (ak ((((((a8 g p).1).2).1)+1)*((((((a8 g p).1).2).2).1)+1))))]) ag rfl rfl bx132 rfl nq (AllOne.all (.cons rfl .nil)) rfl ?_
     intro w141 ch142 bx143
     clear bx132
     refine aa (au (a0 rfl (lx (bb (m:=2) (n:=1) rfl rfl (by omega)) (mi 3 (aa (aM (a5 (a0 rfl (lx (bd (m:=3) (n:=4) rfl rfl) (aa (a5 ?_)))))))))))
     refine aj rfl rfl (az (a5 (aE (a5 (a0 rfl ?_)))))
     have C144:=cg [5] (ch134.n.seq (hc137.n.seq (hb140.n.seq (ch142.l rfl))))
     replace o112:=o112.ca C144
     refine lx (ab (v:=v110) (i:=3) i9 rfl rfl o112.flat rfl (by omega) (by(simp only[List.length_set,List.length_append,List.length_cons,List.length_nil,List.length_replicate,List.length_map,List.length_take,List.length_drop];omega))) (lx (aV cd rfl (cL hv107 o112 rfl)) (ma (vp b30 6) (aa (a5 (bC g108 rfl bV (by kernel_rfl) ?_)))))
     intro w146 ch145
     refine qm (vp b30 6) (qv (vp b30 6) (λw' hw'=>ar rfl) ?_)
     replace bx143:=bx143.cn ch145
     refine qx (λw' hw'=>a7 ag rfl (bx143.bel hw') rfl) (qm (vp b30 6) (qv (vp b30 6) (λw' hw'=>ar rfl) (qx (λw' hw'=>a7 ag rfl (bx143.bel hw') rfl) (qv (vb (bo (aJ (ak g.1) (ak ((((((a8 g p).1).2).1)+1)*((((((a8 g p).1).2).2).1)+1)))))) (λw' hw'=>cv (a:=(aJ (ak g.1) (ak ((((((a8 g p).1).2).1)+1)*((((((a8 g p).1).2).2).1)+1))))) rfl rfl) (ct ?_)))))
     intro w147 hc148
     replace hc148:=af hc148 g108
     by_cases p27_149:bo (aJ (ak g.1) (ak ((((((a8 g p).1).2).1)+1)*((((((a8 g p).1).2).2).1)+1))))=true
     ·
      refine aj rfl p27_149 (a0 rfl (mv (vp b30 6) (mv (vp b30 6) (lw (vp b30 6) (ar rfl) ?_))))
      replace bx143:=bx143.cn hc148
      refine lx (a7 ag rfl bx143 rfl) (lo (aG (v:=Value.float .f64 (ad (aJ (ak g.1) (ak ((((((a8 g p).1).2).1)+1)*((((((a8 g p).1).2).2).1)+1)))))) (aB (vals:=[Value.float .f64 (aJ (ak g.1) (ak ((((((a8 g p).1).2).1)+1)*((((((a8 g p).1).2).2).1)+1))))]) Try.func26 cm cl rfl) (bU w147 (aJ (ak g.1) (ak ((((((a8 g p).1).2).1)+1)*((((((a8 g p).1).2).2).1)+1)))) (by exact .inr ‹_›)) ?_))
      intro w150 hb151
      replace hb151:=af hb151 g108
      refine lw (vp b30 6) (ar rfl) (lo ?_)
      replace bx143:=bx143.cn hb151
      refine ae (cs':=[Value.float .f64 sm,Value.float .f64 (ad fq58),Value.float .f64 mn,Value.float .f64 mx,Value.float .f64 (ad fq64),Value.float .f64 (ad fq87),Value.float .f64 (ad (aJ (ak g.1) (ak ((((((a8 g p).1).2).1)+1)*((((((a8 g p).1).2).2).1)+1)))))]) ag rfl rfl bx143 rfl nq (AllOne.all (.cons rfl .nil)) rfl ?_
      intro w152 ch153 bx154
      clear bx143
      refine aa (au (a0 rfl (lx (bb (m:=3) (n:=1) rfl rfl (by omega)) (mi 4 (aa (aM (a5 (a0 rfl (lx (bd (m:=4) (n:=4) rfl rfl) (aa (a5 ?_)))))))))))
      refine al rfl rfl (aZ rfl (a5 ?_))
      clear o112
      refine a0 rfl (lx (ah (ds:=[Value.float .f64 sm,Value.float .f64 (ad fq58),Value.float .f64 mn,Value.float .f64 mx,Value.float .f64 (ad fq64),Value.float .f64 (ad fq87),Value.float .f64 (ad (aJ (ak g.1) (ak ((((((a8 g p).1).2).1)+1)*((((((a8 g p).1).2).2).1)+1)))))]) aH zs8 bx154 rfl rfl) (lo ?_))
      have C158:=cg [5,6] (ch79.n.seq ((ch81.l rfl).seq (hb84.n.seq (ch86.n.seq ((ch91.l rfl).seq ((ch98.l rfl).seq (ch111.n.seq (ch113.n.seq (hc116.n.seq (hb118.n.seq ((ch120.l rfl).seq (ch123.n.seq (hc126.n.seq (hb129.n.seq ((ch131.l rfl).seq (ch134.n.seq (hc137.n.seq (hb140.n.seq ((ch142.l rfl).seq (ch145.n.seq (hc148.n.seq (hb151.n.seq (ch153.l rfl)))))))))))))))))))))))
      replace bx15:=bx15.ca C158
      refine ae (cs':=[Value.float .f64 sm,Value.float .f64 (ad fq58),Value.float .f64 mn,Value.float .f64 mx,Value.float .f64 (ad fq64),Value.float .f64 (ad fq87),Value.float .f64 (ad (aJ (ak g.1) (ak ((((((a8 g p).1).2).1)+1)*((((((a8 g p).1).2).2).1)+1)))))]) aH zs4 rfl bx15 rfl nq (AllOne.all (.cons rfl (.cons rfl (.cons rfl (.cons rfl (.cons rfl (.cons rfl (.cons rfl .nil)))))))) rfl ?_
      intro w155 ch156 bx157
      clear bx15
      refine ai 0 (aa (aF (vs:=[vg [Value.float .f64 sm,Value.float .f64 (ad fq58),Value.float .f64 mn,Value.float .f64 mx,Value.float .f64 (ad fq64),Value.float .f64 (ad fq87),Value.float .f64 (ad (aJ (ak g.1) (ak ((((((a8 g p).1).2).1)+1)*((((((a8 g p).1).2).2).1)+1)))))],vi 0]) Try.func8 (.cell zs4 (bA (ds:=[Value.float .f64 sm,Value.float .f64 (ad fq58),Value.float .f64 mn,Value.float .f64 mx,Value.float .f64 (ad fq64),Value.float .f64 (ad fq87),Value.float .f64 (ad (aJ (ak g.1) (ak ((((((a8 g p).1).2).1)+1)*((((((a8 g p).1).2).2).1)+1)))))]) aH bx157 rfl rfl) (.tmp rfl .nil)) ?_))
      have e0:((sm,ad fq58,mn,mx,ad fq64,ad fq87,ad (aJ (ak g.1) (ak ((((((a8 g p).1).2).1)+1)*((((((a8 g p).1).2).2).1)+1))))):(Nat)×(Nat)×(Nat)×(Nat)×(Nat)×(Nat)×(Nat))=((a9 g p).1):=by
        exact cE hf0 hS (by exact c1.1 ‹_›) hmn hmx (by exact c2.1 ‹_›) (by exact c3.1 ‹_›) (by exact c4.1 ‹_›)
      have e1:(0:Int)=((a9 g p).2):=by
        rw[ch hf0]
      have C159:=cg [3,5,6] (ch79.n.seq ((ch81.l rfl).seq (hb84.n.seq (ch86.n.seq ((ch91.l rfl).seq ((ch98.l rfl).seq (ch111.n.seq (ch113.n.seq (hc116.n.seq (hb118.n.seq ((ch120.l rfl).seq (ch123.n.seq (hc126.n.seq (hb129.n.seq ((ch131.l rfl).seq (ch134.n.seq (hc137.n.seq (hb140.n.seq ((ch142.l rfl).seq (ch145.n.seq (hc148.n.seq (hb151.n.seq ((ch153.l rfl).seq (ch156.l rfl))))))))))))))))))))))))
      replace bH:=bH.ca C159
      exact⟨(bL (a:=(sm,ad fq58,mn,mx,ad fq64,ad fq87,ad (aJ (ak g.1) (ak ((((((a8 g p).1).2).1)+1)*((((((a8 g p).1).2).2).1)+1)))))) (b:=0) (λ(z0:(Nat)×(Nat)×(Nat)×(Nat)×(Nat)×(Nat)×(Nat)) (z1:Int)=>Ending.returned (vt [vg [Value.float .f64 z0.1,Value.float .f64 z0.2.1,Value.float .f64 z0.2.2.1,Value.float .f64 z0.2.2.2.1,Value.float .f64 z0.2.2.2.2.1,Value.float .f64 z0.2.2.2.2.2.1,Value.float .f64 z0.2.2.2.2.2.2],vi z1])) e0 e1),bH.below⟩
     refine al rfl (Bool.eq_false_iff.2 p27_149) (az (au (a0 rfl (lx (bb (m:=3) (n:=1) rfl rfl (by omega)) (mi 4 (aa (aM (a5 (a0 rfl (lx (bd (m:=4) (n:=4) rfl rfl) ?_))))))))))
     refine aa (a5 (al rfl rfl (aZ rfl (a5 ?_))))
     clear o112
     refine a0 rfl ?_
     replace bx143:=bx143.cn hc148
     refine lx (ah (ds:=[Value.float .f64 sm,Value.float .f64 (ad fq58),Value.float .f64 mn,Value.float .f64 mx,Value.float .f64 (ad fq64),Value.float .f64 (ad fq87),Value.float .f64 (aJ (ak g.1) (ak ((((((a8 g p).1).2).1)+1)*((((((a8 g p).1).2).2).1)+1))))]) aH zs8 bx143 rfl rfl) (lo ?_)
     have C163:=cg [5,6] (ch79.n.seq ((ch81.l rfl).seq (hb84.n.seq (ch86.n.seq ((ch91.l rfl).seq ((ch98.l rfl).seq (ch111.n.seq (ch113.n.seq (hc116.n.seq (hb118.n.seq ((ch120.l rfl).seq (ch123.n.seq (hc126.n.seq (hb129.n.seq ((ch131.l rfl).seq (ch134.n.seq (hc137.n.seq (hb140.n.seq ((ch142.l rfl).seq (ch145.n.seq hc148.n))))))))))))))))))))
     replace bx15:=bx15.ca C163
     refine ae (cs':=[Value.float .f64 sm,Value.float .f64 (ad fq58),Value.float .f64 mn,Value.float .f64 mx,Value.float .f64 (ad fq64),Value.float .f64 (ad fq87),Value.float .f64 (aJ (ak g.1) (ak ((((((a8 g p).1).2).1)+1)*((((((a8 g p).1).2).2).1)+1))))]) aH zs4 rfl bx15 rfl nq (AllOne.all (.cons rfl (.cons rfl (.cons rfl (.cons rfl (.cons rfl (.cons rfl (.cons rfl .nil)))))))) rfl ?_
     intro w160 ch161 bx162
     clear bx15
     refine ai 0 (aa (aF (vs:=[vg [Value.float .f64 sm,Value.float .f64 (ad fq58),Value.float .f64 mn,Value.float .f64 mx,Value.float .f64 (ad fq64),Value.float .f64 (ad fq87),Value.float .f64 (aJ (ak g.1) (ak ((((((a8 g p).1).2).1)+1)*((((((a8 g p).1).2).2).1)+1))))],vi 0]) Try.func8 (.cell zs4 (bA (ds:=[Value.float .f64 sm,Value.float .f64 (ad fq58),Value.float .f64 mn,Value.float .f64 mx,Value.float .f64 (ad fq64),Value.float .f64 (ad fq87),Value.float .f64 (aJ (ak g.1) (ak ((((((a8 g p).1).2).1)+1)*((((((a8 g p).1).2).2).1)+1))))]) aH bx162 rfl rfl) (.tmp rfl .nil)) ?_))
     have e0:((sm,ad fq58,mn,mx,ad fq64,ad fq87,aJ (ak g.1) (ak ((((((a8 g p).1).2).1)+1)*((((((a8 g p).1).2).2).1)+1)))):(Nat)×(Nat)×(Nat)×(Nat)×(Nat)×(Nat)×(Nat))=((a9 g p).1):=by
       exact cE hf0 hS (by exact c1.1 ‹_›) hmn hmx (by exact c2.1 ‹_›) (by exact c3.1 ‹_›) (by exact c4.2 ‹_›)
     have e1:(0:Int)=((a9 g p).2):=by
       rw[ch hf0]
     have C164:=cg [3,5,6] (ch79.n.seq ((ch81.l rfl).seq (hb84.n.seq (ch86.n.seq ((ch91.l rfl).seq ((ch98.l rfl).seq (ch111.n.seq (ch113.n.seq (hc116.n.seq (hb118.n.seq ((ch120.l rfl).seq (ch123.n.seq (hc126.n.seq (hb129.n.seq ((ch131.l rfl).seq (ch134.n.seq (hc137.n.seq (hb140.n.seq ((ch142.l rfl).seq (ch145.n.seq (hc148.n.seq (ch161.l rfl))))))))))))))))))))))
     replace bH:=bH.ca C164
     exact⟨(bL (a:=(sm,ad fq58,mn,mx,ad fq64,ad fq87,aJ (ak g.1) (ak ((((((a8 g p).1).2).1)+1)*((((((a8 g p).1).2).2).1)+1))))) (b:=0) (λ(z0:(Nat)×(Nat)×(Nat)×(Nat)×(Nat)×(Nat)×(Nat)) (z1:Int)=>Ending.returned (vt [vg [Value.float .f64 z0.1,Value.float .f64 z0.2.1,Value.float .f64 z0.2.2.1,Value.float .f64 z0.2.2.2.1,Value.float .f64 z0.2.2.2.2.1,Value.float .f64 z0.2.2.2.2.2.1,Value.float .f64 z0.2.2.2.2.2.2],vi z1])) e0 e1),bH.below⟩
    refine al rfl (Bool.eq_false_iff.2 p27_138) (az (au (a0 rfl (lx (bb (m:=2) (n:=1) rfl rfl (by omega)) (mi 3 (aa (aM (a5 (a0 rfl (lx (bd (m:=3) (n:=4) rfl rfl) ?_))))))))))
    refine aa (a5 (aj rfl rfl (az (a5 (aE (a5 (a0 rfl ?_)))))))
    replace o112:=(o112.cn ch134).cn hc137
    refine lx (ab (v:=v110) (i:=3) i9 rfl rfl o112.flat rfl (by omega) (by(simp only[List.length_set,List.length_append,List.length_cons,List.length_nil,List.length_replicate,List.length_map,List.length_take,List.length_drop];omega))) (lx (aV cd rfl (cL hv107 o112 rfl)) (ma (vp b30 6) (aa (a5 (bC g108 rfl bV (by kernel_rfl) ?_)))))
    intro w166 ch165
    refine qm (vp b30 6) (qv (vp b30 6) (λw' hw'=>ar rfl) ?_)
    replace bx132:=(bx132.cn hc137).cn ch165
    refine qx (λw' hw'=>a7 ag rfl (bx132.bel hw') rfl) (qm (vp b30 6) (qv (vp b30 6) (λw' hw'=>ar rfl) (qx (λw' hw'=>a7 ag rfl (bx132.bel hw') rfl) (qv (vb (bo (aJ (ak g.1) (ak ((((((a8 g p).1).2).1)+1)*((((((a8 g p).1).2).2).1)+1)))))) (λw' hw'=>cv (a:=(aJ (ak g.1) (ak ((((((a8 g p).1).2).1)+1)*((((((a8 g p).1).2).2).1)+1))))) rfl rfl) (ct ?_)))))
    intro w167 hc168
    replace hc168:=af hc168 g108
    by_cases p27_169:bo (aJ (ak g.1) (ak ((((((a8 g p).1).2).1)+1)*((((((a8 g p).1).2).2).1)+1))))=true
    ·
     refine aj rfl p27_169 (a0 rfl (mv (vp b30 6) (mv (vp b30 6) (lw (vp b30 6) (ar rfl) ?_))))
     replace bx132:=bx132.cn hc168
     refine lx (a7 ag rfl bx132 rfl) (lo (aG (v:=Value.float .f64 (ad (aJ (ak g.1) (ak ((((((a8 g p).1).2).1)+1)*((((((a8 g p).1).2).2).1)+1)))))) (aB (vals:=[Value.float .f64 (aJ (ak g.1) (ak ((((((a8 g p).1).2).1)+1)*((((((a8 g p).1).2).2).1)+1))))]) Try.func26 cm cl rfl) (bU w167 (aJ (ak g.1) (ak ((((((a8 g p).1).2).1)+1)*((((((a8 g p).1).2).2).1)+1)))) (by exact .inr ‹_›)) ?_))
     intro w170 hb171
     replace hb171:=af hb171 g108
     refine lw (vp b30 6) (ar rfl) (lo ?_)
     replace bx132:=bx132.cn hb171
     refine ae (cs':=[Value.float .f64 sm,Value.float .f64 (ad fq58),Value.float .f64 mn,Value.float .f64 mx,Value.float .f64 (ad fq64),Value.float .f64 fq87,Value.float .f64 (ad (aJ (ak g.1) (ak ((((((a8 g p).1).2).1)+1)*((((((a8 g p).1).2).2).1)+1)))))]) ag rfl rfl bx132 rfl nq (AllOne.all (.cons rfl .nil)) rfl ?_
     intro w172 ch173 bx174
     clear bx132
     refine aa (au (a0 rfl (lx (bb (m:=3) (n:=1) rfl rfl (by omega)) (mi 4 (aa (aM (a5 (a0 rfl (lx (bd (m:=4) (n:=4) rfl rfl) (aa (a5 ?_)))))))))))
     refine al rfl rfl (aZ rfl (a5 ?_))
     clear o112
     refine a0 rfl (lx (ah (ds:=[Value.float .f64 sm,Value.float .f64 (ad fq58),Value.float .f64 mn,Value.float .f64 mx,Value.float .f64 (ad fq64),Value.float .f64 fq87,Value.float .f64 (ad (aJ (ak g.1) (ak ((((((a8 g p).1).2).1)+1)*((((((a8 g p).1).2).2).1)+1)))))]) aH zs8 bx174 rfl rfl) (lo ?_))
     have C178:=cg [5,6] (ch79.n.seq ((ch81.l rfl).seq (hb84.n.seq (ch86.n.seq ((ch91.l rfl).seq ((ch98.l rfl).seq (ch111.n.seq (ch113.n.seq (hc116.n.seq (hb118.n.seq ((ch120.l rfl).seq (ch123.n.seq (hc126.n.seq (hb129.n.seq ((ch131.l rfl).seq (ch134.n.seq (hc137.n.seq (ch165.n.seq (hc168.n.seq (hb171.n.seq (ch173.l rfl)))))))))))))))))))))
     replace bx15:=bx15.ca C178
     refine ae (cs':=[Value.float .f64 sm,Value.float .f64 (ad fq58),Value.float .f64 mn,Value.float .f64 mx,Value.float .f64 (ad fq64),Value.float .f64 fq87,Value.float .f64 (ad (aJ (ak g.1) (ak ((((((a8 g p).1).2).1)+1)*((((((a8 g p).1).2).2).1)+1)))))]) aH zs4 rfl bx15 rfl nq (AllOne.all (.cons rfl (.cons rfl (.cons rfl (.cons rfl (.cons rfl (.cons rfl (.cons rfl .nil)))))))) rfl ?_
     intro w175 ch176 bx177
     clear bx15
     refine ai 0 (aa (aF (vs:=[vg [Value.float .f64 sm,Value.float .f64 (ad fq58),Value.float .f64 mn,Value.float .f64 mx,Value.float .f64 (ad fq64),Value.float .f64 fq87,Value.float .f64 (ad (aJ (ak g.1) (ak ((((((a8 g p).1).2).1)+1)*((((((a8 g p).1).2).2).1)+1)))))],vi 0]) Try.func8 (.cell zs4 (bA (ds:=[Value.float .f64 sm,Value.float .f64 (ad fq58),Value.float .f64 mn,Value.float .f64 mx,Value.float .f64 (ad fq64),Value.float .f64 fq87,Value.float .f64 (ad (aJ (ak g.1) (ak ((((((a8 g p).1).2).1)+1)*((((((a8 g p).1).2).2).1)+1)))))]) aH bx177 rfl rfl) (.tmp rfl .nil)) ?_))
     have e0:((sm,ad fq58,mn,mx,ad fq64,fq87,ad (aJ (ak g.1) (ak ((((((a8 g p).1).2).1)+1)*((((((a8 g p).1).2).2).1)+1))))):(Nat)×(Nat)×(Nat)×(Nat)×(Nat)×(Nat)×(Nat))=((a9 g p).1):=by
       exact cE hf0 hS (by exact c1.1 ‹_›) hmn hmx (by exact c2.1 ‹_›) (by exact c3.2 ‹_›) (by exact c4.1 ‹_›)
     have e1:(0:Int)=((a9 g p).2):=by
       rw[ch hf0]
     have C179:=cg [3,5,6] (ch79.n.seq ((ch81.l rfl).seq (hb84.n.seq (ch86.n.seq ((ch91.l rfl).seq ((ch98.l rfl).seq (ch111.n.seq (ch113.n.seq (hc116.n.seq (hb118.n.seq ((ch120.l rfl).seq (ch123.n.seq (hc126.n.seq (hb129.n.seq ((ch131.l rfl).seq (ch134.n.seq (hc137.n.seq (ch165.n.seq (hc168.n.seq (hb171.n.seq ((ch173.l rfl).seq (ch176.l rfl))))))))))))))))))))))
     replace bH:=bH.ca C179
     exact⟨(bL (a:=(sm,ad fq58,mn,mx,ad fq64,fq87,ad (aJ (ak g.1) (ak ((((((a8 g p).1).2).1)+1)*((((((a8 g p).1).2).2).1)+1)))))) (b:=0) (λ(z0:(Nat)×(Nat)×(Nat)×(Nat)×(Nat)×(Nat)×(Nat)) (z1:Int)=>Ending.returned (vt [vg [Value.float .f64 z0.1,Value.float .f64 z0.2.1,Value.float .f64 z0.2.2.1,Value.float .f64 z0.2.2.2.1,Value.float .f64 z0.2.2.2.2.1,Value.float .f64 z0.2.2.2.2.2.1,Value.float .f64 z0.2.2.2.2.2.2],vi z1])) e0 e1),bH.below⟩
    refine al rfl (Bool.eq_false_iff.2 p27_169) (az (au (a0 rfl (lx (bb (m:=3) (n:=1) rfl rfl (by omega)) (mi 4 (aa (aM (a5 (a0 rfl (lx (bd (m:=4) (n:=4) rfl rfl) ?_))))))))))
    refine aa (a5 (al rfl rfl (aZ rfl (a5 ?_))))
    clear o112
    refine a0 rfl ?_
    replace bx132:=bx132.cn hc168
    refine lx (ah (ds:=[Value.float .f64 sm,Value.float .f64 (ad fq58),Value.float .f64 mn,Value.float .f64 mx,Value.float .f64 (ad fq64),Value.float .f64 fq87,Value.float .f64 (aJ (ak g.1) (ak ((((((a8 g p).1).2).1)+1)*((((((a8 g p).1).2).2).1)+1))))]) aH zs8 bx132 rfl rfl) (lo ?_)
    have C183:=cg [5,6] (ch79.n.seq ((ch81.l rfl).seq (hb84.n.seq (ch86.n.seq ((ch91.l rfl).seq ((ch98.l rfl).seq (ch111.n.seq (ch113.n.seq (hc116.n.seq (hb118.n.seq ((ch120.l rfl).seq (ch123.n.seq (hc126.n.seq (hb129.n.seq ((ch131.l rfl).seq (ch134.n.seq (hc137.n.seq (ch165.n.seq hc168.n))))))))))))))))))
    replace bx15:=bx15.ca C183
    refine ae (cs':=[Value.float .f64 sm,Value.float .f64 (ad fq58),Value.float .f64 mn,Value.float .f64 mx,Value.float .f64 (ad fq64),Value.float .f64 fq87,Value.float .f64 (aJ (ak g.1) (ak ((((((a8 g p).1).2).1)+1)*((((((a8 g p).1).2).2).1)+1))))]) aH zs4 rfl bx15 rfl nq (AllOne.all (.cons rfl (.cons rfl (.cons rfl (.cons rfl (.cons rfl (.cons rfl (.cons rfl .nil)))))))) rfl ?_
    intro w180 ch181 bx182
    clear bx15
    refine ai 0 (aa (aF (vs:=[vg [Value.float .f64 sm,Value.float .f64 (ad fq58),Value.float .f64 mn,Value.float .f64 mx,Value.float .f64 (ad fq64),Value.float .f64 fq87,Value.float .f64 (aJ (ak g.1) (ak ((((((a8 g p).1).2).1)+1)*((((((a8 g p).1).2).2).1)+1))))],vi 0]) Try.func8 (.cell zs4 (bA (ds:=[Value.float .f64 sm,Value.float .f64 (ad fq58),Value.float .f64 mn,Value.float .f64 mx,Value.float .f64 (ad fq64),Value.float .f64 fq87,Value.float .f64 (aJ (ak g.1) (ak ((((((a8 g p).1).2).1)+1)*((((((a8 g p).1).2).2).1)+1))))]) aH bx182 rfl rfl) (.tmp rfl .nil)) ?_))
    have e0:((sm,ad fq58,mn,mx,ad fq64,fq87,aJ (ak g.1) (ak ((((((a8 g p).1).2).1)+1)*((((((a8 g p).1).2).2).1)+1)))):(Nat)×(Nat)×(Nat)×(Nat)×(Nat)×(Nat)×(Nat))=((a9 g p).1):=by
      exact cE hf0 hS (by exact c1.1 ‹_›) hmn hmx (by exact c2.1 ‹_›) (by exact c3.2 ‹_›) (by exact c4.2 ‹_›)
    have e1:(0:Int)=((a9 g p).2):=by
      rw[ch hf0]
    have C184:=cg [3,5,6] (ch79.n.seq ((ch81.l rfl).seq (hb84.n.seq (ch86.n.seq ((ch91.l rfl).seq ((ch98.l rfl).seq (ch111.n.seq (ch113.n.seq (hc116.n.seq (hb118.n.seq ((ch120.l rfl).seq (ch123.n.seq (hc126.n.seq (hb129.n.seq ((ch131.l rfl).seq (ch134.n.seq (hc137.n.seq (ch165.n.seq (hc168.n.seq (ch181.l rfl))))))))))))))))))))
    replace bH:=bH.ca C184
    exact⟨(bL (a:=(sm,ad fq58,mn,mx,ad fq64,fq87,aJ (ak g.1) (ak ((((((a8 g p).1).2).1)+1)*((((((a8 g p).1).2).2).1)+1))))) (b:=0) (λ(z0:(Nat)×(Nat)×(Nat)×(Nat)×(Nat)×(Nat)×(Nat)) (z1:Int)=>Ending.returned (vt [vg [Value.float .f64 z0.1,Value.float .f64 z0.2.1,Value.float .f64 z0.2.2.1,Value.float .f64 z0.2.2.2.1,Value.float .f64 z0.2.2.2.2.1,Value.float .f64 z0.2.2.2.2.2.1,Value.float .f64 z0.2.2.2.2.2.2],vi z1])) e0 e1),bH.below⟩
   refine al rfl (Bool.eq_false_iff.2 p27_127) (az (au (a0 rfl (lx (bb (m:=1) (n:=1) rfl rfl (by omega)) (mi 2 (aa (aM (a5 (a0 rfl (lx (bd (m:=2) (n:=4) rfl rfl) ?_))))))))))
   refine aa (a5 (aj rfl rfl (az (a5 (aE (a5 (a0 rfl ?_)))))))
   replace o112:=(o112.cn ch123).cn hc126
   refine lx (ab (v:=v110) (i:=2) i9 rfl rfl o112.flat rfl (by omega) (by(simp only[List.length_set,List.length_append,List.length_cons,List.length_nil,List.length_replicate,List.length_map,List.length_take,List.length_drop];omega))) (lx (aV cd rfl (cL hv105 o112 rfl)) (ma (vp b30 5) (aa (a5 (bC g108 rfl bV (by kernel_rfl) ?_)))))
   intro w186 ch185
   refine qm (vp b30 5) (qv (vp b30 5) (λw' hw'=>ar rfl) ?_)
   replace bx121:=(bx121.cn hc126).cn ch185
   refine qx (λw' hw'=>a7 ag rfl (bx121.bel hw') rfl) (qm (vp b30 5) (qv (vp b30 5) (λw' hw'=>ar rfl) (qx (λw' hw'=>a7 ag rfl (bx121.bel hw') rfl) (qv (vb (bo fq87)) (λw' hw'=>cv (a:=fq87) rfl rfl) (ct ?_)))))
   intro w187 hc188
   replace hc188:=af hc188 g108
   by_cases p27_189:bo fq87=true
   ·
    refine aj rfl p27_189 (a0 rfl (mv (vp b30 5) (mv (vp b30 5) (lw (vp b30 5) (ar rfl) ?_))))
    replace bx121:=bx121.cn hc188
    refine lx (a7 ag rfl bx121 rfl) (lo (aG (v:=Value.float .f64 (ad fq87)) (aB (vals:=[Value.float .f64 fq87]) Try.func26 cm cl rfl) (bU w187 fq87 (by exact gh hfq87 hv87)) ?_))
    intro w190 hb191
    replace hb191:=af hb191 g108
    refine lw (vp b30 5) (ar rfl) (lo ?_)
    replace bx121:=bx121.cn hb191
    refine ae (cs':=[Value.float .f64 sm,Value.float .f64 (ad fq58),Value.float .f64 mn,Value.float .f64 mx,Value.float .f64 fq64,Value.float .f64 (ad fq87),Value.float .f64 (aJ (ak g.1) (ak ((((((a8 g p).1).2).1)+1)*((((((a8 g p).1).2).2).1)+1))))]) ag rfl rfl bx121 rfl nq (AllOne.all (.cons rfl .nil)) rfl ?_
    intro w192 ch193 bx194
    clear bx121
    refine aa (au (a0 rfl (lx (bb (m:=2) (n:=1) rfl rfl (by omega)) (mi 3 (aa (aM (a5 (a0 rfl (lx (bd (m:=3) (n:=4) rfl rfl) (aa (a5 ?_)))))))))))
    refine aj rfl rfl (az (a5 (aE (a5 (a0 rfl ?_)))))
    have C195:=cg [5] (ch185.n.seq (hc188.n.seq (hb191.n.seq (ch193.l rfl))))
    replace o112:=o112.ca C195
    refine lx (ab (v:=v110) (i:=3) i9 rfl rfl o112.flat rfl (by omega) (by(simp only[List.length_set,List.length_append,List.length_cons,List.length_nil,List.length_replicate,List.length_map,List.length_take,List.length_drop];omega))) (lx (aV cd rfl (cL hv107 o112 rfl)) (ma (vp b30 6) (aa (a5 (bC g108 rfl bV (by kernel_rfl) ?_)))))
    intro w197 ch196
    refine qm (vp b30 6) (qv (vp b30 6) (λw' hw'=>ar rfl) ?_)
    replace bx194:=bx194.cn ch196
    refine qx (λw' hw'=>a7 ag rfl (bx194.bel hw') rfl) (qm (vp b30 6) (qv (vp b30 6) (λw' hw'=>ar rfl) (qx (λw' hw'=>a7 ag rfl (bx194.bel hw') rfl) (qv (vb (bo (aJ (ak g.1) (ak ((((((a8 g p).1).2).1)+1)*((((((a8 g p).1).2).2).1)+1)))))) (λw' hw'=>cv (a:=(aJ (ak g.1) (ak ((((((a8 g p).1).2).1)+1)*((((((a8 g p).1).2).2).1)+1))))) rfl rfl) (ct ?_)))))
    intro w198 hc199
    replace hc199:=af hc199 g108
    by_cases p27_200:bo (aJ (ak g.1) (ak ((((((a8 g p).1).2).1)+1)*((((((a8 g p).1).2).2).1)+1))))=true
    ·
     refine aj rfl p27_200 (a0 rfl (mv (vp b30 6) (mv (vp b30 6) (lw (vp b30 6) (ar rfl) ?_))))
     replace bx194:=bx194.cn hc199
     refine lx (a7 ag rfl bx194 rfl) (lo (aG (v:=Value.float .f64 (ad (aJ (ak g.1) (ak ((((((a8 g p).1).2).1)+1)*((((((a8 g p).1).2).2).1)+1)))))) (aB (vals:=[Value.float .f64 (aJ (ak g.1) (ak ((((((a8 g p).1).2).1)+1)*((((((a8 g p).1).2).2).1)+1))))]) Try.func26 cm cl rfl) (bU w198 (aJ (ak g.1) (ak ((((((a8 g p).1).2).1)+1)*((((((a8 g p).1).2).2).1)+1)))) (by exact .inr ‹_›)) ?_))
     intro w201 hb202
     replace hb202:=af hb202 g108
     refine lw (vp b30 6) (ar rfl) (lo ?_)
     replace bx194:=bx194.cn hb202
     refine ae (cs':=[Value.float .f64 sm,Value.float .f64 (ad fq58),Value.float .f64 mn,Value.float .f64 mx,Value.float .f64 fq64,Value.float .f64 (ad fq87),Value.float .f64 (ad (aJ (ak g.1) (ak ((((((a8 g p).1).2).1)+1)*((((((a8 g p).1).2).2).1)+1)))))]) ag rfl rfl bx194 rfl nq (AllOne.all (.cons rfl .nil)) rfl ?_
     intro w203 ch204 bx205
     clear bx194
     refine aa (au (a0 rfl (lx (bb (m:=3) (n:=1) rfl rfl (by omega)) (mi 4 (aa (aM (a5 (a0 rfl (lx (bd (m:=4) (n:=4) rfl rfl) (aa (a5 ?_)))))))))))
     refine al rfl rfl (aZ rfl (a5 ?_))
     clear o112
     refine a0 rfl (lx (ah (ds:=[Value.float .f64 sm,Value.float .f64 (ad fq58),Value.float .f64 mn,Value.float .f64 mx,Value.float .f64 fq64,Value.float .f64 (ad fq87),Value.float .f64 (ad (aJ (ak g.1) (ak ((((((a8 g p).1).2).1)+1)*((((((a8 g p).1).2).2).1)+1)))))]) aH zs8 bx205 rfl rfl) (lo ?_))
     have C209:=cg [5,6] (ch79.n.seq ((ch81.l rfl).seq (hb84.n.seq (ch86.n.seq ((ch91.l rfl).seq ((ch98.l rfl).seq (ch111.n.seq (ch113.n.seq (hc116.n.seq (hb118.n.seq ((ch120.l rfl).seq (ch123.n.seq (hc126.n.seq (ch185.n.seq (hc188.n.seq (hb191.n.seq ((ch193.l rfl).seq (ch196.n.seq (hc199.n.seq (hb202.n.seq (ch204.l rfl)))))))))))))))))))))
     replace bx15:=bx15.ca C209
     refine ae (cs':=[Value.float .f64 sm,Value.float .f64 (ad fq58),Value.float .f64 mn,Value.float .f64 mx,Value.float .f64 fq64,Value.float .f64 (ad fq87),Value.float .f64 (ad (aJ (ak g.1) (ak ((((((a8 g p).1).2).1)+1)*((((((a8 g p).1).2).2).1)+1)))))]) aH zs4 rfl bx15 rfl nq (AllOne.all (.cons rfl (.cons rfl (.cons rfl (.cons rfl (.cons rfl (.cons rfl (.cons rfl .nil)))))))) rfl ?_
     intro w206 ch207 bx208
     clear bx15
     refine ai 0 (aa (aF (vs:=[vg [Value.float .f64 sm,Value.float .f64 (ad fq58),Value.float .f64 mn,Value.float .f64 mx,Value.float .f64 fq64,Value.float .f64 (ad fq87),Value.float .f64 (ad (aJ (ak g.1) (ak ((((((a8 g p).1).2).1)+1)*((((((a8 g p).1).2).2).1)+1)))))],vi 0]) Try.func8 (.cell zs4 (bA (ds:=[Value.float .f64 sm,Value.float .f64 (ad fq58),Value.float .f64 mn,Value.float .f64 mx,Value.float .f64 fq64,Value.float .f64 (ad fq87),Value.float .f64 (ad (aJ (ak g.1) (ak ((((((a8 g p).1).2).1)+1)*((((((a8 g p).1).2).2).1)+1)))))]) aH bx208 rfl rfl) (.tmp rfl .nil)) ?_))
     have e0:((sm,ad fq58,mn,mx,fq64,ad fq87,ad (aJ (ak g.1) (ak ((((((a8 g p).1).2).1)+1)*((((((a8 g p).1).2).2).1)+1))))):(Nat)×(Nat)×(Nat)×(Nat)×(Nat)×(Nat)×(Nat))=((a9 g p).1):=by
       exact cE hf0 hS (by exact c1.1 ‹_›) hmn hmx (by exact c2.2 ‹_›) (by exact c3.1 ‹_›) (by exact c4.1 ‹_›)
     have e1:(0:Int)=((a9 g p).2):=by
       rw[ch hf0]
     have C210:=cg [3,5,6] (ch79.n.seq ((ch81.l rfl).seq (hb84.n.seq (ch86.n.seq ((ch91.l rfl).seq ((ch98.l rfl).seq (ch111.n.seq (ch113.n.seq (hc116.n.seq (hb118.n.seq ((ch120.l rfl).seq (ch123.n.seq (hc126.n.seq (ch185.n.seq (hc188.n.seq (hb191.n.seq ((ch193.l rfl).seq (ch196.n.seq (hc199.n.seq (hb202.n.seq ((ch204.l rfl).seq (ch207.l rfl))))))))))))))))))))))
     replace bH:=bH.ca C210
     exact⟨(bL (a:=(sm,ad fq58,mn,mx,fq64,ad fq87,ad (aJ (ak g.1) (ak ((((((a8 g p).1).2).1)+1)*((((((a8 g p).1).2).2).1)+1)))))) (b:=0) (λ(z0:(Nat)×(Nat)×(Nat)×(Nat)×(Nat)×(Nat)×(Nat)) (z1:Int)=>Ending.returned (vt [vg [Value.float .f64 z0.1,Value.float .f64 z0.2.1,Value.float .f64 z0.2.2.1,Value.float .f64 z0.2.2.2.1,Value.float .f64 z0.2.2.2.2.1,Value.float .f64 z0.2.2.2.2.2.1,Value.float .f64 z0.2.2.2.2.2.2],vi z1])) e0 e1),bH.below⟩
    refine al rfl (Bool.eq_false_iff.2 p27_200) (az (au (a0 rfl (lx (bb (m:=3) (n:=1) rfl rfl (by omega)) (mi 4 (aa (aM (a5 (a0 rfl (lx (bd (m:=4) (n:=4) rfl rfl) ?_))))))))))
    refine aa (a5 (al rfl rfl (aZ rfl (a5 ?_))))
    clear o112
    refine a0 rfl ?_
    replace bx194:=bx194.cn hc199
    refine lx (ah (ds:=[Value.float .f64 sm,Value.float .f64 (ad fq58),Value.float .f64 mn,Value.float .f64 mx,Value.float .f64 fq64,Value.float .f64 (ad fq87),Value.float .f64 (aJ (ak g.1) (ak ((((((a8 g p).1).2).1)+1)*((((((a8 g p).1).2).2).1)+1))))]) aH zs8 bx194 rfl rfl) (lo ?_)
    have C214:=cg [5,6] (ch79.n.seq ((ch81.l rfl).seq (hb84.n.seq (ch86.n.seq ((ch91.l rfl).seq ((ch98.l rfl).seq (ch111.n.seq (ch113.n.seq (hc116.n.seq (hb118.n.seq ((ch120.l rfl).seq (ch123.n.seq (hc126.n.seq (ch185.n.seq (hc188.n.seq (hb191.n.seq ((ch193.l rfl).seq (ch196.n.seq hc199.n))))))))))))))))))
    replace bx15:=bx15.ca C214
    refine ae (cs':=[Value.float .f64 sm,Value.float .f64 (ad fq58),Value.float .f64 mn,Value.float .f64 mx,Value.float .f64 fq64,Value.float .f64 (ad fq87),Value.float .f64 (aJ (ak g.1) (ak ((((((a8 g p).1).2).1)+1)*((((((a8 g p).1).2).2).1)+1))))]) aH zs4 rfl bx15 rfl nq (AllOne.all (.cons rfl (.cons rfl (.cons rfl (.cons rfl (.cons rfl (.cons rfl (.cons rfl .nil)))))))) rfl ?_
    intro w211 ch212 bx213
    clear bx15
    refine ai 0 (aa (aF (vs:=[vg [Value.float .f64 sm,Value.float .f64 (ad fq58),Value.float .f64 mn,Value.float .f64 mx,Value.float .f64 fq64,Value.float .f64 (ad fq87),Value.float .f64 (aJ (ak g.1) (ak ((((((a8 g p).1).2).1)+1)*((((((a8 g p).1).2).2).1)+1))))],vi 0]) Try.func8 (.cell zs4 (bA (ds:=[Value.float .f64 sm,Value.float .f64 (ad fq58),Value.float .f64 mn,Value.float .f64 mx,Value.float .f64 fq64,Value.float .f64 (ad fq87),Value.float .f64 (aJ (ak g.1) (ak ((((((a8 g p).1).2).1)+1)*((((((a8 g p).1).2).2).1)+1))))]) aH bx213 rfl rfl) (.tmp rfl .nil)) ?_))
    have e0:((sm,ad fq58,mn,mx,fq64,ad fq87,aJ (ak g.1) (ak ((((((a8 g p).1).2).1)+1)*((((((a8 g p).1).2).2).1)+1)))):(Nat)×(Nat)×(Nat)×(Nat)×(Nat)×(Nat)×(Nat))=((a9 g p).1):=by
      exact cE hf0 hS (by exact c1.1 ‹_›) hmn hmx (by exact c2.2 ‹_›) (by exact c3.1 ‹_›) (by exact c4.2 ‹_›)
    have e1:(0:Int)=((a9 g p).2):=by
      rw[ch hf0]
    have C215:=cg [3,5,6] (ch79.n.seq ((ch81.l rfl).seq (hb84.n.seq (ch86.n.seq ((ch91.l rfl).seq ((ch98.l rfl).seq (ch111.n.seq (ch113.n.seq (hc116.n.seq (hb118.n.seq ((ch120.l rfl).seq (ch123.n.seq (hc126.n.seq (ch185.n.seq (hc188.n.seq (hb191.n.seq ((ch193.l rfl).seq (ch196.n.seq (hc199.n.seq (ch212.l rfl))))))))))))))))))))
    replace bH:=bH.ca C215
    exact⟨(bL (a:=(sm,ad fq58,mn,mx,fq64,ad fq87,aJ (ak g.1) (ak ((((((a8 g p).1).2).1)+1)*((((((a8 g p).1).2).2).1)+1))))) (b:=0) (λ(z0:(Nat)×(Nat)×(Nat)×(Nat)×(Nat)×(Nat)×(Nat)) (z1:Int)=>Ending.returned (vt [vg [Value.float .f64 z0.1,Value.float .f64 z0.2.1,Value.float .f64 z0.2.2.1,Value.float .f64 z0.2.2.2.1,Value.float .f64 z0.2.2.2.2.1,Value.float .f64 z0.2.2.2.2.2.1,Value.float .f64 z0.2.2.2.2.2.2],vi z1])) e0 e1),bH.below⟩
   refine al rfl (Bool.eq_false_iff.2 p27_189) (az (au (a0 rfl (lx (bb (m:=2) (n:=1) rfl rfl (by omega)) (mi 3 (aa (aM (a5 (a0 rfl (lx (bd (m:=3) (n:=4) rfl rfl) ?_))))))))))
   refine aa (a5 (aj rfl rfl (az (a5 (aE (a5 (a0 rfl ?_)))))))
   replace o112:=(o112.cn ch185).cn hc188
   refine lx (ab (v:=v110) (i:=3) i9 rfl rfl o112.flat rfl (by omega) (by(simp only[List.length_set,List.length_append,List.length_cons,List.length_nil,List.length_replicate,List.length_map,List.length_take,List.length_drop];omega))) (lx (aV cd rfl (cL hv107 o112 rfl)) (ma (vp b30 6) (aa (a5 (bC g108 rfl bV (by kernel_rfl) ?_)))))
   intro w217 ch216
   refine qm (vp b30 6) (qv (vp b30 6) (λw' hw'=>ar rfl) ?_)
   replace bx121:=(bx121.cn hc188).cn ch216
   refine qx (λw' hw'=>a7 ag rfl (bx121.bel hw') rfl) (qm (vp b30 6) (qv (vp b30 6) (λw' hw'=>ar rfl) (qx (λw' hw'=>a7 ag rfl (bx121.bel hw') rfl) (qv (vb (bo (aJ (ak g.1) (ak ((((((a8 g p).1).2).1)+1)*((((((a8 g p).1).2).2).1)+1)))))) (λw' hw'=>cv (a:=(aJ (ak g.1) (ak ((((((a8 g p).1).2).1)+1)*((((((a8 g p).1).2).2).1)+1))))) rfl rfl) (ct ?_)))))
   intro w218 hc219
   replace hc219:=af hc219 g108
   by_cases p27_220:bo (aJ (ak g.1) (ak ((((((a8 g p).1).2).1)+1)*((((((a8 g p).1).2).2).1)+1))))=true
   ·
    refine aj rfl p27_220 (a0 rfl (mv (vp b30 6) (mv (vp b30 6) (lw (vp b30 6) (ar rfl) ?_))))
    replace bx121:=bx121.cn hc219
    refine lx (a7 ag rfl bx121 rfl) (lo (aG (v:=Value.float .f64 (ad (aJ (ak g.1) (ak ((((((a8 g p).1).2).1)+1)*((((((a8 g p).1).2).2).1)+1)))))) (aB (vals:=[Value.float .f64 (aJ (ak g.1) (ak ((((((a8 g p).1).2).1)+1)*((((((a8 g p).1).2).2).1)+1))))]) Try.func26 cm cl rfl) (bU w218 (aJ (ak g.1) (ak ((((((a8 g p).1).2).1)+1)*((((((a8 g p).1).2).2).1)+1)))) (by exact .inr ‹_›)) ?_))
    intro w221 hb222
    replace hb222:=af hb222 g108
    refine lw (vp b30 6) (ar rfl) (lo ?_)
    replace bx121:=bx121.cn hb222
    refine ae (cs':=[Value.float .f64 sm,Value.float .f64 (ad fq58),Value.float .f64 mn,Value.float .f64 mx,Value.float .f64 fq64,Value.float .f64 fq87,Value.float .f64 (ad (aJ (ak g.1) (ak ((((((a8 g p).1).2).1)+1)*((((((a8 g p).1).2).2).1)+1)))))]) ag rfl rfl bx121 rfl nq (AllOne.all (.cons rfl .nil)) rfl ?_
    intro w223 ch224 bx225
    clear bx121
    refine aa (au (a0 rfl (lx (bb (m:=3) (n:=1) rfl rfl (by omega)) (mi 4 (aa (aM (a5 (a0 rfl (lx (bd (m:=4) (n:=4) rfl rfl) (aa (a5 ?_)))))))))))
    refine al rfl rfl (aZ rfl (a5 ?_))
    clear o112
    refine a0 rfl (lx (ah (ds:=[Value.float .f64 sm,Value.float .f64 (ad fq58),Value.float .f64 mn,Value.float .f64 mx,Value.float .f64 fq64,Value.float .f64 fq87,Value.float .f64 (ad (aJ (ak g.1) (ak ((((((a8 g p).1).2).1)+1)*((((((a8 g p).1).2).2).1)+1)))))]) aH zs8 bx225 rfl rfl) (lo ?_))
    have C229:=cg [5,6] (ch79.n.seq ((ch81.l rfl).seq (hb84.n.seq (ch86.n.seq ((ch91.l rfl).seq ((ch98.l rfl).seq (ch111.n.seq (ch113.n.seq (hc116.n.seq (hb118.n.seq ((ch120.l rfl).seq (ch123.n.seq (hc126.n.seq (ch185.n.seq (hc188.n.seq (ch216.n.seq (hc219.n.seq (hb222.n.seq (ch224.l rfl)))))))))))))))))))
    replace bx15:=bx15.ca C229
    refine ae (cs':=[Value.float .f64 sm,Value.float .f64 (ad fq58),Value.float .f64 mn,Value.float .f64 mx,Value.float .f64 fq64,Value.float .f64 fq87,Value.float .f64 (ad (aJ (ak g.1) (ak ((((((a8 g p).1).2).1)+1)*((((((a8 g p).1).2).2).1)+1)))))]) aH zs4 rfl bx15 rfl nq (AllOne.all (.cons rfl (.cons rfl (.cons rfl (.cons rfl (.cons rfl (.cons rfl (.cons rfl .nil)))))))) rfl ?_
    intro w226 ch227 bx228
    clear bx15
    refine ai 0 (aa (aF (vs:=[vg [Value.float .f64 sm,Value.float .f64 (ad fq58),Value.float .f64 mn,Value.float .f64 mx,Value.float .f64 fq64,Value.float .f64 fq87,Value.float .f64 (ad (aJ (ak g.1) (ak ((((((a8 g p).1).2).1)+1)*((((((a8 g p).1).2).2).1)+1)))))],vi 0]) Try.func8 (.cell zs4 (bA (ds:=[Value.float .f64 sm,Value.float .f64 (ad fq58),Value.float .f64 mn,Value.float .f64 mx,Value.float .f64 fq64,Value.float .f64 fq87,Value.float .f64 (ad (aJ (ak g.1) (ak ((((((a8 g p).1).2).1)+1)*((((((a8 g p).1).2).2).1)+1)))))]) aH bx228 rfl rfl) (.tmp rfl .nil)) ?_))
    have e0:((sm,ad fq58,mn,mx,fq64,fq87,ad (aJ (ak g.1) (ak ((((((a8 g p).1).2).1)+1)*((((((a8 g p).1).2).2).1)+1))))):(Nat)×(Nat)×(Nat)×(Nat)×(Nat)×(Nat)×(Nat))=((a9 g p).1):=by
      exact cE hf0 hS (by exact c1.1 ‹_›) hmn hmx (by exact c2.2 ‹_›) (by exact c3.2 ‹_›) (by exact c4.1 ‹_›)
    have e1:(0:Int)=((a9 g p).2):=by
      rw[ch hf0]
    have C230:=cg [3,5,6] (ch79.n.seq ((ch81.l rfl).seq (hb84.n.seq (ch86.n.seq ((ch91.l rfl).seq ((ch98.l rfl).seq (ch111.n.seq (ch113.n.seq (hc116.n.seq (hb118.n.seq ((ch120.l rfl).seq (ch123.n.seq (hc126.n.seq (ch185.n.seq (hc188.n.seq (ch216.n.seq (hc219.n.seq (hb222.n.seq ((ch224.l rfl).seq (ch227.l rfl))))))))))))))))))))
    replace bH:=bH.ca C230
    exact⟨(bL (a:=(sm,ad fq58,mn,mx,fq64,fq87,ad (aJ (ak g.1) (ak ((((((a8 g p).1).2).1)+1)*((((((a8 g p).1).2).2).1)+1)))))) (b:=0) (λ(z0:(Nat)×(Nat)×(Nat)×(Nat)×(Nat)×(Nat)×(Nat)) (z1:Int)=>Ending.returned (vt [vg [Value.float .f64 z0.1,Value.float .f64 z0.2.1,Value.float .f64 z0.2.2.1,Value.float .f64 z0.2.2.2.1,Value.float .f64 z0.2.2.2.2.1,Value.float .f64 z0.2.2.2.2.2.1,Value.float .f64 z0.2.2.2.2.2.2],vi z1])) e0 e1),bH.below⟩
   refine al rfl (Bool.eq_false_iff.2 p27_220) (az (au (a0 rfl (lx (bb (m:=3) (n:=1) rfl rfl (by omega)) (mi 4 (aa (aM (a5 (a0 rfl (lx (bd (m:=4) (n:=4) rfl rfl) ?_))))))))))
   refine aa (a5 (al rfl rfl (aZ rfl (a5 ?_))))
   clear o112
   refine a0 rfl ?_
   replace bx121:=bx121.cn hc219
   refine lx (ah (ds:=[Value.float .f64 sm,Value.float .f64 (ad fq58),Value.float .f64 mn,Value.float .f64 mx,Value.float .f64 fq64,Value.float .f64 fq87,Value.float .f64 (aJ (ak g.1) (ak ((((((a8 g p).1).2).1)+1)*((((((a8 g p).1).2).2).1)+1))))]) aH zs8 bx121 rfl rfl) (lo ?_)
   have C234:=cg [5,6] (ch79.n.seq ((ch81.l rfl).seq (hb84.n.seq (ch86.n.seq ((ch91.l rfl).seq ((ch98.l rfl).seq (ch111.n.seq (ch113.n.seq (hc116.n.seq (hb118.n.seq ((ch120.l rfl).seq (ch123.n.seq (hc126.n.seq (ch185.n.seq (hc188.n.seq (ch216.n.seq hc219.n))))))))))))))))
   replace bx15:=bx15.ca C234
   refine ae (cs':=[Value.float .f64 sm,Value.float .f64 (ad fq58),Value.float .f64 mn,Value.float .f64 mx,Value.float .f64 fq64,Value.float .f64 fq87,Value.float .f64 (aJ (ak g.1) (ak ((((((a8 g p).1).2).1)+1)*((((((a8 g p).1).2).2).1)+1))))]) aH zs4 rfl bx15 rfl nq (AllOne.all (.cons rfl (.cons rfl (.cons rfl (.cons rfl (.cons rfl (.cons rfl (.cons rfl .nil)))))))) rfl ?_
   intro w231 ch232 bx233
   clear bx15
   refine ai 0 (aa (aF (vs:=[vg [Value.float .f64 sm,Value.float .f64 (ad fq58),Value.float .f64 mn,Value.float .f64 mx,Value.float .f64 fq64,Value.float .f64 fq87,Value.float .f64 (aJ (ak g.1) (ak ((((((a8 g p).1).2).1)+1)*((((((a8 g p).1).2).2).1)+1))))],vi 0]) Try.func8 (.cell zs4 (bA (ds:=[Value.float .f64 sm,Value.float .f64 (ad fq58),Value.float .f64 mn,Value.float .f64 mx,Value.float .f64 fq64,Value.float .f64 fq87,Value.float .f64 (aJ (ak g.1) (ak ((((((a8 g p).1).2).1)+1)*((((((a8 g p).1).2).2).1)+1))))]) aH bx233 rfl rfl) (.tmp rfl .nil)) ?_))
   have e0:((sm,ad fq58,mn,mx,fq64,fq87,aJ (ak g.1) (ak ((((((a8 g p).1).2).1)+1)*((((((a8 g p).1).2).2).1)+1)))):(Nat)×(Nat)×(Nat)×(Nat)×(Nat)×(Nat)×(Nat))=((a9 g p).1):=by
     exact cE hf0 hS (by exact c1.1 ‹_›) hmn hmx (by exact c2.2 ‹_›) (by exact c3.2 ‹_›) (by exact c4.2 ‹_›)
   have e1:(0:Int)=((a9 g p).2):=by
     rw[ch hf0]
   have C235:=cg [3,5,6] (ch79.n.seq ((ch81.l rfl).seq (hb84.n.seq (ch86.n.seq ((ch91.l rfl).seq ((ch98.l rfl).seq (ch111.n.seq (ch113.n.seq (hc116.n.seq (hb118.n.seq ((ch120.l rfl).seq (ch123.n.seq (hc126.n.seq (ch185.n.seq (hc188.n.seq (ch216.n.seq (hc219.n.seq (ch232.l rfl))))))))))))))))))
   replace bH:=bH.ca C235
   exact⟨(bL (a:=(sm,ad fq58,mn,mx,fq64,fq87,aJ (ak g.1) (ak ((((((a8 g p).1).2).1)+1)*((((((a8 g p).1).2).2).1)+1))))) (b:=0) (λ(z0:(Nat)×(Nat)×(Nat)×(Nat)×(Nat)×(Nat)×(Nat)) (z1:Int)=>Ending.returned (vt [vg [Value.float .f64 z0.1,Value.float .f64 z0.2.1,Value.float .f64 z0.2.2.1,Value.float .f64 z0.2.2.2.1,Value.float .f64 z0.2.2.2.2.1,Value.float .f64 z0.2.2.2.2.2.1,Value.float .f64 z0.2.2.2.2.2.2],vi z1])) e0 e1),bH.below⟩
  refine al rfl (Bool.eq_false_iff.2 p27) (az (au (a0 rfl (lx (bb (m:=0) (n:=1) rfl rfl (by omega)) (mi 1 (aa (aM (a5 (a0 rfl (lx (bd (m:=1) (n:=4) rfl rfl) ?_))))))))))
  refine aa (a5 (aj rfl rfl (az (a5 (aE (a5 (a0 rfl ?_)))))))
  replace o112:=(o112.cn ch113).cn hc116
  refine lx (ab (v:=v110) (i:=1) i9 rfl rfl o112.flat rfl (by omega) (by(simp only[List.length_set,List.length_append,List.length_cons,List.length_nil,List.length_replicate,List.length_map,List.length_take,List.length_drop];omega))) (lx (aV cd rfl (cL hv103 o112 rfl)) (ma (vp b30 4) (aa (a5 (bC g108 rfl bV (by kernel_rfl) ?_)))))
  intro w237 ch236
  refine qm (vp b30 4) (qv (vp b30 4) (λw' hw'=>ar rfl) ?_)
  replace bx99:=(bx99.cn hc116).cn ch236
  refine qx (λw' hw'=>a7 ag rfl (bx99.bel hw') rfl) (qm (vp b30 4) (qv (vp b30 4) (λw' hw'=>ar rfl) (qx (λw' hw'=>a7 ag rfl (bx99.bel hw') rfl) (qv (vb (bo fq64)) (λw' hw'=>cv (a:=fq64) rfl rfl) (ct ?_)))))
  intro w238 hc239
  replace hc239:=af hc239 g108
  by_cases p27_240:bo fq64=true
  ·
   refine aj rfl p27_240 (a0 rfl (mv (vp b30 4) (mv (vp b30 4) (lw (vp b30 4) (ar rfl) ?_))))
   replace bx99:=bx99.cn hc239
   refine lx (a7 ag rfl bx99 rfl) (lo (aG (v:=Value.float .f64 (ad fq64)) (aB (vals:=[Value.float .f64 fq64]) Try.func26 cm cl rfl) (bU w238 fq64 (by exact gh hfq64 hv64)) ?_))
   intro w241 hb242
   replace hb242:=af hb242 g108
   refine lw (vp b30 4) (ar rfl) (lo ?_)
   replace bx99:=bx99.cn hb242
   refine ae (cs':=[Value.float .f64 sm,Value.float .f64 fq58,Value.float .f64 mn,Value.float .f64 mx,Value.float .f64 (ad fq64),Value.float .f64 fq87,Value.float .f64 (aJ (ak g.1) (ak ((((((a8 g p).1).2).1)+1)*((((((a8 g p).1).2).2).1)+1))))]) ag rfl rfl bx99 rfl nq (AllOne.all (.cons rfl .nil)) rfl ?_
   intro w243 ch244 bx245
   clear bx99
   refine aa (au (a0 rfl (lx (bb (m:=1) (n:=1) rfl rfl (by omega)) (mi 2 (aa (aM (a5 (a0 rfl (lx (bd (m:=2) (n:=4) rfl rfl) (aa (a5 ?_)))))))))))
   refine aj rfl rfl (az (a5 (aE (a5 (a0 rfl ?_)))))
   have C246:=cg [5] (ch236.n.seq (hc239.n.seq (hb242.n.seq (ch244.l rfl))))
   replace o112:=o112.ca C246
   refine lx (ab (v:=v110) (i:=2) i9 rfl rfl o112.flat rfl (by omega) (by(simp only[List.length_set,List.length_append,List.length_cons,List.length_nil,List.length_replicate,List.length_map,List.length_take,List.length_drop];omega))) (lx (aV cd rfl (cL hv105 o112 rfl)) (ma (vp b30 5) (aa (a5 (bC g108 rfl bV (by kernel_rfl) ?_)))))
   intro w248 ch247
   refine qm (vp b30 5) (qv (vp b30 5) (λw' hw'=>ar rfl) ?_)
   replace bx245:=bx245.cn ch247
   refine qx (λw' hw'=>a7 ag rfl (bx245.bel hw') rfl) (qm (vp b30 5) (qv (vp b30 5) (λw' hw'=>ar rfl) (qx (λw' hw'=>a7 ag rfl (bx245.bel hw') rfl) (qv (vb (bo fq87)) (λw' hw'=>cv (a:=fq87) rfl rfl) (ct ?_)))))
   intro w249 hc250
   replace hc250:=af hc250 g108
   by_cases p27_251:bo fq87=true
   ·
    refine aj rfl p27_251 (a0 rfl (mv (vp b30 5) (mv (vp b30 5) (lw (vp b30 5) (ar rfl) ?_))))
    replace bx245:=bx245.cn hc250
    refine lx (a7 ag rfl bx245 rfl) (lo (aG (v:=Value.float .f64 (ad fq87)) (aB (vals:=[Value.float .f64 fq87]) Try.func26 cm cl rfl) (bU w249 fq87 (by exact gh hfq87 hv87)) ?_))
    intro w252 hb253
    replace hb253:=af hb253 g108
    refine lw (vp b30 5) (ar rfl) (lo ?_)
    replace bx245:=bx245.cn hb253
    refine ae (cs':=[Value.float .f64 sm,Value.float .f64 fq58,Value.float .f64 mn,Value.float .f64 mx,Value.float .f64 (ad fq64),Value.float .f64 (ad fq87),Value.float .f64 (aJ (ak g.1) (ak ((((((a8 g p).1).2).1)+1)*((((((a8 g p).1).2).2).1)+1))))]) ag rfl rfl bx245 rfl nq (AllOne.all (.cons rfl .nil)) rfl ?_
    intro w254 ch255 bx256
    clear bx245
    refine aa (au (a0 rfl (lx (bb (m:=2) (n:=1) rfl rfl (by omega)) (mi 3 (aa (aM (a5 (a0 rfl (lx (bd (m:=3) (n:=4) rfl rfl) (aa (a5 ?_)))))))))))
    refine aj rfl rfl (az (a5 (aE (a5 (a0 rfl ?_)))))
    have C257:=cg [5] (ch247.n.seq (hc250.n.seq (hb253.n.seq (ch255.l rfl))))
    replace o112:=o112.ca C257
    refine lx (ab (v:=v110) (i:=3) i9 rfl rfl o112.flat rfl (by omega) (by(simp only[List.length_set,List.length_append,List.length_cons,List.length_nil,List.length_replicate,List.length_map,List.length_take,List.length_drop];omega))) (lx (aV cd rfl (cL hv107 o112 rfl)) (ma (vp b30 6) (aa (a5 (bC g108 rfl bV (by kernel_rfl) ?_)))))
    intro w259 ch258
    refine qm (vp b30 6) (qv (vp b30 6) (λw' hw'=>ar rfl) ?_)
    replace bx256:=bx256.cn ch258
    refine qx (λw' hw'=>a7 ag rfl (bx256.bel hw') rfl) (qm (vp b30 6) (qv (vp b30 6) (λw' hw'=>ar rfl) (qx (λw' hw'=>a7 ag rfl (bx256.bel hw') rfl) (qv (vb (bo (aJ (ak g.1) (ak ((((((a8 g p).1).2).1)+1)*((((((a8 g p).1).2).2).1)+1)))))) (λw' hw'=>cv (a:=(aJ (ak g.1) (ak ((((((a8 g p).1).2).1)+1)*((((((a8 g p).1).2).2).1)+1))))) rfl rfl) (ct ?_)))))
    intro w260 hc261
    replace hc261:=af hc261 g108
    by_cases p27_262:bo (aJ (ak g.1) (ak ((((((a8 g p).1).2).1)+1)*((((((a8 g p).1).2).2).1)+1))))=true
    ·
     refine aj rfl p27_262 (a0 rfl (mv (vp b30 6) (mv (vp b30 6) (lw (vp b30 6) (ar rfl) ?_))))
     replace bx256:=bx256.cn hc261
     refine lx (a7 ag rfl bx256 rfl) (lo (aG (v:=Value.float .f64 (ad (aJ (ak g.1) (ak ((((((a8 g p).1).2).1)+1)*((((((a8 g p).1).2).2).1)+1)))))) (aB (vals:=[Value.float .f64 (aJ (ak g.1) (ak ((((((a8 g p).1).2).1)+1)*((((((a8 g p).1).2).2).1)+1))))]) Try.func26 cm cl rfl) (bU w260 (aJ (ak g.1) (ak ((((((a8 g p).1).2).1)+1)*((((((a8 g p).1).2).2).1)+1)))) (by exact .inr ‹_›)) ?_))
     intro w263 hb264
     replace hb264:=af hb264 g108
     refine lw (vp b30 6) (ar rfl) (lo ?_)
     replace bx256:=bx256.cn hb264
     refine ae (cs':=[Value.float .f64 sm,Value.float .f64 fq58,Value.float .f64 mn,Value.float .f64 mx,Value.float .f64 (ad fq64),Value.float .f64 (ad fq87),Value.float .f64 (ad (aJ (ak g.1) (ak ((((((a8 g p).1).2).1)+1)*((((((a8 g p).1).2).2).1)+1)))))]) ag rfl rfl bx256 rfl nq (AllOne.all (.cons rfl .nil)) rfl ?_
     intro w265 ch266 bx267
     clear bx256
     refine aa (au (a0 rfl (lx (bb (m:=3) (n:=1) rfl rfl (by omega)) (mi 4 (aa (aM (a5 (a0 rfl (lx (bd (m:=4) (n:=4) rfl rfl) (aa (a5 ?_)))))))))))
     refine al rfl rfl (aZ rfl (a5 ?_))
     clear o112
     refine a0 rfl (lx (ah (ds:=[Value.float .f64 sm,Value.float .f64 fq58,Value.float .f64 mn,Value.float .f64 mx,Value.float .f64 (ad fq64),Value.float .f64 (ad fq87),Value.float .f64 (ad (aJ (ak g.1) (ak ((((((a8 g p).1).2).1)+1)*((((((a8 g p).1).2).2).1)+1)))))]) aH zs8 bx267 rfl rfl) (lo ?_))
     have C271:=cg [5,6] (ch79.n.seq ((ch81.l rfl).seq (hb84.n.seq (ch86.n.seq ((ch91.l rfl).seq ((ch98.l rfl).seq (ch111.n.seq (ch113.n.seq (hc116.n.seq (ch236.n.seq (hc239.n.seq (hb242.n.seq ((ch244.l rfl).seq (ch247.n.seq (hc250.n.seq (hb253.n.seq ((ch255.l rfl).seq (ch258.n.seq (hc261.n.seq (hb264.n.seq (ch266.l rfl)))))))))))))))))))))
     replace bx15:=bx15.ca C271
     refine ae (cs':=[Value.float .f64 sm,Value.float .f64 fq58,Value.float .f64 mn,Value.float .f64 mx,Value.float .f64 (ad fq64),Value.float .f64 (ad fq87),Value.float .f64 (ad (aJ (ak g.1) (ak ((((((a8 g p).1).2).1)+1)*((((((a8 g p).1).2).2).1)+1)))))]) aH zs4 rfl bx15 rfl nq (AllOne.all (.cons rfl (.cons rfl (.cons rfl (.cons rfl (.cons rfl (.cons rfl (.cons rfl .nil)))))))) rfl ?_
     intro w268 ch269 bx270
     clear bx15
     refine ai 0 (aa (aF (vs:=[vg [Value.float .f64 sm,Value.float .f64 fq58,Value.float .f64 mn,Value.float .f64 mx,Value.float .f64 (ad fq64),Value.float .f64 (ad fq87),Value.float .f64 (ad (aJ (ak g.1) (ak ((((((a8 g p).1).2).1)+1)*((((((a8 g p).1).2).2).1)+1)))))],vi 0]) Try.func8 (.cell zs4 (bA (ds:=[Value.float .f64 sm,Value.float .f64 fq58,Value.float .f64 mn,Value.float .f64 mx,Value.float .f64 (ad fq64),Value.float .f64 (ad fq87),Value.float .f64 (ad (aJ (ak g.1) (ak ((((((a8 g p).1).2).1)+1)*((((((a8 g p).1).2).2).1)+1)))))]) aH bx270 rfl rfl) (.tmp rfl .nil)) ?_))
     have e0:((sm,fq58,mn,mx,ad fq64,ad fq87,ad (aJ (ak g.1) (ak ((((((a8 g p).1).2).1)+1)*((((((a8 g p).1).2).2).1)+1))))):(Nat)×(Nat)×(Nat)×(Nat)×(Nat)×(Nat)×(Nat))=((a9 g p).1):=by
       exact cE hf0 hS (by exact c1.2 ‹_›) hmn hmx (by exact c2.1 ‹_›) (by exact c3.1 ‹_›) (by exact c4.1 ‹_›)
     have e1:(0:Int)=((a9 g p).2):=by
       rw[ch hf0]
     have C272:=cg [3,5,6] (ch79.n.seq ((ch81.l rfl).seq (hb84.n.seq (ch86.n.seq ((ch91.l rfl).seq ((ch98.l rfl).seq (ch111.n.seq (ch113.n.seq (hc116.n.seq (ch236.n.seq (hc239.n.seq (hb242.n.seq ((ch244.l rfl).seq (ch247.n.seq (hc250.n.seq (hb253.n.seq ((ch255.l rfl).seq (ch258.n.seq (hc261.n.seq (hb264.n.seq ((ch266.l rfl).seq (ch269.l rfl))))))))))))))))))))))
     replace bH:=bH.ca C272
     exact⟨(bL (a:=(sm,fq58,mn,mx,ad fq64,ad fq87,ad (aJ (ak g.1) (ak ((((((a8 g p).1).2).1)+1)*((((((a8 g p).1).2).2).1)+1)))))) (b:=0) (λ(z0:(Nat)×(Nat)×(Nat)×(Nat)×(Nat)×(Nat)×(Nat)) (z1:Int)=>Ending.returned (vt [vg [Value.float .f64 z0.1,Value.float .f64 z0.2.1,Value.float .f64 z0.2.2.1,Value.float .f64 z0.2.2.2.1,Value.float .f64 z0.2.2.2.2.1,Value.float .f64 z0.2.2.2.2.2.1,Value.float .f64 z0.2.2.2.2.2.2],vi z1])) e0 e1),bH.below⟩
    refine al rfl (Bool.eq_false_iff.2 p27_262) (az (au (a0 rfl (lx (bb (m:=3) (n:=1) rfl rfl (by omega)) (mi 4 (aa (aM (a5 (a0 rfl (lx (bd (m:=4) (n:=4) rfl rfl) ?_))))))))))
    refine aa (a5 (al rfl rfl (aZ rfl (a5 ?_))))
    clear o112
    refine a0 rfl ?_
    replace bx256:=bx256.cn hc261
    refine lx (ah (ds:=[Value.float .f64 sm,Value.float .f64 fq58,Value.float .f64 mn,Value.float .f64 mx,Value.float .f64 (ad fq64),Value.float .f64 (ad fq87),Value.float .f64 (aJ (ak g.1) (ak ((((((a8 g p).1).2).1)+1)*((((((a8 g p).1).2).2).1)+1))))]) aH zs8 bx256 rfl rfl) (lo ?_)
    have C276:=cg [5,6] (ch79.n.seq ((ch81.l rfl).seq (hb84.n.seq (ch86.n.seq ((ch91.l rfl).seq ((ch98.l rfl).seq (ch111.n.seq (ch113.n.seq (hc116.n.seq (ch236.n.seq (hc239.n.seq (hb242.n.seq ((ch244.l rfl).seq (ch247.n.seq (hc250.n.seq (hb253.n.seq ((ch255.l rfl).seq (ch258.n.seq hc261.n))))))))))))))))))
    replace bx15:=bx15.ca C276
    refine ae (cs':=[Value.float .f64 sm,Value.float .f64 fq58,Value.float .f64 mn,Value.float .f64 mx,Value.float .f64 (ad fq64),Value.float .f64 (ad fq87),Value.float .f64 (aJ (ak g.1) (ak ((((((a8 g p).1).2).1)+1)*((((((a8 g p).1).2).2).1)+1))))]) aH zs4 rfl bx15 rfl nq (AllOne.all (.cons rfl (.cons rfl (.cons rfl (.cons rfl (.cons rfl (.cons rfl (.cons rfl .nil)))))))) rfl ?_
    intro w273 ch274 bx275
    clear bx15
    refine ai 0 (aa (aF (vs:=[vg [Value.float .f64 sm,Value.float .f64 fq58,Value.float .f64 mn,Value.float .f64 mx,Value.float .f64 (ad fq64),Value.float .f64 (ad fq87),Value.float .f64 (aJ (ak g.1) (ak ((((((a8 g p).1).2).1)+1)*((((((a8 g p).1).2).2).1)+1))))],vi 0]) Try.func8 (.cell zs4 (bA (ds:=[Value.float .f64 sm,Value.float .f64 fq58,Value.float .f64 mn,Value.float .f64 mx,Value.float .f64 (ad fq64),Value.float .f64 (ad fq87),Value.float .f64 (aJ (ak g.1) (ak ((((((a8 g p).1).2).1)+1)*((((((a8 g p).1).2).2).1)+1))))]) aH bx275 rfl rfl) (.tmp rfl .nil)) ?_))
    have e0:((sm,fq58,mn,mx,ad fq64,ad fq87,aJ (ak g.1) (ak ((((((a8 g p).1).2).1)+1)*((((((a8 g p).1).2).2).1)+1)))):(Nat)×(Nat)×(Nat)×(Nat)×(Nat)×(Nat)×(Nat))=((a9 g p).1):=by
      exact cE hf0 hS (by exact c1.2 ‹_›) hmn hmx (by exact c2.1 ‹_›) (by exact c3.1 ‹_›) (by exact c4.2 ‹_›)
    have e1:(0:Int)=((a9 g p).2):=by
      rw[ch hf0]
    have C277:=cg [3,5,6] (ch79.n.seq ((ch81.l rfl).seq (hb84.n.seq (ch86.n.seq ((ch91.l rfl).seq ((ch98.l rfl).seq (ch111.n.seq (ch113.n.seq (hc116.n.seq (ch236.n.seq (hc239.n.seq (hb242.n.seq ((ch244.l rfl).seq (ch247.n.seq (hc250.n.seq (hb253.n.seq ((ch255.l rfl).seq (ch258.n.seq (hc261.n.seq (ch274.l rfl))))))))))))))))))))
    replace bH:=bH.ca C277
    exact⟨(bL (a:=(sm,fq58,mn,mx,ad fq64,ad fq87,aJ (ak g.1) (ak ((((((a8 g p).1).2).1)+1)*((((((a8 g p).1).2).2).1)+1))))) (b:=0) (λ(z0:(Nat)×(Nat)×(Nat)×(Nat)×(Nat)×(Nat)×(Nat)) (z1:Int)=>Ending.returned (vt [vg [Value.float .f64 z0.1,Value.float .f64 z0.2.1,Value.float .f64 z0.2.2.1,Value.float .f64 z0.2.2.2.1,Value.float .f64 z0.2.2.2.2.1,Value.float .f64 z0.2.2.2.2.2.1,Value.float .f64 z0.2.2.2.2.2.2],vi z1])) e0 e1),bH.below⟩
   refine al rfl (Bool.eq_false_iff.2 p27_251) (az (au (a0 rfl (lx (bb (m:=2) (n:=1) rfl rfl (by omega)) (mi 3 (aa (aM (a5 (a0 rfl (lx (bd (m:=3) (n:=4) rfl rfl) ?_))))))))))
   refine aa (a5 (aj rfl rfl (az (a5 (aE (a5 (a0 rfl ?_)))))))
   replace o112:=(o112.cn ch247).cn hc250
   refine lx (ab (v:=v110) (i:=3) i9 rfl rfl o112.flat rfl (by omega) (by(simp only[List.length_set,List.length_append,List.length_cons,List.length_nil,List.length_replicate,List.length_map,List.length_take,List.length_drop];omega))) (lx (aV cd rfl (cL hv107 o112 rfl)) (ma (vp b30 6) (aa (a5 (bC g108 rfl bV (by kernel_rfl) ?_)))))
   intro w279 ch278
   refine qm (vp b30 6) (qv (vp b30 6) (λw' hw'=>ar rfl) ?_)
   replace bx245:=(bx245.cn hc250).cn ch278
   refine qx (λw' hw'=>a7 ag rfl (bx245.bel hw') rfl) (qm (vp b30 6) (qv (vp b30 6) (λw' hw'=>ar rfl) (qx (λw' hw'=>a7 ag rfl (bx245.bel hw') rfl) (qv (vb (bo (aJ (ak g.1) (ak ((((((a8 g p).1).2).1)+1)*((((((a8 g p).1).2).2).1)+1)))))) (λw' hw'=>cv (a:=(aJ (ak g.1) (ak ((((((a8 g p).1).2).1)+1)*((((((a8 g p).1).2).2).1)+1))))) rfl rfl) (ct ?_)))))
   intro w280 hc281
   replace hc281:=af hc281 g108
   by_cases p27_282:bo (aJ (ak g.1) (ak ((((((a8 g p).1).2).1)+1)*((((((a8 g p).1).2).2).1)+1))))=true
   ·
    refine aj rfl p27_282 (a0 rfl (mv (vp b30 6) (mv (vp b30 6) (lw (vp b30 6) (ar rfl) ?_))))
    replace bx245:=bx245.cn hc281
    refine lx (a7 ag rfl bx245 rfl) (lo (aG (v:=Value.float .f64 (ad (aJ (ak g.1) (ak ((((((a8 g p).1).2).1)+1)*((((((a8 g p).1).2).2).1)+1)))))) (aB (vals:=[Value.float .f64 (aJ (ak g.1) (ak ((((((a8 g p).1).2).1)+1)*((((((a8 g p).1).2).2).1)+1))))]) Try.func26 cm cl rfl) (bU w280 (aJ (ak g.1) (ak ((((((a8 g p).1).2).1)+1)*((((((a8 g p).1).2).2).1)+1)))) (by exact .inr ‹_›)) ?_))
    intro w283 hb284
    replace hb284:=af hb284 g108
    refine lw (vp b30 6) (ar rfl) (lo ?_)
    replace bx245:=bx245.cn hb284
    refine ae (cs':=[Value.float .f64 sm,Value.float .f64 fq58,Value.float .f64 mn,Value.float .f64 mx,Value.float .f64 (ad fq64),Value.float .f64 fq87,Value.float .f64 (ad (aJ (ak g.1) (ak ((((((a8 g p).1).2).1)+1)*((((((a8 g p).1).2).2).1)+1)))))]) ag rfl rfl bx245 rfl nq (AllOne.all (.cons rfl .nil)) rfl ?_
    intro w285 ch286 bx287
    clear bx245
    refine aa (au (a0 rfl (lx (bb (m:=3) (n:=1) rfl rfl (by omega)) (mi 4 (aa (aM (a5 (a0 rfl (lx (bd (m:=4) (n:=4) rfl rfl) (aa (a5 ?_)))))))))))
    refine al rfl rfl (aZ rfl (a5 ?_))
    clear o112
    refine a0 rfl (lx (ah (ds:=[Value.float .f64 sm,Value.float .f64 fq58,Value.float .f64 mn,Value.float .f64 mx,Value.float .f64 (ad fq64),Value.float .f64 fq87,Value.float .f64 (ad (aJ (ak g.1) (ak ((((((a8 g p).1).2).1)+1)*((((((a8 g p).1).2).2).1)+1)))))]) aH zs8 bx287 rfl rfl) (lo ?_))
    have C291:=cg [5,6] (ch79.n.seq ((ch81.l rfl).seq (hb84.n.seq (ch86.n.seq ((ch91.l rfl).seq ((ch98.l rfl).seq (ch111.n.seq (ch113.n.seq (hc116.n.seq (ch236.n.seq (hc239.n.seq (hb242.n.seq ((ch244.l rfl).seq (ch247.n.seq (hc250.n.seq (ch278.n.seq (hc281.n.seq (hb284.n.seq (ch286.l rfl)))))))))))))))))))
    replace bx15:=bx15.ca C291
    refine ae (cs':=[Value.float .f64 sm,Value.float .f64 fq58,Value.float .f64 mn,Value.float .f64 mx,Value.float .f64 (ad fq64),Value.float .f64 fq87,Value.float .f64 (ad (aJ (ak g.1) (ak ((((((a8 g p).1).2).1)+1)*((((((a8 g p).1).2).2).1)+1)))))]) aH zs4 rfl bx15 rfl nq (AllOne.all (.cons rfl (.cons rfl (.cons rfl (.cons rfl (.cons rfl (.cons rfl (.cons rfl .nil)))))))) rfl ?_
    intro w288 ch289 bx290
    clear bx15
    refine ai 0 (aa (aF (vs:=[vg [Value.float .f64 sm,Value.float .f64 fq58,Value.float .f64 mn,Value.float .f64 mx,Value.float .f64 (ad fq64),Value.float .f64 fq87,Value.float .f64 (ad (aJ (ak g.1) (ak ((((((a8 g p).1).2).1)+1)*((((((a8 g p).1).2).2).1)+1)))))],vi 0]) Try.func8 (.cell zs4 (bA (ds:=[Value.float .f64 sm,Value.float .f64 fq58,Value.float .f64 mn,Value.float .f64 mx,Value.float .f64 (ad fq64),Value.float .f64 fq87,Value.float .f64 (ad (aJ (ak g.1) (ak ((((((a8 g p).1).2).1)+1)*((((((a8 g p).1).2).2).1)+1)))))]) aH bx290 rfl rfl) (.tmp rfl .nil)) ?_))
    have e0:((sm,fq58,mn,mx,ad fq64,fq87,ad (aJ (ak g.1) (ak ((((((a8 g p).1).2).1)+1)*((((((a8 g p).1).2).2).1)+1))))):(Nat)×(Nat)×(Nat)×(Nat)×(Nat)×(Nat)×(Nat))=((a9 g p).1):=by
      exact cE hf0 hS (by exact c1.2 ‹_›) hmn hmx (by exact c2.1 ‹_›) (by exact c3.2 ‹_›) (by exact c4.1 ‹_›)
    have e1:(0:Int)=((a9 g p).2):=by
      rw[ch hf0]
    have C292:=cg [3,5,6] (ch79.n.seq ((ch81.l rfl).seq (hb84.n.seq (ch86.n.seq ((ch91.l rfl).seq ((ch98.l rfl).seq (ch111.n.seq (ch113.n.seq (hc116.n.seq (ch236.n.seq (hc239.n.seq (hb242.n.seq ((ch244.l rfl).seq (ch247.n.seq (hc250.n.seq (ch278.n.seq (hc281.n.seq (hb284.n.seq ((ch286.l rfl).seq (ch289.l rfl))))))))))))))))))))
    replace bH:=bH.ca C292
    exact⟨(bL (a:=(sm,fq58,mn,mx,ad fq64,fq87,ad (aJ (ak g.1) (ak ((((((a8 g p).1).2).1)+1)*((((((a8 g p).1).2).2).1)+1)))))) (b:=0) (λ(z0:(Nat)×(Nat)×(Nat)×(Nat)×(Nat)×(Nat)×(Nat)) (z1:Int)=>Ending.returned (vt [vg [Value.float .f64 z0.1,Value.float .f64 z0.2.1,Value.float .f64 z0.2.2.1,Value.float .f64 z0.2.2.2.1,Value.float .f64 z0.2.2.2.2.1,Value.float .f64 z0.2.2.2.2.2.1,Value.float .f64 z0.2.2.2.2.2.2],vi z1])) e0 e1),bH.below⟩
   refine al rfl (Bool.eq_false_iff.2 p27_282) (az (au (a0 rfl (lx (bb (m:=3) (n:=1) rfl rfl (by omega)) (mi 4 (aa (aM (a5 (a0 rfl (lx (bd (m:=4) (n:=4) rfl rfl) ?_))))))))))
   refine aa (a5 (al rfl rfl (aZ rfl (a5 ?_))))
   clear o112
   refine a0 rfl ?_
   replace bx245:=bx245.cn hc281
   refine lx (ah (ds:=[Value.float .f64 sm,Value.float .f64 fq58,Value.float .f64 mn,Value.float .f64 mx,Value.float .f64 (ad fq64),Value.float .f64 fq87,Value.float .f64 (aJ (ak g.1) (ak ((((((a8 g p).1).2).1)+1)*((((((a8 g p).1).2).2).1)+1))))]) aH zs8 bx245 rfl rfl) (lo ?_)
   have C296:=cg [5,6] (ch79.n.seq ((ch81.l rfl).seq (hb84.n.seq (ch86.n.seq ((ch91.l rfl).seq ((ch98.l rfl).seq (ch111.n.seq (ch113.n.seq (hc116.n.seq (ch236.n.seq (hc239.n.seq (hb242.n.seq ((ch244.l rfl).seq (ch247.n.seq (hc250.n.seq (ch278.n.seq hc281.n))))))))))))))))
   replace bx15:=bx15.ca C296
   refine ae (cs':=[Value.float .f64 sm,Value.float .f64 fq58,Value.float .f64 mn,Value.float .f64 mx,Value.float .f64 (ad fq64),Value.float .f64 fq87,Value.float .f64 (aJ (ak g.1) (ak ((((((a8 g p).1).2).1)+1)*((((((a8 g p).1).2).2).1)+1))))]) aH zs4 rfl bx15 rfl nq (AllOne.all (.cons rfl (.cons rfl (.cons rfl (.cons rfl (.cons rfl (.cons rfl (.cons rfl .nil)))))))) rfl ?_
   intro w293 ch294 bx295
   clear bx15
   refine ai 0 (aa (aF (vs:=[vg [Value.float .f64 sm,Value.float .f64 fq58,Value.float .f64 mn,Value.float .f64 mx,Value.float .f64 (ad fq64),Value.float .f64 fq87,Value.float .f64 (aJ (ak g.1) (ak ((((((a8 g p).1).2).1)+1)*((((((a8 g p).1).2).2).1)+1))))],vi 0]) Try.func8 (.cell zs4 (bA (ds:=[Value.float .f64 sm,Value.float .f64 fq58,Value.float .f64 mn,Value.float .f64 mx,Value.float .f64 (ad fq64),Value.float .f64 fq87,Value.float .f64 (aJ (ak g.1) (ak ((((((a8 g p).1).2).1)+1)*((((((a8 g p).1).2).2).1)+1))))]) aH bx295 rfl rfl) (.tmp rfl .nil)) ?_))
   have e0:((sm,fq58,mn,mx,ad fq64,fq87,aJ (ak g.1) (ak ((((((a8 g p).1).2).1)+1)*((((((a8 g p).1).2).2).1)+1)))):(Nat)×(Nat)×(Nat)×(Nat)×(Nat)×(Nat)×(Nat))=((a9 g p).1):=by
     exact cE hf0 hS (by exact c1.2 ‹_›) hmn hmx (by exact c2.1 ‹_›) (by exact c3.2 ‹_›) (by exact c4.2 ‹_›)
   have e1:(0:Int)=((a9 g p).2):=by
     rw[ch hf0]
   have C297:=cg [3,5,6] (ch79.n.seq ((ch81.l rfl).seq (hb84.n.seq (ch86.n.seq ((ch91.l rfl).seq ((ch98.l rfl).seq (ch111.n.seq (ch113.n.seq (hc116.n.seq (ch236.n.seq (hc239.n.seq (hb242.n.seq ((ch244.l rfl).seq (ch247.n.seq (hc250.n.seq (ch278.n.seq (hc281.n.seq (ch294.l rfl))))))))))))))))))
   replace bH:=bH.ca C297
   exact⟨(bL (a:=(sm,fq58,mn,mx,ad fq64,fq87,aJ (ak g.1) (ak ((((((a8 g p).1).2).1)+1)*((((((a8 g p).1).2).2).1)+1))))) (b:=0) (λ(z0:(Nat)×(Nat)×(Nat)×(Nat)×(Nat)×(Nat)×(Nat)) (z1:Int)=>Ending.returned (vt [vg [Value.float .f64 z0.1,Value.float .f64 z0.2.1,Value.float .f64 z0.2.2.1,Value.float .f64 z0.2.2.2.1,Value.float .f64 z0.2.2.2.2.1,Value.float .f64 z0.2.2.2.2.2.1,Value.float .f64 z0.2.2.2.2.2.2],vi z1])) e0 e1),bH.below⟩
  refine al rfl (Bool.eq_false_iff.2 p27_240) (az (au (a0 rfl (lx (bb (m:=1) (n:=1) rfl rfl (by omega)) (mi 2 (aa (aM (a5 (a0 rfl (lx (bd (m:=2) (n:=4) rfl rfl) ?_))))))))))
  refine aa (a5 (aj rfl rfl (az (a5 (aE (a5 (a0 rfl ?_)))))))
  replace o112:=(o112.cn ch236).cn hc239
  refine lx (ab (v:=v110) (i:=2) i9 rfl rfl o112.flat rfl (by omega) (by(simp only[List.length_set,List.length_append,List.length_cons,List.length_nil,List.length_replicate,List.length_map,List.length_take,List.length_drop];omega))) (lx (aV cd rfl (cL hv105 o112 rfl)) (ma (vp b30 5) (aa (a5 (bC g108 rfl bV (by kernel_rfl) ?_)))))
  intro w299 ch298
  refine qm (vp b30 5) (qv (vp b30 5) (λw' hw'=>ar rfl) ?_)
  replace bx99:=(bx99.cn hc239).cn ch298
  refine qx (λw' hw'=>a7 ag rfl (bx99.bel hw') rfl) (qm (vp b30 5) (qv (vp b30 5) (λw' hw'=>ar rfl) (qx (λw' hw'=>a7 ag rfl (bx99.bel hw') rfl) (qv (vb (bo fq87)) (λw' hw'=>cv (a:=fq87) rfl rfl) (ct ?_)))))
  intro w300 hc301
  replace hc301:=af hc301 g108
  by_cases p27_302:bo fq87=true
  ·
   refine aj rfl p27_302 (a0 rfl (mv (vp b30 5) (mv (vp b30 5) (lw (vp b30 5) (ar rfl) ?_))))
   replace bx99:=bx99.cn hc301
   refine lx (a7 ag rfl bx99 rfl) (lo (aG (v:=Value.float .f64 (ad fq87)) (aB (vals:=[Value.float .f64 fq87]) Try.func26 cm cl rfl) (bU w300 fq87 (by exact gh hfq87 hv87)) ?_))
   intro w303 hb304
   replace hb304:=af hb304 g108
   refine lw (vp b30 5) (ar rfl) (lo ?_)
   replace bx99:=bx99.cn hb304
   refine ae (cs':=[Value.float .f64 sm,Value.float .f64 fq58,Value.float .f64 mn,Value.float .f64 mx,Value.float .f64 fq64,Value.float .f64 (ad fq87),Value.float .f64 (aJ (ak g.1) (ak ((((((a8 g p).1).2).1)+1)*((((((a8 g p).1).2).2).1)+1))))]) ag rfl rfl bx99 rfl nq (AllOne.all (.cons rfl .nil)) rfl ?_
   intro w305 ch306 bx307
   clear bx99
   refine aa (au (a0 rfl (lx (bb (m:=2) (n:=1) rfl rfl (by omega)) (mi 3 (aa (aM (a5 (a0 rfl (lx (bd (m:=3) (n:=4) rfl rfl) (aa (a5 ?_)))))))))))
   refine aj rfl rfl (az (a5 (aE (a5 (a0 rfl ?_)))))
   have C308:=cg [5] (ch298.n.seq (hc301.n.seq (hb304.n.seq (ch306.l rfl))))
   replace o112:=o112.ca C308
   refine lx (ab (v:=v110) (i:=3) i9 rfl rfl o112.flat rfl (by omega) (by(simp only[List.length_set,List.length_append,List.length_cons,List.length_nil,List.length_replicate,List.length_map,List.length_take,List.length_drop];omega))) (lx (aV cd rfl (cL hv107 o112 rfl)) (ma (vp b30 6) (aa (a5 (bC g108 rfl bV (by kernel_rfl) ?_)))))
   intro w310 ch309
   refine qm (vp b30 6) (qv (vp b30 6) (λw' hw'=>ar rfl) ?_)
   replace bx307:=bx307.cn ch309
   refine qx (λw' hw'=>a7 ag rfl (bx307.bel hw') rfl) (qm (vp b30 6) (qv (vp b30 6) (λw' hw'=>ar rfl) (qx (λw' hw'=>a7 ag rfl (bx307.bel hw') rfl) (qv (vb (bo (aJ (ak g.1) (ak ((((((a8 g p).1).2).1)+1)*((((((a8 g p).1).2).2).1)+1)))))) (λw' hw'=>cv (a:=(aJ (ak g.1) (ak ((((((a8 g p).1).2).1)+1)*((((((a8 g p).1).2).2).1)+1))))) rfl rfl) (ct ?_)))))
   intro w311 hc312
   replace hc312:=af hc312 g108
   by_cases p27_313:bo (aJ (ak g.1) (ak ((((((a8 g p).1).2).1)+1)*((((((a8 g p).1).2).2).1)+1))))=true
   ·
    refine aj rfl p27_313 (a0 rfl (mv (vp b30 6) (mv (vp b30 6) (lw (vp b30 6) (ar rfl) ?_))))
    replace bx307:=bx307.cn hc312
    refine lx (a7 ag rfl bx307 rfl) (lo (aG (v:=Value.float .f64 (ad (aJ (ak g.1) (ak ((((((a8 g p).1).2).1)+1)*((((((a8 g p).1).2).2).1)+1)))))) (aB (vals:=[Value.float .f64 (aJ (ak g.1) (ak ((((((a8 g p).1).2).1)+1)*((((((a8 g p).1).2).2).1)+1))))]) Try.func26 cm cl rfl) (bU w311 (aJ (ak g.1) (ak ((((((a8 g p).1).2).1)+1)*((((((a8 g p).1).2).2).1)+1)))) (by exact .inr ‹_›)) ?_))
    intro w314 hb315
    replace hb315:=af hb315 g108
    refine lw (vp b30 6) (ar rfl) (lo ?_)
    replace bx307:=bx307.cn hb315
    refine ae (cs':=[Value.float .f64 sm,Value.float .f64 fq58,Value.float .f64 mn,Value.float .f64 mx,Value.float .f64 fq64,Value.float .f64 (ad fq87),Value.float .f64 (ad (aJ (ak g.1) (ak ((((((a8 g p).1).2).1)+1)*((((((a8 g p).1).2).2).1)+1)))))]) ag rfl rfl bx307 rfl nq (AllOne.all (.cons rfl .nil)) rfl ?_
    intro w316 ch317 bx318
    clear bx307
    refine aa (au (a0 rfl (lx (bb (m:=3) (n:=1) rfl rfl (by omega)) (mi 4 (aa (aM (a5 (a0 rfl (lx (bd (m:=4) (n:=4) rfl rfl) (aa (a5 ?_)))))))))))
    refine al rfl rfl (aZ rfl (a5 ?_))
    clear o112
    refine a0 rfl (lx (ah (ds:=[Value.float .f64 sm,Value.float .f64 fq58,Value.float .f64 mn,Value.float .f64 mx,Value.float .f64 fq64,Value.float .f64 (ad fq87),Value.float .f64 (ad (aJ (ak g.1) (ak ((((((a8 g p).1).2).1)+1)*((((((a8 g p).1).2).2).1)+1)))))]) aH zs8 bx318 rfl rfl) (lo ?_))
    have C322:=cg [5,6] (ch79.n.seq ((ch81.l rfl).seq (hb84.n.seq (ch86.n.seq ((ch91.l rfl).seq ((ch98.l rfl).seq (ch111.n.seq (ch113.n.seq (hc116.n.seq (ch236.n.seq (hc239.n.seq (ch298.n.seq (hc301.n.seq (hb304.n.seq ((ch306.l rfl).seq (ch309.n.seq (hc312.n.seq (hb315.n.seq (ch317.l rfl)))))))))))))))))))
    replace bx15:=bx15.ca C322
    refine ae (cs':=[Value.float .f64 sm,Value.float .f64 fq58,Value.float .f64 mn,Value.float .f64 mx,Value.float .f64 fq64,Value.float .f64 (ad fq87),Value.float .f64 (ad (aJ (ak g.1) (ak ((((((a8 g p).1).2).1)+1)*((((((a8 g p).1).2).2).1)+1)))))]) aH zs4 rfl bx15 rfl nq (AllOne.all (.cons rfl (.cons rfl (.cons rfl (.cons rfl (.cons rfl (.cons rfl (.cons rfl .nil)))))))) rfl ?_
    intro w319 ch320 bx321
    clear bx15
    refine ai 0 (aa (aF (vs:=[vg [Value.float .f64 sm,Value.float .f64 fq58,Value.float .f64 mn,Value.float .f64 mx,Value.float .f64 fq64,Value.float .f64 (ad fq87),Value.float .f64 (ad (aJ (ak g.1) (ak ((((((a8 g p).1).2).1)+1)*((((((a8 g p).1).2).2).1)+1)))))],vi 0]) Try.func8 (.cell zs4 (bA (ds:=[Value.float .f64 sm,Value.float .f64 fq58,Value.float .f64 mn,Value.float .f64 mx,Value.float .f64 fq64,Value.float .f64 (ad fq87),Value.float .f64 (ad (aJ (ak g.1) (ak ((((((a8 g p).1).2).1)+1)*((((((a8 g p).1).2).2).1)+1)))))]) aH bx321 rfl rfl) (.tmp rfl .nil)) ?_))
    have e0:((sm,fq58,mn,mx,fq64,ad fq87,ad (aJ (ak g.1) (ak ((((((a8 g p).1).2).1)+1)*((((((a8 g p).1).2).2).1)+1))))):(Nat)×(Nat)×(Nat)×(Nat)×(Nat)×(Nat)×(Nat))=((a9 g p).1):=by
      exact cE hf0 hS (by exact c1.2 ‹_›) hmn hmx (by exact c2.2 ‹_›) (by exact c3.1 ‹_›) (by exact c4.1 ‹_›)
    have e1:(0:Int)=((a9 g p).2):=by
      rw[ch hf0]
    have C323:=cg [3,5,6] (ch79.n.seq ((ch81.l rfl).seq (hb84.n.seq (ch86.n.seq ((ch91.l rfl).seq ((ch98.l rfl).seq (ch111.n.seq (ch113.n.seq (hc116.n.seq (ch236.n.seq (hc239.n.seq (ch298.n.seq (hc301.n.seq (hb304.n.seq ((ch306.l rfl).seq (ch309.n.seq (hc312.n.seq (hb315.n.seq ((ch317.l rfl).seq (ch320.l rfl))))))))))))))))))))
    replace bH:=bH.ca C323
    exact⟨(bL (a:=(sm,fq58,mn,mx,fq64,ad fq87,ad (aJ (ak g.1) (ak ((((((a8 g p).1).2).1)+1)*((((((a8 g p).1).2).2).1)+1)))))) (b:=0) (λ(z0:(Nat)×(Nat)×(Nat)×(Nat)×(Nat)×(Nat)×(Nat)) (z1:Int)=>Ending.returned (vt [vg [Value.float .f64 z0.1,Value.float .f64 z0.2.1,Value.float .f64 z0.2.2.1,Value.float .f64 z0.2.2.2.1,Value.float .f64 z0.2.2.2.2.1,Value.float .f64 z0.2.2.2.2.2.1,Value.float .f64 z0.2.2.2.2.2.2],vi z1])) e0 e1),bH.below⟩
   refine al rfl (Bool.eq_false_iff.2 p27_313) (az (au (a0 rfl (lx (bb (m:=3) (n:=1) rfl rfl (by omega)) (mi 4 (aa (aM (a5 (a0 rfl (lx (bd (m:=4) (n:=4) rfl rfl) ?_))))))))))
   refine aa (a5 (al rfl rfl (aZ rfl (a5 ?_))))
   clear o112
   refine a0 rfl ?_
   replace bx307:=bx307.cn hc312
   refine lx (ah (ds:=[Value.float .f64 sm,Value.float .f64 fq58,Value.float .f64 mn,Value.float .f64 mx,Value.float .f64 fq64,Value.float .f64 (ad fq87),Value.float .f64 (aJ (ak g.1) (ak ((((((a8 g p).1).2).1)+1)*((((((a8 g p).1).2).2).1)+1))))]) aH zs8 bx307 rfl rfl) (lo ?_)
   have C327:=cg [5,6] (ch79.n.seq ((ch81.l rfl).seq (hb84.n.seq (ch86.n.seq ((ch91.l rfl).seq ((ch98.l rfl).seq (ch111.n.seq (ch113.n.seq (hc116.n.seq (ch236.n.seq (hc239.n.seq (ch298.n.seq (hc301.n.seq (hb304.n.seq ((ch306.l rfl).seq (ch309.n.seq hc312.n))))))))))))))))
   replace bx15:=bx15.ca C327
   refine ae (cs':=[Value.float .f64 sm,Value.float .f64 fq58,Value.float .f64 mn,Value.float .f64 mx,Value.float .f64 fq64,Value.float .f64 (ad fq87),Value.float .f64 (aJ (ak g.1) (ak ((((((a8 g p).1).2).1)+1)*((((((a8 g p).1).2).2).1)+1))))]) aH zs4 rfl bx15 rfl nq (AllOne.all (.cons rfl (.cons rfl (.cons rfl (.cons rfl (.cons rfl (.cons rfl (.cons rfl .nil)))))))) rfl ?_
   intro w324 ch325 bx326
   clear bx15
   refine ai 0 (aa (aF (vs:=[vg [Value.float .f64 sm,Value.float .f64 fq58,Value.float .f64 mn,Value.float .f64 mx,Value.float .f64 fq64,Value.float .f64 (ad fq87),Value.float .f64 (aJ (ak g.1) (ak ((((((a8 g p).1).2).1)+1)*((((((a8 g p).1).2).2).1)+1))))],vi 0]) Try.func8 (.cell zs4 (bA (ds:=[Value.float .f64 sm,Value.float .f64 fq58,Value.float .f64 mn,Value.float .f64 mx,Value.float .f64 fq64,Value.float .f64 (ad fq87),Value.float .f64 (aJ (ak g.1) (ak ((((((a8 g p).1).2).1)+1)*((((((a8 g p).1).2).2).1)+1))))]) aH bx326 rfl rfl) (.tmp rfl .nil)) ?_))
   have e0:((sm,fq58,mn,mx,fq64,ad fq87,aJ (ak g.1) (ak ((((((a8 g p).1).2).1)+1)*((((((a8 g p).1).2).2).1)+1)))):(Nat)×(Nat)×(Nat)×(Nat)×(Nat)×(Nat)×(Nat))=((a9 g p).1):=by
     exact cE hf0 hS (by exact c1.2 ‹_›) hmn hmx (by exact c2.2 ‹_›) (by exact c3.1 ‹_›) (by exact c4.2 ‹_›)
   have e1:(0:Int)=((a9 g p).2):=by
     rw[ch hf0]
   have C328:=cg [3,5,6] (ch79.n.seq ((ch81.l rfl).seq (hb84.n.seq (ch86.n.seq ((ch91.l rfl).seq ((ch98.l rfl).seq (ch111.n.seq (ch113.n.seq (hc116.n.seq (ch236.n.seq (hc239.n.seq (ch298.n.seq (hc301.n.seq (hb304.n.seq ((ch306.l rfl).seq (ch309.n.seq (hc312.n.seq (ch325.l rfl))))))))))))))))))
   replace bH:=bH.ca C328
   exact⟨(bL (a:=(sm,fq58,mn,mx,fq64,ad fq87,aJ (ak g.1) (ak ((((((a8 g p).1).2).1)+1)*((((((a8 g p).1).2).2).1)+1))))) (b:=0) (λ(z0:(Nat)×(Nat)×(Nat)×(Nat)×(Nat)×(Nat)×(Nat)) (z1:Int)=>Ending.returned (vt [vg [Value.float .f64 z0.1,Value.float .f64 z0.2.1,Value.float .f64 z0.2.2.1,Value.float .f64 z0.2.2.2.1,Value.float .f64 z0.2.2.2.2.1,Value.float .f64 z0.2.2.2.2.2.1,Value.float .f64 z0.2.2.2.2.2.2],vi z1])) e0 e1),bH.below⟩
  refine al rfl (Bool.eq_false_iff.2 p27_302) (az (au (a0 rfl (lx (bb (m:=2) (n:=1) rfl rfl (by omega)) (mi 3 (aa (aM (a5 (a0 rfl (lx (bd (m:=3) (n:=4) rfl rfl) ?_))))))))))
  refine aa (a5 (aj rfl rfl (az (a5 (aE (a5 (a0 rfl ?_)))))))
  replace o112:=(o112.cn ch298).cn hc301
  refine lx (ab (v:=v110) (i:=3) i9 rfl rfl o112.flat rfl (by omega) (by(simp only[List.length_set,List.length_append,List.length_cons,List.length_nil,List.length_replicate,List.length_map,List.length_take,List.length_drop];omega))) (lx (aV cd rfl (cL hv107 o112 rfl)) (ma (vp b30 6) (aa (a5 (bC g108 rfl bV (by kernel_rfl) ?_)))))
  intro w330 ch329
  refine qm (vp b30 6) (qv (vp b30 6) (λw' hw'=>ar rfl) ?_)
  replace bx99:=(bx99.cn hc301).cn ch329
  refine qx (λw' hw'=>a7 ag rfl (bx99.bel hw') rfl) (qm (vp b30 6) (qv (vp b30 6) (λw' hw'=>ar rfl) (qx (λw' hw'=>a7 ag rfl (bx99.bel hw') rfl) (qv (vb (bo (aJ (ak g.1) (ak ((((((a8 g p).1).2).1)+1)*((((((a8 g p).1).2).2).1)+1)))))) (λw' hw'=>cv (a:=(aJ (ak g.1) (ak ((((((a8 g p).1).2).1)+1)*((((((a8 g p).1).2).2).1)+1))))) rfl rfl) (ct ?_)))))
  intro w331 hc332
  replace hc332:=af hc332 g108
  by_cases p27_333:bo (aJ (ak g.1) (ak ((((((a8 g p).1).2).1)+1)*((((((a8 g p).1).2).2).1)+1))))=true
  ·
   refine aj rfl p27_333 (a0 rfl (mv (vp b30 6) (mv (vp b30 6) (lw (vp b30 6) (ar rfl) ?_))))
   replace bx99:=bx99.cn hc332
   refine lx (a7 ag rfl bx99 rfl) (lo (aG (v:=Value.float .f64 (ad (aJ (ak g.1) (ak ((((((a8 g p).1).2).1)+1)*((((((a8 g p).1).2).2).1)+1)))))) (aB (vals:=[Value.float .f64 (aJ (ak g.1) (ak ((((((a8 g p).1).2).1)+1)*((((((a8 g p).1).2).2).1)+1))))]) Try.func26 cm cl rfl) (bU w331 (aJ (ak g.1) (ak ((((((a8 g p).1).2).1)+1)*((((((a8 g p).1).2).2).1)+1)))) (by exact .inr ‹_›)) ?_))
   intro w334 hb335
   replace hb335:=af hb335 g108
   refine lw (vp b30 6) (ar rfl) (lo ?_)
   replace bx99:=bx99.cn hb335
   refine ae (cs':=[Value.float .f64 sm,Value.float .f64 fq58,Value.float .f64 mn,Value.float .f64 mx,Value.float .f64 fq64,Value.float .f64 fq87,Value.float .f64 (ad (aJ (ak g.1) (ak ((((((a8 g p).1).2).1)+1)*((((((a8 g p).1).2).2).1)+1)))))]) ag rfl rfl bx99 rfl nq (AllOne.all (.cons rfl .nil)) rfl ?_
   intro w336 ch337 bx338
   clear bx99
   refine aa (au (a0 rfl (lx (bb (m:=3) (n:=1) rfl rfl (by omega)) (mi 4 (aa (aM (a5 (a0 rfl (lx (bd (m:=4) (n:=4) rfl rfl) (aa (a5 ?_)))))))))))
   refine al rfl rfl (aZ rfl (a5 ?_))
   clear o112
   refine a0 rfl (lx (ah (ds:=[Value.float .f64 sm,Value.float .f64 fq58,Value.float .f64 mn,Value.float .f64 mx,Value.float .f64 fq64,Value.float .f64 fq87,Value.float .f64 (ad (aJ (ak g.1) (ak ((((((a8 g p).1).2).1)+1)*((((((a8 g p).1).2).2).1)+1)))))]) aH zs8 bx338 rfl rfl) (lo ?_))
   have C342:=cg [5,6] (ch79.n.seq ((ch81.l rfl).seq (hb84.n.seq (ch86.n.seq ((ch91.l rfl).seq ((ch98.l rfl).seq (ch111.n.seq (ch113.n.seq (hc116.n.seq (ch236.n.seq (hc239.n.seq (ch298.n.seq (hc301.n.seq (ch329.n.seq (hc332.n.seq (hb335.n.seq (ch337.l rfl)))))))))))))))))
   replace bx15:=bx15.ca C342
   refine ae (cs':=[Value.float .f64 sm,Value.float .f64 fq58,Value.float .f64 mn,Value.float .f64 mx,Value.float .f64 fq64,Value.float .f64 fq87,Value.float .f64 (ad (aJ (ak g.1) (ak ((((((a8 g p).1).2).1)+1)*((((((a8 g p).1).2).2).1)+1)))))]) aH zs4 rfl bx15 rfl nq (AllOne.all (.cons rfl (.cons rfl (.cons rfl (.cons rfl (.cons rfl (.cons rfl (.cons rfl .nil)))))))) rfl ?_
   intro w339 ch340 bx341
   clear bx15
   refine ai 0 (aa (aF (vs:=[vg [Value.float .f64 sm,Value.float .f64 fq58,Value.float .f64 mn,Value.float .f64 mx,Value.float .f64 fq64,Value.float .f64 fq87,Value.float .f64 (ad (aJ (ak g.1) (ak ((((((a8 g p).1).2).1)+1)*((((((a8 g p).1).2).2).1)+1)))))],vi 0]) Try.func8 (.cell zs4 (bA (ds:=[Value.float .f64 sm,Value.float .f64 fq58,Value.float .f64 mn,Value.float .f64 mx,Value.float .f64 fq64,Value.float .f64 fq87,Value.float .f64 (ad (aJ (ak g.1) (ak ((((((a8 g p).1).2).1)+1)*((((((a8 g p).1).2).2).1)+1)))))]) aH bx341 rfl rfl) (.tmp rfl .nil)) ?_))
   have e0:((sm,fq58,mn,mx,fq64,fq87,ad (aJ (ak g.1) (ak ((((((a8 g p).1).2).1)+1)*((((((a8 g p).1).2).2).1)+1))))):(Nat)×(Nat)×(Nat)×(Nat)×(Nat)×(Nat)×(Nat))=((a9 g p).1):=by
     exact cE hf0 hS (by exact c1.2 ‹_›) hmn hmx (by exact c2.2 ‹_›) (by exact c3.2 ‹_›) (by exact c4.1 ‹_›)
   have e1:(0:Int)=((a9 g p).2):=by
     rw[ch hf0]
   have C343:=cg [3,5,6] (ch79.n.seq ((ch81.l rfl).seq (hb84.n.seq (ch86.n.seq ((ch91.l rfl).seq ((ch98.l rfl).seq (ch111.n.seq (ch113.n.seq (hc116.n.seq (ch236.n.seq (hc239.n.seq (ch298.n.seq (hc301.n.seq (ch329.n.seq (hc332.n.seq (hb335.n.seq ((ch337.l rfl).seq (ch340.l rfl))))))))))))))))))
   replace bH:=bH.ca C343
   exact⟨(bL (a:=(sm,fq58,mn,mx,fq64,fq87,ad (aJ (ak g.1) (ak ((((((a8 g p).1).2).1)+1)*((((((a8 g p).1).2).2).1)+1)))))) (b:=0) (λ(z0:(Nat)×(Nat)×(Nat)×(Nat)×(Nat)×(Nat)×(Nat)) (z1:Int)=>Ending.returned (vt [vg [Value.float .f64 z0.1,Value.float .f64 z0.2.1,Value.float .f64 z0.2.2.1,Value.float .f64 z0.2.2.2.1,Value.float .f64 z0.2.2.2.2.1,Value.float .f64 z0.2.2.2.2.2.1,Value.float .f64 z0.2.2.2.2.2.2],vi z1])) e0 e1),bH.below⟩
  refine al rfl (Bool.eq_false_iff.2 p27_333) (az (au (a0 rfl (lx (bb (m:=3) (n:=1) rfl rfl (by omega)) (mi 4 (aa (aM (a5 (a0 rfl (lx (bd (m:=4) (n:=4) rfl rfl) ?_))))))))))
  refine aa (a5 (al rfl rfl (aZ rfl (a5 ?_))))
  clear o112
  refine a0 rfl ?_
  replace bx99:=bx99.cn hc332
  refine lx (ah (ds:=[Value.float .f64 sm,Value.float .f64 fq58,Value.float .f64 mn,Value.float .f64 mx,Value.float .f64 fq64,Value.float .f64 fq87,Value.float .f64 (aJ (ak g.1) (ak ((((((a8 g p).1).2).1)+1)*((((((a8 g p).1).2).2).1)+1))))]) aH zs8 bx99 rfl rfl) (lo ?_)
  have C347:=cg [5,6] (ch79.n.seq ((ch81.l rfl).seq (hb84.n.seq (ch86.n.seq ((ch91.l rfl).seq ((ch98.l rfl).seq (ch111.n.seq (ch113.n.seq (hc116.n.seq (ch236.n.seq (hc239.n.seq (ch298.n.seq (hc301.n.seq (ch329.n.seq hc332.n))))))))))))))
  replace bx15:=bx15.ca C347
  refine ae (cs':=[Value.float .f64 sm,Value.float .f64 fq58,Value.float .f64 mn,Value.float .f64 mx,Value.float .f64 fq64,Value.float .f64 fq87,Value.float .f64 (aJ (ak g.1) (ak ((((((a8 g p).1).2).1)+1)*((((((a8 g p).1).2).2).1)+1))))]) aH zs4 rfl bx15 rfl nq (AllOne.all (.cons rfl (.cons rfl (.cons rfl (.cons rfl (.cons rfl (.cons rfl (.cons rfl .nil)))))))) rfl ?_
  intro w344 ch345 bx346
  clear bx15
  refine ai 0 (aa (aF (vs:=[vg [Value.float .f64 sm,Value.float .f64 fq58,Value.float .f64 mn,Value.float .f64 mx,Value.float .f64 fq64,Value.float .f64 fq87,Value.float .f64 (aJ (ak g.1) (ak ((((((a8 g p).1).2).1)+1)*((((((a8 g p).1).2).2).1)+1))))],vi 0]) Try.func8 (.cell zs4 (bA (ds:=[Value.float .f64 sm,Value.float .f64 fq58,Value.float .f64 mn,Value.float .f64 mx,Value.float .f64 fq64,Value.float .f64 fq87,Value.float .f64 (aJ (ak g.1) (ak ((((((a8 g p).1).2).1)+1)*((((((a8 g p).1).2).2).1)+1))))]) aH bx346 rfl rfl) (.tmp rfl .nil)) ?_))
  have e0:((sm,fq58,mn,mx,fq64,fq87,aJ (ak g.1) (ak ((((((a8 g p).1).2).1)+1)*((((((a8 g p).1).2).2).1)+1)))):(Nat)×(Nat)×(Nat)×(Nat)×(Nat)×(Nat)×(Nat))=((a9 g p).1):=by
    exact cE hf0 hS (by exact c1.2 ‹_›) hmn hmx (by exact c2.2 ‹_›) (by exact c3.2 ‹_›) (by exact c4.2 ‹_›)
  have e1:(0:Int)=((a9 g p).2):=by
    rw[ch hf0]
  have C348:=cg [3,5,6] (ch79.n.seq ((ch81.l rfl).seq (hb84.n.seq (ch86.n.seq ((ch91.l rfl).seq ((ch98.l rfl).seq (ch111.n.seq (ch113.n.seq (hc116.n.seq (ch236.n.seq (hc239.n.seq (ch298.n.seq (hc301.n.seq (ch329.n.seq (hc332.n.seq (ch345.l rfl))))))))))))))))
  replace bH:=bH.ca C348
  exact⟨(bL (a:=(sm,fq58,mn,mx,fq64,fq87,aJ (ak g.1) (ak ((((((a8 g p).1).2).1)+1)*((((((a8 g p).1).2).2).1)+1))))) (b:=0) (λ(z0:(Nat)×(Nat)×(Nat)×(Nat)×(Nat)×(Nat)×(Nat)) (z1:Int)=>Ending.returned (vt [vg [Value.float .f64 z0.1,Value.float .f64 z0.2.1,Value.float .f64 z0.2.2.1,Value.float .f64 z0.2.2.2.1,Value.float .f64 z0.2.2.2.2.1,Value.float .f64 z0.2.2.2.2.2.1,Value.float .f64 z0.2.2.2.2.2.2],vi z1])) e0 e1),bH.below⟩
 refine aj rfl (congrArg Bool.not (df p2)) (a5 ?_)
 clear bx5 bx10
 refine a0 rfl (lw (vg [Value.float .f64 0,Value.float .f64 0,Value.float .f64 0,Value.float .f64 0,Value.float .f64 0,Value.float .f64 0,Value.float .f64 0]) (b6 (vs:=[]) rfl (by kernel_rfl)) (mi (aL g p) (lo ?_)))
 replace bx15:=bx15.cn hb18
 refine ae (cs':=[Value.float .f64 0,Value.float .f64 0,Value.float .f64 0,Value.float .f64 0,Value.float .f64 0,Value.float .f64 0,Value.float .f64 0]) aH rfl rfl bx15 rfl nq (AllOne.all (.cons rfl (.cons rfl (.cons rfl (.cons rfl (.cons rfl (.cons rfl (.cons rfl .nil)))))))) rfl ?_
 intro w349 ch350 bx351
 clear bx15
 refine ai (aL g p) (aa (aF (vs:=[vg [Value.float .f64 0,Value.float .f64 0,Value.float .f64 0,Value.float .f64 0,Value.float .f64 0,Value.float .f64 0,Value.float .f64 0],vi (aL g p)]) Try.func8 (.cell rfl (bA (ds:=[Value.float .f64 0,Value.float .f64 0,Value.float .f64 0,Value.float .f64 0,Value.float .f64 0,Value.float .f64 0,Value.float .f64 0]) aH bx351 rfl rfl) (.tmp rfl .nil)) ?_))
 have e0:((0,0,0,0,0,0,0):(Nat)×(Nat)×(Nat)×(Nat)×(Nat)×(Nat)×(Nat))=((a9 g p).1):=by
   rw[ki p2]
 have e1:(aL g p:Int)=((a9 g p).2):=by
   rw[ki p2]
 have C352:=cg [3] (ch2.n.seq (ch7.n.seq (ch12.n.seq (hb18.n.seq (ch350.l rfl)))))
 replace bH:=bH.ca C352
 exact⟨(bL (a:=(0,0,0,0,0,0,0)) (b:=aL g p) (λ(z0:(Nat)×(Nat)×(Nat)×(Nat)×(Nat)×(Nat)×(Nat)) (z1:Int)=>Ending.returned (vt [vg [Value.float .f64 z0.1,Value.float .f64 z0.2.1,Value.float .f64 z0.2.2.1,Value.float .f64 z0.2.2.2.1,Value.float .f64 z0.2.2.2.2.1,Value.float .f64 z0.2.2.2.2.2.1,Value.float .f64 z0.2.2.2.2.2.2],vi z1])) e0 e1),bH.below⟩
end TL
