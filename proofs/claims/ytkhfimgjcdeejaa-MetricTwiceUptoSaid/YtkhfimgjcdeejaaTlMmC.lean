import Derived.Test.YtkhfimgjcdeejaaTlP2
import Derived.Test.YtkhfimgjcdeejaaTlGmA
import Derived.Test.YtkhfimgjcdeejaaTlGenA
import Derived.Test.YtkhfimgjcdeejaaTlGjC
import Derived.Test.YtkhfimgjcdeejaaTlMmA
import Derived.Test.YtkhfimgjcdeejaaTlMmB
import Derived.Test.YtkhfimgjcdeejaaProg
import Derived.Test.YtkhfimgjcdeejaaTlAli
set_option linter.all false
set_option maxRecDepth 20000
namespace TL
open Go Go.Proofs
theorem co:Try.prog.follows .mixedOrders=true:=by kernel_rfl
theorem b9:Tp Try.prog 32 true 7 56 (.agg #[.float .f64 0,.float .f64 0,.float .f64 0,.float .f64 0,.float .f64 0,.float .f64 0,.float .f64 0]):=Tp.of (by kernel_rfl)
theorem cH:Tp Try.prog 67 false 1 8 (.pointer none):=Tp.of (by kernel_rfl)
theorem oN:Try.f24.body.isNone=false:=rfl
theorem pz:(Try.f24.name== "runtime.NumGoroutine")=false:=by decide+kernel
theorem cQ:Try.f26.body.isNone=false:=rfl
theorem cM:(Try.f26.name== "runtime.NumGoroutine")=false:=by decide+kernel
set_option maxHeartbeats 4000000 in
theorem iB(w0:World)(g:(Int)×(List Pt))(g_v:Value)(hg_v:Ro w0 g_v g.2)(p:(List Pt)×(List (List Pt)))(p_v p_v1:Value)(hp_v:Ro w0 p_v p.1)(hp_v1:Ro w0 p_v1 p.2)(hfin:aY g p=0->∀k:Int,gI (aD p) k<aJ):
    Calls Try.prog 8 #[vg [vi g.1,g_v],vg [p_v,p_v1]] w0 (λee w=>ee= .returned (vt [vg [Value.float .f64 (((av g p).1).1),Value.float .f64 ((((av g p).1).2).1),Value.float .f64 (((((av g p).1).2).2).1),Value.float .f64 ((((((av g p).1).2).2).2).1),Value.float .f64 (((((((av g p).1).2).2).2).2).1),Value.float .f64 ((((((((av g p).1).2).2).2).2).2).1),Value.float .f64 ((((((((av g p).1).2).2).2).2).2).2)],vi ((av g p).2)])/\cG w0.heap.size w0 w):=by
 refine aK Try.func8 rfl nq ?_
 have bH:=bu.start w0
 have Rg:=hg_v.sl
 have Rp:=hp_v.sl
 have r_p_v1:=hp_v1.sl
 refine a8 (a7 rfl (cN rfl (bC c0 (is 1) (1,0) rfl rfl ?_)))
 intro g4 w1 b3 ch2 bx5
 replace bx5:Bx g4 (is 1) w1 b3 [vi g.1,g_v]:=bx5
 refine lo (bC g4 (is 2) (2,0) rfl rfl ?_)
 intro g9 w6 b8 ch7 bx10
 replace bx10:Bx g9 (is 2) w6 b8 [p_v,p_v1]:=bx10
 refine lo (bo g9 (is 3) (3,0) rfl b9 ?_)
 intro g14 w11 b13 ch12 bx15
 replace bx15:Bx g14 (is 3) w11 b13 [Value.float .f64 0,Value.float .f64 0,Value.float .f64 0,Value.float .f64 0,Value.float .f64 0,Value.float .f64 0,Value.float .f64 0]:=bx15
 refine ai 0 (ab (a8 (a8 (a7 rfl ?_))))
 replace bx5:=(bx5.cn ch7).cn ch12
 refine lx (ae (ds:=[vi g.1,g_v]) bS rfl bx5 rfl rfl) ?_
 replace bx10:=bx10.cn ch12
 refine lx (ae (ds:=[p_v,p_v1]) bP rfl bx10 rfl rfl) ?_
 have C16:=cg [] (ch2.n.seq (ch7.n.seq ch12.n))
 replace Rg:=Rg.ca C16
 replace Rp:=Rp.ca C16
 replace r_p_v1:=r_p_v1.ca C16
 refine lo (aP (v:=vi (aY g p)) (aG (vals:=[vg [vi g.1,g_v],vg [p_v,p_v1]]) Try.func22 i5 ic rfl) (fv w11 g g_v (Rg).ro p p_v p_v1 (Rp).ro (r_p_v1).ro) ?_)
 intro w17 hb18
 replace hb18:=am hb18 g14
 refine ai (aY g p) (ab (a8 (a7 rfl (mi (aY g p) (lx (fM (m:=aY g p) (n:=0) rfl rfl) (ab ?_))))))
 by_cases p2:(aY g p)=0
 ·
  have hf0:aY g p=0:=p2
  obtain⟨hm,hs,hlp⟩:=eH hf0
  have hs2:=hs.m
  have hm0:=hm
  obtain⟨hm1,hm2,hm3,hm4⟩:=hm0
  have hfi:=hfin hf0
  have hnn:=lZ p
  have hwd:=pa hs hlp
  obtain⟨⟨⟨hw1,hw2⟩,hw3,hw4⟩,hw5,hw6⟩:=hwd
  refine ah rfl (congrArg Bool.not (dt p2)) (au (a8 (a7 rfl ?_)))
  replace bx10:=bx10.cn hb18
  refine lx (ae (ds:=[p_v,p_v1]) bP rfl bx10 rfl rfl) ?_
  replace Rp:=Rp.cn hb18
  replace r_p_v1:=r_p_v1.cn hb18
  refine lo (fw (aG (vals:=[vg [p_v,p_v1]]) Try.func23 lN lR rfl) (ip w17 p p_v p_v1 (Rp).ro (r_p_v1).ro (by exact λe h0 h1=>⟨(hs.ln e h0 h1).2,(hs.ln e h0 h1).1⟩) (by omega)) ?_)
  rintro⟨d20,v22⟩ w19 ⟨fr21,o23⟩
  obtain⟨g24,ch25,G24⟩:=sg g14 fr21 (λn=>if n=1 then 4 else 0)
  replace o23:=o23.gl G24 4
  refine ma v22 (ab (a8 (a7 rfl (cN rfl (aP (v:=Value.float .f64 aJ) (aG (vals:=[vi 1]) Try.func24 oN pz rfl) (rS w19 1 (by omega)) ?_)))))
  intro w26 hb27
  replace hb27:=am hb27 g24
  refine lw (vg [Value.float .f64 0,Value.float .f64 0,Value.float .f64 aJ,Value.float .f64 0,Value.float .f64 0,Value.float .f64 0,Value.float .f64 0]) (bB (vs:=[(2,Value.float .f64 aJ)]) rfl (by kernel_rfl)) (lo (bo g24 (is 5) (5,0) rfl b9 ?_))
  intro g31 w28 b30 ch29 bx32
  replace bx32:Bx g31 (is 5) w28 b30 [Value.float .f64 0,Value.float .f64 0,Value.float .f64 0,Value.float .f64 0,Value.float .f64 0,Value.float .f64 0,Value.float .f64 0]:=bx32
  refine lo (ao (cs':=[Value.float .f64 0,Value.float .f64 0,Value.float .f64 aJ,Value.float .f64 0,Value.float .f64 0,Value.float .f64 0,Value.float .f64 0]) b9 rfl rfl bx32 rfl nq (AllOne.all (.cons rfl (.cons rfl (.cons rfl (.cons rfl (.cons rfl (.cons rfl (.cons rfl .nil)))))))) rfl ?_)
  intro w33 ch34 bx35
  clear bx32
  refine ab (a8 (a8 (a7 rfl (mv v22 ?_))))
  have C36:=cg [5] (hb27.n.seq (ch29.n.seq (ch34.l rfl)))
  replace o23:=o23.ca C36
  have len37:=(o23.flat).small
  refine lx (bO pq rfl o23.flat) (mi 0 (ab (aC ?_)))
  refine bF (σ:=Fb×Fb×Fb×Nat×aV) (λ⟨sm,mn,mx,k,gq⟩ f w=>bu w0 gq w/\f 2=vp b3 0/\f 3=vp b8 0/\f 4=vp b13 0/\f 7=v22/\f 8=vp b30 0/\f 30=v22/\f 31=vi (List.length (aD p):Int)/\f 32=vi ↑k/\Sl gq (is 0) w g_v g.2/\Sl gq (is 0) w p_v p.1/\Sl gq (is 0) w p_v1 p.2/\Bx gq (is 1) w b3 [vi g.1,g_v]/\Bx gq (is 2) w b8 [p_v,p_v1]/\Bx gq (is 3) w b13 [Value.float .f64 0,Value.float .f64 0,Value.float .f64 0,Value.float .f64 0,Value.float .f64 0,Value.float .f64 0,Value.float .f64 0]/\Ow gq (is 4) (is 4) w v22 (aD p)/\Bx gq (is 5) w b30 [Value.float .f64 sm,Value.float .f64 0,Value.float .f64 mn,Value.float .f64 mx,Value.float .f64 0,Value.float .f64 0,Value.float .f64 0]/\(k:Int)<=((List.length (aD p):Int):Int)/\((sm=fC (aD p) k/\sm<=aJ)/\(mn=fi (aD p) k/\mn<=aJ)/\mx=fU (aD p) k/\mx<=aJ)) (λ⟨sm,mn,mx,k,gq⟩=>Int.toNat (((List.length (aD p):Int):Int)-(k:Int))) (0,aJ,0,0,g31) ?_ ?_
  have C40:=cg [5] (ch25.n.seq (hb27.n.seq (ch29.n.seq (ch34.l rfl))))
  have C39:=hb18.n.seq C40
  have C38:=ch2.n.seq (ch7.n.seq (ch12.n.seq C39))
  · exact⟨bH.ca C38,rfl,rfl,rfl,rfl,rfl,rfl,rfl,rfl,Rg.ca C39,Rp.ca C40,r_p_v1.ca C40,bx5.ca C39,bx10.ca C40,bx15.ca C39,o23,bx35,by omega,by exact⟨⟨rfl,by decide⟩,⟨rfl,by decide⟩,rfl,by decide⟩⟩
  clear Rg Rp r_p_v1 bx5 bx10 bx15 o23 bx35 bH
  rintro⟨sm,mn,mx,k,g43⟩ f41 w42 ⟨bH,zs2,zs3,zs4,zs7,zs8,zs30,zs31,zs32,Rg,Rp,r_p_v1,bx5,bx10,bx15,o23,bx35,hle_k,hk⟩ back7
  obtain⟨⟨hk1,hk2⟩,⟨hk3,hk4⟩,hk5,hk6⟩:=hk
  refine a8 (a7 rfl (lx (bc (m:=↑k) (n:=(List.length (aD p):Int)) zs32 zs31) (ab (a8 ?_))))
  by_cases p7:(k:Int)<(List.length (aD p):Int)
  ·
   refine ag rfl (dt p7) ?_
   have hx:=hnn (k:Int)
   refine au (a8 (aC (a8 (a7 rfl (lx (af (v:=v22) (i:=↑k) pq rfl zs30 o23.flat zs32 (by omega) (by omega)) (lx (e6 (v:=v22) (i:=↑k) aF rfl o23.flat (by omega) (by omega) (by decide) rfl) (ma (Value.float .f64 (gI (aD p) (k:Int))) (ab (a8 (a7 rfl (lx (a9 dR rfl rfl zs8 rfl) (lx (aa aF rfl bx35 rfl) ?_))))))))))))
   refine mv (Value.float .f64 (gI (aD p) (k:Int))) (lw (Value.float .f64 (cE sm (gI (aD p) (k:Int)))) (lz (a:=sm) (b:=(gI (aD p) (k:Int))) rfl rfl (eT ‹_› ‹_›).1) ?_)
   have nn44:cE sm (gI (aD p) (k:Int))<=aJ:=(eT (x:=sm) (y:=(gI (aD p) (k:Int))) ‹_› ‹_›).2
   refine lx (a9 dR rfl rfl zs8 rfl) (lo (ao (cs':=[Value.float .f64 (cE sm (gI (aD p) (k:Int))),Value.float .f64 0,Value.float .f64 mn,Value.float .f64 mx,Value.float .f64 0,Value.float .f64 0,Value.float .f64 0]) aF rfl rfl bx35 rfl nq (AllOne.all (.cons rfl .nil)) rfl ?_))
   intro w45 ch46 bx47
   clear bx35
   refine ab (a7 rfl (lx (a9 dR rfl rfl zs8 rfl) (lx (aa aF rfl bx47 rfl) (mv (Value.float .f64 (gI (aD p) (k:Int))) (lw (Value.float .f64 (min mn (gI (aD p) (k:Int)))) (rm (a:=mn) (b:=(gI (aD p) (k:Int))) rfl rfl ‹_› ‹_›) ?_)))))
   have nn48:min mn (gI (aD p) (k:Int))<=aJ:=Nat.le_trans (Nat.min_le_left _ _) ‹_›
   refine lx (a9 dR rfl rfl zs8 rfl) (lx (aa aF rfl bx47 rfl) (mv (Value.float .f64 (gI (aD p) (k:Int))) (lw (Value.float .f64 (max mx (gI (aD p) (k:Int)))) (rp (a:=mx) (b:=(gI (aD p) (k:Int))) rfl rfl ‹_› ‹_›) ?_)))
   have nn49:max mx (gI (aD p) (k:Int))<=aJ:=Nat.max_le.2 ⟨‹_›,‹_›⟩
   refine lx (a9 dR rfl rfl zs8 rfl) (lo (ao (cs':=[Value.float .f64 (cE sm (gI (aD p) (k:Int))),Value.float .f64 0,Value.float .f64 (min mn (gI (aD p) (k:Int))),Value.float .f64 mx,Value.float .f64 0,Value.float .f64 0,Value.float .f64 0]) aF rfl rfl bx47 rfl nq (AllOne.all (.cons rfl .nil)) rfl ?_))
   intro w50 ch51 bx52
   clear bx47
   refine lx (a9 dR rfl rfl zs8 rfl) (lo (ao (cs':=[Value.float .f64 (cE sm (gI (aD p) (k:Int))),Value.float .f64 0,Value.float .f64 (min mn (gI (aD p) (k:Int))),Value.float .f64 (max mx (gI (aD p) (k:Int))),Value.float .f64 0,Value.float .f64 0,Value.float .f64 0]) aF rfl rfl bx52 rfl nq (AllOne.all (.cons rfl .nil)) rfl ?_))
   intro w53 ch54 bx55
   clear bx52
   refine ab (ap (a7 rfl (lx (ba (m:=↑k) (n:=1) zs32 rfl (by omega)) (mi ((k:Int)+1) (ab ?_)))))
   have C56:=cg [5] ((ch46.l rfl).seq ((ch51.l rfl).seq (ch54.l rfl)))
   refine back7 (cE sm (gI (aD p) (k:Int)),min mn (gI (aD p) (k:Int)),max mx (gI (aD p) (k:Int)),k+1,g43) _ _ ⟨bH.ca C56,zs2,zs3,zs4,zs7,zs8,zs30,zs31,rfl,Rg.ca C56,Rp.ca C56,r_p_v1.ca C56,bx5.ca C56,bx10.ca C56,bx15.ca C56,o23.ca C56,bx55,by omega,?_⟩ ?_
   · show((cE sm (gI (aD p) (k:Int)))=fC (aD p) (k+1)/\(cE sm (gI (aD p) (k:Int)))<=aJ)/\((min mn (gI (aD p) (k:Int)))=fi (aD p) (k+1)/\(min mn (gI (aD p) (k:Int)))<=aJ)/\(max mx (gI (aD p) (k:Int)))=fU (aD p) (k+1)/\(max mx (gI (aD p) (k:Int)))<=aJ
     exact⟨⟨by rw[hk1];rfl,by assumption⟩,⟨by rw[hk3];rfl,by assumption⟩,by rw[hk5];rfl,by assumption⟩
   · show Int.toNat (((List.length (aD p):Int):Int)-((k+1):Int))<Int.toNat (((List.length (aD p):Int):Int)-(k:Int))
     omega
  refine ah rfl (df p7) (aQ rfl (a8 (a7 rfl (mz zs7 (lx (bO pq rfl o23.flat) (lw (Value.float .f64 (aq (List.length (aD p):Int))) (kJ (m:=(List.length (aD p):Int)) U3 sN rfl) ?_))))))
  have nn57:aq (List.length (aD p):Int)<=aJ:=ga (by omega)
  refine ma (Value.float .f64 (aq (List.length (aD p):Int))) (ab (a8 ?_))
  have hS:sm=fC (aD p) (aD p).length:=by rw[hk1];congr 1;omega
  have hv58:∀v,Ieee.double.div sm (aq ((aD p).length:Int))=some v->v<=aJ:=λv=>lm ‹_› ‹_›
  have hv64:∀v,Ieee.double.div mx mn=some v->v<=aJ:=λv=>lm ‹_› ‹_›
  refine a7 rfl (lx (a9 dR rfl rfl zs8 rfl) (lx (aa aF rfl bx35 rfl) (mv (Value.float .f64 (aq (List.length (aD p):Int))) (lo (lp g43 (a:=sm) (b:=(aq (List.length (aD p):Int))) rfl rfl ?_)))))
  intro fq58 w58 ch59 hfq58
  refine lx (a9 dR rfl rfl zs8 rfl) (lo ?_)
  replace bx35:=bx35.cn ch59
  refine ao (cs':=[Value.float .f64 sm,Value.float .f64 fq58,Value.float .f64 mn,Value.float .f64 mx,Value.float .f64 0,Value.float .f64 0,Value.float .f64 0]) aF rfl rfl bx35 rfl nq (AllOne.all (.cons rfl .nil)) rfl ?_
  intro w60 ch61 bx62
  clear bx35
  refine ab (a8 (a7 rfl (lx (a9 dR rfl rfl zs8 rfl) (lx (aa aF rfl bx62 rfl) (lx (a9 dR rfl rfl zs8 rfl) (lx (aa aF rfl bx62 rfl) (lo (lp g43 (a:=mx) (b:=mn) rfl rfl ?_))))))))
  intro fq64 w63 ch64 hfq64
  refine lx (a9 dR rfl rfl zs8 rfl) (lo ?_)
  replace bx62:=bx62.cn ch64
  refine ao (cs':=[Value.float .f64 sm,Value.float .f64 fq58,Value.float .f64 mn,Value.float .f64 mx,Value.float .f64 fq64,Value.float .f64 0,Value.float .f64 0]) aF rfl rfl bx62 rfl nq (AllOne.all (.cons rfl .nil)) rfl ?_
  intro w65 ch66 bx67
  clear bx62
  refine ab (a8 (a8 (a7 rfl (mz zs7 ?_))))
  have C68:=cg [5] (ch59.n.seq ((ch61.l rfl).seq (ch64.n.seq (ch66.l rfl))))
  replace o23:=o23.ca C68
  refine lx (bO pq rfl o23.flat) (mi 0 (ab (aC ?_)))
  refine bF (σ:=Fb×Nat×aV) (λ⟨sp,j,gq⟩ f w=>bu w0 gq w/\f 2=vp b3 0/\f 3=vp b8 0/\f 4=vp b13 0/\f 8=vp b30 0/\f 11=Value.float .f64 (aq (List.length (aD p):Int))/\f 66=v22/\f 67=vi (List.length (aD p):Int)/\f 68=vi ↑j/\Sl gq (is 0) w g_v g.2/\Sl gq (is 0) w p_v p.1/\Sl gq (is 0) w p_v1 p.2/\Bx gq (is 1) w b3 [vi g.1,g_v]/\Bx gq (is 2) w b8 [p_v,p_v1]/\Bx gq (is 3) w b13 [Value.float .f64 0,Value.float .f64 0,Value.float .f64 0,Value.float .f64 0,Value.float .f64 0,Value.float .f64 0,Value.float .f64 0]/\Ow gq (is 4) (is 4) w v22 (aD p)/\Bx gq (is 5) w b30 [Value.float .f64 sm,Value.float .f64 fq58,Value.float .f64 mn,Value.float .f64 mx,Value.float .f64 fq64,Value.float .f64 sp,Value.float .f64 0]/\(j:Int)<=((List.length (aD p):Int):Int)/\(sp=lG fq58 (aD p) j/\sp<=aJ)) (λ⟨sp,j,gq⟩=>Int.toNat (((List.length (aD p):Int):Int)-(j:Int))) (0,0,g43) ?_ ?_
  · exact⟨bH.ca C68,zs2,zs3,zs4,zs8,rfl,rfl,rfl,rfl,Rg.ca C68,Rp.ca C68,r_p_v1.ca C68,bx5.ca C68,bx10.ca C68,bx15.ca C68,o23,bx67,by omega,by exact⟨rfl,by decide⟩⟩
  clear Rg Rp r_p_v1 bx5 bx10 bx15 o23 bx67 bH
  rintro⟨sp,j,g71⟩ f69 w70 ⟨bH,zs2,zs3,zs4,zs8,zs11,zs66,zs67,zs68,Rg,Rp,r_p_v1,bx5,bx10,bx15,o23,bx67,hle_j,hj⟩ back16
  obtain⟨hj1,hj2⟩:=hj
  refine a8 (a7 rfl (lx (bc (m:=↑j) (n:=(List.length (aD p):Int)) zs68 zs67) (ab (a8 ?_))))
  by_cases p16:(j:Int)<(List.length (aD p):Int)
  ·
   refine ag rfl (dt p16) ?_
   obtain⟨hM1,hM2⟩:=kp hnn hS hfq58 (by omega) (by omega)
   refine au (a8 (aC (a8 (a7 rfl (lx (af (v:=v22) (i:=↑j) pq rfl zs66 o23.flat zs68 (by omega) (by omega)) (lx (e6 (v:=v22) (i:=↑j) aF rfl o23.flat (by omega) (by omega) (by decide) rfl) (ma (Value.float .f64 (gI (aD p) (j:Int))) (ab (a8 (a7 rfl (mv (Value.float .f64 (gI (aD p) (j:Int))) (lx (a9 dR rfl rfl zs8 rfl) ?_))))))))))))
   refine lx (aa aF rfl bx67 rfl) (lw (Value.float .f64 (cr (gI (aD p) (j:Int)) fq58)) (r8 (a:=(gI (aD p) (j:Int))) (b:=fq58) rfl rfl (ob (by exact hfi _) ‹_›)) ?_)
   have nn72:fE (cr (gI (aD p) (j:Int)) fq58):=pi (x:=(gI (aD p) (j:Int))) (y:=fq58) (by exact hfi _) ‹_›
   refine ma (Value.float .f64 (cr (gI (aD p) (j:Int)) fq58)) (ab (a7 rfl (lx (a9 dR rfl rfl zs8 rfl) (lx (aa aF rfl bx67 rfl) (mv (Value.float .f64 (cr (gI (aD p) (j:Int)) fq58)) (mv (Value.float .f64 (cr (gI (aD p) (j:Int)) fq58)) (lw (Value.float .f64 (bi (cr (gI (aD p) (j:Int)) fq58) (cr (gI (aD p) (j:Int)) fq58))) (dL (a:=(cr (gI (aD p) (j:Int)) fq58)) (b:=(cr (gI (aD p) (j:Int)) fq58)) rfl rfl (qw ‹_›).1) ?_)))))))
   have nn73:bi (cr (gI (aD p) (j:Int)) fq58) (cr (gI (aD p) (j:Int)) fq58)<=aJ:=(qw (x:=(cr (gI (aD p) (j:Int)) fq58)) ‹_›).2
   refine lw (Value.float .f64 (cE sp (bi (cr (gI (aD p) (j:Int)) fq58) (cr (gI (aD p) (j:Int)) fq58)))) (lz (a:=sp) (b:=(bi (cr (gI (aD p) (j:Int)) fq58) (cr (gI (aD p) (j:Int)) fq58))) rfl rfl (eT ‹_› ‹_›).1) ?_
   have nn74:cE sp (bi (cr (gI (aD p) (j:Int)) fq58) (cr (gI (aD p) (j:Int)) fq58))<=aJ:=(eT (x:=sp) (y:=(bi (cr (gI (aD p) (j:Int)) fq58) (cr (gI (aD p) (j:Int)) fq58))) ‹_› ‹_›).2
   refine lx (a9 dR rfl rfl zs8 rfl) (lo (ao (cs':=[Value.float .f64 sm,Value.float .f64 fq58,Value.float .f64 mn,Value.float .f64 mx,Value.float .f64 fq64,Value.float .f64 (cE sp (bi (cr (gI (aD p) (j:Int)) fq58) (cr (gI (aD p) (j:Int)) fq58))),Value.float .f64 0]) aF rfl rfl bx67 rfl nq (AllOne.all (.cons rfl .nil)) rfl ?_))
   intro w75 ch76 bx77
   clear bx67
   refine ab (ap (a7 rfl (lx (ba (m:=↑j) (n:=1) zs68 rfl (by omega)) (mi ((j:Int)+1) (ab ?_)))))
   refine back16 (cE sp (bi (cr (gI (aD p) (j:Int)) fq58) (cr (gI (aD p) (j:Int)) fq58)),j+1,g71) _ _ ⟨bH.ce ch76,zs2,zs3,zs4,zs8,zs11,zs66,zs67,rfl,Rg.ce ch76,Rp.ce ch76,r_p_v1.ce ch76,bx5.ce ch76,bx10.ce ch76,bx15.ce ch76,o23.ce ch76,bx77,by omega,?_⟩ ?_
   · show(cE sp (bi (cr (gI (aD p) (j:Int)) fq58) (cr (gI (aD p) (j:Int)) fq58)))=lG fq58 (aD p) (j+1)/\(cE sp (bi (cr (gI (aD p) (j:Int)) fq58) (cr (gI (aD p) (j:Int)) fq58)))<=aJ
     exact⟨by rw[hj1];rfl,by assumption⟩
   · show Int.toNat (((List.length (aD p):Int):Int)-((j+1):Int))<Int.toNat (((List.length (aD p):Int):Int)-(j:Int))
     omega
  refine ah rfl (df p16) (aQ rfl (a8 ?_))
  clear o23
  have hv87:∀v,Ieee.double.div sp (aq ((aD p).length:Int))=some v->v<=aJ:=λv=>lm ‹_› ‹_›
  refine a7 rfl (lx (a9 dR rfl rfl zs8 rfl) (lx (aa aF rfl bx67 rfl) (mz zs11 (lo (lp g71 (a:=sp) (b:=(aq (List.length (aD p):Int))) rfl rfl ?_)))))
  intro fq87 w78 ch79 hfq87
  refine lx (a9 dR rfl rfl zs8 rfl) (lo ?_)
  replace bx67:=bx67.cn ch79
  refine ao (cs':=[Value.float .f64 sm,Value.float .f64 fq58,Value.float .f64 mn,Value.float .f64 mx,Value.float .f64 fq64,Value.float .f64 fq87,Value.float .f64 0]) aF rfl rfl bx67 rfl nq (AllOne.all (.cons rfl .nil)) rfl ?_
  intro w80 ch81 bx82
  clear bx67
  refine ab (a8 (a7 rfl ?_))
  replace bx5:=(bx5.cn ch79).ce ch81
  refine lx (ae (ds:=[vi g.1,g_v]) bS zs2 bx5 rfl rfl) ?_
  replace bx10:=(bx10.cn ch79).ce ch81
  refine lx (ae (ds:=[p_v,p_v1]) bP zs3 bx10 rfl rfl) ?_
  replace Rg:=(Rg.cn ch79).ce ch81
  replace Rp:=(Rp.cn ch79).ce ch81
  replace r_p_v1:=(r_p_v1.cn ch79).ce ch81
  refine lo (aP (v:=vt [vg [vi (((ad g p).1).1),vi ((((ad g p).1).2).1),vi (((((ad g p).1).2).2).1),vb ((((((ad g p).1).2).2).2).1),vb ((((((ad g p).1).2).2).2).2)],vi ((ad g p).2)]) (aG (vals:=[vg [vi g.1,g_v],vg [p_v,p_v1]]) Try.func25 mF lC rfl) (kz w80 g g_v (Rg).ro p p_v p_v1 (Rp).ro (r_p_v1).ro) ?_)
  intro w83 hb84
  replace hb84:=am hb84 g71
  refine mv (vt [vg [vi (((ad g p).1).1),vi ((((ad g p).1).2).1),vi (((((ad g p).1).2).2).1),vb ((((((ad g p).1).2).2).2).1),vb ((((((ad g p).1).2).2).2).2)],vi ((ad g p).2)]) (lx (bg rfl rfl) (lx (bg rfl rfl) (lo (bo g71 (is 6) (6,0) rfl cz ?_))))
  intro g88 w85 b87 ch86 bx89
  replace bx89:Bx g88 (is 6) w85 b87 [vi 0,vi 0,vi 0,vb false,vb false]:=bx89
  refine lo (ao (cs':=[vi (((ad g p).1).1),vi ((((ad g p).1).2).1),vi (((((ad g p).1).2).2).1),vb ((((((ad g p).1).2).2).2).1),vb ((((((ad g p).1).2).2).2).2)]) cz rfl rfl bx89 rfl nq (AllOne.all (.cons rfl (.cons rfl (.cons rfl (.cons rfl (.cons rfl .nil)))))) rfl ?_)
  intro w90 ch91 bx92
  clear bx89
  refine ai ((ad g p).2) (ab (a8 ?_))
  clear bx10
  refine a7 rfl (lx (a9 fO rfl rfl zs2 rfl) ?_)
  have C93:=cg [6] (hb84.n.seq (ch86.n.seq (ch91.l rfl)))
  replace bx5:=bx5.ca C93
  refine lx (aa aL rfl bx5 rfl) (lw (Value.float .f64 (aq g.1)) (kJ (m:=g.1) U3 sN rfl) ?_)
  have nn94:aq g.1<=aJ:=ga (by omega)
  refine lx (a9 nh rfl rfl rfl rfl) (lx (aa aL rfl bx92 rfl) (lx (ba (m:=(((ad g p).1).2).1) (n:=1) rfl rfl (by omega)) (lx (a9 nh rfl rfl rfl rfl) (lx (aa aL rfl bx92 rfl) (lx (ba (m:=((((ad g p).1).2).2).1) (n:=1) rfl rfl (by omega)) (lx (eu (m:=((((ad g p).1).2).1)+1) (n:=(((((ad g p).1).2).2).1)+1) rfl rfl (by omega)) (lw (Value.float .f64 (aq ((((((ad g p).1).2).1)+1)*((((((ad g p).1).2).2).1)+1)))) (kJ (m:=(((((ad g p).1).2).1)+1)*((((((ad g p).1).2).2).1)+1)) U3 sN rfl) ?_)))))))
  have nn95:aq ((((((ad g p).1).2).1)+1)*((((((ad g p).1).2).2).1)+1))<=aJ:=ga (by omega)
  refine lw (Value.float .f64 (aO (aq g.1) (aq ((((((ad g p).1).2).1)+1)*((((((ad g p).1).2).2).1)+1))))) (lc (a:=(aq g.1)) (b:=(aq ((((((ad g p).1).2).1)+1)*((((((ad g p).1).2).2).1)+1)))) rfl rfl (kZ ‹_› (by exact jE (by omega) (by omega)) (by exact gb (by omega))).1) ?_
  have nn96:aO (aq g.1) (aq ((((((ad g p).1).2).1)+1)*((((((ad g p).1).2).2).1)+1)))<=aJ:=(kZ (x:=(aq g.1)) (y:=(aq ((((((ad g p).1).2).1)+1)*((((((ad g p).1).2).2).1)+1)))) ‹_› (by exact jE (by omega) (by omega)) (by exact gb (by omega))).2
  refine lx (a9 dR rfl rfl zs8 rfl) (lo ?_)
  replace bx82:=bx82.ca C93
  refine ao (cs':=[Value.float .f64 sm,Value.float .f64 fq58,Value.float .f64 mn,Value.float .f64 mx,Value.float .f64 fq64,Value.float .f64 fq87,Value.float .f64 (aO (aq g.1) (aq ((((((ad g p).1).2).1)+1)*((((((ad g p).1).2).2).1)+1))))]) aF rfl rfl bx82 rfl nq (AllOne.all (.cons rfl .nil)) rfl ?_
  intro w97 ch98 bx99
  clear bx82
  refine ab (a8 (a8 ?_))
  clear bx5 bx92
  have hjl:j=(aD p).length:=by omega
  have hSp:sp=lG (ed (aD p)) (aD p) (aD p).length:=by rw[hj1,hjl];exact rG (λh0=>(kp hnn hS hfq58 h0 (by omega)).1)
  have hmn:mn=fi (aD p) (aD p).length:=by rw[hk3];congr 1;omega
  have hmx:mx=fU (aD p) (aD p).length:=by rw[hk5];congr 1;omega
  have c1:=jB hfq58 hv58 (v:=ed (aD p)) (by rw[hS];rfl)
  have c2:=jB hfq64 hv64 (v:=gP (aD p)) (by rw[hmn,hmx];rfl)
  have c3:=jB hfq87 hv87 (v:=dM (aD p)) (by rw[hSp];rfl)
  have c4:=sO ‹_› (pR hlp)
  refine a7 rfl (lx (a9 dR rfl rfl zs8 rfl) (lx (a9 dR rfl rfl zs8 rfl) (lx (a9 dR rfl rfl zs8 rfl) (lx (a9 dR rfl rfl zs8 rfl) (lo ?_)))))
  obtain⟨c100,hv101⟩:=iT (u:=vp b30 1) rfl
  obtain⟨c102,hv103⟩:=iT (u:=vp b30 4) rfl
  obtain⟨c104,hv105⟩:=iT (u:=vp b30 5) rfl
  obtain⟨c106,hv107⟩:=iT (u:=vp b30 6) rfl
  refine aH (α:=Vc) g88 (is 7) (is 7) (7,0) rfl [c100,c102,c104,c106] jZ cH (by decide) (by decide) (vs:=[(0,vp b30 1),(1,vp b30 4),(2,vp b30 5),(3,vp b30 6)]) rfl rfl (.cons (gR hv101 rfl) (.cons (gR hv103 rfl) (.cons (gR hv105 rfl) (.cons (gR hv107 rfl) .nil)))) ?_
  intro g108 w109 v110 ch111 o112
  refine lx (bO jZ rfl o112.flat) (mi 0 (ab (aC (dQ (a8 (a7 rfl (lx (bc (m:=0) (n:=4) rfl rfl) (ab (a8 (ag rfl rfl (au ?_)))))))))))
  refine a8 (aC (a8 (a7 rfl (lx (af (v:=v110) (i:=0) jZ rfl rfl o112.flat rfl (by omega) (by(simp only[List.length_set,List.length_append,List.length_cons,List.length_nil,List.length_replicate,List.length_map,List.length_take,List.length_drop];omega))) (lx (aZ cH rfl (dc hv101 o112 rfl)) (ma (vp b30 1) (ab (a8 (bq g108 rfl co (by kernel_rfl) ?_)))))))))
  intro w114 ch113
  refine qm (vp b30 1) (qv (vp b30 1) (λw' hw'=>aB rfl) ?_)
  replace bx99:=(bx99.cn ch111).cn ch113
  refine qx (λw' hw'=>aa aF rfl (bx99.bel hw') rfl) (qm (vp b30 1) (qv (vp b30 1) (λw' hw'=>aB rfl) (qx (λw' hw'=>aa aF rfl (bx99.bel hw') rfl) (qv (vb (bQ fq58)) (λw' hw'=>cU (a:=fq58) rfl rfl) (bT ?_)))))
  intro w115 hc116
  replace hc116:=am hc116 g108
  by_cases p27:bQ fq58=true
  ·
   refine ag rfl p27 (a7 rfl (mv (vp b30 1) (mv (vp b30 1) (lw (vp b30 1) (aB rfl) ?_))))
   replace bx99:=bx99.cn hc116
   refine lx (aa aF rfl bx99 rfl) (lo (aP (v:=Value.float .f64 (al fq58)) (aG (vals:=[Value.float .f64 fq58]) Try.func26 cQ cM rfl) (cl w115 fq58 (by exact iu hfq58 hv58)) ?_))
   intro w117 hb118
   replace hb118:=am hb118 g108
   refine lw (vp b30 1) (aB rfl) (lo ?_)
   replace bx99:=bx99.cn hb118
   refine ao (cs':=[Value.float .f64 sm,Value.float .f64 (al fq58),Value.float .f64 mn,Value.float .f64 mx,Value.float .f64 fq64,Value.float .f64 fq87,Value.float .f64 (aO (aq g.1) (aq ((((((ad g p).1).2).1)+1)*((((((ad g p).1).2).2).1)+1))))]) aF rfl rfl bx99 rfl nq (AllOne.all (.cons rfl .nil)) rfl ?_
   intro w119 ch120 bx121
   clear bx99
   refine ab (ap (a7 rfl (lx (ba (m:=0) (n:=1) rfl rfl (by omega)) (mi 1 (ab (aN (a8 (a7 rfl (lx (bc (m:=1) (n:=4) rfl rfl) (ab (a8 ?_)))))))))))
   refine ag rfl rfl (au (a8 (aC (a8 (a7 rfl ?_)))))
   have C122:=cg [5] (ch113.n.seq (hc116.n.seq (hb118.n.seq (ch120.l rfl))))
   replace o112:=o112.ca C122
   refine lx (af (v:=v110) (i:=1) jZ rfl rfl o112.flat rfl (by omega) (by(simp only[List.length_set,List.length_append,List.length_cons,List.length_nil,List.length_replicate,List.length_map,List.length_take,List.length_drop];omega))) (lx (aZ cH rfl (dc hv103 o112 rfl)) (ma (vp b30 4) (ab (a8 (bq g108 rfl co (by kernel_rfl) ?_)))))
   intro w124 ch123
   refine qm (vp b30 4) (qv (vp b30 4) (λw' hw'=>aB rfl) ?_)
   replace bx121:=bx121.cn ch123
   refine qx (λw' hw'=>aa aF rfl (bx121.bel hw') rfl) (qm (vp b30 4) (qv (vp b30 4) (λw' hw'=>aB rfl) (qx (λw' hw'=>aa aF rfl (bx121.bel hw') rfl) (qv (vb (bQ fq64)) (λw' hw'=>cU (a:=fq64) rfl rfl) (bT ?_)))))
   intro w125 hc126
   replace hc126:=am hc126 g108
   by_cases p27_127:bQ fq64=true
   ·
    refine ag rfl p27_127 (a7 rfl (mv (vp b30 4) (mv (vp b30 4) (lw (vp b30 4) (aB rfl) ?_))))
    replace bx121:=bx121.cn hc126
    refine lx (aa aF rfl bx121 rfl) (lo (aP (v:=Value.float .f64 (al fq64)) (aG (vals:=[Value.float .f64 fq64]) Try.func26 cQ cM rfl) (cl w125 fq64 (by exact iu hfq64 hv64)) ?_))
    intro w128 hb129
    replace hb129:=am hb129 g108
    refine lw (vp b30 4) (aB rfl) (lo ?_)
    replace bx121:=bx121.cn hb129
    refine ao (cs':=[Value.float .f64 sm,Value.float .f64 (al fq58),Value.float .f64 mn,Value.float .f64 mx,Value.float .f64 (al fq64),Value.float .f64 fq87,Value.float .f64 (aO (aq g.1) (aq ((((((ad g p).1).2).1)+1)*((((((ad g p).1).2).2).1)+1))))]) aF rfl rfl bx121 rfl nq (AllOne.all (.cons rfl .nil)) rfl ?_
    intro w130 ch131 bx132
    clear bx121
    refine ab (ap (a7 rfl (lx (ba (m:=1) (n:=1) rfl rfl (by omega)) (mi 2 (ab (aN (a8 (a7 rfl (lx (bc (m:=2) (n:=4) rfl rfl) (ab (a8 ?_)))))))))))
    refine ag rfl rfl (au (a8 (aC (a8 (a7 rfl ?_)))))
    have C133:=cg [5] (ch123.n.seq (hc126.n.seq (hb129.n.seq (ch131.l rfl))))
    replace o112:=o112.ca C133
    refine lx (af (v:=v110) (i:=2) jZ rfl rfl o112.flat rfl (by omega) (by(simp only[List.length_set,List.length_append,List.length_cons,List.length_nil,List.length_replicate,List.length_map,List.length_take,List.length_drop];omega))) (lx (aZ cH rfl (dc hv105 o112 rfl)) (ma (vp b30 5) (ab (a8 (bq g108 rfl co (by kernel_rfl) ?_)))))
    intro w135 ch134
    refine qm (vp b30 5) (qv (vp b30 5) (λw' hw'=>aB rfl) ?_)
    replace bx132:=bx132.cn ch134
    refine qx (λw' hw'=>aa aF rfl (bx132.bel hw') rfl) (qm (vp b30 5) (qv (vp b30 5) (λw' hw'=>aB rfl) (qx (λw' hw'=>aa aF rfl (bx132.bel hw') rfl) (qv (vb (bQ fq87)) (λw' hw'=>cU (a:=fq87) rfl rfl) (bT ?_)))))
    intro w136 hc137
    replace hc137:=am hc137 g108
    by_cases p27_138:bQ fq87=true
    ·
     refine ag rfl p27_138 (a7 rfl (mv (vp b30 5) (mv (vp b30 5) (lw (vp b30 5) (aB rfl) ?_))))
     replace bx132:=bx132.cn hc137
     refine lx (aa aF rfl bx132 rfl) (lo (aP (v:=Value.float .f64 (al fq87)) (aG (vals:=[Value.float .f64 fq87]) Try.func26 cQ cM rfl) (cl w136 fq87 (by exact iu hfq87 hv87)) ?_))
     intro w139 hb140
     replace hb140:=am hb140 g108
     refine lw (vp b30 5) (aB rfl) (lo ?_)
     replace bx132:=bx132.cn hb140
     refine ao (cs':=[Value.float .f64 sm,Value.float .f64 (al fq58),Value.float .f64 mn,Value.float .f64 mx,Value.float .f64 (al fq64),Value.float .f64 (al fq87),Value.float .f64 (aO (aq g.1) (aq ((((((ad g p).1).2).1)+1)*((((((ad g p).1).2).2).1)+1))))]) aF rfl rfl bx132 rfl nq (AllOne.all (.cons rfl .nil)) rfl ?_
     intro w141 ch142 bx143
     clear bx132
     refine ab (ap (a7 rfl (lx (ba (m:=2) (n:=1) rfl rfl (by omega)) (mi 3 (ab (aN (a8 (a7 rfl (lx (bc (m:=3) (n:=4) rfl rfl) (ab (a8 ?_)))))))))))
     refine ag rfl rfl (au (a8 (aC (a8 (a7 rfl ?_)))))
     have C144:=cg [5] (ch134.n.seq (hc137.n.seq (hb140.n.seq (ch142.l rfl))))
     replace o112:=o112.ca C144
     refine lx (af (v:=v110) (i:=3) jZ rfl rfl o112.flat rfl (by omega) (by(simp only[List.length_set,List.length_append,List.length_cons,List.length_nil,List.length_replicate,List.length_map,List.length_take,List.length_drop];omega))) (lx (aZ cH rfl (dc hv107 o112 rfl)) (ma (vp b30 6) (ab (a8 (bq g108 rfl co (by kernel_rfl) ?_)))))
     intro w146 ch145
     refine qm (vp b30 6) (qv (vp b30 6) (λw' hw'=>aB rfl) ?_)
     replace bx143:=bx143.cn ch145
     refine qx (λw' hw'=>aa aF rfl (bx143.bel hw') rfl) (qm (vp b30 6) (qv (vp b30 6) (λw' hw'=>aB rfl) (qx (λw' hw'=>aa aF rfl (bx143.bel hw') rfl) (qv (vb (bQ (aO (aq g.1) (aq ((((((ad g p).1).2).1)+1)*((((((ad g p).1).2).2).1)+1)))))) (λw' hw'=>cU (a:=(aO (aq g.1) (aq ((((((ad g p).1).2).1)+1)*((((((ad g p).1).2).2).1)+1))))) rfl rfl) (bT ?_)))))
     intro w147 hc148
     replace hc148:=am hc148 g108
     by_cases p27_149:bQ (aO (aq g.1) (aq ((((((ad g p).1).2).1)+1)*((((((ad g p).1).2).2).1)+1))))=true
     ·
      refine ag rfl p27_149 (a7 rfl (mv (vp b30 6) (mv (vp b30 6) (lw (vp b30 6) (aB rfl) ?_))))
      replace bx143:=bx143.cn hc148
      refine lx (aa aF rfl bx143 rfl) (lo (aP (v:=Value.float .f64 (al (aO (aq g.1) (aq ((((((ad g p).1).2).1)+1)*((((((ad g p).1).2).2).1)+1)))))) (aG (vals:=[Value.float .f64 (aO (aq g.1) (aq ((((((ad g p).1).2).1)+1)*((((((ad g p).1).2).2).1)+1))))]) Try.func26 cQ cM rfl) (cl w147 (aO (aq g.1) (aq ((((((ad g p).1).2).1)+1)*((((((ad g p).1).2).2).1)+1)))) (by exact .inr ‹_›)) ?_))
      intro w150 hb151
      replace hb151:=am hb151 g108
      refine lw (vp b30 6) (aB rfl) (lo ?_)
      replace bx143:=bx143.cn hb151
      refine ao (cs':=[Value.float .f64 sm,Value.float .f64 (al fq58),Value.float .f64 mn,Value.float .f64 mx,Value.float .f64 (al fq64),Value.float .f64 (al fq87),Value.float .f64 (al (aO (aq g.1) (aq ((((((ad g p).1).2).1)+1)*((((((ad g p).1).2).2).1)+1)))))]) aF rfl rfl bx143 rfl nq (AllOne.all (.cons rfl .nil)) rfl ?_
      intro w152 ch153 bx154
      clear bx143
      refine ab (ap (a7 rfl (lx (ba (m:=3) (n:=1) rfl rfl (by omega)) (mi 4 (ab (aN (a8 (a7 rfl (lx (bc (m:=4) (n:=4) rfl rfl) (ab (a8 ?_)))))))))))
      refine ah rfl rfl (aQ rfl (a8 ?_))
      clear o112
      refine a7 rfl (lx (ae (ds:=[Value.float .f64 sm,Value.float .f64 (al fq58),Value.float .f64 mn,Value.float .f64 mx,Value.float .f64 (al fq64),Value.float .f64 (al fq87),Value.float .f64 (al (aO (aq g.1) (aq ((((((ad g p).1).2).1)+1)*((((((ad g p).1).2).2).1)+1)))))]) b9 zs8 bx154 rfl rfl) (lo ?_))
      have C158:=cg [5,6] (ch79.n.seq ((ch81.l rfl).seq (hb84.n.seq (ch86.n.seq ((ch91.l rfl).seq ((ch98.l rfl).seq (ch111.n.seq (ch113.n.seq (hc116.n.seq (hb118.n.seq ((ch120.l rfl).seq (ch123.n.seq (hc126.n.seq (hb129.n.seq ((ch131.l rfl).seq (ch134.n.seq (hc137.n.seq (hb140.n.seq ((ch142.l rfl).seq (ch145.n.seq (hc148.n.seq (hb151.n.seq (ch153.l rfl)))))))))))))))))))))))
      replace bx15:=bx15.ca C158
      refine ao (cs':=[Value.float .f64 sm,Value.float .f64 (al fq58),Value.float .f64 mn,Value.float .f64 mx,Value.float .f64 (al fq64),Value.float .f64 (al fq87),Value.float .f64 (al (aO (aq g.1) (aq ((((((ad g p).1).2).1)+1)*((((((ad g p).1).2).2).1)+1)))))]) b9 zs4 rfl bx15 rfl nq (AllOne.all (.cons rfl (.cons rfl (.cons rfl (.cons rfl (.cons rfl (.cons rfl (.cons rfl .nil)))))))) rfl ?_
      intro w155 ch156 bx157
      clear bx15
      refine ai 0 (ab (aw (vs:=[vg [Value.float .f64 sm,Value.float .f64 (al fq58),Value.float .f64 mn,Value.float .f64 mx,Value.float .f64 (al fq64),Value.float .f64 (al fq87),Value.float .f64 (al (aO (aq g.1) (aq ((((((ad g p).1).2).1)+1)*((((((ad g p).1).2).2).1)+1)))))],vi 0]) Try.func8 (.cell zs4 (bM (ds:=[Value.float .f64 sm,Value.float .f64 (al fq58),Value.float .f64 mn,Value.float .f64 mx,Value.float .f64 (al fq64),Value.float .f64 (al fq87),Value.float .f64 (al (aO (aq g.1) (aq ((((((ad g p).1).2).1)+1)*((((((ad g p).1).2).2).1)+1)))))]) b9 bx157 rfl rfl) (.tmp rfl .nil)) ?_))
      have e0:((sm,al fq58,mn,mx,al fq64,al fq87,al (aO (aq g.1) (aq ((((((ad g p).1).2).1)+1)*((((((ad g p).1).2).2).1)+1))))):(Nat)×(Nat)×(Nat)×(Nat)×(Nat)×(Nat)×(Nat))=((av g p).1):=by
        exact cZ hf0 hS (by exact c1.1 ‹_›) hmn hmx (by exact c2.1 ‹_›) (by exact c3.1 ‹_›) (by exact c4.1 ‹_›)
      have e1:(0:Int)=((av g p).2):=by
        rw[bV hf0]
      have C159:=cg [3,5,6] (ch79.n.seq ((ch81.l rfl).seq (hb84.n.seq (ch86.n.seq ((ch91.l rfl).seq ((ch98.l rfl).seq (ch111.n.seq (ch113.n.seq (hc116.n.seq (hb118.n.seq ((ch120.l rfl).seq (ch123.n.seq (hc126.n.seq (hb129.n.seq ((ch131.l rfl).seq (ch134.n.seq (hc137.n.seq (hb140.n.seq ((ch142.l rfl).seq (ch145.n.seq (hc148.n.seq (hb151.n.seq ((ch153.l rfl).seq (ch156.l rfl))))))))))))))))))))))))
      replace bH:=bH.ca C159
      exact⟨(bR (a:=(sm,al fq58,mn,mx,al fq64,al fq87,al (aO (aq g.1) (aq ((((((ad g p).1).2).1)+1)*((((((ad g p).1).2).2).1)+1)))))) (b:=0) (λ(z0:(Nat)×(Nat)×(Nat)×(Nat)×(Nat)×(Nat)×(Nat)) (z1:Int)=>Ending.returned (vt [vg [Value.float .f64 z0.1,Value.float .f64 z0.2.1,Value.float .f64 z0.2.2.1,Value.float .f64 z0.2.2.2.1,Value.float .f64 z0.2.2.2.2.1,Value.float .f64 z0.2.2.2.2.2.1,Value.float .f64 z0.2.2.2.2.2.2],vi z1])) e0 e1),bH.below⟩
     refine ah rfl (Bool.eq_false_iff.2 p27_149) (au (ap (a7 rfl (lx (ba (m:=3) (n:=1) rfl rfl (by omega)) (mi 4 (ab (aN (a8 (a7 rfl (lx (bc (m:=4) (n:=4) rfl rfl) ?_))))))))))
     refine ab (a8 (ah rfl rfl (aQ rfl (a8 ?_))))
     clear o112
     refine a7 rfl ?_
     replace bx143:=bx143.cn hc148
     refine lx (ae (ds:=[Value.float .f64 sm,Value.float .f64 (al fq58),Value.float .f64 mn,Value.float .f64 mx,Value.float .f64 (al fq64),Value.float .f64 (al fq87),Value.float .f64 (aO (aq g.1) (aq ((((((ad g p).1).2).1)+1)*((((((ad g p).1).2).2).1)+1))))]) b9 zs8 bx143 rfl rfl) (lo ?_)
     have C163:=cg [5,6] (ch79.n.seq ((ch81.l rfl).seq (hb84.n.seq (ch86.n.seq ((ch91.l rfl).seq ((ch98.l rfl).seq (ch111.n.seq (ch113.n.seq (hc116.n.seq (hb118.n.seq ((ch120.l rfl).seq (ch123.n.seq (hc126.n.seq (hb129.n.seq ((ch131.l rfl).seq (ch134.n.seq (hc137.n.seq (hb140.n.seq ((ch142.l rfl).seq (ch145.n.seq hc148.n))))))))))))))))))))
     replace bx15:=bx15.ca C163
     refine ao (cs':=[Value.float .f64 sm,Value.float .f64 (al fq58),Value.float .f64 mn,Value.float .f64 mx,Value.float .f64 (al fq64),Value.float .f64 (al fq87),Value.float .f64 (aO (aq g.1) (aq ((((((ad g p).1).2).1)+1)*((((((ad g p).1).2).2).1)+1))))]) b9 zs4 rfl bx15 rfl nq (AllOne.all (.cons rfl (.cons rfl (.cons rfl (.cons rfl (.cons rfl (.cons rfl (.cons rfl .nil)))))))) rfl ?_
     intro w160 ch161 bx162
     clear bx15
     refine ai 0 (ab (aw (vs:=[vg [Value.float .f64 sm,Value.float .f64 (al fq58),Value.float .f64 mn,Value.float .f64 mx,Value.float .f64 (al fq64),Value.float .f64 (al fq87),Value.float .f64 (aO (aq g.1) (aq ((((((ad g p).1).2).1)+1)*((((((ad g p).1).2).2).1)+1))))],vi 0]) Try.func8 (.cell zs4 (bM (ds:=[Value.float .f64 sm,Value.float .f64 (al fq58),Value.float .f64 mn,Value.float .f64 mx,Value.float .f64 (al fq64),Value.float .f64 (al fq87),Value.float .f64 (aO (aq g.1) (aq ((((((ad g p).1).2).1)+1)*((((((ad g p).1).2).2).1)+1))))]) b9 bx162 rfl rfl) (.tmp rfl .nil)) ?_))
     have e0:((sm,al fq58,mn,mx,al fq64,al fq87,aO (aq g.1) (aq ((((((ad g p).1).2).1)+1)*((((((ad g p).1).2).2).1)+1)))):(Nat)×(Nat)×(Nat)×(Nat)×(Nat)×(Nat)×(Nat))=((av g p).1):=by
       exact cZ hf0 hS (by exact c1.1 ‹_›) hmn hmx (by exact c2.1 ‹_›) (by exact c3.1 ‹_›) (by exact c4.2 ‹_›)
     have e1:(0:Int)=((av g p).2):=by
       rw[bV hf0]
     have C164:=cg [3,5,6] (ch79.n.seq ((ch81.l rfl).seq (hb84.n.seq (ch86.n.seq ((ch91.l rfl).seq ((ch98.l rfl).seq (ch111.n.seq (ch113.n.seq (hc116.n.seq (hb118.n.seq ((ch120.l rfl).seq (ch123.n.seq (hc126.n.seq (hb129.n.seq ((ch131.l rfl).seq (ch134.n.seq (hc137.n.seq (hb140.n.seq ((ch142.l rfl).seq (ch145.n.seq (hc148.n.seq (ch161.l rfl))))))))))))))))))))))
     replace bH:=bH.ca C164
     exact⟨(bR (a:=(sm,al fq58,mn,mx,al fq64,al fq87,aO (aq g.1) (aq ((((((ad g p).1).2).1)+1)*((((((ad g p).1).2).2).1)+1))))) (b:=0) (λ(z0:(Nat)×(Nat)×(Nat)×(Nat)×(Nat)×(Nat)×(Nat)) (z1:Int)=>Ending.returned (vt [vg [Value.float .f64 z0.1,Value.float .f64 z0.2.1,Value.float .f64 z0.2.2.1,Value.float .f64 z0.2.2.2.1,Value.float .f64 z0.2.2.2.2.1,Value.float .f64 z0.2.2.2.2.2.1,Value.float .f64 z0.2.2.2.2.2.2],vi z1])) e0 e1),bH.below⟩
    refine ah rfl (Bool.eq_false_iff.2 p27_138) (au (ap (a7 rfl (lx (ba (m:=2) (n:=1) rfl rfl (by omega)) (mi 3 (ab (aN (a8 (a7 rfl (lx (bc (m:=3) (n:=4) rfl rfl) ?_))))))))))
    refine ab (a8 (ag rfl rfl (au (a8 (aC (a8 (a7 rfl ?_)))))))
    replace o112:=(o112.cn ch134).cn hc137
    refine lx (af (v:=v110) (i:=3) jZ rfl rfl o112.flat rfl (by omega) (by(simp only[List.length_set,List.length_append,List.length_cons,List.length_nil,List.length_replicate,List.length_map,List.length_take,List.length_drop];omega))) (lx (aZ cH rfl (dc hv107 o112 rfl)) (ma (vp b30 6) (ab (a8 (bq g108 rfl co (by kernel_rfl) ?_)))))
    intro w166 ch165
    refine qm (vp b30 6) (qv (vp b30 6) (λw' hw'=>aB rfl) ?_)
    replace bx132:=(bx132.cn hc137).cn ch165
    refine qx (λw' hw'=>aa aF rfl (bx132.bel hw') rfl) (qm (vp b30 6) (qv (vp b30 6) (λw' hw'=>aB rfl) (qx (λw' hw'=>aa aF rfl (bx132.bel hw') rfl) (qv (vb (bQ (aO (aq g.1) (aq ((((((ad g p).1).2).1)+1)*((((((ad g p).1).2).2).1)+1)))))) (λw' hw'=>cU (a:=(aO (aq g.1) (aq ((((((ad g p).1).2).1)+1)*((((((ad g p).1).2).2).1)+1))))) rfl rfl) (bT ?_)))))
    intro w167 hc168
    replace hc168:=am hc168 g108
    by_cases p27_169:bQ (aO (aq g.1) (aq ((((((ad g p).1).2).1)+1)*((((((ad g p).1).2).2).1)+1))))=true
    ·
     refine ag rfl p27_169 (a7 rfl (mv (vp b30 6) (mv (vp b30 6) (lw (vp b30 6) (aB rfl) ?_))))
     replace bx132:=bx132.cn hc168
     refine lx (aa aF rfl bx132 rfl) (lo (aP (v:=Value.float .f64 (al (aO (aq g.1) (aq ((((((ad g p).1).2).1)+1)*((((((ad g p).1).2).2).1)+1)))))) (aG (vals:=[Value.float .f64 (aO (aq g.1) (aq ((((((ad g p).1).2).1)+1)*((((((ad g p).1).2).2).1)+1))))]) Try.func26 cQ cM rfl) (cl w167 (aO (aq g.1) (aq ((((((ad g p).1).2).1)+1)*((((((ad g p).1).2).2).1)+1)))) (by exact .inr ‹_›)) ?_))
     intro w170 hb171
     replace hb171:=am hb171 g108
     refine lw (vp b30 6) (aB rfl) (lo ?_)
     replace bx132:=bx132.cn hb171
     refine ao (cs':=[Value.float .f64 sm,Value.float .f64 (al fq58),Value.float .f64 mn,Value.float .f64 mx,Value.float .f64 (al fq64),Value.float .f64 fq87,Value.float .f64 (al (aO (aq g.1) (aq ((((((ad g p).1).2).1)+1)*((((((ad g p).1).2).2).1)+1)))))]) aF rfl rfl bx132 rfl nq (AllOne.all (.cons rfl .nil)) rfl ?_
     intro w172 ch173 bx174
     clear bx132
     refine ab (ap (a7 rfl (lx (ba (m:=3) (n:=1) rfl rfl (by omega)) (mi 4 (ab (aN (a8 (a7 rfl (lx (bc (m:=4) (n:=4) rfl rfl) (ab (a8 ?_)))))))))))
     refine ah rfl rfl (aQ rfl (a8 ?_))
     clear o112
     refine a7 rfl (lx (ae (ds:=[Value.float .f64 sm,Value.float .f64 (al fq58),Value.float .f64 mn,Value.float .f64 mx,Value.float .f64 (al fq64),Value.float .f64 fq87,Value.float .f64 (al (aO (aq g.1) (aq ((((((ad g p).1).2).1)+1)*((((((ad g p).1).2).2).1)+1)))))]) b9 zs8 bx174 rfl rfl) (lo ?_))
     have C178:=cg [5,6] (ch79.n.seq ((ch81.l rfl).seq (hb84.n.seq (ch86.n.seq ((ch91.l rfl).seq ((ch98.l rfl).seq (ch111.n.seq (ch113.n.seq (hc116.n.seq (hb118.n.seq ((ch120.l rfl).seq (ch123.n.seq (hc126.n.seq (hb129.n.seq ((ch131.l rfl).seq (ch134.n.seq (hc137.n.seq (ch165.n.seq (hc168.n.seq (hb171.n.seq (ch173.l rfl)))))))))))))))))))))
     replace bx15:=bx15.ca C178
     refine ao (cs':=[Value.float .f64 sm,Value.float .f64 (al fq58),Value.float .f64 mn,Value.float .f64 mx,Value.float .f64 (al fq64),Value.float .f64 fq87,Value.float .f64 (al (aO (aq g.1) (aq ((((((ad g p).1).2).1)+1)*((((((ad g p).1).2).2).1)+1)))))]) b9 zs4 rfl bx15 rfl nq (AllOne.all (.cons rfl (.cons rfl (.cons rfl (.cons rfl (.cons rfl (.cons rfl (.cons rfl .nil)))))))) rfl ?_
     intro w175 ch176 bx177
     clear bx15
     refine ai 0 (ab (aw (vs:=[vg [Value.float .f64 sm,Value.float .f64 (al fq58),Value.float .f64 mn,Value.float .f64 mx,Value.float .f64 (al fq64),Value.float .f64 fq87,Value.float .f64 (al (aO (aq g.1) (aq ((((((ad g p).1).2).1)+1)*((((((ad g p).1).2).2).1)+1)))))],vi 0]) Try.func8 (.cell zs4 (bM (ds:=[Value.float .f64 sm,Value.float .f64 (al fq58),Value.float .f64 mn,Value.float .f64 mx,Value.float .f64 (al fq64),Value.float .f64 fq87,Value.float .f64 (al (aO (aq g.1) (aq ((((((ad g p).1).2).1)+1)*((((((ad g p).1).2).2).1)+1)))))]) b9 bx177 rfl rfl) (.tmp rfl .nil)) ?_))
     have e0:((sm,al fq58,mn,mx,al fq64,fq87,al (aO (aq g.1) (aq ((((((ad g p).1).2).1)+1)*((((((ad g p).1).2).2).1)+1))))):(Nat)×(Nat)×(Nat)×(Nat)×(Nat)×(Nat)×(Nat))=((av g p).1):=by
       exact cZ hf0 hS (by exact c1.1 ‹_›) hmn hmx (by exact c2.1 ‹_›) (by exact c3.2 ‹_›) (by exact c4.1 ‹_›)
     have e1:(0:Int)=((av g p).2):=by
       rw[bV hf0]
     have C179:=cg [3,5,6] (ch79.n.seq ((ch81.l rfl).seq (hb84.n.seq (ch86.n.seq ((ch91.l rfl).seq ((ch98.l rfl).seq (ch111.n.seq (ch113.n.seq (hc116.n.seq (hb118.n.seq ((ch120.l rfl).seq (ch123.n.seq (hc126.n.seq (hb129.n.seq ((ch131.l rfl).seq (ch134.n.seq (hc137.n.seq (ch165.n.seq (hc168.n.seq (hb171.n.seq ((ch173.l rfl).seq (ch176.l rfl))))))))))))))))))))))
     replace bH:=bH.ca C179
     exact⟨(bR (a:=(sm,al fq58,mn,mx,al fq64,fq87,al (aO (aq g.1) (aq ((((((ad g p).1).2).1)+1)*((((((ad g p).1).2).2).1)+1)))))) (b:=0) (λ(z0:(Nat)×(Nat)×(Nat)×(Nat)×(Nat)×(Nat)×(Nat)) (z1:Int)=>Ending.returned (vt [vg [Value.float .f64 z0.1,Value.float .f64 z0.2.1,Value.float .f64 z0.2.2.1,Value.float .f64 z0.2.2.2.1,Value.float .f64 z0.2.2.2.2.1,Value.float .f64 z0.2.2.2.2.2.1,Value.float .f64 z0.2.2.2.2.2.2],vi z1])) e0 e1),bH.below⟩
    refine ah rfl (Bool.eq_false_iff.2 p27_169) (au (ap (a7 rfl (lx (ba (m:=3) (n:=1) rfl rfl (by omega)) (mi 4 (ab (aN (a8 (a7 rfl (lx (bc (m:=4) (n:=4) rfl rfl) ?_))))))))))
    refine ab (a8 (ah rfl rfl (aQ rfl (a8 ?_))))
    clear o112
    refine a7 rfl ?_
    replace bx132:=bx132.cn hc168
    refine lx (ae (ds:=[Value.float .f64 sm,Value.float .f64 (al fq58),Value.float .f64 mn,Value.float .f64 mx,Value.float .f64 (al fq64),Value.float .f64 fq87,Value.float .f64 (aO (aq g.1) (aq ((((((ad g p).1).2).1)+1)*((((((ad g p).1).2).2).1)+1))))]) b9 zs8 bx132 rfl rfl) (lo ?_)
    have C183:=cg [5,6] (ch79.n.seq ((ch81.l rfl).seq (hb84.n.seq (ch86.n.seq ((ch91.l rfl).seq ((ch98.l rfl).seq (ch111.n.seq (ch113.n.seq (hc116.n.seq (hb118.n.seq ((ch120.l rfl).seq (ch123.n.seq (hc126.n.seq (hb129.n.seq ((ch131.l rfl).seq (ch134.n.seq (hc137.n.seq (ch165.n.seq hc168.n))))))))))))))))))
    replace bx15:=bx15.ca C183
    refine ao (cs':=[Value.float .f64 sm,Value.float .f64 (al fq58),Value.float .f64 mn,Value.float .f64 mx,Value.float .f64 (al fq64),Value.float .f64 fq87,Value.float .f64 (aO (aq g.1) (aq ((((((ad g p).1).2).1)+1)*((((((ad g p).1).2).2).1)+1))))]) b9 zs4 rfl bx15 rfl nq (AllOne.all (.cons rfl (.cons rfl (.cons rfl (.cons rfl (.cons rfl (.cons rfl (.cons rfl .nil)))))))) rfl ?_
    intro w180 ch181 bx182
    clear bx15
    refine ai 0 (ab (aw (vs:=[vg [Value.float .f64 sm,Value.float .f64 (al fq58),Value.float .f64 mn,Value.float .f64 mx,Value.float .f64 (al fq64),Value.float .f64 fq87,Value.float .f64 (aO (aq g.1) (aq ((((((ad g p).1).2).1)+1)*((((((ad g p).1).2).2).1)+1))))],vi 0]) Try.func8 (.cell zs4 (bM (ds:=[Value.float .f64 sm,Value.float .f64 (al fq58),Value.float .f64 mn,Value.float .f64 mx,Value.float .f64 (al fq64),Value.float .f64 fq87,Value.float .f64 (aO (aq g.1) (aq ((((((ad g p).1).2).1)+1)*((((((ad g p).1).2).2).1)+1))))]) b9 bx182 rfl rfl) (.tmp rfl .nil)) ?_))
    have e0:((sm,al fq58,mn,mx,al fq64,fq87,aO (aq g.1) (aq ((((((ad g p).1).2).1)+1)*((((((ad g p).1).2).2).1)+1)))):(Nat)×(Nat)×(Nat)×(Nat)×(Nat)×(Nat)×(Nat))=((av g p).1):=by
      exact cZ hf0 hS (by exact c1.1 ‹_›) hmn hmx (by exact c2.1 ‹_›) (by exact c3.2 ‹_›) (by exact c4.2 ‹_›)
    have e1:(0:Int)=((av g p).2):=by
      rw[bV hf0]
    have C184:=cg [3,5,6] (ch79.n.seq ((ch81.l rfl).seq (hb84.n.seq (ch86.n.seq ((ch91.l rfl).seq ((ch98.l rfl).seq (ch111.n.seq (ch113.n.seq (hc116.n.seq (hb118.n.seq ((ch120.l rfl).seq (ch123.n.seq (hc126.n.seq (hb129.n.seq ((ch131.l rfl).seq (ch134.n.seq (hc137.n.seq (ch165.n.seq (hc168.n.seq (ch181.l rfl))))))))))))))))))))
    replace bH:=bH.ca C184
    exact⟨(bR (a:=(sm,al fq58,mn,mx,al fq64,fq87,aO (aq g.1) (aq ((((((ad g p).1).2).1)+1)*((((((ad g p).1).2).2).1)+1))))) (b:=0) (λ(z0:(Nat)×(Nat)×(Nat)×(Nat)×(Nat)×(Nat)×(Nat)) (z1:Int)=>Ending.returned (vt [vg [Value.float .f64 z0.1,Value.float .f64 z0.2.1,Value.float .f64 z0.2.2.1,Value.float .f64 z0.2.2.2.1,Value.float .f64 z0.2.2.2.2.1,Value.float .f64 z0.2.2.2.2.2.1,Value.float .f64 z0.2.2.2.2.2.2],vi z1])) e0 e1),bH.below⟩
   refine ah rfl (Bool.eq_false_iff.2 p27_127) (au (ap (a7 rfl (lx (ba (m:=1) (n:=1) rfl rfl (by omega)) (mi 2 (ab (aN (a8 (a7 rfl (lx (bc (m:=2) (n:=4) rfl rfl) ?_))))))))))
   refine ab (a8 (ag rfl rfl (au (a8 (aC (a8 (a7 rfl ?_)))))))
   replace o112:=(o112.cn ch123).cn hc126
   refine lx (af (v:=v110) (i:=2) jZ rfl rfl o112.flat rfl (by omega) (by(simp only[List.length_set,List.length_append,List.length_cons,List.length_nil,List.length_replicate,List.length_map,List.length_take,List.length_drop];omega))) (lx (aZ cH rfl (dc hv105 o112 rfl)) (ma (vp b30 5) (ab (a8 (bq g108 rfl co (by kernel_rfl) ?_)))))
   intro w186 ch185
   refine qm (vp b30 5) (qv (vp b30 5) (λw' hw'=>aB rfl) ?_)
   replace bx121:=(bx121.cn hc126).cn ch185
   refine qx (λw' hw'=>aa aF rfl (bx121.bel hw') rfl) (qm (vp b30 5) (qv (vp b30 5) (λw' hw'=>aB rfl) (qx (λw' hw'=>aa aF rfl (bx121.bel hw') rfl) (qv (vb (bQ fq87)) (λw' hw'=>cU (a:=fq87) rfl rfl) (bT ?_)))))
   intro w187 hc188
   replace hc188:=am hc188 g108
   by_cases p27_189:bQ fq87=true
   ·
    refine ag rfl p27_189 (a7 rfl (mv (vp b30 5) (mv (vp b30 5) (lw (vp b30 5) (aB rfl) ?_))))
    replace bx121:=bx121.cn hc188
    refine lx (aa aF rfl bx121 rfl) (lo (aP (v:=Value.float .f64 (al fq87)) (aG (vals:=[Value.float .f64 fq87]) Try.func26 cQ cM rfl) (cl w187 fq87 (by exact iu hfq87 hv87)) ?_))
    intro w190 hb191
    replace hb191:=am hb191 g108
    refine lw (vp b30 5) (aB rfl) (lo ?_)
    replace bx121:=bx121.cn hb191
    refine ao (cs':=[Value.float .f64 sm,Value.float .f64 (al fq58),Value.float .f64 mn,Value.float .f64 mx,Value.float .f64 fq64,Value.float .f64 (al fq87),Value.float .f64 (aO (aq g.1) (aq ((((((ad g p).1).2).1)+1)*((((((ad g p).1).2).2).1)+1))))]) aF rfl rfl bx121 rfl nq (AllOne.all (.cons rfl .nil)) rfl ?_
    intro w192 ch193 bx194
    clear bx121
    refine ab (ap (a7 rfl (lx (ba (m:=2) (n:=1) rfl rfl (by omega)) (mi 3 (ab (aN (a8 (a7 rfl (lx (bc (m:=3) (n:=4) rfl rfl) (ab (a8 ?_)))))))))))
    refine ag rfl rfl (au (a8 (aC (a8 (a7 rfl ?_)))))
    have C195:=cg [5] (ch185.n.seq (hc188.n.seq (hb191.n.seq (ch193.l rfl))))
    replace o112:=o112.ca C195
    refine lx (af (v:=v110) (i:=3) jZ rfl rfl o112.flat rfl (by omega) (by(simp only[List.length_set,List.length_append,List.length_cons,List.length_nil,List.length_replicate,List.length_map,List.length_take,List.length_drop];omega))) (lx (aZ cH rfl (dc hv107 o112 rfl)) (ma (vp b30 6) (ab (a8 (bq g108 rfl co (by kernel_rfl) ?_)))))
    intro w197 ch196
    refine qm (vp b30 6) (qv (vp b30 6) (λw' hw'=>aB rfl) ?_)
    replace bx194:=bx194.cn ch196
    refine qx (λw' hw'=>aa aF rfl (bx194.bel hw') rfl) (qm (vp b30 6) (qv (vp b30 6) (λw' hw'=>aB rfl) (qx (λw' hw'=>aa aF rfl (bx194.bel hw') rfl) (qv (vb (bQ (aO (aq g.1) (aq ((((((ad g p).1).2).1)+1)*((((((ad g p).1).2).2).1)+1)))))) (λw' hw'=>cU (a:=(aO (aq g.1) (aq ((((((ad g p).1).2).1)+1)*((((((ad g p).1).2).2).1)+1))))) rfl rfl) (bT ?_)))))
    intro w198 hc199
    replace hc199:=am hc199 g108
    by_cases p27_200:bQ (aO (aq g.1) (aq ((((((ad g p).1).2).1)+1)*((((((ad g p).1).2).2).1)+1))))=true
    ·
     refine ag rfl p27_200 (a7 rfl (mv (vp b30 6) (mv (vp b30 6) (lw (vp b30 6) (aB rfl) ?_))))
     replace bx194:=bx194.cn hc199
     refine lx (aa aF rfl bx194 rfl) (lo (aP (v:=Value.float .f64 (al (aO (aq g.1) (aq ((((((ad g p).1).2).1)+1)*((((((ad g p).1).2).2).1)+1)))))) (aG (vals:=[Value.float .f64 (aO (aq g.1) (aq ((((((ad g p).1).2).1)+1)*((((((ad g p).1).2).2).1)+1))))]) Try.func26 cQ cM rfl) (cl w198 (aO (aq g.1) (aq ((((((ad g p).1).2).1)+1)*((((((ad g p).1).2).2).1)+1)))) (by exact .inr ‹_›)) ?_))
     intro w201 hb202
     replace hb202:=am hb202 g108
     refine lw (vp b30 6) (aB rfl) (lo ?_)
     replace bx194:=bx194.cn hb202
     refine ao (cs':=[Value.float .f64 sm,Value.float .f64 (al fq58),Value.float .f64 mn,Value.float .f64 mx,Value.float .f64 fq64,Value.float .f64 (al fq87),Value.float .f64 (al (aO (aq g.1) (aq ((((((ad g p).1).2).1)+1)*((((((ad g p).1).2).2).1)+1)))))]) aF rfl rfl bx194 rfl nq (AllOne.all (.cons rfl .nil)) rfl ?_
     intro w203 ch204 bx205
     clear bx194
     refine ab (ap (a7 rfl (lx (ba (m:=3) (n:=1) rfl rfl (by omega)) (mi 4 (ab (aN (a8 (a7 rfl (lx (bc (m:=4) (n:=4) rfl rfl) (ab (a8 ?_)))))))))))
     refine ah rfl rfl (aQ rfl (a8 ?_))
     clear o112
     refine a7 rfl (lx (ae (ds:=[Value.float .f64 sm,Value.float .f64 (al fq58),Value.float .f64 mn,Value.float .f64 mx,Value.float .f64 fq64,Value.float .f64 (al fq87),Value.float .f64 (al (aO (aq g.1) (aq ((((((ad g p).1).2).1)+1)*((((((ad g p).1).2).2).1)+1)))))]) b9 zs8 bx205 rfl rfl) (lo ?_))
     have C209:=cg [5,6] (ch79.n.seq ((ch81.l rfl).seq (hb84.n.seq (ch86.n.seq ((ch91.l rfl).seq ((ch98.l rfl).seq (ch111.n.seq (ch113.n.seq (hc116.n.seq (hb118.n.seq ((ch120.l rfl).seq (ch123.n.seq (hc126.n.seq (ch185.n.seq (hc188.n.seq (hb191.n.seq ((ch193.l rfl).seq (ch196.n.seq (hc199.n.seq (hb202.n.seq (ch204.l rfl)))))))))))))))))))))
     replace bx15:=bx15.ca C209
     refine ao (cs':=[Value.float .f64 sm,Value.float .f64 (al fq58),Value.float .f64 mn,Value.float .f64 mx,Value.float .f64 fq64,Value.float .f64 (al fq87),Value.float .f64 (al (aO (aq g.1) (aq ((((((ad g p).1).2).1)+1)*((((((ad g p).1).2).2).1)+1)))))]) b9 zs4 rfl bx15 rfl nq (AllOne.all (.cons rfl (.cons rfl (.cons rfl (.cons rfl (.cons rfl (.cons rfl (.cons rfl .nil)))))))) rfl ?_
     intro w206 ch207 bx208
     clear bx15
     refine ai 0 (ab (aw (vs:=[vg [Value.float .f64 sm,Value.float .f64 (al fq58),Value.float .f64 mn,Value.float .f64 mx,Value.float .f64 fq64,Value.float .f64 (al fq87),Value.float .f64 (al (aO (aq g.1) (aq ((((((ad g p).1).2).1)+1)*((((((ad g p).1).2).2).1)+1)))))],vi 0]) Try.func8 (.cell zs4 (bM (ds:=[Value.float .f64 sm,Value.float .f64 (al fq58),Value.float .f64 mn,Value.float .f64 mx,Value.float .f64 fq64,Value.float .f64 (al fq87),Value.float .f64 (al (aO (aq g.1) (aq ((((((ad g p).1).2).1)+1)*((((((ad g p).1).2).2).1)+1)))))]) b9 bx208 rfl rfl) (.tmp rfl .nil)) ?_))
     have e0:((sm,al fq58,mn,mx,fq64,al fq87,al (aO (aq g.1) (aq ((((((ad g p).1).2).1)+1)*((((((ad g p).1).2).2).1)+1))))):(Nat)×(Nat)×(Nat)×(Nat)×(Nat)×(Nat)×(Nat))=((av g p).1):=by
       exact cZ hf0 hS (by exact c1.1 ‹_›) hmn hmx (by exact c2.2 ‹_›) (by exact c3.1 ‹_›) (by exact c4.1 ‹_›)
     have e1:(0:Int)=((av g p).2):=by
       rw[bV hf0]
     have C210:=cg [3,5,6] (ch79.n.seq ((ch81.l rfl).seq (hb84.n.seq (ch86.n.seq ((ch91.l rfl).seq ((ch98.l rfl).seq (ch111.n.seq (ch113.n.seq (hc116.n.seq (hb118.n.seq ((ch120.l rfl).seq (ch123.n.seq (hc126.n.seq (ch185.n.seq (hc188.n.seq (hb191.n.seq ((ch193.l rfl).seq (ch196.n.seq (hc199.n.seq (hb202.n.seq ((ch204.l rfl).seq (ch207.l rfl))))))))))))))))))))))
     replace bH:=bH.ca C210
     exact⟨(bR (a:=(sm,al fq58,mn,mx,fq64,al fq87,al (aO (aq g.1) (aq ((((((ad g p).1).2).1)+1)*((((((ad g p).1).2).2).1)+1)))))) (b:=0) (λ(z0:(Nat)×(Nat)×(Nat)×(Nat)×(Nat)×(Nat)×(Nat)) (z1:Int)=>Ending.returned (vt [vg [Value.float .f64 z0.1,Value.float .f64 z0.2.1,Value.float .f64 z0.2.2.1,Value.float .f64 z0.2.2.2.1,Value.float .f64 z0.2.2.2.2.1,Value.float .f64 z0.2.2.2.2.2.1,Value.float .f64 z0.2.2.2.2.2.2],vi z1])) e0 e1),bH.below⟩
    refine ah rfl (Bool.eq_false_iff.2 p27_200) (au (ap (a7 rfl (lx (ba (m:=3) (n:=1) rfl rfl (by omega)) (mi 4 (ab (aN (a8 (a7 rfl (lx (bc (m:=4) (n:=4) rfl rfl) ?_))))))))))
    refine ab (a8 (ah rfl rfl (aQ rfl (a8 ?_))))
    clear o112
    refine a7 rfl ?_
    replace bx194:=bx194.cn hc199
    refine lx (ae (ds:=[Value.float .f64 sm,Value.float .f64 (al fq58),Value.float .f64 mn,Value.float .f64 mx,Value.float .f64 fq64,Value.float .f64 (al fq87),Value.float .f64 (aO (aq g.1) (aq ((((((ad g p).1).2).1)+1)*((((((ad g p).1).2).2).1)+1))))]) b9 zs8 bx194 rfl rfl) (lo ?_)
    have C214:=cg [5,6] (ch79.n.seq ((ch81.l rfl).seq (hb84.n.seq (ch86.n.seq ((ch91.l rfl).seq ((ch98.l rfl).seq (ch111.n.seq (ch113.n.seq (hc116.n.seq (hb118.n.seq ((ch120.l rfl).seq (ch123.n.seq (hc126.n.seq (ch185.n.seq (hc188.n.seq (hb191.n.seq ((ch193.l rfl).seq (ch196.n.seq hc199.n))))))))))))))))))
    replace bx15:=bx15.ca C214
    refine ao (cs':=[Value.float .f64 sm,Value.float .f64 (al fq58),Value.float .f64 mn,Value.float .f64 mx,Value.float .f64 fq64,Value.float .f64 (al fq87),Value.float .f64 (aO (aq g.1) (aq ((((((ad g p).1).2).1)+1)*((((((ad g p).1).2).2).1)+1))))]) b9 zs4 rfl bx15 rfl nq (AllOne.all (.cons rfl (.cons rfl (.cons rfl (.cons rfl (.cons rfl (.cons rfl (.cons rfl .nil)))))))) rfl ?_
    intro w211 ch212 bx213
    clear bx15
    refine ai 0 (ab (aw (vs:=[vg [Value.float .f64 sm,Value.float .f64 (al fq58),Value.float .f64 mn,Value.float .f64 mx,Value.float .f64 fq64,Value.float .f64 (al fq87),Value.float .f64 (aO (aq g.1) (aq ((((((ad g p).1).2).1)+1)*((((((ad g p).1).2).2).1)+1))))],vi 0]) Try.func8 (.cell zs4 (bM (ds:=[Value.float .f64 sm,Value.float .f64 (al fq58),Value.float .f64 mn,Value.float .f64 mx,Value.float .f64 fq64,Value.float .f64 (al fq87),Value.float .f64 (aO (aq g.1) (aq ((((((ad g p).1).2).1)+1)*((((((ad g p).1).2).2).1)+1))))]) b9 bx213 rfl rfl) (.tmp rfl .nil)) ?_))
    have e0:((sm,al fq58,mn,mx,fq64,al fq87,aO (aq g.1) (aq ((((((ad g p).1).2).1)+1)*((((((ad g p).1).2).2).1)+1)))):(Nat)×(Nat)×(Nat)×(Nat)×(Nat)×(Nat)×(Nat))=((av g p).1):=by
      exact cZ hf0 hS (by exact c1.1 ‹_›) hmn hmx (by exact c2.2 ‹_›) (by exact c3.1 ‹_›) (by exact c4.2 ‹_›)
    have e1:(0:Int)=((av g p).2):=by
      rw[bV hf0]
    have C215:=cg [3,5,6] (ch79.n.seq ((ch81.l rfl).seq (hb84.n.seq (ch86.n.seq ((ch91.l rfl).seq ((ch98.l rfl).seq (ch111.n.seq (ch113.n.seq (hc116.n.seq (hb118.n.seq ((ch120.l rfl).seq (ch123.n.seq (hc126.n.seq (ch185.n.seq (hc188.n.seq (hb191.n.seq ((ch193.l rfl).seq (ch196.n.seq (hc199.n.seq (ch212.l rfl))))))))))))))))))))
    replace bH:=bH.ca C215
    exact⟨(bR (a:=(sm,al fq58,mn,mx,fq64,al fq87,aO (aq g.1) (aq ((((((ad g p).1).2).1)+1)*((((((ad g p).1).2).2).1)+1))))) (b:=0) (λ(z0:(Nat)×(Nat)×(Nat)×(Nat)×(Nat)×(Nat)×(Nat)) (z1:Int)=>Ending.returned (vt [vg [Value.float .f64 z0.1,Value.float .f64 z0.2.1,Value.float .f64 z0.2.2.1,Value.float .f64 z0.2.2.2.1,Value.float .f64 z0.2.2.2.2.1,Value.float .f64 z0.2.2.2.2.2.1,Value.float .f64 z0.2.2.2.2.2.2],vi z1])) e0 e1),bH.below⟩
   refine ah rfl (Bool.eq_false_iff.2 p27_189) (au (ap (a7 rfl (lx (ba (m:=2) (n:=1) rfl rfl (by omega)) (mi 3 (ab (aN (a8 (a7 rfl (lx (bc (m:=3) (n:=4) rfl rfl) ?_))))))))))
   refine ab (a8 (ag rfl rfl (au (a8 (aC (a8 (a7 rfl ?_)))))))
   replace o112:=(o112.cn ch185).cn hc188
   refine lx (af (v:=v110) (i:=3) jZ rfl rfl o112.flat rfl (by omega) (by(simp only[List.length_set,List.length_append,List.length_cons,List.length_nil,List.length_replicate,List.length_map,List.length_take,List.length_drop];omega))) (lx (aZ cH rfl (dc hv107 o112 rfl)) (ma (vp b30 6) (ab (a8 (bq g108 rfl co (by kernel_rfl) ?_)))))
   intro w217 ch216
   refine qm (vp b30 6) (qv (vp b30 6) (λw' hw'=>aB rfl) ?_)
   replace bx121:=(bx121.cn hc188).cn ch216
   refine qx (λw' hw'=>aa aF rfl (bx121.bel hw') rfl) (qm (vp b30 6) (qv (vp b30 6) (λw' hw'=>aB rfl) (qx (λw' hw'=>aa aF rfl (bx121.bel hw') rfl) (qv (vb (bQ (aO (aq g.1) (aq ((((((ad g p).1).2).1)+1)*((((((ad g p).1).2).2).1)+1)))))) (λw' hw'=>cU (a:=(aO (aq g.1) (aq ((((((ad g p).1).2).1)+1)*((((((ad g p).1).2).2).1)+1))))) rfl rfl) (bT ?_)))))
   intro w218 hc219
   replace hc219:=am hc219 g108
   by_cases p27_220:bQ (aO (aq g.1) (aq ((((((ad g p).1).2).1)+1)*((((((ad g p).1).2).2).1)+1))))=true
   ·
    refine ag rfl p27_220 (a7 rfl (mv (vp b30 6) (mv (vp b30 6) (lw (vp b30 6) (aB rfl) ?_))))
    replace bx121:=bx121.cn hc219
    refine lx (aa aF rfl bx121 rfl) (lo (aP (v:=Value.float .f64 (al (aO (aq g.1) (aq ((((((ad g p).1).2).1)+1)*((((((ad g p).1).2).2).1)+1)))))) (aG (vals:=[Value.float .f64 (aO (aq g.1) (aq ((((((ad g p).1).2).1)+1)*((((((ad g p).1).2).2).1)+1))))]) Try.func26 cQ cM rfl) (cl w218 (aO (aq g.1) (aq ((((((ad g p).1).2).1)+1)*((((((ad g p).1).2).2).1)+1)))) (by exact .inr ‹_›)) ?_))
    intro w221 hb222
    replace hb222:=am hb222 g108
    refine lw (vp b30 6) (aB rfl) (lo ?_)
    replace bx121:=bx121.cn hb222
    refine ao (cs':=[Value.float .f64 sm,Value.float .f64 (al fq58),Value.float .f64 mn,Value.float .f64 mx,Value.float .f64 fq64,Value.float .f64 fq87,Value.float .f64 (al (aO (aq g.1) (aq ((((((ad g p).1).2).1)+1)*((((((ad g p).1).2).2).1)+1)))))]) aF rfl rfl bx121 rfl nq (AllOne.all (.cons rfl .nil)) rfl ?_
    intro w223 ch224 bx225
    clear bx121
    refine ab (ap (a7 rfl (lx (ba (m:=3) (n:=1) rfl rfl (by omega)) (mi 4 (ab (aN (a8 (a7 rfl (lx (bc (m:=4) (n:=4) rfl rfl) (ab (a8 ?_)))))))))))
    refine ah rfl rfl (aQ rfl (a8 ?_))
    clear o112
    refine a7 rfl (lx (ae (ds:=[Value.float .f64 sm,Value.float .f64 (al fq58),Value.float .f64 mn,Value.float .f64 mx,Value.float .f64 fq64,Value.float .f64 fq87,Value.float .f64 (al (aO (aq g.1) (aq ((((((ad g p).1).2).1)+1)*((((((ad g p).1).2).2).1)+1)))))]) b9 zs8 bx225 rfl rfl) (lo ?_))
    have C229:=cg [5,6] (ch79.n.seq ((ch81.l rfl).seq (hb84.n.seq (ch86.n.seq ((ch91.l rfl).seq ((ch98.l rfl).seq (ch111.n.seq (ch113.n.seq (hc116.n.seq (hb118.n.seq ((ch120.l rfl).seq (ch123.n.seq (hc126.n.seq (ch185.n.seq (hc188.n.seq (ch216.n.seq (hc219.n.seq (hb222.n.seq (ch224.l rfl)))))))))))))))))))
    replace bx15:=bx15.ca C229
    refine ao (cs':=[Value.float .f64 sm,Value.float .f64 (al fq58),Value.float .f64 mn,Value.float .f64 mx,Value.float .f64 fq64,Value.float .f64 fq87,Value.float .f64 (al (aO (aq g.1) (aq ((((((ad g p).1).2).1)+1)*((((((ad g p).1).2).2).1)+1)))))]) b9 zs4 rfl bx15 rfl nq (AllOne.all (.cons rfl (.cons rfl (.cons rfl (.cons rfl (.cons rfl (.cons rfl (.cons rfl .nil)))))))) rfl ?_
    intro w226 ch227 bx228
    clear bx15
    refine ai 0 (ab (aw (vs:=[vg [Value.float .f64 sm,Value.float .f64 (al fq58),Value.float .f64 mn,Value.float .f64 mx,Value.float .f64 fq64,Value.float .f64 fq87,Value.float .f64 (al (aO (aq g.1) (aq ((((((ad g p).1).2).1)+1)*((((((ad g p).1).2).2).1)+1)))))],vi 0]) Try.func8 (.cell zs4 (bM (ds:=[Value.float .f64 sm,Value.float .f64 (al fq58),Value.float .f64 mn,Value.float .f64 mx,Value.float .f64 fq64,Value.float .f64 fq87,Value.float .f64 (al (aO (aq g.1) (aq ((((((ad g p).1).2).1)+1)*((((((ad g p).1).2).2).1)+1)))))]) b9 bx228 rfl rfl) (.tmp rfl .nil)) ?_))
    have e0:((sm,al fq58,mn,mx,fq64,fq87,al (aO (aq g.1) (aq ((((((ad g p).1).2).1)+1)*((((((ad g p).1).2).2).1)+1))))):(Nat)×(Nat)×(Nat)×(Nat)×(Nat)×(Nat)×(Nat))=((av g p).1):=by
      exact cZ hf0 hS (by exact c1.1 ‹_›) hmn hmx (by exact c2.2 ‹_›) (by exact c3.2 ‹_›) (by exact c4.1 ‹_›)
    have e1:(0:Int)=((av g p).2):=by
      rw[bV hf0]
    have C230:=cg [3,5,6] (ch79.n.seq ((ch81.l rfl).seq (hb84.n.seq (ch86.n.seq ((ch91.l rfl).seq ((ch98.l rfl).seq (ch111.n.seq (ch113.n.seq (hc116.n.seq (hb118.n.seq ((ch120.l rfl).seq (ch123.n.seq (hc126.n.seq (ch185.n.seq (hc188.n.seq (ch216.n.seq (hc219.n.seq (hb222.n.seq ((ch224.l rfl).seq (ch227.l rfl))))))))))))))))))))
    replace bH:=bH.ca C230
    exact⟨(bR (a:=(sm,al fq58,mn,mx,fq64,fq87,al (aO (aq g.1) (aq ((((((ad g p).1).2).1)+1)*((((((ad g p).1).2).2).1)+1)))))) (b:=0) (λ(z0:(Nat)×(Nat)×(Nat)×(Nat)×(Nat)×(Nat)×(Nat)) (z1:Int)=>Ending.returned (vt [vg [Value.float .f64 z0.1,Value.float .f64 z0.2.1,Value.float .f64 z0.2.2.1,Value.float .f64 z0.2.2.2.1,Value.float .f64 z0.2.2.2.2.1,Value.float .f64 z0.2.2.2.2.2.1,Value.float .f64 z0.2.2.2.2.2.2],vi z1])) e0 e1),bH.below⟩
   refine ah rfl (Bool.eq_false_iff.2 p27_220) (au (ap (a7 rfl (lx (ba (m:=3) (n:=1) rfl rfl (by omega)) (mi 4 (ab (aN (a8 (a7 rfl (lx (bc (m:=4) (n:=4) rfl rfl) ?_))))))))))
   refine ab (a8 (ah rfl rfl (aQ rfl (a8 ?_))))
   clear o112
   refine a7 rfl ?_
   replace bx121:=bx121.cn hc219
   refine lx (ae (ds:=[Value.float .f64 sm,Value.float .f64 (al fq58),Value.float .f64 mn,Value.float .f64 mx,Value.float .f64 fq64,Value.float .f64 fq87,Value.float .f64 (aO (aq g.1) (aq ((((((ad g p).1).2).1)+1)*((((((ad g p).1).2).2).1)+1))))]) b9 zs8 bx121 rfl rfl) (lo ?_)
   have C234:=cg [5,6] (ch79.n.seq ((ch81.l rfl).seq (hb84.n.seq (ch86.n.seq ((ch91.l rfl).seq ((ch98.l rfl).seq (ch111.n.seq (ch113.n.seq (hc116.n.seq (hb118.n.seq ((ch120.l rfl).seq (ch123.n.seq (hc126.n.seq (ch185.n.seq (hc188.n.seq (ch216.n.seq hc219.n))))))))))))))))
   replace bx15:=bx15.ca C234
   refine ao (cs':=[Value.float .f64 sm,Value.float .f64 (al fq58),Value.float .f64 mn,Value.float .f64 mx,Value.float .f64 fq64,Value.float .f64 fq87,Value.float .f64 (aO (aq g.1) (aq ((((((ad g p).1).2).1)+1)*((((((ad g p).1).2).2).1)+1))))]) b9 zs4 rfl bx15 rfl nq (AllOne.all (.cons rfl (.cons rfl (.cons rfl (.cons rfl (.cons rfl (.cons rfl (.cons rfl .nil)))))))) rfl ?_
   intro w231 ch232 bx233
   clear bx15
   refine ai 0 (ab (aw (vs:=[vg [Value.float .f64 sm,Value.float .f64 (al fq58),Value.float .f64 mn,Value.float .f64 mx,Value.float .f64 fq64,Value.float .f64 fq87,Value.float .f64 (aO (aq g.1) (aq ((((((ad g p).1).2).1)+1)*((((((ad g p).1).2).2).1)+1))))],vi 0]) Try.func8 (.cell zs4 (bM (ds:=[Value.float .f64 sm,Value.float .f64 (al fq58),Value.float .f64 mn,Value.float .f64 mx,Value.float .f64 fq64,Value.float .f64 fq87,Value.float .f64 (aO (aq g.1) (aq ((((((ad g p).1).2).1)+1)*((((((ad g p).1).2).2).1)+1))))]) b9 bx233 rfl rfl) (.tmp rfl .nil)) ?_))
   have e0:((sm,al fq58,mn,mx,fq64,fq87,aO (aq g.1) (aq ((((((ad g p).1).2).1)+1)*((((((ad g p).1).2).2).1)+1)))):(Nat)×(Nat)×(Nat)×(Nat)×(Nat)×(Nat)×(Nat))=((av g p).1):=by
     exact cZ hf0 hS (by exact c1.1 ‹_›) hmn hmx (by exact c2.2 ‹_›) (by exact c3.2 ‹_›) (by exact c4.2 ‹_›)
   have e1:(0:Int)=((av g p).2):=by
     rw[bV hf0]
   have C235:=cg [3,5,6] (ch79.n.seq ((ch81.l rfl).seq (hb84.n.seq (ch86.n.seq ((ch91.l rfl).seq ((ch98.l rfl).seq (ch111.n.seq (ch113.n.seq (hc116.n.seq (hb118.n.seq ((ch120.l rfl).seq (ch123.n.seq (hc126.n.seq (ch185.n.seq (hc188.n.seq (ch216.n.seq (hc219.n.seq (ch232.l rfl))))))))))))))))))
   replace bH:=bH.ca C235
   exact⟨(bR (a:=(sm,al fq58,mn,mx,fq64,fq87,aO (aq g.1) (aq ((((((ad g p).1).2).1)+1)*((((((ad g p).1).2).2).1)+1))))) (b:=0) (λ(z0:(Nat)×(Nat)×(Nat)×(Nat)×(Nat)×(Nat)×(Nat)) (z1:Int)=>Ending.returned (vt [vg [Value.float .f64 z0.1,Value.float .f64 z0.2.1,Value.float .f64 z0.2.2.1,Value.float .f64 z0.2.2.2.1,Value.float .f64 z0.2.2.2.2.1,Value.float .f64 z0.2.2.2.2.2.1,Value.float .f64 z0.2.2.2.2.2.2],vi z1])) e0 e1),bH.below⟩
  refine ah rfl (Bool.eq_false_iff.2 p27) (au (ap (a7 rfl (lx (ba (m:=0) (n:=1) rfl rfl (by omega)) (mi 1 (ab (aN (a8 (a7 rfl (lx (bc (m:=1) (n:=4) rfl rfl) ?_))))))))))
  refine ab (a8 (ag rfl rfl (au (a8 (aC (a8 (a7 rfl ?_)))))))
  replace o112:=(o112.cn ch113).cn hc116
  refine lx (af (v:=v110) (i:=1) jZ rfl rfl o112.flat rfl (by omega) (by(simp only[List.length_set,List.length_append,List.length_cons,List.length_nil,List.length_replicate,List.length_map,List.length_take,List.length_drop];omega))) (lx (aZ cH rfl (dc hv103 o112 rfl)) (ma (vp b30 4) (ab (a8 (bq g108 rfl co (by kernel_rfl) ?_)))))
  intro w237 ch236
  refine qm (vp b30 4) (qv (vp b30 4) (λw' hw'=>aB rfl) ?_)
  replace bx99:=(bx99.cn hc116).cn ch236
  refine qx (λw' hw'=>aa aF rfl (bx99.bel hw') rfl) (qm (vp b30 4) (qv (vp b30 4) (λw' hw'=>aB rfl) (qx (λw' hw'=>aa aF rfl (bx99.bel hw') rfl) (qv (vb (bQ fq64)) (λw' hw'=>cU (a:=fq64) rfl rfl) (bT ?_)))))
  intro w238 hc239
  replace hc239:=am hc239 g108
  by_cases p27_240:bQ fq64=true
  ·
   refine ag rfl p27_240 (a7 rfl (mv (vp b30 4) (mv (vp b30 4) (lw (vp b30 4) (aB rfl) ?_))))
   replace bx99:=bx99.cn hc239
   refine lx (aa aF rfl bx99 rfl) (lo (aP (v:=Value.float .f64 (al fq64)) (aG (vals:=[Value.float .f64 fq64]) Try.func26 cQ cM rfl) (cl w238 fq64 (by exact iu hfq64 hv64)) ?_))
   intro w241 hb242
   replace hb242:=am hb242 g108
   refine lw (vp b30 4) (aB rfl) (lo ?_)
   replace bx99:=bx99.cn hb242
   refine ao (cs':=[Value.float .f64 sm,Value.float .f64 fq58,Value.float .f64 mn,Value.float .f64 mx,Value.float .f64 (al fq64),Value.float .f64 fq87,Value.float .f64 (aO (aq g.1) (aq ((((((ad g p).1).2).1)+1)*((((((ad g p).1).2).2).1)+1))))]) aF rfl rfl bx99 rfl nq (AllOne.all (.cons rfl .nil)) rfl ?_
   intro w243 ch244 bx245
   clear bx99
   refine ab (ap (a7 rfl (lx (ba (m:=1) (n:=1) rfl rfl (by omega)) (mi 2 (ab (aN (a8 (a7 rfl (lx (bc (m:=2) (n:=4) rfl rfl) (ab (a8 ?_)))))))))))
   refine ag rfl rfl (au (a8 (aC (a8 (a7 rfl ?_)))))
   have C246:=cg [5] (ch236.n.seq (hc239.n.seq (hb242.n.seq (ch244.l rfl))))
   replace o112:=o112.ca C246
   refine lx (af (v:=v110) (i:=2) jZ rfl rfl o112.flat rfl (by omega) (by(simp only[List.length_set,List.length_append,List.length_cons,List.length_nil,List.length_replicate,List.length_map,List.length_take,List.length_drop];omega))) (lx (aZ cH rfl (dc hv105 o112 rfl)) (ma (vp b30 5) (ab (a8 (bq g108 rfl co (by kernel_rfl) ?_)))))
   intro w248 ch247
   refine qm (vp b30 5) (qv (vp b30 5) (λw' hw'=>aB rfl) ?_)
   replace bx245:=bx245.cn ch247
   refine qx (λw' hw'=>aa aF rfl (bx245.bel hw') rfl) (qm (vp b30 5) (qv (vp b30 5) (λw' hw'=>aB rfl) (qx (λw' hw'=>aa aF rfl (bx245.bel hw') rfl) (qv (vb (bQ fq87)) (λw' hw'=>cU (a:=fq87) rfl rfl) (bT ?_)))))
   intro w249 hc250
   replace hc250:=am hc250 g108
   by_cases p27_251:bQ fq87=true
   ·
    refine ag rfl p27_251 (a7 rfl (mv (vp b30 5) (mv (vp b30 5) (lw (vp b30 5) (aB rfl) ?_))))
    replace bx245:=bx245.cn hc250
    refine lx (aa aF rfl bx245 rfl) (lo (aP (v:=Value.float .f64 (al fq87)) (aG (vals:=[Value.float .f64 fq87]) Try.func26 cQ cM rfl) (cl w249 fq87 (by exact iu hfq87 hv87)) ?_))
    intro w252 hb253
    replace hb253:=am hb253 g108
    refine lw (vp b30 5) (aB rfl) (lo ?_)
    replace bx245:=bx245.cn hb253
    refine ao (cs':=[Value.float .f64 sm,Value.float .f64 fq58,Value.float .f64 mn,Value.float .f64 mx,Value.float .f64 (al fq64),Value.float .f64 (al fq87),Value.float .f64 (aO (aq g.1) (aq ((((((ad g p).1).2).1)+1)*((((((ad g p).1).2).2).1)+1))))]) aF rfl rfl bx245 rfl nq (AllOne.all (.cons rfl .nil)) rfl ?_
    intro w254 ch255 bx256
    clear bx245
    refine ab (ap (a7 rfl (lx (ba (m:=2) (n:=1) rfl rfl (by omega)) (mi 3 (ab (aN (a8 (a7 rfl (lx (bc (m:=3) (n:=4) rfl rfl) (ab (a8 ?_)))))))))))
    refine ag rfl rfl (au (a8 (aC (a8 (a7 rfl ?_)))))
    have C257:=cg [5] (ch247.n.seq (hc250.n.seq (hb253.n.seq (ch255.l rfl))))
    replace o112:=o112.ca C257
    refine lx (af (v:=v110) (i:=3) jZ rfl rfl o112.flat rfl (by omega) (by(simp only[List.length_set,List.length_append,List.length_cons,List.length_nil,List.length_replicate,List.length_map,List.length_take,List.length_drop];omega))) (lx (aZ cH rfl (dc hv107 o112 rfl)) (ma (vp b30 6) (ab (a8 (bq g108 rfl co (by kernel_rfl) ?_)))))
    intro w259 ch258
    refine qm (vp b30 6) (qv (vp b30 6) (λw' hw'=>aB rfl) ?_)
    replace bx256:=bx256.cn ch258
    refine qx (λw' hw'=>aa aF rfl (bx256.bel hw') rfl) (qm (vp b30 6) (qv (vp b30 6) (λw' hw'=>aB rfl) (qx (λw' hw'=>aa aF rfl (bx256.bel hw') rfl) (qv (vb (bQ (aO (aq g.1) (aq ((((((ad g p).1).2).1)+1)*((((((ad g p).1).2).2).1)+1)))))) (λw' hw'=>cU (a:=(aO (aq g.1) (aq ((((((ad g p).1).2).1)+1)*((((((ad g p).1).2).2).1)+1))))) rfl rfl) (bT ?_)))))
    intro w260 hc261
    replace hc261:=am hc261 g108
    by_cases p27_262:bQ (aO (aq g.1) (aq ((((((ad g p).1).2).1)+1)*((((((ad g p).1).2).2).1)+1))))=true
    ·
     refine ag rfl p27_262 (a7 rfl (mv (vp b30 6) (mv (vp b30 6) (lw (vp b30 6) (aB rfl) ?_))))
     replace bx256:=bx256.cn hc261
     refine lx (aa aF rfl bx256 rfl) (lo (aP (v:=Value.float .f64 (al (aO (aq g.1) (aq ((((((ad g p).1).2).1)+1)*((((((ad g p).1).2).2).1)+1)))))) (aG (vals:=[Value.float .f64 (aO (aq g.1) (aq ((((((ad g p).1).2).1)+1)*((((((ad g p).1).2).2).1)+1))))]) Try.func26 cQ cM rfl) (cl w260 (aO (aq g.1) (aq ((((((ad g p).1).2).1)+1)*((((((ad g p).1).2).2).1)+1)))) (by exact .inr ‹_›)) ?_))
     intro w263 hb264
     replace hb264:=am hb264 g108
     refine lw (vp b30 6) (aB rfl) (lo ?_)
     replace bx256:=bx256.cn hb264
     refine ao (cs':=[Value.float .f64 sm,Value.float .f64 fq58,Value.float .f64 mn,Value.float .f64 mx,Value.float .f64 (al fq64),Value.float .f64 (al fq87),Value.float .f64 (al (aO (aq g.1) (aq ((((((ad g p).1).2).1)+1)*((((((ad g p).1).2).2).1)+1)))))]) aF rfl rfl bx256 rfl nq (AllOne.all (.cons rfl .nil)) rfl ?_
     intro w265 ch266 bx267
     clear bx256
     refine ab (ap (a7 rfl (lx (ba (m:=3) (n:=1) rfl rfl (by omega)) (mi 4 (ab (aN (a8 (a7 rfl (lx (bc (m:=4) (n:=4) rfl rfl) (ab (a8 ?_)))))))))))
     refine ah rfl rfl (aQ rfl (a8 ?_))
     clear o112
     refine a7 rfl (lx (ae (ds:=[Value.float .f64 sm,Value.float .f64 fq58,Value.float .f64 mn,Value.float .f64 mx,Value.float .f64 (al fq64),Value.float .f64 (al fq87),Value.float .f64 (al (aO (aq g.1) (aq ((((((ad g p).1).2).1)+1)*((((((ad g p).1).2).2).1)+1)))))]) b9 zs8 bx267 rfl rfl) (lo ?_))
     have C271:=cg [5,6] (ch79.n.seq ((ch81.l rfl).seq (hb84.n.seq (ch86.n.seq ((ch91.l rfl).seq ((ch98.l rfl).seq (ch111.n.seq (ch113.n.seq (hc116.n.seq (ch236.n.seq (hc239.n.seq (hb242.n.seq ((ch244.l rfl).seq (ch247.n.seq (hc250.n.seq (hb253.n.seq ((ch255.l rfl).seq (ch258.n.seq (hc261.n.seq (hb264.n.seq (ch266.l rfl)))))))))))))))))))))
     replace bx15:=bx15.ca C271
     refine ao (cs':=[Value.float .f64 sm,Value.float .f64 fq58,Value.float .f64 mn,Value.float .f64 mx,Value.float .f64 (al fq64),Value.float .f64 (al fq87),Value.float .f64 (al (aO (aq g.1) (aq ((((((ad g p).1).2).1)+1)*((((((ad g p).1).2).2).1)+1)))))]) b9 zs4 rfl bx15 rfl nq (AllOne.all (.cons rfl (.cons rfl (.cons rfl (.cons rfl (.cons rfl (.cons rfl (.cons rfl .nil)))))))) rfl ?_
     intro w268 ch269 bx270
     clear bx15
     refine ai 0 (ab (aw (vs:=[vg [Value.float .f64 sm,Value.float .f64 fq58,Value.float .f64 mn,Value.float .f64 mx,Value.float .f64 (al fq64),Value.float .f64 (al fq87),Value.float .f64 (al (aO (aq g.1) (aq ((((((ad g p).1).2).1)+1)*((((((ad g p).1).2).2).1)+1)))))],vi 0]) Try.func8 (.cell zs4 (bM (ds:=[Value.float .f64 sm,Value.float .f64 fq58,Value.float .f64 mn,Value.float .f64 mx,Value.float .f64 (al fq64),Value.float .f64 (al fq87),Value.float .f64 (al (aO (aq g.1) (aq ((((((ad g p).1).2).1)+1)*((((((ad g p).1).2).2).1)+1)))))]) b9 bx270 rfl rfl) (.tmp rfl .nil)) ?_))
     have e0:((sm,fq58,mn,mx,al fq64,al fq87,al (aO (aq g.1) (aq ((((((ad g p).1).2).1)+1)*((((((ad g p).1).2).2).1)+1))))):(Nat)×(Nat)×(Nat)×(Nat)×(Nat)×(Nat)×(Nat))=((av g p).1):=by
       exact cZ hf0 hS (by exact c1.2 ‹_›) hmn hmx (by exact c2.1 ‹_›) (by exact c3.1 ‹_›) (by exact c4.1 ‹_›)
     have e1:(0:Int)=((av g p).2):=by
       rw[bV hf0]
     have C272:=cg [3,5,6] (ch79.n.seq ((ch81.l rfl).seq (hb84.n.seq (ch86.n.seq ((ch91.l rfl).seq ((ch98.l rfl).seq (ch111.n.seq (ch113.n.seq (hc116.n.seq (ch236.n.seq (hc239.n.seq (hb242.n.seq ((ch244.l rfl).seq (ch247.n.seq (hc250.n.seq (hb253.n.seq ((ch255.l rfl).seq (ch258.n.seq (hc261.n.seq (hb264.n.seq ((ch266.l rfl).seq (ch269.l rfl))))))))))))))))))))))
     replace bH:=bH.ca C272
     exact⟨(bR (a:=(sm,fq58,mn,mx,al fq64,al fq87,al (aO (aq g.1) (aq ((((((ad g p).1).2).1)+1)*((((((ad g p).1).2).2).1)+1)))))) (b:=0) (λ(z0:(Nat)×(Nat)×(Nat)×(Nat)×(Nat)×(Nat)×(Nat)) (z1:Int)=>Ending.returned (vt [vg [Value.float .f64 z0.1,Value.float .f64 z0.2.1,Value.float .f64 z0.2.2.1,Value.float .f64 z0.2.2.2.1,Value.float .f64 z0.2.2.2.2.1,Value.float .f64 z0.2.2.2.2.2.1,Value.float .f64 z0.2.2.2.2.2.2],vi z1])) e0 e1),bH.below⟩
    refine ah rfl (Bool.eq_false_iff.2 p27_262) (au (ap (a7 rfl (lx (ba (m:=3) (n:=1) rfl rfl (by omega)) (mi 4 (ab (aN (a8 (a7 rfl (lx (bc (m:=4) (n:=4) rfl rfl) ?_))))))))))
    refine ab (a8 (ah rfl rfl (aQ rfl (a8 ?_))))
    clear o112
    refine a7 rfl ?_
    replace bx256:=bx256.cn hc261
    refine lx (ae (ds:=[Value.float .f64 sm,Value.float .f64 fq58,Value.float .f64 mn,Value.float .f64 mx,Value.float .f64 (al fq64),Value.float .f64 (al fq87),Value.float .f64 (aO (aq g.1) (aq ((((((ad g p).1).2).1)+1)*((((((ad g p).1).2).2).1)+1))))]) b9 zs8 bx256 rfl rfl) (lo ?_)
    have C276:=cg [5,6] (ch79.n.seq ((ch81.l rfl).seq (hb84.n.seq (ch86.n.seq ((ch91.l rfl).seq ((ch98.l rfl).seq (ch111.n.seq (ch113.n.seq (hc116.n.seq (ch236.n.seq (hc239.n.seq (hb242.n.seq ((ch244.l rfl).seq (ch247.n.seq (hc250.n.seq (hb253.n.seq ((ch255.l rfl).seq (ch258.n.seq hc261.n))))))))))))))))))
    replace bx15:=bx15.ca C276
    refine ao (cs':=[Value.float .f64 sm,Value.float .f64 fq58,Value.float .f64 mn,Value.float .f64 mx,Value.float .f64 (al fq64),Value.float .f64 (al fq87),Value.float .f64 (aO (aq g.1) (aq ((((((ad g p).1).2).1)+1)*((((((ad g p).1).2).2).1)+1))))]) b9 zs4 rfl bx15 rfl nq (AllOne.all (.cons rfl (.cons rfl (.cons rfl (.cons rfl (.cons rfl (.cons rfl (.cons rfl .nil)))))))) rfl ?_
    intro w273 ch274 bx275
    clear bx15
    refine ai 0 (ab (aw (vs:=[vg [Value.float .f64 sm,Value.float .f64 fq58,Value.float .f64 mn,Value.float .f64 mx,Value.float .f64 (al fq64),Value.float .f64 (al fq87),Value.float .f64 (aO (aq g.1) (aq ((((((ad g p).1).2).1)+1)*((((((ad g p).1).2).2).1)+1))))],vi 0]) Try.func8 (.cell zs4 (bM (ds:=[Value.float .f64 sm,Value.float .f64 fq58,Value.float .f64 mn,Value.float .f64 mx,Value.float .f64 (al fq64),Value.float .f64 (al fq87),Value.float .f64 (aO (aq g.1) (aq ((((((ad g p).1).2).1)+1)*((((((ad g p).1).2).2).1)+1))))]) b9 bx275 rfl rfl) (.tmp rfl .nil)) ?_))
    have e0:((sm,fq58,mn,mx,al fq64,al fq87,aO (aq g.1) (aq ((((((ad g p).1).2).1)+1)*((((((ad g p).1).2).2).1)+1)))):(Nat)×(Nat)×(Nat)×(Nat)×(Nat)×(Nat)×(Nat))=((av g p).1):=by
      exact cZ hf0 hS (by exact c1.2 ‹_›) hmn hmx (by exact c2.1 ‹_›) (by exact c3.1 ‹_›) (by exact c4.2 ‹_›)
    have e1:(0:Int)=((av g p).2):=by
      rw[bV hf0]
    have C277:=cg [3,5,6] (ch79.n.seq ((ch81.l rfl).seq (hb84.n.seq (ch86.n.seq ((ch91.l rfl).seq ((ch98.l rfl).seq (ch111.n.seq (ch113.n.seq (hc116.n.seq (ch236.n.seq (hc239.n.seq (hb242.n.seq ((ch244.l rfl).seq (ch247.n.seq (hc250.n.seq (hb253.n.seq ((ch255.l rfl).seq (ch258.n.seq (hc261.n.seq (ch274.l rfl))))))))))))))))))))
    replace bH:=bH.ca C277
    exact⟨(bR (a:=(sm,fq58,mn,mx,al fq64,al fq87,aO (aq g.1) (aq ((((((ad g p).1).2).1)+1)*((((((ad g p).1).2).2).1)+1))))) (b:=0) (λ(z0:(Nat)×(Nat)×(Nat)×(Nat)×(Nat)×(Nat)×(Nat)) (z1:Int)=>Ending.returned (vt [vg [Value.float .f64 z0.1,Value.float .f64 z0.2.1,Value.float .f64 z0.2.2.1,Value.float .f64 z0.2.2.2.1,Value.float .f64 z0.2.2.2.2.1,Value.float .f64 z0.2.2.2.2.2.1,Value.float .f64 z0.2.2.2.2.2.2],vi z1])) e0 e1),bH.below⟩
   refine ah rfl (Bool.eq_false_iff.2 p27_251) (au (ap (a7 rfl (lx (ba (m:=2) (n:=1) rfl rfl (by omega)) (mi 3 (ab (aN (a8 (a7 rfl (lx (bc (m:=3) (n:=4) rfl rfl) ?_))))))))))
   refine ab (a8 (ag rfl rfl (au (a8 (aC (a8 (a7 rfl ?_)))))))
   replace o112:=(o112.cn ch247).cn hc250
   refine lx (af (v:=v110) (i:=3) jZ rfl rfl o112.flat rfl (by omega) (by(simp only[List.length_set,List.length_append,List.length_cons,List.length_nil,List.length_replicate,List.length_map,List.length_take,List.length_drop];omega))) (lx (aZ cH rfl (dc hv107 o112 rfl)) (ma (vp b30 6) (ab (a8 (bq g108 rfl co (by kernel_rfl) ?_)))))
   intro w279 ch278
   refine qm (vp b30 6) (qv (vp b30 6) (λw' hw'=>aB rfl) ?_)
   replace bx245:=(bx245.cn hc250).cn ch278
   refine qx (λw' hw'=>aa aF rfl (bx245.bel hw') rfl) (qm (vp b30 6) (qv (vp b30 6) (λw' hw'=>aB rfl) (qx (λw' hw'=>aa aF rfl (bx245.bel hw') rfl) (qv (vb (bQ (aO (aq g.1) (aq ((((((ad g p).1).2).1)+1)*((((((ad g p).1).2).2).1)+1)))))) (λw' hw'=>cU (a:=(aO (aq g.1) (aq ((((((ad g p).1).2).1)+1)*((((((ad g p).1).2).2).1)+1))))) rfl rfl) (bT ?_)))))
   intro w280 hc281
   replace hc281:=am hc281 g108
   by_cases p27_282:bQ (aO (aq g.1) (aq ((((((ad g p).1).2).1)+1)*((((((ad g p).1).2).2).1)+1))))=true
   ·
    refine ag rfl p27_282 (a7 rfl (mv (vp b30 6) (mv (vp b30 6) (lw (vp b30 6) (aB rfl) ?_))))
    replace bx245:=bx245.cn hc281
    refine lx (aa aF rfl bx245 rfl) (lo (aP (v:=Value.float .f64 (al (aO (aq g.1) (aq ((((((ad g p).1).2).1)+1)*((((((ad g p).1).2).2).1)+1)))))) (aG (vals:=[Value.float .f64 (aO (aq g.1) (aq ((((((ad g p).1).2).1)+1)*((((((ad g p).1).2).2).1)+1))))]) Try.func26 cQ cM rfl) (cl w280 (aO (aq g.1) (aq ((((((ad g p).1).2).1)+1)*((((((ad g p).1).2).2).1)+1)))) (by exact .inr ‹_›)) ?_))
    intro w283 hb284
    replace hb284:=am hb284 g108
    refine lw (vp b30 6) (aB rfl) (lo ?_)
    replace bx245:=bx245.cn hb284
    refine ao (cs':=[Value.float .f64 sm,Value.float .f64 fq58,Value.float .f64 mn,Value.float .f64 mx,Value.float .f64 (al fq64),Value.float .f64 fq87,Value.float .f64 (al (aO (aq g.1) (aq ((((((ad g p).1).2).1)+1)*((((((ad g p).1).2).2).1)+1)))))]) aF rfl rfl bx245 rfl nq (AllOne.all (.cons rfl .nil)) rfl ?_
    intro w285 ch286 bx287
    clear bx245
    refine ab (ap (a7 rfl (lx (ba (m:=3) (n:=1) rfl rfl (by omega)) (mi 4 (ab (aN (a8 (a7 rfl (lx (bc (m:=4) (n:=4) rfl rfl) (ab (a8 ?_)))))))))))
    refine ah rfl rfl (aQ rfl (a8 ?_))
    clear o112
    refine a7 rfl (lx (ae (ds:=[Value.float .f64 sm,Value.float .f64 fq58,Value.float .f64 mn,Value.float .f64 mx,Value.float .f64 (al fq64),Value.float .f64 fq87,Value.float .f64 (al (aO (aq g.1) (aq ((((((ad g p).1).2).1)+1)*((((((ad g p).1).2).2).1)+1)))))]) b9 zs8 bx287 rfl rfl) (lo ?_))
    have C291:=cg [5,6] (ch79.n.seq ((ch81.l rfl).seq (hb84.n.seq (ch86.n.seq ((ch91.l rfl).seq ((ch98.l rfl).seq (ch111.n.seq (ch113.n.seq (hc116.n.seq (ch236.n.seq (hc239.n.seq (hb242.n.seq ((ch244.l rfl).seq (ch247.n.seq (hc250.n.seq (ch278.n.seq (hc281.n.seq (hb284.n.seq (ch286.l rfl)))))))))))))))))))
    replace bx15:=bx15.ca C291
    refine ao (cs':=[Value.float .f64 sm,Value.float .f64 fq58,Value.float .f64 mn,Value.float .f64 mx,Value.float .f64 (al fq64),Value.float .f64 fq87,Value.float .f64 (al (aO (aq g.1) (aq ((((((ad g p).1).2).1)+1)*((((((ad g p).1).2).2).1)+1)))))]) b9 zs4 rfl bx15 rfl nq (AllOne.all (.cons rfl (.cons rfl (.cons rfl (.cons rfl (.cons rfl (.cons rfl (.cons rfl .nil)))))))) rfl ?_
    intro w288 ch289 bx290
    clear bx15
    refine ai 0 (ab (aw (vs:=[vg [Value.float .f64 sm,Value.float .f64 fq58,Value.float .f64 mn,Value.float .f64 mx,Value.float .f64 (al fq64),Value.float .f64 fq87,Value.float .f64 (al (aO (aq g.1) (aq ((((((ad g p).1).2).1)+1)*((((((ad g p).1).2).2).1)+1)))))],vi 0]) Try.func8 (.cell zs4 (bM (ds:=[Value.float .f64 sm,Value.float .f64 fq58,Value.float .f64 mn,Value.float .f64 mx,Value.float .f64 (al fq64),Value.float .f64 fq87,Value.float .f64 (al (aO (aq g.1) (aq ((((((ad g p).1).2).1)+1)*((((((ad g p).1).2).2).1)+1)))))]) b9 bx290 rfl rfl) (.tmp rfl .nil)) ?_))
    have e0:((sm,fq58,mn,mx,al fq64,fq87,al (aO (aq g.1) (aq ((((((ad g p).1).2).1)+1)*((((((ad g p).1).2).2).1)+1))))):(Nat)×(Nat)×(Nat)×(Nat)×(Nat)×(Nat)×(Nat))=((av g p).1):=by
      exact cZ hf0 hS (by exact c1.2 ‹_›) hmn hmx (by exact c2.1 ‹_›) (by exact c3.2 ‹_›) (by exact c4.1 ‹_›)
    have e1:(0:Int)=((av g p).2):=by
      rw[bV hf0]
    have C292:=cg [3,5,6] (ch79.n.seq ((ch81.l rfl).seq (hb84.n.seq (ch86.n.seq ((ch91.l rfl).seq ((ch98.l rfl).seq (ch111.n.seq (ch113.n.seq (hc116.n.seq (ch236.n.seq (hc239.n.seq (hb242.n.seq ((ch244.l rfl).seq (ch247.n.seq (hc250.n.seq (ch278.n.seq (hc281.n.seq (hb284.n.seq ((ch286.l rfl).seq (ch289.l rfl))))))))))))))))))))
    replace bH:=bH.ca C292
    exact⟨(bR (a:=(sm,fq58,mn,mx,al fq64,fq87,al (aO (aq g.1) (aq ((((((ad g p).1).2).1)+1)*((((((ad g p).1).2).2).1)+1)))))) (b:=0) (λ(z0:(Nat)×(Nat)×(Nat)×(Nat)×(Nat)×(Nat)×(Nat)) (z1:Int)=>Ending.returned (vt [vg [Value.float .f64 z0.1,Value.float .f64 z0.2.1,Value.float .f64 z0.2.2.1,Value.float .f64 z0.2.2.2.1,Value.float .f64 z0.2.2.2.2.1,Value.float .f64 z0.2.2.2.2.2.1,Value.float .f64 z0.2.2.2.2.2.2],vi z1])) e0 e1),bH.below⟩
   refine ah rfl (Bool.eq_false_iff.2 p27_282) (au (ap (a7 rfl (lx (ba (m:=3) (n:=1) rfl rfl (by omega)) (mi 4 (ab (aN (a8 (a7 rfl (lx (bc (m:=4) (n:=4) rfl rfl) ?_))))))))))
   refine ab (a8 (ah rfl rfl (aQ rfl (a8 ?_))))
   clear o112
   refine a7 rfl ?_
   replace bx245:=bx245.cn hc281
   refine lx (ae (ds:=[Value.float .f64 sm,Value.float .f64 fq58,Value.float .f64 mn,Value.float .f64 mx,Value.float .f64 (al fq64),Value.float .f64 fq87,Value.float .f64 (aO (aq g.1) (aq ((((((ad g p).1).2).1)+1)*((((((ad g p).1).2).2).1)+1))))]) b9 zs8 bx245 rfl rfl) (lo ?_)
   have C296:=cg [5,6] (ch79.n.seq ((ch81.l rfl).seq (hb84.n.seq (ch86.n.seq ((ch91.l rfl).seq ((ch98.l rfl).seq (ch111.n.seq (ch113.n.seq (hc116.n.seq (ch236.n.seq (hc239.n.seq (hb242.n.seq ((ch244.l rfl).seq (ch247.n.seq (hc250.n.seq (ch278.n.seq hc281.n))))))))))))))))
   replace bx15:=bx15.ca C296
   refine ao (cs':=[Value.float .f64 sm,Value.float .f64 fq58,Value.float .f64 mn,Value.float .f64 mx,Value.float .f64 (al fq64),Value.float .f64 fq87,Value.float .f64 (aO (aq g.1) (aq ((((((ad g p).1).2).1)+1)*((((((ad g p).1).2).2).1)+1))))]) b9 zs4 rfl bx15 rfl nq (AllOne.all (.cons rfl (.cons rfl (.cons rfl (.cons rfl (.cons rfl (.cons rfl (.cons rfl .nil)))))))) rfl ?_
   intro w293 ch294 bx295
   clear bx15
   refine ai 0 (ab (aw (vs:=[vg [Value.float .f64 sm,Value.float .f64 fq58,Value.float .f64 mn,Value.float .f64 mx,Value.float .f64 (al fq64),Value.float .f64 fq87,Value.float .f64 (aO (aq g.1) (aq ((((((ad g p).1).2).1)+1)*((((((ad g p).1).2).2).1)+1))))],vi 0]) Try.func8 (.cell zs4 (bM (ds:=[Value.float .f64 sm,Value.float .f64 fq58,Value.float .f64 mn,Value.float .f64 mx,Value.float .f64 (al fq64),Value.float .f64 fq87,Value.float .f64 (aO (aq g.1) (aq ((((((ad g p).1).2).1)+1)*((((((ad g p).1).2).2).1)+1))))]) b9 bx295 rfl rfl) (.tmp rfl .nil)) ?_))
   have e0:((sm,fq58,mn,mx,al fq64,fq87,aO (aq g.1) (aq ((((((ad g p).1).2).1)+1)*((((((ad g p).1).2).2).1)+1)))):(Nat)×(Nat)×(Nat)×(Nat)×(Nat)×(Nat)×(Nat))=((av g p).1):=by
     exact cZ hf0 hS (by exact c1.2 ‹_›) hmn hmx (by exact c2.1 ‹_›) (by exact c3.2 ‹_›) (by exact c4.2 ‹_›)
   have e1:(0:Int)=((av g p).2):=by
     rw[bV hf0]
   have C297:=cg [3,5,6] (ch79.n.seq ((ch81.l rfl).seq (hb84.n.seq (ch86.n.seq ((ch91.l rfl).seq ((ch98.l rfl).seq (ch111.n.seq (ch113.n.seq (hc116.n.seq (ch236.n.seq (hc239.n.seq (hb242.n.seq ((ch244.l rfl).seq (ch247.n.seq (hc250.n.seq (ch278.n.seq (hc281.n.seq (ch294.l rfl))))))))))))))))))
   replace bH:=bH.ca C297
   exact⟨(bR (a:=(sm,fq58,mn,mx,al fq64,fq87,aO (aq g.1) (aq ((((((ad g p).1).2).1)+1)*((((((ad g p).1).2).2).1)+1))))) (b:=0) (λ(z0:(Nat)×(Nat)×(Nat)×(Nat)×(Nat)×(Nat)×(Nat)) (z1:Int)=>Ending.returned (vt [vg [Value.float .f64 z0.1,Value.float .f64 z0.2.1,Value.float .f64 z0.2.2.1,Value.float .f64 z0.2.2.2.1,Value.float .f64 z0.2.2.2.2.1,Value.float .f64 z0.2.2.2.2.2.1,Value.float .f64 z0.2.2.2.2.2.2],vi z1])) e0 e1),bH.below⟩
  refine ah rfl (Bool.eq_false_iff.2 p27_240) (au (ap (a7 rfl (lx (ba (m:=1) (n:=1) rfl rfl (by omega)) (mi 2 (ab (aN (a8 (a7 rfl (lx (bc (m:=2) (n:=4) rfl rfl) ?_))))))))))
  refine ab (a8 (ag rfl rfl (au (a8 (aC (a8 (a7 rfl ?_)))))))
  replace o112:=(o112.cn ch236).cn hc239
  refine lx (af (v:=v110) (i:=2) jZ rfl rfl o112.flat rfl (by omega) (by(simp only[List.length_set,List.length_append,List.length_cons,List.length_nil,List.length_replicate,List.length_map,List.length_take,List.length_drop];omega))) (lx (aZ cH rfl (dc hv105 o112 rfl)) (ma (vp b30 5) (ab (a8 (bq g108 rfl co (by kernel_rfl) ?_)))))
  intro w299 ch298
  refine qm (vp b30 5) (qv (vp b30 5) (λw' hw'=>aB rfl) ?_)
  replace bx99:=(bx99.cn hc239).cn ch298
  refine qx (λw' hw'=>aa aF rfl (bx99.bel hw') rfl) (qm (vp b30 5) (qv (vp b30 5) (λw' hw'=>aB rfl) (qx (λw' hw'=>aa aF rfl (bx99.bel hw') rfl) (qv (vb (bQ fq87)) (λw' hw'=>cU (a:=fq87) rfl rfl) (bT ?_)))))
  intro w300 hc301
  replace hc301:=am hc301 g108
  by_cases p27_302:bQ fq87=true
  ·
   refine ag rfl p27_302 (a7 rfl (mv (vp b30 5) (mv (vp b30 5) (lw (vp b30 5) (aB rfl) ?_))))
   replace bx99:=bx99.cn hc301
   refine lx (aa aF rfl bx99 rfl) (lo (aP (v:=Value.float .f64 (al fq87)) (aG (vals:=[Value.float .f64 fq87]) Try.func26 cQ cM rfl) (cl w300 fq87 (by exact iu hfq87 hv87)) ?_))
   intro w303 hb304
   replace hb304:=am hb304 g108
   refine lw (vp b30 5) (aB rfl) (lo ?_)
   replace bx99:=bx99.cn hb304
   refine ao (cs':=[Value.float .f64 sm,Value.float .f64 fq58,Value.float .f64 mn,Value.float .f64 mx,Value.float .f64 fq64,Value.float .f64 (al fq87),Value.float .f64 (aO (aq g.1) (aq ((((((ad g p).1).2).1)+1)*((((((ad g p).1).2).2).1)+1))))]) aF rfl rfl bx99 rfl nq (AllOne.all (.cons rfl .nil)) rfl ?_
   intro w305 ch306 bx307
   clear bx99
   refine ab (ap (a7 rfl (lx (ba (m:=2) (n:=1) rfl rfl (by omega)) (mi 3 (ab (aN (a8 (a7 rfl (lx (bc (m:=3) (n:=4) rfl rfl) (ab (a8 ?_)))))))))))
   refine ag rfl rfl (au (a8 (aC (a8 (a7 rfl ?_)))))
   have C308:=cg [5] (ch298.n.seq (hc301.n.seq (hb304.n.seq (ch306.l rfl))))
   replace o112:=o112.ca C308
   refine lx (af (v:=v110) (i:=3) jZ rfl rfl o112.flat rfl (by omega) (by(simp only[List.length_set,List.length_append,List.length_cons,List.length_nil,List.length_replicate,List.length_map,List.length_take,List.length_drop];omega))) (lx (aZ cH rfl (dc hv107 o112 rfl)) (ma (vp b30 6) (ab (a8 (bq g108 rfl co (by kernel_rfl) ?_)))))
   intro w310 ch309
   refine qm (vp b30 6) (qv (vp b30 6) (λw' hw'=>aB rfl) ?_)
   replace bx307:=bx307.cn ch309
   refine qx (λw' hw'=>aa aF rfl (bx307.bel hw') rfl) (qm (vp b30 6) (qv (vp b30 6) (λw' hw'=>aB rfl) (qx (λw' hw'=>aa aF rfl (bx307.bel hw') rfl) (qv (vb (bQ (aO (aq g.1) (aq ((((((ad g p).1).2).1)+1)*((((((ad g p).1).2).2).1)+1)))))) (λw' hw'=>cU (a:=(aO (aq g.1) (aq ((((((ad g p).1).2).1)+1)*((((((ad g p).1).2).2).1)+1))))) rfl rfl) (bT ?_)))))
   intro w311 hc312
   replace hc312:=am hc312 g108
   by_cases p27_313:bQ (aO (aq g.1) (aq ((((((ad g p).1).2).1)+1)*((((((ad g p).1).2).2).1)+1))))=true
   ·
    refine ag rfl p27_313 (a7 rfl (mv (vp b30 6) (mv (vp b30 6) (lw (vp b30 6) (aB rfl) ?_))))
    replace bx307:=bx307.cn hc312
    refine lx (aa aF rfl bx307 rfl) (lo (aP (v:=Value.float .f64 (al (aO (aq g.1) (aq ((((((ad g p).1).2).1)+1)*((((((ad g p).1).2).2).1)+1)))))) (aG (vals:=[Value.float .f64 (aO (aq g.1) (aq ((((((ad g p).1).2).1)+1)*((((((ad g p).1).2).2).1)+1))))]) Try.func26 cQ cM rfl) (cl w311 (aO (aq g.1) (aq ((((((ad g p).1).2).1)+1)*((((((ad g p).1).2).2).1)+1)))) (by exact .inr ‹_›)) ?_))
    intro w314 hb315
    replace hb315:=am hb315 g108
    refine lw (vp b30 6) (aB rfl) (lo ?_)
    replace bx307:=bx307.cn hb315
    refine ao (cs':=[Value.float .f64 sm,Value.float .f64 fq58,Value.float .f64 mn,Value.float .f64 mx,Value.float .f64 fq64,Value.float .f64 (al fq87),Value.float .f64 (al (aO (aq g.1) (aq ((((((ad g p).1).2).1)+1)*((((((ad g p).1).2).2).1)+1)))))]) aF rfl rfl bx307 rfl nq (AllOne.all (.cons rfl .nil)) rfl ?_
    intro w316 ch317 bx318
    clear bx307
    refine ab (ap (a7 rfl (lx (ba (m:=3) (n:=1) rfl rfl (by omega)) (mi 4 (ab (aN (a8 (a7 rfl (lx (bc (m:=4) (n:=4) rfl rfl) (ab (a8 ?_)))))))))))
    refine ah rfl rfl (aQ rfl (a8 ?_))
    clear o112
    refine a7 rfl (lx (ae (ds:=[Value.float .f64 sm,Value.float .f64 fq58,Value.float .f64 mn,Value.float .f64 mx,Value.float .f64 fq64,Value.float .f64 (al fq87),Value.float .f64 (al (aO (aq g.1) (aq ((((((ad g p).1).2).1)+1)*((((((ad g p).1).2).2).1)+1)))))]) b9 zs8 bx318 rfl rfl) (lo ?_))
    have C322:=cg [5,6] (ch79.n.seq ((ch81.l rfl).seq (hb84.n.seq (ch86.n.seq ((ch91.l rfl).seq ((ch98.l rfl).seq (ch111.n.seq (ch113.n.seq (hc116.n.seq (ch236.n.seq (hc239.n.seq (ch298.n.seq (hc301.n.seq (hb304.n.seq ((ch306.l rfl).seq (ch309.n.seq (hc312.n.seq (hb315.n.seq (ch317.l rfl)))))))))))))))))))
    replace bx15:=bx15.ca C322
    refine ao (cs':=[Value.float .f64 sm,Value.float .f64 fq58,Value.float .f64 mn,Value.float .f64 mx,Value.float .f64 fq64,Value.float .f64 (al fq87),Value.float .f64 (al (aO (aq g.1) (aq ((((((ad g p).1).2).1)+1)*((((((ad g p).1).2).2).1)+1)))))]) b9 zs4 rfl bx15 rfl nq (AllOne.all (.cons rfl (.cons rfl (.cons rfl (.cons rfl (.cons rfl (.cons rfl (.cons rfl .nil)))))))) rfl ?_
    intro w319 ch320 bx321
    clear bx15
    refine ai 0 (ab (aw (vs:=[vg [Value.float .f64 sm,Value.float .f64 fq58,Value.float .f64 mn,Value.float .f64 mx,Value.float .f64 fq64,Value.float .f64 (al fq87),Value.float .f64 (al (aO (aq g.1) (aq ((((((ad g p).1).2).1)+1)*((((((ad g p).1).2).2).1)+1)))))],vi 0]) Try.func8 (.cell zs4 (bM (ds:=[Value.float .f64 sm,Value.float .f64 fq58,Value.float .f64 mn,Value.float .f64 mx,Value.float .f64 fq64,Value.float .f64 (al fq87),Value.float .f64 (al (aO (aq g.1) (aq ((((((ad g p).1).2).1)+1)*((((((ad g p).1).2).2).1)+1)))))]) b9 bx321 rfl rfl) (.tmp rfl .nil)) ?_))
    have e0:((sm,fq58,mn,mx,fq64,al fq87,al (aO (aq g.1) (aq ((((((ad g p).1).2).1)+1)*((((((ad g p).1).2).2).1)+1))))):(Nat)×(Nat)×(Nat)×(Nat)×(Nat)×(Nat)×(Nat))=((av g p).1):=by
      exact cZ hf0 hS (by exact c1.2 ‹_›) hmn hmx (by exact c2.2 ‹_›) (by exact c3.1 ‹_›) (by exact c4.1 ‹_›)
    have e1:(0:Int)=((av g p).2):=by
      rw[bV hf0]
    have C323:=cg [3,5,6] (ch79.n.seq ((ch81.l rfl).seq (hb84.n.seq (ch86.n.seq ((ch91.l rfl).seq ((ch98.l rfl).seq (ch111.n.seq (ch113.n.seq (hc116.n.seq (ch236.n.seq (hc239.n.seq (ch298.n.seq (hc301.n.seq (hb304.n.seq ((ch306.l rfl).seq (ch309.n.seq (hc312.n.seq (hb315.n.seq ((ch317.l rfl).seq (ch320.l rfl))))))))))))))))))))
    replace bH:=bH.ca C323
    exact⟨(bR (a:=(sm,fq58,mn,mx,fq64,al fq87,al (aO (aq g.1) (aq ((((((ad g p).1).2).1)+1)*((((((ad g p).1).2).2).1)+1)))))) (b:=0) (λ(z0:(Nat)×(Nat)×(Nat)×(Nat)×(Nat)×(Nat)×(Nat)) (z1:Int)=>Ending.returned (vt [vg [Value.float .f64 z0.1,Value.float .f64 z0.2.1,Value.float .f64 z0.2.2.1,Value.float .f64 z0.2.2.2.1,Value.float .f64 z0.2.2.2.2.1,Value.float .f64 z0.2.2.2.2.2.1,Value.float .f64 z0.2.2.2.2.2.2],vi z1])) e0 e1),bH.below⟩
   refine ah rfl (Bool.eq_false_iff.2 p27_313) (au (ap (a7 rfl (lx (ba (m:=3) (n:=1) rfl rfl (by omega)) (mi 4 (ab (aN (a8 (a7 rfl (lx (bc (m:=4) (n:=4) rfl rfl) ?_))))))))))
   refine ab (a8 (ah rfl rfl (aQ rfl (a8 ?_))))
   clear o112
   refine a7 rfl ?_
   replace bx307:=bx307.cn hc312
   refine lx (ae (ds:=[Value.float .f64 sm,Value.float .f64 fq58,Value.float .f64 mn,Value.float .f64 mx,Value.float .f64 fq64,Value.float .f64 (al fq87),Value.float .f64 (aO (aq g.1) (aq ((((((ad g p).1).2).1)+1)*((((((ad g p).1).2).2).1)+1))))]) b9 zs8 bx307 rfl rfl) (lo ?_)
   have C327:=cg [5,6] (ch79.n.seq ((ch81.l rfl).seq (hb84.n.seq (ch86.n.seq ((ch91.l rfl).seq ((ch98.l rfl).seq (ch111.n.seq (ch113.n.seq (hc116.n.seq (ch236.n.seq (hc239.n.seq (ch298.n.seq (hc301.n.seq (hb304.n.seq ((ch306.l rfl).seq (ch309.n.seq hc312.n))))))))))))))))
   replace bx15:=bx15.ca C327
   refine ao (cs':=[Value.float .f64 sm,Value.float .f64 fq58,Value.float .f64 mn,Value.float .f64 mx,Value.float .f64 fq64,Value.float .f64 (al fq87),Value.float .f64 (aO (aq g.1) (aq ((((((ad g p).1).2).1)+1)*((((((ad g p).1).2).2).1)+1))))]) b9 zs4 rfl bx15 rfl nq (AllOne.all (.cons rfl (.cons rfl (.cons rfl (.cons rfl (.cons rfl (.cons rfl (.cons rfl .nil)))))))) rfl ?_
   intro w324 ch325 bx326
   clear bx15
   refine ai 0 (ab (aw (vs:=[vg [Value.float .f64 sm,Value.float .f64 fq58,Value.float .f64 mn,Value.float .f64 mx,Value.float .f64 fq64,Value.float .f64 (al fq87),Value.float .f64 (aO (aq g.1) (aq ((((((ad g p).1).2).1)+1)*((((((ad g p).1).2).2).1)+1))))],vi 0]) Try.func8 (.cell zs4 (bM (ds:=[Value.float .f64 sm,Value.float .f64 fq58,Value.float .f64 mn,Value.float .f64 mx,Value.float .f64 fq64,Value.float .f64 (al fq87),Value.float .f64 (aO (aq g.1) (aq ((((((ad g p).1).2).1)+1)*((((((ad g p).1).2).2).1)+1))))]) b9 bx326 rfl rfl) (.tmp rfl .nil)) ?_))
   have e0:((sm,fq58,mn,mx,fq64,al fq87,aO (aq g.1) (aq ((((((ad g p).1).2).1)+1)*((((((ad g p).1).2).2).1)+1)))):(Nat)×(Nat)×(Nat)×(Nat)×(Nat)×(Nat)×(Nat))=((av g p).1):=by
     exact cZ hf0 hS (by exact c1.2 ‹_›) hmn hmx (by exact c2.2 ‹_›) (by exact c3.1 ‹_›) (by exact c4.2 ‹_›)
   have e1:(0:Int)=((av g p).2):=by
     rw[bV hf0]
   have C328:=cg [3,5,6] (ch79.n.seq ((ch81.l rfl).seq (hb84.n.seq (ch86.n.seq ((ch91.l rfl).seq ((ch98.l rfl).seq (ch111.n.seq (ch113.n.seq (hc116.n.seq (ch236.n.seq (hc239.n.seq (ch298.n.seq (hc301.n.seq (hb304.n.seq ((ch306.l rfl).seq (ch309.n.seq (hc312.n.seq (ch325.l rfl))))))))))))))))))
   replace bH:=bH.ca C328
   exact⟨(bR (a:=(sm,fq58,mn,mx,fq64,al fq87,aO (aq g.1) (aq ((((((ad g p).1).2).1)+1)*((((((ad g p).1).2).2).1)+1))))) (b:=0) (λ(z0:(Nat)×(Nat)×(Nat)×(Nat)×(Nat)×(Nat)×(Nat)) (z1:Int)=>Ending.returned (vt [vg [Value.float .f64 z0.1,Value.float .f64 z0.2.1,Value.float .f64 z0.2.2.1,Value.float .f64 z0.2.2.2.1,Value.float .f64 z0.2.2.2.2.1,Value.float .f64 z0.2.2.2.2.2.1,Value.float .f64 z0.2.2.2.2.2.2],vi z1])) e0 e1),bH.below⟩
  refine ah rfl (Bool.eq_false_iff.2 p27_302) (au (ap (a7 rfl (lx (ba (m:=2) (n:=1) rfl rfl (by omega)) (mi 3 (ab (aN (a8 (a7 rfl (lx (bc (m:=3) (n:=4) rfl rfl) ?_))))))))))
  refine ab (a8 (ag rfl rfl (au (a8 (aC (a8 (a7 rfl ?_)))))))
  replace o112:=(o112.cn ch298).cn hc301
  refine lx (af (v:=v110) (i:=3) jZ rfl rfl o112.flat rfl (by omega) (by(simp only[List.length_set,List.length_append,List.length_cons,List.length_nil,List.length_replicate,List.length_map,List.length_take,List.length_drop];omega))) (lx (aZ cH rfl (dc hv107 o112 rfl)) (ma (vp b30 6) (ab (a8 (bq g108 rfl co (by kernel_rfl) ?_)))))
  intro w330 ch329
  refine qm (vp b30 6) (qv (vp b30 6) (λw' hw'=>aB rfl) ?_)
  replace bx99:=(bx99.cn hc301).cn ch329
  refine qx (λw' hw'=>aa aF rfl (bx99.bel hw') rfl) (qm (vp b30 6) (qv (vp b30 6) (λw' hw'=>aB rfl) (qx (λw' hw'=>aa aF rfl (bx99.bel hw') rfl) (qv (vb (bQ (aO (aq g.1) (aq ((((((ad g p).1).2).1)+1)*((((((ad g p).1).2).2).1)+1)))))) (λw' hw'=>cU (a:=(aO (aq g.1) (aq ((((((ad g p).1).2).1)+1)*((((((ad g p).1).2).2).1)+1))))) rfl rfl) (bT ?_)))))
  intro w331 hc332
  replace hc332:=am hc332 g108
  by_cases p27_333:bQ (aO (aq g.1) (aq ((((((ad g p).1).2).1)+1)*((((((ad g p).1).2).2).1)+1))))=true
  ·
   refine ag rfl p27_333 (a7 rfl (mv (vp b30 6) (mv (vp b30 6) (lw (vp b30 6) (aB rfl) ?_))))
   replace bx99:=bx99.cn hc332
   refine lx (aa aF rfl bx99 rfl) (lo (aP (v:=Value.float .f64 (al (aO (aq g.1) (aq ((((((ad g p).1).2).1)+1)*((((((ad g p).1).2).2).1)+1)))))) (aG (vals:=[Value.float .f64 (aO (aq g.1) (aq ((((((ad g p).1).2).1)+1)*((((((ad g p).1).2).2).1)+1))))]) Try.func26 cQ cM rfl) (cl w331 (aO (aq g.1) (aq ((((((ad g p).1).2).1)+1)*((((((ad g p).1).2).2).1)+1)))) (by exact .inr ‹_›)) ?_))
   intro w334 hb335
   replace hb335:=am hb335 g108
   refine lw (vp b30 6) (aB rfl) (lo ?_)
   replace bx99:=bx99.cn hb335
   refine ao (cs':=[Value.float .f64 sm,Value.float .f64 fq58,Value.float .f64 mn,Value.float .f64 mx,Value.float .f64 fq64,Value.float .f64 fq87,Value.float .f64 (al (aO (aq g.1) (aq ((((((ad g p).1).2).1)+1)*((((((ad g p).1).2).2).1)+1)))))]) aF rfl rfl bx99 rfl nq (AllOne.all (.cons rfl .nil)) rfl ?_
   intro w336 ch337 bx338
   clear bx99
   refine ab (ap (a7 rfl (lx (ba (m:=3) (n:=1) rfl rfl (by omega)) (mi 4 (ab (aN (a8 (a7 rfl (lx (bc (m:=4) (n:=4) rfl rfl) (ab (a8 ?_)))))))))))
   refine ah rfl rfl (aQ rfl (a8 ?_))
   clear o112
   refine a7 rfl (lx (ae (ds:=[Value.float .f64 sm,Value.float .f64 fq58,Value.float .f64 mn,Value.float .f64 mx,Value.float .f64 fq64,Value.float .f64 fq87,Value.float .f64 (al (aO (aq g.1) (aq ((((((ad g p).1).2).1)+1)*((((((ad g p).1).2).2).1)+1)))))]) b9 zs8 bx338 rfl rfl) (lo ?_))
   have C342:=cg [5,6] (ch79.n.seq ((ch81.l rfl).seq (hb84.n.seq (ch86.n.seq ((ch91.l rfl).seq ((ch98.l rfl).seq (ch111.n.seq (ch113.n.seq (hc116.n.seq (ch236.n.seq (hc239.n.seq (ch298.n.seq (hc301.n.seq (ch329.n.seq (hc332.n.seq (hb335.n.seq (ch337.l rfl)))))))))))))))))
   replace bx15:=bx15.ca C342
   refine ao (cs':=[Value.float .f64 sm,Value.float .f64 fq58,Value.float .f64 mn,Value.float .f64 mx,Value.float .f64 fq64,Value.float .f64 fq87,Value.float .f64 (al (aO (aq g.1) (aq ((((((ad g p).1).2).1)+1)*((((((ad g p).1).2).2).1)+1)))))]) b9 zs4 rfl bx15 rfl nq (AllOne.all (.cons rfl (.cons rfl (.cons rfl (.cons rfl (.cons rfl (.cons rfl (.cons rfl .nil)))))))) rfl ?_
   intro w339 ch340 bx341
   clear bx15
   refine ai 0 (ab (aw (vs:=[vg [Value.float .f64 sm,Value.float .f64 fq58,Value.float .f64 mn,Value.float .f64 mx,Value.float .f64 fq64,Value.float .f64 fq87,Value.float .f64 (al (aO (aq g.1) (aq ((((((ad g p).1).2).1)+1)*((((((ad g p).1).2).2).1)+1)))))],vi 0]) Try.func8 (.cell zs4 (bM (ds:=[Value.float .f64 sm,Value.float .f64 fq58,Value.float .f64 mn,Value.float .f64 mx,Value.float .f64 fq64,Value.float .f64 fq87,Value.float .f64 (al (aO (aq g.1) (aq ((((((ad g p).1).2).1)+1)*((((((ad g p).1).2).2).1)+1)))))]) b9 bx341 rfl rfl) (.tmp rfl .nil)) ?_))
   have e0:((sm,fq58,mn,mx,fq64,fq87,al (aO (aq g.1) (aq ((((((ad g p).1).2).1)+1)*((((((ad g p).1).2).2).1)+1))))):(Nat)×(Nat)×(Nat)×(Nat)×(Nat)×(Nat)×(Nat))=((av g p).1):=by
     exact cZ hf0 hS (by exact c1.2 ‹_›) hmn hmx (by exact c2.2 ‹_›) (by exact c3.2 ‹_›) (by exact c4.1 ‹_›)
   have e1:(0:Int)=((av g p).2):=by
     rw[bV hf0]
   have C343:=cg [3,5,6] (ch79.n.seq ((ch81.l rfl).seq (hb84.n.seq (ch86.n.seq ((ch91.l rfl).seq ((ch98.l rfl).seq (ch111.n.seq (ch113.n.seq (hc116.n.seq (ch236.n.seq (hc239.n.seq (ch298.n.seq (hc301.n.seq (ch329.n.seq (hc332.n.seq (hb335.n.seq ((ch337.l rfl).seq (ch340.l rfl))))))))))))))))))
   replace bH:=bH.ca C343
   exact⟨(bR (a:=(sm,fq58,mn,mx,fq64,fq87,al (aO (aq g.1) (aq ((((((ad g p).1).2).1)+1)*((((((ad g p).1).2).2).1)+1)))))) (b:=0) (λ(z0:(Nat)×(Nat)×(Nat)×(Nat)×(Nat)×(Nat)×(Nat)) (z1:Int)=>Ending.returned (vt [vg [Value.float .f64 z0.1,Value.float .f64 z0.2.1,Value.float .f64 z0.2.2.1,Value.float .f64 z0.2.2.2.1,Value.float .f64 z0.2.2.2.2.1,Value.float .f64 z0.2.2.2.2.2.1,Value.float .f64 z0.2.2.2.2.2.2],vi z1])) e0 e1),bH.below⟩
  refine ah rfl (Bool.eq_false_iff.2 p27_333) (au (ap (a7 rfl (lx (ba (m:=3) (n:=1) rfl rfl (by omega)) (mi 4 (ab (aN (a8 (a7 rfl (lx (bc (m:=4) (n:=4) rfl rfl) ?_))))))))))
  refine ab (a8 (ah rfl rfl (aQ rfl (a8 ?_))))
  clear o112
  refine a7 rfl ?_
  replace bx99:=bx99.cn hc332
  refine lx (ae (ds:=[Value.float .f64 sm,Value.float .f64 fq58,Value.float .f64 mn,Value.float .f64 mx,Value.float .f64 fq64,Value.float .f64 fq87,Value.float .f64 (aO (aq g.1) (aq ((((((ad g p).1).2).1)+1)*((((((ad g p).1).2).2).1)+1))))]) b9 zs8 bx99 rfl rfl) (lo ?_)
  have C347:=cg [5,6] (ch79.n.seq ((ch81.l rfl).seq (hb84.n.seq (ch86.n.seq ((ch91.l rfl).seq ((ch98.l rfl).seq (ch111.n.seq (ch113.n.seq (hc116.n.seq (ch236.n.seq (hc239.n.seq (ch298.n.seq (hc301.n.seq (ch329.n.seq hc332.n))))))))))))))
  replace bx15:=bx15.ca C347
  refine ao (cs':=[Value.float .f64 sm,Value.float .f64 fq58,Value.float .f64 mn,Value.float .f64 mx,Value.float .f64 fq64,Value.float .f64 fq87,Value.float .f64 (aO (aq g.1) (aq ((((((ad g p).1).2).1)+1)*((((((ad g p).1).2).2).1)+1))))]) b9 zs4 rfl bx15 rfl nq (AllOne.all (.cons rfl (.cons rfl (.cons rfl (.cons rfl (.cons rfl (.cons rfl (.cons rfl .nil)))))))) rfl ?_
  intro w344 ch345 bx346
  clear bx15
  refine ai 0 (ab (aw (vs:=[vg [Value.float .f64 sm,Value.float .f64 fq58,Value.float .f64 mn,Value.float .f64 mx,Value.float .f64 fq64,Value.float .f64 fq87,Value.float .f64 (aO (aq g.1) (aq ((((((ad g p).1).2).1)+1)*((((((ad g p).1).2).2).1)+1))))],vi 0]) Try.func8 (.cell zs4 (bM (ds:=[Value.float .f64 sm,Value.float .f64 fq58,Value.float .f64 mn,Value.float .f64 mx,Value.float .f64 fq64,Value.float .f64 fq87,Value.float .f64 (aO (aq g.1) (aq ((((((ad g p).1).2).1)+1)*((((((ad g p).1).2).2).1)+1))))]) b9 bx346 rfl rfl) (.tmp rfl .nil)) ?_))
  have e0:((sm,fq58,mn,mx,fq64,fq87,aO (aq g.1) (aq ((((((ad g p).1).2).1)+1)*((((((ad g p).1).2).2).1)+1)))):(Nat)×(Nat)×(Nat)×(Nat)×(Nat)×(Nat)×(Nat))=((av g p).1):=by
    exact cZ hf0 hS (by exact c1.2 ‹_›) hmn hmx (by exact c2.2 ‹_›) (by exact c3.2 ‹_›) (by exact c4.2 ‹_›)
  have e1:(0:Int)=((av g p).2):=by
    rw[bV hf0]
  have C348:=cg [3,5,6] (ch79.n.seq ((ch81.l rfl).seq (hb84.n.seq (ch86.n.seq ((ch91.l rfl).seq ((ch98.l rfl).seq (ch111.n.seq (ch113.n.seq (hc116.n.seq (ch236.n.seq (hc239.n.seq (ch298.n.seq (hc301.n.seq (ch329.n.seq (hc332.n.seq (ch345.l rfl))))))))))))))))
  replace bH:=bH.ca C348
  exact⟨(bR (a:=(sm,fq58,mn,mx,fq64,fq87,aO (aq g.1) (aq ((((((ad g p).1).2).1)+1)*((((((ad g p).1).2).2).1)+1))))) (b:=0) (λ(z0:(Nat)×(Nat)×(Nat)×(Nat)×(Nat)×(Nat)×(Nat)) (z1:Int)=>Ending.returned (vt [vg [Value.float .f64 z0.1,Value.float .f64 z0.2.1,Value.float .f64 z0.2.2.1,Value.float .f64 z0.2.2.2.1,Value.float .f64 z0.2.2.2.2.1,Value.float .f64 z0.2.2.2.2.2.1,Value.float .f64 z0.2.2.2.2.2.2],vi z1])) e0 e1),bH.below⟩
 refine ag rfl (congrArg Bool.not (df p2)) (a8 ?_)
 clear bx5 bx10
 refine a7 rfl (lw (vg [Value.float .f64 0,Value.float .f64 0,Value.float .f64 0,Value.float .f64 0,Value.float .f64 0,Value.float .f64 0,Value.float .f64 0]) (bB (vs:=[]) rfl (by kernel_rfl)) (mi (aY g p) (lo ?_)))
 replace bx15:=bx15.cn hb18
 refine ao (cs':=[Value.float .f64 0,Value.float .f64 0,Value.float .f64 0,Value.float .f64 0,Value.float .f64 0,Value.float .f64 0,Value.float .f64 0]) b9 rfl rfl bx15 rfl nq (AllOne.all (.cons rfl (.cons rfl (.cons rfl (.cons rfl (.cons rfl (.cons rfl (.cons rfl .nil)))))))) rfl ?_
 intro w349 ch350 bx351
 clear bx15
 refine ai (aY g p) (ab (aw (vs:=[vg [Value.float .f64 0,Value.float .f64 0,Value.float .f64 0,Value.float .f64 0,Value.float .f64 0,Value.float .f64 0,Value.float .f64 0],vi (aY g p)]) Try.func8 (.cell rfl (bM (ds:=[Value.float .f64 0,Value.float .f64 0,Value.float .f64 0,Value.float .f64 0,Value.float .f64 0,Value.float .f64 0,Value.float .f64 0]) b9 bx351 rfl rfl) (.tmp rfl .nil)) ?_))
 have e0:((0,0,0,0,0,0,0):(Nat)×(Nat)×(Nat)×(Nat)×(Nat)×(Nat)×(Nat))=((av g p).1):=by
   rw[np p2]
 have e1:(aY g p:Int)=((av g p).2):=by
   rw[np p2]
 have C352:=cg [3] (ch2.n.seq (ch7.n.seq (ch12.n.seq (hb18.n.seq (ch350.l rfl)))))
 replace bH:=bH.ca C352
 exact⟨(bR (a:=(0,0,0,0,0,0,0)) (b:=aY g p) (λ(z0:(Nat)×(Nat)×(Nat)×(Nat)×(Nat)×(Nat)×(Nat)) (z1:Int)=>Ending.returned (vt [vg [Value.float .f64 z0.1,Value.float .f64 z0.2.1,Value.float .f64 z0.2.2.1,Value.float .f64 z0.2.2.2.1,Value.float .f64 z0.2.2.2.2.1,Value.float .f64 z0.2.2.2.2.2.1,Value.float .f64 z0.2.2.2.2.2.2],vi z1])) e0 e1),bH.below⟩
end TL
