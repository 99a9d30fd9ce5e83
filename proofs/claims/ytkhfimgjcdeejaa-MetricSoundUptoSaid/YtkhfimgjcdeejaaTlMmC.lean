import Derived.Test.YtkhfimgjcdeejaaTlP3
import Derived.Test.YtkhfimgjcdeejaaTlGmA
import Derived.Test.YtkhfimgjcdeejaaTlGenA
import Derived.Test.YtkhfimgjcdeejaaTlGjC
import Derived.Test.YtkhfimgjcdeejaaTlMmA
import Derived.Test.YtkhfimgjcdeejaaTlMmB
import Derived.Test.YtkhfimgjcdeejaaProg
import Derived.Test.YtkhfimgjcdeejaaTlAli
set_option linter.all false
set_option maxRecDepth 20000
namespace TL
open Go Go.Proofs
theorem d4:Try.prog.follows .mixedOrders=true:=by kernel_rfl
theorem bh:Tp Try.prog 32 true 7 56 (.agg #[.float .f64 0,.float .f64 0,.float .f64 0,.float .f64 0,.float .f64 0,.float .f64 0,.float .f64 0]):=Tp.of (by kernel_rfl)
theorem dk:Tp Try.prog 67 false 1 8 (.pointer none):=Tp.of (by kernel_rfl)
theorem sV:Try.f24.body.isNone=false:=rfl
theorem tI:(Try.f24.name== "runtime.NumGoroutine")=false:=by decide+kernel
theorem dq:Try.f26.body.isNone=false:=rfl
theorem dr:(Try.f26.name== "runtime.NumGoroutine")=false:=by decide+kernel
set_option maxHeartbeats 4000000 in
theorem gD(w0:World)(g:(Int)×(List Pt))(g_v:Value)(hg_v:Ro w0 g_v g.2)(p:(List Pt)×(List (List Pt)))(p_v p_v1:Value)(hp_v:Ro w0 p_v p.1)(hp_v1:Ro w0 p_v1 p.2)(hfin:bl g p=0->∀k:Int,gI (aT p) k<br):
    Calls Try.prog 8 #[vg [vi g.1,g_v],vg [p_v,p_v1]] w0 (λee w=>ee= .returned (vt [vg [Value.float .f64 (((al g p).1).1),Value.float .f64 ((((al g p).1).2).1),Value.float .f64 (((((al g p).1).2).2).1),Value.float .f64 ((((((al g p).1).2).2).2).1),Value.float .f64 (((((((al g p).1).2).2).2).2).1),Value.float .f64 ((((((((al g p).1).2).2).2).2).2).1),Value.float .f64 ((((((((al g p).1).2).2).2).2).2).2)],vi ((al g p).2)])/\cW w0.heap.size w0 w):=by
 refine aI Try.func8 rfl nq ?_
 have bH:=bo.start w0
 have Rg:=hg_v.sl
 have Rp:=hp_v.sl
 have r_p_v1:=hp_v1.sl
 refine a6 (a5 rfl (cj rfl (bA c0 (is 1) (1,0) rfl rfl ?_)))
 intro g4 w1 b3 ch2 bx5
 replace bx5:Bx g4 (is 1) w1 b3 [vi g.1,g_v]:=bx5
 refine lo (bA g4 (is 2) (2,0) rfl rfl ?_)
 intro g9 w6 b8 ch7 bx10
 replace bx10:Bx g9 (is 2) w6 b8 [p_v,p_v1]:=bx10
 refine lo (bB g9 (is 3) (3,0) rfl bh ?_)
 intro g14 w11 b13 ch12 bx15
 replace bx15:Bx g14 (is 3) w11 b13 [Value.float .f64 0,Value.float .f64 0,Value.float .f64 0,Value.float .f64 0,Value.float .f64 0,Value.float .f64 0,Value.float .f64 0]:=bx15
 refine ai 0 (a8 (a6 (a6 (a5 rfl ?_))))
 replace bx5:=(bx5.cn ch7).cn ch12
 refine lx (ad (ds:=[vi g.1,g_v]) bO rfl bx5 rfl rfl) ?_
 replace bx10:=bx10.cn ch12
 refine lx (ad (ds:=[p_v,p_v1]) bJ rfl bx10 rfl rfl) ?_
 have C16:=cg [] (ch2.n.seq (ch7.n.seq ch12.n))
 replace Rg:=Rg.ca C16
 replace Rp:=Rp.ca C16
 replace r_p_v1:=r_p_v1.ca C16
 refine lo (aN (v:=vi (bl g p)) (az (vals:=[vg [vi g.1,g_v],vg [p_v,p_v1]]) Try.func22 jU jS rfl) (i5 w11 g g_v (Rg).ro p p_v p_v1 (Rp).ro (r_p_v1).ro) ?_)
 intro w17 hb18
 replace hb18:=aj hb18 g14
 refine ai (bl g p) (a8 (a6 (a5 rfl (mi (bl g p) (lx (dz (m:=bl g p) (n:=0) rfl rfl) (a8 ?_))))))
 by_cases p2:(bl g p)=0
 ·
  have hf0:bl g p=0:=p2
  obtain⟨hm,hs,hlp⟩:=ey hf0
  have hs2:=hs.m
  have hm0:=hm
  obtain⟨hm1,hm2,hm3,hm4⟩:=hm0
  have hfi:=hfin hf0
  have hnn:=pe p
  have hwd:=t8 hs hlp
  obtain⟨⟨⟨hw1,hw2⟩,hw3,hw4⟩,hw5,hw6⟩:=hwd
  refine af rfl (congrArg Bool.not (dt p2)) (am (a6 (a5 rfl ?_)))
  replace bx10:=bx10.cn hb18
  refine lx (ad (ds:=[p_v,p_v1]) bJ rfl bx10 rfl rfl) ?_
  replace Rp:=Rp.cn hb18
  replace r_p_v1:=r_p_v1.cn hb18
  refine lo (d5 (az (vals:=[vg [p_v,p_v1]]) Try.func23 pp oS rfl) (kG w17 p p_v p_v1 (Rp).ro (r_p_v1).ro (by exact λe h0 h1=>⟨(hs.ln e h0 h1).2,(hs.ln e h0 h1).1⟩) (by omega)) ?_)
  rintro⟨d20,v22⟩ w19 ⟨fr21,o23⟩
  obtain⟨g24,ch25,G24⟩:=ny g14 fr21 (λn=>if n=1 then 4 else 0)
  replace o23:=o23.gl G24 4
  refine ma v22 (a8 (a6 (a5 rfl (cj rfl (aN (v:=Value.float .f64 br) (az (vals:=[vi 1]) Try.func24 sV tI rfl) (wl w19 1 (by omega)) ?_)))))
  intro w26 hb27
  replace hb27:=aj hb27 g24
  refine lw (vg [Value.float .f64 0,Value.float .f64 0,Value.float .f64 br,Value.float .f64 0,Value.float .f64 0,Value.float .f64 0,Value.float .f64 0]) (bz (vs:=[(2,Value.float .f64 br)]) rfl (by kernel_rfl)) (lo (bB g24 (is 5) (5,0) rfl bh ?_))
  intro g31 w28 b30 ch29 bx32
  replace bx32:Bx g31 (is 5) w28 b30 [Value.float .f64 0,Value.float .f64 0,Value.float .f64 0,Value.float .f64 0,Value.float .f64 0,Value.float .f64 0,Value.float .f64 0]:=bx32
  refine lo (au (cs':=[Value.float .f64 0,Value.float .f64 0,Value.float .f64 br,Value.float .f64 0,Value.float .f64 0,Value.float .f64 0,Value.float .f64 0]) bh rfl rfl bx32 rfl nq (AllOne.all (.cons rfl (.cons rfl (.cons rfl (.cons rfl (.cons rfl (.cons rfl (.cons rfl .nil)))))))) rfl ?_)
  intro w33 ch34 bx35
  clear bx32
  refine a8 (a6 (a6 (a5 rfl (mv v22 ?_))))
  have C36:=cg [5] (hb27.n.seq (ch29.n.seq (ch34.l rfl)))
  replace o23:=o23.ca C36
  have len37:=(o23.flat).small
  refine lx (bE tL rfl o23.flat) (mi 0 (a8 (ao ?_)))
  refine bf (σ:=Fb×Fb×Fb×Nat×aW) (λ⟨sm,mn,mx,k,gq⟩ f w=>bo w0 gq w/\f 2=vp b3 0/\f 3=vp b8 0/\f 4=vp b13 0/\f 7=v22/\f 8=vp b30 0/\f 30=v22/\f 31=vi (List.length (aT p):Int)/\f 32=vi ↑k/\Sl gq (is 0) w g_v g.2/\Sl gq (is 0) w p_v p.1/\Sl gq (is 0) w p_v1 p.2/\Bx gq (is 1) w b3 [vi g.1,g_v]/\Bx gq (is 2) w b8 [p_v,p_v1]/\Bx gq (is 3) w b13 [Value.float .f64 0,Value.float .f64 0,Value.float .f64 0,Value.float .f64 0,Value.float .f64 0,Value.float .f64 0,Value.float .f64 0]/\Ow gq (is 4) (is 4) w v22 (aT p)/\Bx gq (is 5) w b30 [Value.float .f64 sm,Value.float .f64 0,Value.float .f64 mn,Value.float .f64 mx,Value.float .f64 0,Value.float .f64 0,Value.float .f64 0]/\(k:Int)<=((List.length (aT p):Int):Int)/\((sm=lT (aT p) k/\sm<=br)/\(mn=kw (aT p) k/\mn<=br)/\mx=kf (aT p) k/\mx<=br)) (λ⟨sm,mn,mx,k,gq⟩=>Int.toNat (((List.length (aT p):Int):Int)-(k:Int))) (0,br,0,0,g31) ?_ ?_
  have C40:=cg [5] (ch25.n.seq (hb27.n.seq (ch29.n.seq (ch34.l rfl))))
  have C39:=hb18.n.seq C40
  have C38:=ch2.n.seq (ch7.n.seq (ch12.n.seq C39))
  · exact⟨bH.ca C38,rfl,rfl,rfl,rfl,rfl,rfl,rfl,rfl,Rg.ca C39,Rp.ca C40,r_p_v1.ca C40,bx5.ca C39,bx10.ca C40,bx15.ca C39,o23,bx35,by omega,by exact⟨⟨rfl,by decide⟩,⟨rfl,by decide⟩,rfl,by decide⟩⟩
  clear Rg Rp r_p_v1 bx5 bx10 bx15 o23 bx35 bH
  rintro⟨sm,mn,mx,k,g43⟩ f41 w42 ⟨bH,zs2,zs3,zs4,zs7,zs8,zs30,zs31,zs32,Rg,Rp,r_p_v1,bx5,bx10,bx15,o23,bx35,hle_k,hk⟩ back7
  obtain⟨⟨hk1,hk2⟩,⟨hk3,hk4⟩,hk5,hk6⟩:=hk
  refine a6 (a5 rfl (lx (b6 (m:=↑k) (n:=(List.length (aT p):Int)) zs32 zs31) (a8 (a6 ?_))))
  by_cases p7:(k:Int)<(List.length (aT p):Int)
  ·
   refine ae rfl (dt p7) ?_
   have hx:=hnn (k:Int)
   refine am (a6 (ao (a6 (a5 rfl (lx (ab (v:=v22) (i:=↑k) tL rfl zs30 o23.flat zs32 (by omega) (by omega)) (lx (fk (v:=v22) (i:=↑k) aX rfl o23.flat (by omega) (by omega) (by decide) rfl) (ma (Value.float .f64 (gI (aT p) (k:Int))) (a8 (a6 (a5 rfl (lx (a7 gu rfl rfl zs8 rfl) (lx (a9 aX rfl bx35 rfl) ?_))))))))))))
   refine mv (Value.float .f64 (gI (aT p) (k:Int))) (lw (Value.float .f64 (dS sm (gI (aT p) (k:Int)))) (oc (a:=sm) (b:=(gI (aT p) (k:Int))) rfl rfl (gC ‹_› ‹_›).1) ?_)
   have nn44:dS sm (gI (aT p) (k:Int))<=br:=(gC (x:=sm) (y:=(gI (aT p) (k:Int))) ‹_› ‹_›).2
   refine lx (a7 gu rfl rfl zs8 rfl) (lo (au (cs':=[Value.float .f64 (dS sm (gI (aT p) (k:Int))),Value.float .f64 0,Value.float .f64 mn,Value.float .f64 mx,Value.float .f64 0,Value.float .f64 0,Value.float .f64 0]) aX rfl rfl bx35 rfl nq (AllOne.all (.cons rfl .nil)) rfl ?_))
   intro w45 ch46 bx47
   clear bx35
   refine a8 (a5 rfl (lx (a7 gu rfl rfl zs8 rfl) (lx (a9 aX rfl bx47 rfl) (mv (Value.float .f64 (gI (aT p) (k:Int))) (lw (Value.float .f64 (min mn (gI (aT p) (k:Int)))) (vq (a:=mn) (b:=(gI (aT p) (k:Int))) rfl rfl ‹_› ‹_›) ?_)))))
   have nn48:min mn (gI (aT p) (k:Int))<=br:=Nat.le_trans (Nat.min_le_left _ _) ‹_›
   refine lx (a7 gu rfl rfl zs8 rfl) (lx (a9 aX rfl bx47 rfl) (mv (Value.float .f64 (gI (aT p) (k:Int))) (lw (Value.float .f64 (max mx (gI (aT p) (k:Int)))) (wm (a:=mx) (b:=(gI (aT p) (k:Int))) rfl rfl ‹_› ‹_›) ?_)))
   have nn49:max mx (gI (aT p) (k:Int))<=br:=Nat.max_le.2 ⟨‹_›,‹_›⟩
   refine lx (a7 gu rfl rfl zs8 rfl) (lo (au (cs':=[Value.float .f64 (dS sm (gI (aT p) (k:Int))),Value.float .f64 0,Value.float .f64 (min mn (gI (aT p) (k:Int))),Value.float .f64 mx,Value.float .f64 0,Value.float .f64 0,Value.float .f64 0]) aX rfl rfl bx47 rfl nq (AllOne.all (.cons rfl .nil)) rfl ?_))
   intro w50 ch51 bx52
   clear bx47
   refine lx (a7 gu rfl rfl zs8 rfl) (lo (au (cs':=[Value.float .f64 (dS sm (gI (aT p) (k:Int))),Value.float .f64 0,Value.float .f64 (min mn (gI (aT p) (k:Int))),Value.float .f64 (max mx (gI (aT p) (k:Int))),Value.float .f64 0,Value.float .f64 0,Value.float .f64 0]) aX rfl rfl bx52 rfl nq (AllOne.all (.cons rfl .nil)) rfl ?_))
   intro w53 ch54 bx55
   clear bx52
   refine a8 (ak (a5 rfl (lx (aQ (m:=↑k) (n:=1) zs32 rfl (by omega)) (mi ((k:Int)+1) (a8 ?_)))))
   have C56:=cg [5] ((ch46.l rfl).seq ((ch51.l rfl).seq (ch54.l rfl)))
   refine back7 (dS sm (gI (aT p) (k:Int)),min mn (gI (aT p) (k:Int)),max mx (gI (aT p) (k:Int)),k+1,g43) _ _ ⟨bH.ca C56,zs2,zs3,zs4,zs7,zs8,zs30,zs31,rfl,Rg.ca C56,Rp.ca C56,r_p_v1.ca C56,bx5.ca C56,bx10.ca C56,bx15.ca C56,o23.ca C56,bx55,by omega,?_⟩ ?_
   · show((dS sm (gI (aT p) (k:Int)))=lT (aT p) (k+1)/\(dS sm (gI (aT p) (k:Int)))<=br)/\((min mn (gI (aT p) (k:Int)))=kw (aT p) (k+1)/\(min mn (gI (aT p) (k:Int)))<=br)/\(max mx (gI (aT p) (k:Int)))=kf (aT p) (k+1)/\(max mx (gI (aT p) (k:Int)))<=br
     exact⟨⟨by rw[hk1];rfl,by assumption⟩,⟨by rw[hk3];rfl,by assumption⟩,by rw[hk5];rfl,by assumption⟩
   · show Int.toNat (((List.length (aT p):Int):Int)-((k+1):Int))<Int.toNat (((List.length (aT p):Int):Int)-(k:Int))
     omega
  refine af rfl (df p7) (aO rfl (a6 (a5 rfl (mz zs7 (lx (bE tL rfl o23.flat) (lw (Value.float .f64 (aF (List.length (aT p):Int))) (nm (m:=(List.length (aT p):Int)) U3 wV rfl) ?_))))))
  have nn57:aF (List.length (aT p):Int)<=br:=iH (by omega)
  refine ma (Value.float .f64 (aF (List.length (aT p):Int))) (a8 (a6 ?_))
  have hS:sm=lT (aT p) (aT p).length:=by rw[hk1];congr 1;omega
  have hv58:∀v,Ieee.double.div sm (aF ((aT p).length:Int))=some v->v<=br:=λv=>oe ‹_› ‹_›
  have hv64:∀v,Ieee.double.div mx mn=some v->v<=br:=λv=>oe ‹_› ‹_›
  refine a5 rfl (lx (a7 gu rfl rfl zs8 rfl) (lx (a9 aX rfl bx35 rfl) (mv (Value.float .f64 (aF (List.length (aT p):Int))) (lo (oo g43 (a:=sm) (b:=(aF (List.length (aT p):Int))) rfl rfl ?_)))))
  intro fq58 w58 ch59 hfq58
  refine lx (a7 gu rfl rfl zs8 rfl) (lo ?_)
  replace bx35:=bx35.cn ch59
  refine au (cs':=[Value.float .f64 sm,Value.float .f64 fq58,Value.float .f64 mn,Value.float .f64 mx,Value.float .f64 0,Value.float .f64 0,Value.float .f64 0]) aX rfl rfl bx35 rfl nq (AllOne.all (.cons rfl .nil)) rfl ?_
  intro w60 ch61 bx62
  clear bx35
  refine a8 (a6 (a5 rfl (lx (a7 gu rfl rfl zs8 rfl) (lx (a9 aX rfl bx62 rfl) (lx (a7 gu rfl rfl zs8 rfl) (lx (a9 aX rfl bx62 rfl) (lo (oo g43 (a:=mx) (b:=mn) rfl rfl ?_))))))))
  intro fq64 w63 ch64 hfq64
  refine lx (a7 gu rfl rfl zs8 rfl) (lo ?_)
  replace bx62:=bx62.cn ch64
  refine au (cs':=[Value.float .f64 sm,Value.float .f64 fq58,Value.float .f64 mn,Value.float .f64 mx,Value.float .f64 fq64,Value.float .f64 0,Value.float .f64 0]) aX rfl rfl bx62 rfl nq (AllOne.all (.cons rfl .nil)) rfl ?_
  intro w65 ch66 bx67
  clear bx62
  refine a8 (a6 (a6 (a5 rfl (mz zs7 ?_))))
  have C68:=cg [5] (ch59.n.seq ((ch61.l rfl).seq (ch64.n.seq (ch66.l rfl))))
  replace o23:=o23.ca C68
  refine lx (bE tL rfl o23.flat) (mi 0 (a8 (ao ?_)))
  refine bf (σ:=Fb×Nat×aW) (λ⟨sp,j,gq⟩ f w=>bo w0 gq w/\f 2=vp b3 0/\f 3=vp b8 0/\f 4=vp b13 0/\f 8=vp b30 0/\f 11=Value.float .f64 (aF (List.length (aT p):Int))/\f 66=v22/\f 67=vi (List.length (aT p):Int)/\f 68=vi ↑j/\Sl gq (is 0) w g_v g.2/\Sl gq (is 0) w p_v p.1/\Sl gq (is 0) w p_v1 p.2/\Bx gq (is 1) w b3 [vi g.1,g_v]/\Bx gq (is 2) w b8 [p_v,p_v1]/\Bx gq (is 3) w b13 [Value.float .f64 0,Value.float .f64 0,Value.float .f64 0,Value.float .f64 0,Value.float .f64 0,Value.float .f64 0,Value.float .f64 0]/\Ow gq (is 4) (is 4) w v22 (aT p)/\Bx gq (is 5) w b30 [Value.float .f64 sm,Value.float .f64 fq58,Value.float .f64 mn,Value.float .f64 mx,Value.float .f64 fq64,Value.float .f64 sp,Value.float .f64 0]/\(j:Int)<=((List.length (aT p):Int):Int)/\(sp=vO fq58 (aT p) j/\sp<=br)) (λ⟨sp,j,gq⟩=>Int.toNat (((List.length (aT p):Int):Int)-(j:Int))) (0,0,g43) ?_ ?_
  · exact⟨bH.ca C68,zs2,zs3,zs4,zs8,rfl,rfl,rfl,rfl,Rg.ca C68,Rp.ca C68,r_p_v1.ca C68,bx5.ca C68,bx10.ca C68,bx15.ca C68,o23,bx67,by omega,by exact⟨rfl,by decide⟩⟩
  clear Rg Rp r_p_v1 bx5 bx10 bx15 o23 bx67 bH
  rintro⟨sp,j,g71⟩ f69 w70 ⟨bH,zs2,zs3,zs4,zs8,zs11,zs66,zs67,zs68,Rg,Rp,r_p_v1,bx5,bx10,bx15,o23,bx67,hle_j,hj⟩ back16
  obtain⟨hj1,hj2⟩:=hj
  refine a6 (a5 rfl (lx (b6 (m:=↑j) (n:=(List.length (aT p):Int)) zs68 zs67) (a8 (a6 ?_))))
  by_cases p16:(j:Int)<(List.length (aT p):Int)
  ·
   refine ae rfl (dt p16) ?_
   obtain⟨hM1,hM2⟩:=mH hnn hS hfq58 (by omega) (by omega)
   refine am (a6 (ao (a6 (a5 rfl (lx (ab (v:=v22) (i:=↑j) tL rfl zs66 o23.flat zs68 (by omega) (by omega)) (lx (fk (v:=v22) (i:=↑j) aX rfl o23.flat (by omega) (by omega) (by decide) rfl) (ma (Value.float .f64 (gI (aT p) (j:Int))) (a8 (a6 (a5 rfl (mv (Value.float .f64 (gI (aT p) (j:Int))) (lx (a7 gu rfl rfl zs8 rfl) ?_))))))))))))
   refine lx (a9 aX rfl bx67 rfl) (lw (Value.float .f64 (dN (gI (aT p) (j:Int)) fq58)) (vU (a:=(gI (aT p) (j:Int))) (b:=fq58) rfl rfl (rn (by exact hfi _) ‹_›)) ?_)
   have nn72:jG (dN (gI (aT p) (j:Int)) fq58):=uG (x:=(gI (aT p) (j:Int))) (y:=fq58) (by exact hfi _) ‹_›
   refine ma (Value.float .f64 (dN (gI (aT p) (j:Int)) fq58)) (a8 (a5 rfl (lx (a7 gu rfl rfl zs8 rfl) (lx (a9 aX rfl bx67 rfl) (mv (Value.float .f64 (dN (gI (aT p) (j:Int)) fq58)) (mv (Value.float .f64 (dN (gI (aT p) (j:Int)) fq58)) (lw (Value.float .f64 (dv (dN (gI (aT p) (j:Int)) fq58) (dN (gI (aT p) (j:Int)) fq58))) (sy (a:=(dN (gI (aT p) (j:Int)) fq58)) (b:=(dN (gI (aT p) (j:Int)) fq58)) rfl rfl (vj ‹_›).1) ?_)))))))
   have nn73:dv (dN (gI (aT p) (j:Int)) fq58) (dN (gI (aT p) (j:Int)) fq58)<=br:=(vj (x:=(dN (gI (aT p) (j:Int)) fq58)) ‹_›).2
   refine lw (Value.float .f64 (dS sp (dv (dN (gI (aT p) (j:Int)) fq58) (dN (gI (aT p) (j:Int)) fq58)))) (oc (a:=sp) (b:=(dv (dN (gI (aT p) (j:Int)) fq58) (dN (gI (aT p) (j:Int)) fq58))) rfl rfl (gC ‹_› ‹_›).1) ?_
   have nn74:dS sp (dv (dN (gI (aT p) (j:Int)) fq58) (dN (gI (aT p) (j:Int)) fq58))<=br:=(gC (x:=sp) (y:=(dv (dN (gI (aT p) (j:Int)) fq58) (dN (gI (aT p) (j:Int)) fq58))) ‹_› ‹_›).2
   refine lx (a7 gu rfl rfl zs8 rfl) (lo (au (cs':=[Value.float .f64 sm,Value.float .f64 fq58,Value.float .f64 mn,Value.float .f64 mx,Value.float .f64 fq64,Value.float .f64 (dS sp (dv (dN (gI (aT p) (j:Int)) fq58) (dN (gI (aT p) (j:Int)) fq58))),Value.float .f64 0]) aX rfl rfl bx67 rfl nq (AllOne.all (.cons rfl .nil)) rfl ?_))
   intro w75 ch76 bx77
   clear bx67
   refine a8 (ak (a5 rfl (lx (aQ (m:=↑j) (n:=1) zs68 rfl (by omega)) (mi ((j:Int)+1) (a8 ?_)))))
   refine back16 (dS sp (dv (dN (gI (aT p) (j:Int)) fq58) (dN (gI (aT p) (j:Int)) fq58)),j+1,g71) _ _ ⟨bH.ce ch76,zs2,zs3,zs4,zs8,zs11,zs66,zs67,rfl,Rg.ce ch76,Rp.ce ch76,r_p_v1.ce ch76,bx5.ce ch76,bx10.ce ch76,bx15.ce ch76,o23.ce ch76,bx77,by omega,?_⟩ ?_
   · show(dS sp (dv (dN (gI (aT p) (j:Int)) fq58) (dN (gI (aT p) (j:Int)) fq58)))=vO fq58 (aT p) (j+1)/\(dS sp (dv (dN (gI (aT p) (j:Int)) fq58) (dN (gI (aT p) (j:Int)) fq58)))<=br
     exact⟨by rw[hj1];rfl,by assumption⟩
   · show Int.toNat (((List.length (aT p):Int):Int)-((j+1):Int))<Int.toNat (((List.length (aT p):Int):Int)-(j:Int))
     omega
  refine af rfl (df p16) (aO rfl (a6 ?_))
  clear o23
  have hv87:∀v,Ieee.double.div sp (aF ((aT p).length:Int))=some v->v<=br:=λv=>oe ‹_› ‹_›
  refine a5 rfl (lx (a7 gu rfl rfl zs8 rfl) (lx (a9 aX rfl bx67 rfl) (mz zs11 (lo (oo g71 (a:=sp) (b:=(aF (List.length (aT p):Int))) rfl rfl ?_)))))
  intro fq87 w78 ch79 hfq87
  refine lx (a7 gu rfl rfl zs8 rfl) (lo ?_)
  replace bx67:=bx67.cn ch79
  refine au (cs':=[Value.float .f64 sm,Value.float .f64 fq58,Value.float .f64 mn,Value.float .f64 mx,Value.float .f64 fq64,Value.float .f64 fq87,Value.float .f64 0]) aX rfl rfl bx67 rfl nq (AllOne.all (.cons rfl .nil)) rfl ?_
  intro w80 ch81 bx82
  clear bx67
  refine a8 (a6 (a5 rfl ?_))
  replace bx5:=(bx5.cn ch79).ce ch81
  refine lx (ad (ds:=[vi g.1,g_v]) bO zs2 bx5 rfl rfl) ?_
  replace bx10:=(bx10.cn ch79).ce ch81
  refine lx (ad (ds:=[p_v,p_v1]) bJ zs3 bx10 rfl rfl) ?_
  replace Rg:=(Rg.cn ch79).ce ch81
  replace Rp:=(Rp.cn ch79).ce ch81
  replace r_p_v1:=(r_p_v1.cn ch79).ce ch81
  refine lo (aN (v:=vt [vg [vi (((ag g p).1).1),vi ((((ag g p).1).2).1),vi (((((ag g p).1).2).2).1),vb ((((((ag g p).1).2).2).2).1),vb ((((((ag g p).1).2).2).2).2)],vi ((ag g p).2)]) (az (vals:=[vg [vi g.1,g_v],vg [p_v,p_v1]]) Try.func25 qi q9 rfl) (nu w80 g g_v (Rg).ro p p_v p_v1 (Rp).ro (r_p_v1).ro) ?_)
  intro w83 hb84
  replace hb84:=aj hb84 g71
  refine mv (vt [vg [vi (((ag g p).1).1),vi ((((ag g p).1).2).1),vi (((((ag g p).1).2).2).1),vb ((((((ag g p).1).2).2).2).1),vb ((((((ag g p).1).2).2).2).2)],vi ((ag g p).2)]) (lx (b5 rfl rfl) (lx (b5 rfl rfl) (lo (bB g71 (is 6) (6,0) rfl dd ?_))))
  intro g88 w85 b87 ch86 bx89
  replace bx89:Bx g88 (is 6) w85 b87 [vi 0,vi 0,vi 0,vb false,vb false]:=bx89
  refine lo (au (cs':=[vi (((ag g p).1).1),vi ((((ag g p).1).2).1),vi (((((ag g p).1).2).2).1),vb ((((((ag g p).1).2).2).2).1),vb ((((((ag g p).1).2).2).2).2)]) dd rfl rfl bx89 rfl nq (AllOne.all (.cons rfl (.cons rfl (.cons rfl (.cons rfl (.cons rfl .nil)))))) rfl ?_)
  intro w90 ch91 bx92
  clear bx89
  refine ai ((ag g p).2) (a8 (a6 ?_))
  clear bx10
  refine a5 rfl (lx (a7 eR rfl rfl zs2 rfl) ?_)
  have C93:=cg [6] (hb84.n.seq (ch86.n.seq (ch91.l rfl)))
  replace bx5:=bx5.ca C93
  refine lx (a9 aG rfl bx5 rfl) (lw (Value.float .f64 (aF g.1)) (nm (m:=g.1) U3 wV rfl) ?_)
  have nn94:aF g.1<=br:=iH (by omega)
  refine lx (a7 qZ rfl rfl rfl rfl) (lx (a9 aG rfl bx92 rfl) (lx (aQ (m:=(((ag g p).1).2).1) (n:=1) rfl rfl (by omega)) (lx (a7 qZ rfl rfl rfl rfl) (lx (a9 aG rfl bx92 rfl) (lx (aQ (m:=((((ag g p).1).2).2).1) (n:=1) rfl rfl (by omega)) (lx (fV (m:=((((ag g p).1).2).1)+1) (n:=(((((ag g p).1).2).2).1)+1) rfl rfl (by omega)) (lw (Value.float .f64 (aF ((((((ag g p).1).2).1)+1)*((((((ag g p).1).2).2).1)+1)))) (nm (m:=(((((ag g p).1).2).1)+1)*((((((ag g p).1).2).2).1)+1)) U3 wV rfl) ?_)))))))
  have nn95:aF ((((((ag g p).1).2).1)+1)*((((((ag g p).1).2).2).1)+1))<=br:=iH (by omega)
  refine lw (Value.float .f64 (bb (aF g.1) (aF ((((((ag g p).1).2).1)+1)*((((((ag g p).1).2).2).1)+1))))) (oy (a:=(aF g.1)) (b:=(aF ((((((ag g p).1).2).1)+1)*((((((ag g p).1).2).2).1)+1)))) rfl rfl (mh ‹_› (by exact mm (by omega) (by omega)) (by exact iK (by omega))).1) ?_
  have nn96:bb (aF g.1) (aF ((((((ag g p).1).2).1)+1)*((((((ag g p).1).2).2).1)+1)))<=br:=(mh (x:=(aF g.1)) (y:=(aF ((((((ag g p).1).2).1)+1)*((((((ag g p).1).2).2).1)+1)))) ‹_› (by exact mm (by omega) (by omega)) (by exact iK (by omega))).2
  refine lx (a7 gu rfl rfl zs8 rfl) (lo ?_)
  replace bx82:=bx82.ca C93
  refine au (cs':=[Value.float .f64 sm,Value.float .f64 fq58,Value.float .f64 mn,Value.float .f64 mx,Value.float .f64 fq64,Value.float .f64 fq87,Value.float .f64 (bb (aF g.1) (aF ((((((ag g p).1).2).1)+1)*((((((ag g p).1).2).2).1)+1))))]) aX rfl rfl bx82 rfl nq (AllOne.all (.cons rfl .nil)) rfl ?_
  intro w97 ch98 bx99
  clear bx82
  refine a8 (a6 (a6 ?_))
  clear bx5 bx92
  have hjl:j=(aT p).length:=by omega
  have hSp:sp=vO (jI (aT p)) (aT p) (aT p).length:=by rw[hj1,hjl];exact wo (λh0=>(mH hnn hS hfq58 h0 (by omega)).1)
  have hmn:mn=kw (aT p) (aT p).length:=by rw[hk3];congr 1;omega
  have hmx:mx=kf (aT p) (aT p).length:=by rw[hk5];congr 1;omega
  have c1:=lM hfq58 hv58 (v:=jI (aT p)) (by rw[hS];rfl)
  have c2:=lM hfq64 hv64 (v:=im (aT p)) (by rw[hmn,hmx];rfl)
  have c3:=lM hfq87 hv87 (v:=ms (aT p)) (by rw[hSp];rfl)
  have c4:=wL ‹_› (uu hlp)
  refine a5 rfl (lx (a7 gu rfl rfl zs8 rfl) (lx (a7 gu rfl rfl zs8 rfl) (lx (a7 gu rfl rfl zs8 rfl) (lx (a7 gu rfl rfl zs8 rfl) (lo ?_)))))
  obtain⟨c100,hv101⟩:=jK (u:=vp b30 1) rfl
  obtain⟨c102,hv103⟩:=jK (u:=vp b30 4) rfl
  obtain⟨c104,hv105⟩:=jK (u:=vp b30 5) rfl
  obtain⟨c106,hv107⟩:=jK (u:=vp b30 6) rfl
  refine aC (α:=Vc) g88 (is 7) (is 7) (7,0) rfl [c100,c102,c104,c106] nF dk (by decide) (by decide) (vs:=[(0,vp b30 1),(1,vp b30 4),(2,vp b30 5),(3,vp b30 6)]) rfl rfl (.cons (gR hv101 rfl) (.cons (gR hv103 rfl) (.cons (gR hv105 rfl) (.cons (gR hv107 rfl) .nil)))) ?_
  intro g108 w109 v110 ch111 o112
  refine lx (bE nF rfl o112.flat) (mi 0 (a8 (ao (fh (a6 (a5 rfl (lx (b6 (m:=0) (n:=4) rfl rfl) (a8 (a6 (ae rfl rfl (am ?_)))))))))))
  refine a6 (ao (a6 (a5 rfl (lx (ab (v:=v110) (i:=0) nF rfl rfl o112.flat rfl (by omega) (by(simp only[List.length_set,List.length_append,List.length_cons,List.length_nil,List.length_replicate,List.length_map,List.length_take,List.length_drop];omega))) (lx (aZ dk rfl (dT hv101 o112 rfl)) (ma (vp b30 1) (a8 (a6 (bv g108 rfl d4 (by kernel_rfl) ?_)))))))))
  intro w114 ch113
  refine qm (vp b30 1) (qv (vp b30 1) (λw' hw'=>aK rfl) ?_)
  replace bx99:=(bx99.cn ch111).cn ch113
  refine qx (λw' hw'=>a9 aX rfl (bx99.bel hw') rfl) (qm (vp b30 1) (qv (vp b30 1) (λw' hw'=>aK rfl) (qx (λw' hw'=>a9 aX rfl (bx99.bel hw') rfl) (qv (vb (cQ fq58)) (λw' hw'=>dJ (a:=fq58) rfl rfl) (bM ?_)))))
  intro w115 hc116
  replace hc116:=aj hc116 g108
  by_cases p27:cQ fq58=true
  ·
   refine ae rfl p27 (a5 rfl (mv (vp b30 1) (mv (vp b30 1) (lw (vp b30 1) (aK rfl) ?_))))
   replace bx99:=bx99.cn hc116
   refine lx (a9 aX rfl bx99 rfl) (lo (aN (v:=Value.float .f64 (ar fq58)) (az (vals:=[Value.float .f64 fq58]) Try.func26 dq dr rfl) (d3 w115 fq58 (by exact kv hfq58 hv58)) ?_))
   intro w117 hb118
   replace hb118:=aj hb118 g108
   refine lw (vp b30 1) (aK rfl) (lo ?_)
   replace bx99:=bx99.cn hb118
   refine au (cs':=[Value.float .f64 sm,Value.float .f64 (ar fq58),Value.float .f64 mn,Value.float .f64 mx,Value.float .f64 fq64,Value.float .f64 fq87,Value.float .f64 (bb (aF g.1) (aF ((((((ag g p).1).2).1)+1)*((((((ag g p).1).2).2).1)+1))))]) aX rfl rfl bx99 rfl nq (AllOne.all (.cons rfl .nil)) rfl ?_
   intro w119 ch120 bx121
   clear bx99
   refine a8 (ak (a5 rfl (lx (aQ (m:=0) (n:=1) rfl rfl (by omega)) (mi 1 (a8 (aY (a6 (a5 rfl (lx (b6 (m:=1) (n:=4) rfl rfl) (a8 (a6 ?_)))))))))))
   refine ae rfl rfl (am (a6 (ao (a6 (a5 rfl ?_)))))
   have C122:=cg [5] (ch113.n.seq (hc116.n.seq (hb118.n.seq (ch120.l rfl))))
   replace o112:=o112.ca C122
   refine lx (ab (v:=v110) (i:=1) nF rfl rfl o112.flat rfl (by omega) (by(simp only[List.length_set,List.length_append,List.length_cons,List.length_nil,List.length_replicate,List.length_map,List.length_take,List.length_drop];omega))) (lx (aZ dk rfl (dT hv103 o112 rfl)) (ma (vp b30 4) (a8 (a6 (bv g108 rfl d4 (by kernel_rfl) ?_)))))
   intro w124 ch123
   refine qm (vp b30 4) (qv (vp b30 4) (λw' hw'=>aK rfl) ?_)
   replace bx121:=bx121.cn ch123
   refine qx (λw' hw'=>a9 aX rfl (bx121.bel hw') rfl) (qm (vp b30 4) (qv (vp b30 4) (λw' hw'=>aK rfl) (qx (λw' hw'=>a9 aX rfl (bx121.bel hw') rfl) (qv (vb (cQ fq64)) (λw' hw'=>dJ (a:=fq64) rfl rfl) (bM ?_)))))
   intro w125 hc126
   replace hc126:=aj hc126 g108
   by_cases p27_127:cQ fq64=true
   ·
    refine ae rfl p27_127 (a5 rfl (mv (vp b30 4) (mv (vp b30 4) (lw (vp b30 4) (aK rfl) ?_))))
    replace bx121:=bx121.cn hc126
    refine lx (a9 aX rfl bx121 rfl) (lo (aN (v:=Value.float .f64 (ar fq64)) (az (vals:=[Value.float .f64 fq64]) Try.func26 dq dr rfl) (d3 w125 fq64 (by exact kv hfq64 hv64)) ?_))
    intro w128 hb129
    replace hb129:=aj hb129 g108
    refine lw (vp b30 4) (aK rfl) (lo ?_)
    replace bx121:=bx121.cn hb129
    refine au (cs':=[Value.float .f64 sm,Value.float .f64 (ar fq58),Value.float .f64 mn,Value.float .f64 mx,Value.float .f64 (ar fq64),Value.float .f64 fq87,Value.float .f64 (bb (aF g.1) (aF ((((((ag g p).1).2).1)+1)*((((((ag g p).1).2).2).1)+1))))]) aX rfl rfl bx121 rfl nq (AllOne.all (.cons rfl .nil)) rfl ?_
    intro w130 ch131 bx132
    clear bx121
    refine a8 (ak (a5 rfl (lx (aQ (m:=1) (n:=1) rfl rfl (by omega)) (mi 2 (a8 (aY (a6 (a5 rfl (lx (b6 (m:=2) (n:=4) rfl rfl) (a8 (a6 ?_)))))))))))
    refine ae rfl rfl (am (a6 (ao (a6 (a5 rfl ?_)))))
    have C133:=cg [5] (ch123.n.seq (hc126.n.seq (hb129.n.seq (ch131.l rfl))))
    replace o112:=o112.ca C133
    refine lx (ab (v:=v110) (i:=2) nF rfl rfl o112.flat rfl (by omega) (by(simp only[List.length_set,List.length_append,List.length_cons,List.length_nil,List.length_replicate,List.length_map,List.length_take,List.length_drop];omega))) (lx (aZ dk rfl (dT hv105 o112 rfl)) (ma (vp b30 5) (a8 (a6 (bv g108 rfl d4 (by kernel_rfl) ?_)))))
    intro w135 ch134
    refine qm (vp b30 5) (qv (vp b30 5) (λw' hw'=>aK rfl) ?_)
    replace bx132:=bx132.cn ch134
    refine qx (λw' hw'=>a9 aX rfl (bx132.bel hw') rfl) (qm (vp b30 5) (qv (vp b30 5) (λw' hw'=>aK rfl) (qx (λw' hw'=>a9 aX rfl (bx132.bel hw') rfl) (qv (vb (cQ fq87)) (λw' hw'=>dJ (a:=fq87) rfl rfl) (bM ?_)))))
    intro w136 hc137
    replace hc137:=aj hc137 g108
    by_cases p27_138:cQ fq87=true
    ·
     refine ae rfl p27_138 (a5 rfl (mv (vp b30 5) (mv (vp b30 5) (lw (vp b30 5) (aK rfl) ?_))))
     replace bx132:=bx132.cn hc137
     refine lx (a9 aX rfl bx132 rfl) (lo (aN (v:=Value.float .f64 (ar fq87)) (az (vals:=[Value.float .f64 fq87]) Try.func26 dq dr rfl) (d3 w136 fq87 (by exact kv hfq87 hv87)) ?_))
     intro w139 hb140
     replace hb140:=aj hb140 g108
     refine lw (vp b30 5) (aK rfl) (lo ?_)
     replace bx132:=bx132.cn hb140
     refine au (cs':=[Value.float .f64 sm,Value.float .f64 (ar fq58),Value.float .f64 mn,Value.float .f64 mx,Value.float .f64 (ar fq64),Value.float .f64 (ar fq87),Value.float .f64 (bb (aF g.1) (aF ((((((ag g p).1).2).1)+1)*((((((ag g p).1).2).2).1)+1))))]) aX rfl rfl bx132 rfl nq (AllOne.all (.cons rfl .nil)) rfl ?_
     intro w141 ch142 bx143
     clear bx132
     refine a8 (ak (a5 rfl (lx (aQ (m:=2) (n:=1) rfl rfl (by omega)) (mi 3 (a8 (aY (a6 (a5 rfl (lx (b6 (m:=3) (n:=4) rfl rfl) (a8 (a6 ?_)))))))))))
     refine ae rfl rfl (am (a6 (ao (a6 (a5 rfl ?_)))))
     have C144:=cg [5] (ch134.n.seq (hc137.n.seq (hb140.n.seq (ch142.l rfl))))
     replace o112:=o112.ca C144
     refine lx (ab (v:=v110) (i:=3) nF rfl rfl o112.flat rfl (by omega) (by(simp only[List.length_set,List.length_append,List.length_cons,List.length_nil,List.length_replicate,List.length_map,List.length_take,List.length_drop];omega))) (lx (aZ dk rfl (dT hv107 o112 rfl)) (ma (vp b30 6) (a8 (a6 (bv g108 rfl d4 (by kernel_rfl) ?_)))))
     intro w146 ch145
     refine qm (vp b30 6) (qv (vp b30 6) (λw' hw'=>aK rfl) ?_)
     replace bx143:=bx143.cn ch145
     refine qx (λw' hw'=>a9 aX rfl (bx143.bel hw') rfl) (qm (vp b30 6) (qv (vp b30 6) (λw' hw'=>aK rfl) (qx (λw' hw'=>a9 aX rfl (bx143.bel hw') rfl) (qv (vb (cQ (bb (aF g.1) (aF ((((((ag g p).1).2).1)+1)*((((((ag g p).1).2).2).1)+1)))))) (λw' hw'=>dJ (a:=(bb (aF g.1) (aF ((((((ag g p).1).2).1)+1)*((((((ag g p).1).2).2).1)+1))))) rfl rfl) (bM ?_)))))
     intro w147 hc148
     replace hc148:=aj hc148 g108
     by_cases p27_149:cQ (bb (aF g.1) (aF ((((((ag g p).1).2).1)+1)*((((((ag g p).1).2).2).1)+1))))=true
     ·
      refine ae rfl p27_149 (a5 rfl (mv (vp b30 6) (mv (vp b30 6) (lw (vp b30 6) (aK rfl) ?_))))
      replace bx143:=bx143.cn hc148
      refine lx (a9 aX rfl bx143 rfl) (lo (aN (v:=Value.float .f64 (ar (bb (aF g.1) (aF ((((((ag g p).1).2).1)+1)*((((((ag g p).1).2).2).1)+1)))))) (az (vals:=[Value.float .f64 (bb (aF g.1) (aF ((((((ag g p).1).2).1)+1)*((((((ag g p).1).2).2).1)+1))))]) Try.func26 dq dr rfl) (d3 w147 (bb (aF g.1) (aF ((((((ag g p).1).2).1)+1)*((((((ag g p).1).2).2).1)+1)))) (by exact .inr ‹_›)) ?_))
      intro w150 hb151
      replace hb151:=aj hb151 g108
      refine lw (vp b30 6) (aK rfl) (lo ?_)
      replace bx143:=bx143.cn hb151
      refine au (cs':=[Value.float .f64 sm,Value.float .f64 (ar fq58),Value.float .f64 mn,Value.float .f64 mx,Value.float .f64 (ar fq64),Value.float .f64 (ar fq87),Value.float .f64 (ar (bb (aF g.1) (aF ((((((ag g p).1).2).1)+1)*((((((ag g p).1).2).2).1)+1)))))]) aX rfl rfl bx143 rfl nq (AllOne.all (.cons rfl .nil)) rfl ?_
      intro w152 ch153 bx154
      clear bx143
      refine a8 (ak (a5 rfl (lx (aQ (m:=3) (n:=1) rfl rfl (by omega)) (mi 4 (a8 (aY (a6 (a5 rfl (lx (b6 (m:=4) (n:=4) rfl rfl) (a8 (a6 ?_)))))))))))
      refine af rfl rfl (aO rfl (a6 ?_))
      clear o112
      refine a5 rfl (lx (ad (ds:=[Value.float .f64 sm,Value.float .f64 (ar fq58),Value.float .f64 mn,Value.float .f64 mx,Value.float .f64 (ar fq64),Value.float .f64 (ar fq87),Value.float .f64 (ar (bb (aF g.1) (aF ((((((ag g p).1).2).1)+1)*((((((ag g p).1).2).2).1)+1)))))]) bh zs8 bx154 rfl rfl) (lo ?_))
      have C158:=cg [5,6] (ch79.n.seq ((ch81.l rfl).seq (hb84.n.seq (ch86.n.seq ((ch91.l rfl).seq ((ch98.l rfl).seq (ch111.n.seq (ch113.n.seq (hc116.n.seq (hb118.n.seq ((ch120.l rfl).seq (ch123.n.seq (hc126.n.seq (hb129.n.seq ((ch131.l rfl).seq (ch134.n.seq (hc137.n.seq (hb140.n.seq ((ch142.l rfl).seq (ch145.n.seq (hc148.n.seq (hb151.n.seq (ch153.l rfl)))))))))))))))))))))))
      replace bx15:=bx15.ca C158
      refine au (cs':=[Value.float .f64 sm,Value.float .f64 (ar fq58),Value.float .f64 mn,Value.float .f64 mx,Value.float .f64 (ar fq64),Value.float .f64 (ar fq87),Value.float .f64 (ar (bb (aF g.1) (aF ((((((ag g p).1).2).1)+1)*((((((ag g p).1).2).2).1)+1)))))]) bh zs4 rfl bx15 rfl nq (AllOne.all (.cons rfl (.cons rfl (.cons rfl (.cons rfl (.cons rfl (.cons rfl (.cons rfl .nil)))))))) rfl ?_
      intro w155 ch156 bx157
      clear bx15
      refine ai 0 (a8 (av (vs:=[vg [Value.float .f64 sm,Value.float .f64 (ar fq58),Value.float .f64 mn,Value.float .f64 mx,Value.float .f64 (ar fq64),Value.float .f64 (ar fq87),Value.float .f64 (ar (bb (aF g.1) (aF ((((((ag g p).1).2).1)+1)*((((((ag g p).1).2).2).1)+1)))))],vi 0]) Try.func8 (.cell zs4 (cd (ds:=[Value.float .f64 sm,Value.float .f64 (ar fq58),Value.float .f64 mn,Value.float .f64 mx,Value.float .f64 (ar fq64),Value.float .f64 (ar fq87),Value.float .f64 (ar (bb (aF g.1) (aF ((((((ag g p).1).2).1)+1)*((((((ag g p).1).2).2).1)+1)))))]) bh bx157 rfl rfl) (.tmp rfl .nil)) ?_))
      have e0:((sm,ar fq58,mn,mx,ar fq64,ar fq87,ar (bb (aF g.1) (aF ((((((ag g p).1).2).1)+1)*((((((ag g p).1).2).2).1)+1))))):(Nat)×(Nat)×(Nat)×(Nat)×(Nat)×(Nat)×(Nat))=((al g p).1):=by
        exact dG hf0 hS (by exact c1.1 ‹_›) hmn hmx (by exact c2.1 ‹_›) (by exact c3.1 ‹_›) (by exact c4.1 ‹_›)
      have e1:(0:Int)=((al g p).2):=by
        rw[d8 hf0]
      have C159:=cg [3,5,6] (ch79.n.seq ((ch81.l rfl).seq (hb84.n.seq (ch86.n.seq ((ch91.l rfl).seq ((ch98.l rfl).seq (ch111.n.seq (ch113.n.seq (hc116.n.seq (hb118.n.seq ((ch120.l rfl).seq (ch123.n.seq (hc126.n.seq (hb129.n.seq ((ch131.l rfl).seq (ch134.n.seq (hc137.n.seq (hb140.n.seq ((ch142.l rfl).seq (ch145.n.seq (hc148.n.seq (hb151.n.seq ((ch153.l rfl).seq (ch156.l rfl))))))))))))))))))))))))
      replace bH:=bH.ca C159
      exact⟨(co (a:=(sm,ar fq58,mn,mx,ar fq64,ar fq87,ar (bb (aF g.1) (aF ((((((ag g p).1).2).1)+1)*((((((ag g p).1).2).2).1)+1)))))) (b:=0) (λ(z0:(Nat)×(Nat)×(Nat)×(Nat)×(Nat)×(Nat)×(Nat)) (z1:Int)=>Ending.returned (vt [vg [Value.float .f64 z0.1,Value.float .f64 z0.2.1,Value.float .f64 z0.2.2.1,Value.float .f64 z0.2.2.2.1,Value.float .f64 z0.2.2.2.2.1,Value.float .f64 z0.2.2.2.2.2.1,Value.float .f64 z0.2.2.2.2.2.2],vi z1])) e0 e1),bH.below⟩
     refine af rfl (Bool.eq_false_iff.2 p27_149) (am (ak (a5 rfl (lx (aQ (m:=3) (n:=1) rfl rfl (by omega)) (mi 4 (a8 (aY (a6 (a5 rfl (lx (b6 (m:=4) (n:=4) rfl rfl) ?_))))))))))
     refine a8 (a6 (af rfl rfl (aO rfl (a6 ?_))))
     clear o112
     refine a5 rfl ?_
     replace bx143:=bx143.cn hc148
     refine lx (ad (ds:=[Value.float .f64 sm,Value.float .f64 (ar fq58),Value.float .f64 mn,Value.float .f64 mx,Value.float .f64 (ar fq64),Value.float .f64 (ar fq87),Value.float .f64 (bb (aF g.1) (aF ((((((ag g p).1).2).1)+1)*((((((ag g p).1).2).2).1)+1))))]) bh zs8 bx143 rfl rfl) (lo ?_)
     have C163:=cg [5,6] (ch79.n.seq ((ch81.l rfl).seq (hb84.n.seq (ch86.n.seq ((ch91.l rfl).seq ((ch98.l rfl).seq (ch111.n.seq (ch113.n.seq (hc116.n.seq (hb118.n.seq ((ch120.l rfl).seq (ch123.n.seq (hc126.n.seq (hb129.n.seq ((ch131.l rfl).seq (ch134.n.seq (hc137.n.seq (hb140.n.seq ((ch142.l rfl).seq (ch145.n.seq hc148.n))))))))))))))))))))
     replace bx15:=bx15.ca C163
     refine au (cs':=[Value.float .f64 sm,Value.float .f64 (ar fq58),Value.float .f64 mn,Value.float .f64 mx,Value.float .f64 (ar fq64),Value.float .f64 (ar fq87),Value.float .f64 (bb (aF g.1) (aF ((((((ag g p).1).2).1)+1)*((((((ag g p).1).2).2).1)+1))))]) bh zs4 rfl bx15 rfl nq (AllOne.all (.cons rfl (.cons rfl (.cons rfl (.cons rfl (.cons rfl (.cons rfl (.cons rfl .nil)))))))) rfl ?_
     intro w160 ch161 bx162
     clear bx15
     refine ai 0 (a8 (av (vs:=[vg [Value.float .f64 sm,Value.float .f64 (ar fq58),Value.float .f64 mn,Value.float .f64 mx,Value.float .f64 (ar fq64),Value.float .f64 (ar fq87),Value.float .f64 (bb (aF g.1) (aF ((((((ag g p).1).2).1)+1)*((((((ag g p).1).2).2).1)+1))))],vi 0]) Try.func8 (.cell zs4 (cd (ds:=[Value.float .f64 sm,Value.float .f64 (ar fq58),Value.float .f64 mn,Value.float .f64 mx,Value.float .f64 (ar fq64),Value.float .f64 (ar fq87),Value.float .f64 (bb (aF g.1) (aF ((((((ag g p).1).2).1)+1)*((((((ag g p).1).2).2).1)+1))))]) bh bx162 rfl rfl) (.tmp rfl .nil)) ?_))
     have e0:((sm,ar fq58,mn,mx,ar fq64,ar fq87,bb (aF g.1) (aF ((((((ag g p).1).2).1)+1)*((((((ag g p).1).2).2).1)+1)))):(Nat)×(Nat)×(Nat)×(Nat)×(Nat)×(Nat)×(Nat))=((al g p).1):=by
       exact dG hf0 hS (by exact c1.1 ‹_›) hmn hmx (by exact c2.1 ‹_›) (by exact c3.1 ‹_›) (by exact c4.2 ‹_›)
     have e1:(0:Int)=((al g p).2):=by
       rw[d8 hf0]
     have C164:=cg [3,5,6] (ch79.n.seq ((ch81.l rfl).seq (hb84.n.seq (ch86.n.seq ((ch91.l rfl).seq ((ch98.l rfl).seq (ch111.n.seq (ch113.n.seq (hc116.n.seq (hb118.n.seq ((ch120.l rfl).seq (ch123.n.seq (hc126.n.seq (hb129.n.seq ((ch131.l rfl).seq (ch134.n.seq (hc137.n.seq (hb140.n.seq ((ch142.l rfl).seq (ch145.n.seq (hc148.n.seq (ch161.l rfl))))))))))))))))))))))
     replace bH:=bH.ca C164
     exact⟨(co (a:=(sm,ar fq58,mn,mx,ar fq64,ar fq87,bb (aF g.1) (aF ((((((ag g p).1).2).1)+1)*((((((ag g p).1).2).2).1)+1))))) (b:=0) (λ(z0:(Nat)×(Nat)×(Nat)×(Nat)×(Nat)×(Nat)×(Nat)) (z1:Int)=>Ending.returned (vt [vg [Value.float .f64 z0.1,Value.float .f64 z0.2.1,Value.float .f64 z0.2.2.1,Value.float .f64 z0.2.2.2.1,Value.float .f64 z0.2.2.2.2.1,Value.float .f64 z0.2.2.2.2.2.1,Value.float .f64 z0.2.2.2.2.2.2],vi z1])) e0 e1),bH.below⟩
    refine af rfl (Bool.eq_false_iff.2 p27_138) (am (ak (a5 rfl (lx (aQ (m:=2) (n:=1) rfl rfl (by omega)) (mi 3 (a8 (aY (a6 (a5 rfl (lx (b6 (m:=3) (n:=4) rfl rfl) ?_))))))))))
    refine a8 (a6 (ae rfl rfl (am (a6 (ao (a6 (a5 rfl ?_)))))))
    replace o112:=(o112.cn ch134).cn hc137
    refine lx (ab (v:=v110) (i:=3) nF rfl rfl o112.flat rfl (by omega) (by(simp only[List.length_set,List.length_append,List.length_cons,List.length_nil,List.length_replicate,List.length_map,List.length_take,List.length_drop];omega))) (lx (aZ dk rfl (dT hv107 o112 rfl)) (ma (vp b30 6) (a8 (a6 (bv g108 rfl d4 (by kernel_rfl) ?_)))))
    intro w166 ch165
    refine qm (vp b30 6) (qv (vp b30 6) (λw' hw'=>aK rfl) ?_)
    replace bx132:=(bx132.cn hc137).cn ch165
    refine qx (λw' hw'=>a9 aX rfl (bx132.bel hw') rfl) (qm (vp b30 6) (qv (vp b30 6) (λw' hw'=>aK rfl) (qx (λw' hw'=>a9 aX rfl (bx132.bel hw') rfl) (qv (vb (cQ (bb (aF g.1) (aF ((((((ag g p).1).2).1)+1)*((((((ag g p).1).2).2).1)+1)))))) (λw' hw'=>dJ (a:=(bb (aF g.1) (aF ((((((ag g p).1).2).1)+1)*((((((ag g p).1).2).2).1)+1))))) rfl rfl) (bM ?_)))))
    intro w167 hc168
    replace hc168:=aj hc168 g108
    by_cases p27_169:cQ (bb (aF g.1) (aF ((((((ag g p).1).2).1)+1)*((((((ag g p).1).2).2).1)+1))))=true
    ·
     refine ae rfl p27_169 (a5 rfl (mv (vp b30 6) (mv (vp b30 6) (lw (vp b30 6) (aK rfl) ?_))))
     replace bx132:=bx132.cn hc168
     refine lx (a9 aX rfl bx132 rfl) (lo (aN (v:=Value.float .f64 (ar (bb (aF g.1) (aF ((((((ag g p).1).2).1)+1)*((((((ag g p).1).2).2).1)+1)))))) (az (vals:=[Value.float .f64 (bb (aF g.1) (aF ((((((ag g p).1).2).1)+1)*((((((ag g p).1).2).2).1)+1))))]) Try.func26 dq dr rfl) (d3 w167 (bb (aF g.1) (aF ((((((ag g p).1).2).1)+1)*((((((ag g p).1).2).2).1)+1)))) (by exact .inr ‹_›)) ?_))
     intro w170 hb171
     replace hb171:=aj hb171 g108
     refine lw (vp b30 6) (aK rfl) (lo ?_)
     replace bx132:=bx132.cn hb171
     refine au (cs':=[Value.float .f64 sm,Value.float .f64 (ar fq58),Value.float .f64 mn,Value.float .f64 mx,Value.float .f64 (ar fq64),Value.float .f64 fq87,Value.float .f64 (ar (bb (aF g.1) (aF ((((((ag g p).1).2).1)+1)*((((((ag g p).1).2).2).1)+1)))))]) aX rfl rfl bx132 rfl nq (AllOne.all (.cons rfl .nil)) rfl ?_
     intro w172 ch173 bx174
     clear bx132
     refine a8 (ak (a5 rfl (lx (aQ (m:=3) (n:=1) rfl rfl (by omega)) (mi 4 (a8 (aY (a6 (a5 rfl (lx (b6 (m:=4) (n:=4) rfl rfl) (a8 (a6 ?_)))))))))))
     refine af rfl rfl (aO rfl (a6 ?_))
     clear o112
     refine a5 rfl (lx (ad (ds:=[Value.float .f64 sm,Value.float .f64 (ar fq58),Value.float .f64 mn,Value.float .f64 mx,Value.float .f64 (ar fq64),Value.float .f64 fq87,Value.float .f64 (ar (bb (aF g.1) (aF ((((((ag g p).1).2).1)+1)*((((((ag g p).1).2).2).1)+1)))))]) bh zs8 bx174 rfl rfl) (lo ?_))
     have C178:=cg [5,6] (ch79.n.seq ((ch81.l rfl).seq (hb84.n.seq (ch86.n.seq ((ch91.l rfl).seq ((ch98.l rfl).seq (ch111.n.seq (ch113.n.seq (hc116.n.seq (hb118.n.seq ((ch120.l rfl).seq (ch123.n.seq (hc126.n.seq (hb129.n.seq ((ch131.l rfl).seq (ch134.n.seq (hc137.n.seq (ch165.n.seq (hc168.n.seq (hb171.n.seq (ch173.l rfl)))))))))))))))))))))
     replace bx15:=bx15.ca C178
     refine au (cs':=[Value.float .f64 sm,Value.float .f64 (ar fq58),Value.float .f64 mn,Value.float .f64 mx,Value.float .f64 (ar fq64),Value.float .f64 fq87,Value.float .f64 (ar (bb (aF g.1) (aF ((((((ag g p).1).2).1)+1)*((((((ag g p).1).2).2).1)+1)))))]) bh zs4 rfl bx15 rfl nq (AllOne.all (.cons rfl (.cons rfl (.cons rfl (.cons rfl (.cons rfl (.cons rfl (.cons rfl .nil)))))))) rfl ?_
     intro w175 ch176 bx177
     clear bx15
     refine ai 0 (a8 (av (vs:=[vg [Value.float .f64 sm,Value.float .f64 (ar fq58),Value.float .f64 mn,Value.float .f64 mx,Value.float .f64 (ar fq64),Value.float .f64 fq87,Value.float .f64 (ar (bb (aF g.1) (aF ((((((ag g p).1).2).1)+1)*((((((ag g p).1).2).2).1)+1)))))],vi 0]) Try.func8 (.cell zs4 (cd (ds:=[Value.float .f64 sm,Value.float .f64 (ar fq58),Value.float .f64 mn,Value.float .f64 mx,Value.float .f64 (ar fq64),Value.float .f64 fq87,Value.float .f64 (ar (bb (aF g.1) (aF ((((((ag g p).1).2).1)+1)*((((((ag g p).1).2).2).1)+1)))))]) bh bx177 rfl rfl) (.tmp rfl .nil)) ?_))
     have e0:((sm,ar fq58,mn,mx,ar fq64,fq87,ar (bb (aF g.1) (aF ((((((ag g p).1).2).1)+1)*((((((ag g p).1).2).2).1)+1))))):(Nat)×(Nat)×(Nat)×(Nat)×(Nat)×(Nat)×(Nat))=((al g p).1):=by
       exact dG hf0 hS (by exact c1.1 ‹_›) hmn hmx (by exact c2.1 ‹_›) (by exact c3.2 ‹_›) (by exact c4.1 ‹_›)
     have e1:(0:Int)=((al g p).2):=by
       rw[d8 hf0]
     have C179:=cg [3,5,6] (ch79.n.seq ((ch81.l rfl).seq (hb84.n.seq (ch86.n.seq ((ch91.l rfl).seq ((ch98.l rfl).seq (ch111.n.seq (ch113.n.seq (hc116.n.seq (hb118.n.seq ((ch120.l rfl).seq (ch123.n.seq (hc126.n.seq (hb129.n.seq ((ch131.l rfl).seq (ch134.n.seq (hc137.n.seq (ch165.n.seq (hc168.n.seq (hb171.n.seq ((ch173.l rfl).seq (ch176.l rfl))))))))))))))))))))))
     replace bH:=bH.ca C179
     exact⟨(co (a:=(sm,ar fq58,mn,mx,ar fq64,fq87,ar (bb (aF g.1) (aF ((((((ag g p).1).2).1)+1)*((((((ag g p).1).2).2).1)+1)))))) (b:=0) (λ(z0:(Nat)×(Nat)×(Nat)×(Nat)×(Nat)×(Nat)×(Nat)) (z1:Int)=>Ending.returned (vt [vg [Value.float .f64 z0.1,Value.float .f64 z0.2.1,Value.float .f64 z0.2.2.1,Value.float .f64 z0.2.2.2.1,Value.float .f64 z0.2.2.2.2.1,Value.float .f64 z0.2.2.2.2.2.1,Value.float .f64 z0.2.2.2.2.2.2],vi z1])) e0 e1),bH.below⟩
    refine af rfl (Bool.eq_false_iff.2 p27_169) (am (ak (a5 rfl (lx (aQ (m:=3) (n:=1) rfl rfl (by omega)) (mi 4 (a8 (aY (a6 (a5 rfl (lx (b6 (m:=4) (n:=4) rfl rfl) ?_))))))))))
    refine a8 (a6 (af rfl rfl (aO rfl (a6 ?_))))
    clear o112
    refine a5 rfl ?_
    replace bx132:=bx132.cn hc168
    refine lx (ad (ds:=[Value.float .f64 sm,Value.float .f64 (ar fq58),Value.float .f64 mn,Value.float .f64 mx,Value.float .f64 (ar fq64),Value.float .f64 fq87,Value.float .f64 (bb (aF g.1) (aF ((((((ag g p).1).2).1)+1)*((((((ag g p).1).2).2).1)+1))))]) bh zs8 bx132 rfl rfl) (lo ?_)
    have C183:=cg [5,6] (ch79.n.seq ((ch81.l rfl).seq (hb84.n.seq (ch86.n.seq ((ch91.l rfl).seq ((ch98.l rfl).seq (ch111.n.seq (ch113.n.seq (hc116.n.seq (hb118.n.seq ((ch120.l rfl).seq (ch123.n.seq (hc126.n.seq (hb129.n.seq ((ch131.l rfl).seq (ch134.n.seq (hc137.n.seq (ch165.n.seq hc168.n))))))))))))))))))
    replace bx15:=bx15.ca C183
    refine au (cs':=[Value.float .f64 sm,Value.float .f64 (ar fq58),Value.float .f64 mn,Value.float .f64 mx,Value.float .f64 (ar fq64),Value.float .f64 fq87,Value.float .f64 (bb (aF g.1) (aF ((((((ag g p).1).2).1)+1)*((((((ag g p).1).2).2).1)+1))))]) bh zs4 rfl bx15 rfl nq (AllOne.all (.cons rfl (.cons rfl (.cons rfl (.cons rfl (.cons rfl (.cons rfl (.cons rfl .nil)))))))) rfl ?_
    intro w180 ch181 bx182
    clear bx15
    refine ai 0 (a8 (av (vs:=[vg [Value.float .f64 sm,Value.float .f64 (ar fq58),Value.float .f64 mn,Value.float .f64 mx,Value.float .f64 (ar fq64),Value.float .f64 fq87,Value.float .f64 (bb (aF g.1) (aF ((((((ag g p).1).2).1)+1)*((((((ag g p).1).2).2).1)+1))))],vi 0]) Try.func8 (.cell zs4 (cd (ds:=[Value.float .f64 sm,Value.float .f64 (ar fq58),Value.float .f64 mn,Value.float .f64 mx,Value.float .f64 (ar fq64),Value.float .f64 fq87,Value.float .f64 (bb (aF g.1) (aF ((((((ag g p).1).2).1)+1)*((((((ag g p).1).2).2).1)+1))))]) bh bx182 rfl rfl) (.tmp rfl .nil)) ?_))
    have e0:((sm,ar fq58,mn,mx,ar fq64,fq87,bb (aF g.1) (aF ((((((ag g p).1).2).1)+1)*((((((ag g p).1).2).2).1)+1)))):(Nat)×(Nat)×(Nat)×(Nat)×(Nat)×(Nat)×(Nat))=((al g p).1):=by
      exact dG hf0 hS (by exact c1.1 ‹_›) hmn hmx (by exact c2.1 ‹_›) (by exact c3.2 ‹_›) (by exact c4.2 ‹_›)
    have e1:(0:Int)=((al g p).2):=by
      rw[d8 hf0]
    have C184:=cg [3,5,6] (ch79.n.seq ((ch81.l rfl).seq (hb84.n.seq (ch86.n.seq ((ch91.l rfl).seq ((ch98.l rfl).seq (ch111.n.seq (ch113.n.seq (hc116.n.seq (hb118.n.seq ((ch120.l rfl).seq (ch123.n.seq (hc126.n.seq (hb129.n.seq ((ch131.l rfl).seq (ch134.n.seq (hc137.n.seq (ch165.n.seq (hc168.n.seq (ch181.l rfl))))))))))))))))))))
    replace bH:=bH.ca C184
    exact⟨(co (a:=(sm,ar fq58,mn,mx,ar fq64,fq87,bb (aF g.1) (aF ((((((ag g p).1).2).1)+1)*((((((ag g p).1).2).2).1)+1))))) (b:=0) (λ(z0:(Nat)×(Nat)×(Nat)×(Nat)×(Nat)×(Nat)×(Nat)) (z1:Int)=>Ending.returned (vt [vg [Value.float .f64 z0.1,Value.float .f64 z0.2.1,Value.float .f64 z0.2.2.1,Value.float .f64 z0.2.2.2.1,Value.float .f64 z0.2.2.2.2.1,Value.float .f64 z0.2.2.2.2.2.1,Value.float .f64 z0.2.2.2.2.2.2],vi z1])) e0 e1),bH.below⟩
   refine af rfl (Bool.eq_false_iff.2 p27_127) (am (ak (a5 rfl (lx (aQ (m:=1) (n:=1) rfl rfl (by omega)) (mi 2 (a8 (aY (a6 (a5 rfl (lx (b6 (m:=2) (n:=4) rfl rfl) ?_))))))))))
   refine a8 (a6 (ae rfl rfl (am (a6 (ao (a6 (a5 rfl ?_)))))))
   replace o112:=(o112.cn ch123).cn hc126
   refine lx (ab (v:=v110) (i:=2) nF rfl rfl o112.flat rfl (by omega) (by(simp only[List.length_set,List.length_append,List.length_cons,List.length_nil,List.length_replicate,List.length_map,List.length_take,List.length_drop];omega))) (lx (aZ dk rfl (dT hv105 o112 rfl)) (ma (vp b30 5) (a8 (a6 (bv g108 rfl d4 (by kernel_rfl) ?_)))))
   intro w186 ch185
   refine qm (vp b30 5) (qv (vp b30 5) (λw' hw'=>aK rfl) ?_)
   replace bx121:=(bx121.cn hc126).cn ch185
   refine qx (λw' hw'=>a9 aX rfl (bx121.bel hw') rfl) (qm (vp b30 5) (qv (vp b30 5) (λw' hw'=>aK rfl) (qx (λw' hw'=>a9 aX rfl (bx121.bel hw') rfl) (qv (vb (cQ fq87)) (λw' hw'=>dJ (a:=fq87) rfl rfl) (bM ?_)))))
   intro w187 hc188
   replace hc188:=aj hc188 g108
   by_cases p27_189:cQ fq87=true
   ·
    refine ae rfl p27_189 (a5 rfl (mv (vp b30 5) (mv (vp b30 5) (lw (vp b30 5) (aK rfl) ?_))))
    replace bx121:=bx121.cn hc188
    refine lx (a9 aX rfl bx121 rfl) (lo (aN (v:=Value.float .f64 (ar fq87)) (az (vals:=[Value.float .f64 fq87]) Try.func26 dq dr rfl) (d3 w187 fq87 (by exact kv hfq87 hv87)) ?_))
    intro w190 hb191
    replace hb191:=aj hb191 g108
    refine lw (vp b30 5) (aK rfl) (lo ?_)
    replace bx121:=bx121.cn hb191
    refine au (cs':=[Value.float .f64 sm,Value.float .f64 (ar fq58),Value.float .f64 mn,Value.float .f64 mx,Value.float .f64 fq64,Value.float .f64 (ar fq87),Value.float .f64 (bb (aF g.1) (aF ((((((ag g p).1).2).1)+1)*((((((ag g p).1).2).2).1)+1))))]) aX rfl rfl bx121 rfl nq (AllOne.all (.cons rfl .nil)) rfl ?_
    intro w192 ch193 bx194
    clear bx121
    refine a8 (ak (a5 rfl (lx (aQ (m:=2) (n:=1) rfl rfl (by omega)) (mi 3 (a8 (aY (a6 (a5 rfl (lx (b6 (m:=3) (n:=4) rfl rfl) (a8 (a6 ?_)))))))))))
    refine ae rfl rfl (am (a6 (ao (a6 (a5 rfl ?_)))))
    have C195:=cg [5] (ch185.n.seq (hc188.n.seq (hb191.n.seq (ch193.l rfl))))
    replace o112:=o112.ca C195
    refine lx (ab (v:=v110) (i:=3) nF rfl rfl o112.flat rfl (by omega) (by(simp only[List.length_set,List.length_append,List.length_cons,List.length_nil,List.length_replicate,List.length_map,List.length_take,List.length_drop];omega))) (lx (aZ dk rfl (dT hv107 o112 rfl)) (ma (vp b30 6) (a8 (a6 (bv g108 rfl d4 (by kernel_rfl) ?_)))))
    intro w197 ch196
    refine qm (vp b30 6) (qv (vp b30 6) (λw' hw'=>aK rfl) ?_)
    replace bx194:=bx194.cn ch196
    refine qx (λw' hw'=>a9 aX rfl (bx194.bel hw') rfl) (qm (vp b30 6) (qv (vp b30 6) (λw' hw'=>aK rfl) (qx (λw' hw'=>a9 aX rfl (bx194.bel hw') rfl) (qv (vb (cQ (bb (aF g.1) (aF ((((((ag g p).1).2).1)+1)*((((((ag g p).1).2).2).1)+1)))))) (λw' hw'=>dJ (a:=(bb (aF g.1) (aF ((((((ag g p).1).2).1)+1)*((((((ag g p).1).2).2).1)+1))))) rfl rfl) (bM ?_)))))
    intro w198 hc199
    replace hc199:=aj hc199 g108
    by_cases p27_200:cQ (bb (aF g.1) (aF ((((((ag g p).1).2).1)+1)*((((((ag g p).1).2).2).1)+1))))=true
    ·
     refine ae rfl p27_200 (a5 rfl (mv (vp b30 6) (mv (vp b30 6) (lw (vp b30 6) (aK rfl) ?_))))
     replace bx194:=bx194.cn hc199
     refine lx (a9 aX rfl bx194 rfl) (lo (aN (v:=Value.float .f64 (ar (bb (aF g.1) (aF ((((((ag g p).1).2).1)+1)*((((((ag g p).1).2).2).1)+1)))))) (az (vals:=[Value.float .f64 (bb (aF g.1) (aF ((((((ag g p).1).2).1)+1)*((((((ag g p).1).2).2).1)+1))))]) Try.func26 dq dr rfl) (d3 w198 (bb (aF g.1) (aF ((((((ag g p).1).2).1)+1)*((((((ag g p).1).2).2).1)+1)))) (by exact .inr ‹_›)) ?_))
     intro w201 hb202
     replace hb202:=aj hb202 g108
     refine lw (vp b30 6) (aK rfl) (lo ?_)
     replace bx194:=bx194.cn hb202
     refine au (cs':=[Value.float .f64 sm,Value.float .f64 (ar fq58),Value.float .f64 mn,Value.float .f64 mx,Value.float .f64 fq64,Value.float .f64 (ar fq87),Value.float .f64 (ar (bb (aF g.1) (aF ((((((ag g p).1).2).1)+1)*((((((ag g p).1).2).2).1)+1)))))]) aX rfl rfl bx194 rfl nq (AllOne.all (.cons rfl .nil)) rfl ?_
     intro w203 ch204 bx205
     clear bx194
     refine a8 (ak (a5 rfl (lx (aQ (m:=3) (n:=1) rfl rfl (by omega)) (mi 4 (a8 (aY (a6 (a5 rfl (lx (b6 (m:=4) (n:=4) rfl rfl) (a8 (a6 ?_)))))))))))
     refine af rfl rfl (aO rfl (a6 ?_))
     clear o112
     refine a5 rfl (lx (ad (ds:=[Value.float .f64 sm,Value.float .f64 (ar fq58),Value.float .f64 mn,Value.float .f64 mx,Value.float .f64 fq64,Value.float .f64 (ar fq87),Value.float .f64 (ar (bb (aF g.1) (aF ((((((ag g p).1).2).1)+1)*((((((ag g p).1).2).2).1)+1)))))]) bh zs8 bx205 rfl rfl) (lo ?_))
     have C209:=cg [5,6] (ch79.n.seq ((ch81.l rfl).seq (hb84.n.seq (ch86.n.seq ((ch91.l rfl).seq ((ch98.l rfl).seq (ch111.n.seq (ch113.n.seq (hc116.n.seq (hb118.n.seq ((ch120.l rfl).seq (ch123.n.seq (hc126.n.seq (ch185.n.seq (hc188.n.seq (hb191.n.seq ((ch193.l rfl).seq (ch196.n.seq (hc199.n.seq (hb202.n.seq (ch204.l rfl)))))))))))))))))))))
     replace bx15:=bx15.ca C209
     refine au (cs':=[Value.float .f64 sm,Value.float .f64 (ar fq58),Value.float .f64 mn,Value.float .f64 mx,Value.float .f64 fq64,Value.float .f64 (ar fq87),Value.float .f64 (ar (bb (aF g.1) (aF ((((((ag g p).1).2).1)+1)*((((((ag g p).1).2).2).1)+1)))))]) bh zs4 rfl bx15 rfl nq (AllOne.all (.cons rfl (.cons rfl (.cons rfl (.cons rfl (.cons rfl (.cons rfl (.cons rfl .nil)))))))) rfl ?_
     intro w206 ch207 bx208
     clear bx15
     refine ai 0 (a8 (av (vs:=[vg [Value.float .f64 sm,Value.float .f64 (ar fq58),Value.float .f64 mn,Value.float .f64 mx,Value.float .f64 fq64,Value.float .f64 (ar fq87),Value.float .f64 (ar (bb (aF g.1) (aF ((((((ag g p).1).2).1)+1)*((((((ag g p).1).2).2).1)+1)))))],vi 0]) Try.func8 (.cell zs4 (cd (ds:=[Value.float .f64 sm,Value.float .f64 (ar fq58),Value.float .f64 mn,Value.float .f64 mx,Value.float .f64 fq64,Value.float .f64 (ar fq87),Value.float .f64 (ar (bb (aF g.1) (aF ((((((ag g p).1).2).1)+1)*((((((ag g p).1).2).2).1)+1)))))]) bh bx208 rfl rfl) (.tmp rfl .nil)) ?_))
     have e0:((sm,ar fq58,mn,mx,fq64,ar fq87,ar (bb (aF g.1) (aF ((((((ag g p).1).2).1)+1)*((((((ag g p).1).2).2).1)+1))))):(Nat)×(Nat)×(Nat)×(Nat)×(Nat)×(Nat)×(Nat))=((al g p).1):=by
       exact dG hf0 hS (by exact c1.1 ‹_›) hmn hmx (by exact c2.2 ‹_›) (by exact c3.1 ‹_›) (by exact c4.1 ‹_›)
     have e1:(0:Int)=((al g p).2):=by
       rw[d8 hf0]
     have C210:=cg [3,5,6] (ch79.n.seq ((ch81.l rfl).seq (hb84.n.seq (ch86.n.seq ((ch91.l rfl).seq ((ch98.l rfl).seq (ch111.n.seq (ch113.n.seq (hc116.n.seq (hb118.n.seq ((ch120.l rfl).seq (ch123.n.seq (hc126.n.seq (ch185.n.seq (hc188.n.seq (hb191.n.seq ((ch193.l rfl).seq (ch196.n.seq (hc199.n.seq (hb202.n.seq ((ch204.l rfl).seq (ch207.l rfl))))))))))))))))))))))
     replace bH:=bH.ca C210
     exact⟨(co (a:=(sm,ar fq58,mn,mx,fq64,ar fq87,ar (bb (aF g.1) (aF ((((((ag g p).1).2).1)+1)*((((((ag g p).1).2).2).1)+1)))))) (b:=0) (λ(z0:(Nat)×(Nat)×(Nat)×(Nat)×(Nat)×(Nat)×(Nat)) (z1:Int)=>Ending.returned (vt [vg [Value.float .f64 z0.1,Value.float .f64 z0.2.1,Value.float .f64 z0.2.2.1,Value.float .f64 z0.2.2.2.1,Value.float .f64 z0.2.2.2.2.1,Value.float .f64 z0.2.2.2.2.2.1,Value.float .f64 z0.2.2.2.2.2.2],vi z1])) e0 e1),bH.below⟩
    refine af rfl (Bool.eq_false_iff.2 p27_200) (am (ak (a5 rfl (lx (aQ (m:=3) (n:=1) rfl rfl (by omega)) (mi 4 (a8 (aY (a6 (a5 rfl (lx (b6 (m:=4) (n:=4) rfl rfl) ?_))))))))))
    refine a8 (a6 (af rfl rfl (aO rfl (a6 ?_))))
    clear o112
    refine a5 rfl ?_
    replace bx194:=bx194.cn hc199
    refine lx (ad (ds:=[Value.float .f64 sm,Value.float .f64 (ar fq58),Value.float .f64 mn,Value.float .f64 mx,Value.float .f64 fq64,Value.float .f64 (ar fq87),Value.float .f64 (bb (aF g.1) (aF ((((((ag g p).1).2).1)+1)*((((((ag g p).1).2).2).1)+1))))]) bh zs8 bx194 rfl rfl) (lo ?_)
    have C214:=cg [5,6] (ch79.n.seq ((ch81.l rfl).seq (hb84.n.seq (ch86.n.seq ((ch91.l rfl).seq ((ch98.l rfl).seq (ch111.n.seq (ch113.n.seq (hc116.n.seq (hb118.n.seq ((ch120.l rfl).seq (ch123.n.seq (hc126.n.seq (ch185.n.seq (hc188.n.seq (hb191.n.seq ((ch193.l rfl).seq (ch196.n.seq hc199.n))))))))))))))))))
    replace bx15:=bx15.ca C214
    refine au (cs':=[Value.float .f64 sm,Value.float .f64 (ar fq58),Value.float .f64 mn,Value.float .f64 mx,Value.float .f64 fq64,Value.float .f64 (ar fq87),Value.float .f64 (bb (aF g.1) (aF ((((((ag g p).1).2).1)+1)*((((((ag g p).1).2).2).1)+1))))]) bh zs4 rfl bx15 rfl nq (AllOne.all (.cons rfl (.cons rfl (.cons rfl (.cons rfl (.cons rfl (.cons rfl (.cons rfl .nil)))))))) rfl ?_
    intro w211 ch212 bx213
    clear bx15
    refine ai 0 (a8 (av (vs:=[vg [Value.float .f64 sm,Value.float .f64 (ar fq58),Value.float .f64 mn,Value.float .f64 mx,Value.float .f64 fq64,Value.float .f64 (ar fq87),Value.float .f64 (bb (aF g.1) (aF ((((((ag g p).1).2).1)+1)*((((((ag g p).1).2).2).1)+1))))],vi 0]) Try.func8 (.cell zs4 (cd (ds:=[Value.float .f64 sm,Value.float .f64 (ar fq58),Value.float .f64 mn,Value.float .f64 mx,Value.float .f64 fq64,Value.float .f64 (ar fq87),Value.float .f64 (bb (aF g.1) (aF ((((((ag g p).1).2).1)+1)*((((((ag g p).1).2).2).1)+1))))]) bh bx213 rfl rfl) (.tmp rfl .nil)) ?_))
    have e0:((sm,ar fq58,mn,mx,fq64,ar fq87,bb (aF g.1) (aF ((((((ag g p).1).2).1)+1)*((((((ag g p).1).2).2).1)+1)))):(Nat)×(Nat)×(Nat)×(Nat)×(Nat)×(Nat)×(Nat))=((al g p).1):=by
      exact dG hf0 hS (by exact c1.1 ‹_›) hmn hmx (by exact c2.2 ‹_›) (by exact c3.1 ‹_›) (by exact c4.2 ‹_›)
    have e1:(0:Int)=((al g p).2):=by
      rw[d8 hf0]
    have C215:=cg [3,5,6] (ch79.n.seq ((ch81.l rfl).seq (hb84.n.seq (ch86.n.seq ((ch91.l rfl).seq ((ch98.l rfl).seq (ch111.n.seq (ch113.n.seq (hc116.n.seq (hb118.n.seq ((ch120.l rfl).seq (ch123.n.seq (hc126.n.seq (ch185.n.seq (hc188.n.seq (hb191.n.seq ((ch193.l rfl).seq (ch196.n.seq (hc199.n.seq (ch212.l rfl))))))))))))))))))))
    replace bH:=bH.ca C215
    exact⟨(co (a:=(sm,ar fq58,mn,mx,fq64,ar fq87,bb (aF g.1) (aF ((((((ag g p).1).2).1)+1)*((((((ag g p).1).2).2).1)+1))))) (b:=0) (λ(z0:(Nat)×(Nat)×(Nat)×(Nat)×(Nat)×(Nat)×(Nat)) (z1:Int)=>Ending.returned (vt [vg [Value.float .f64 z0.1,Value.float .f64 z0.2.1,Value.float .f64 z0.2.2.1,Value.float .f64 z0.2.2.2.1,Value.float .f64 z0.2.2.2.2.1,Value.float .f64 z0.2.2.2.2.2.1,Value.float .f64 z0.2.2.2.2.2.2],vi z1])) e0 e1),bH.below⟩
   refine af rfl (Bool.eq_false_iff.2 p27_189) (am (ak (a5 rfl (lx (aQ (m:=2) (n:=1) rfl rfl (by omega)) (mi 3 (a8 (aY (a6 (a5 rfl (lx (b6 (m:=3) (n:=4) rfl rfl) ?_))))))))))
   refine a8 (a6 (ae rfl rfl (am (a6 (ao (a6 (a5 rfl ?_)))))))
   replace o112:=(o112.cn ch185).cn hc188
   refine lx (ab (v:=v110) (i:=3) nF rfl rfl o112.flat rfl (by omega) (by(simp only[List.length_set,List.length_append,List.length_cons,List.length_nil,List.length_replicate,List.length_map,List.length_take,List.length_drop];omega))) (lx (aZ dk rfl (dT hv107 o112 rfl)) (ma (vp b30 6) (a8 (a6 (bv g108 rfl d4 (by kernel_rfl) ?_)))))
   intro w217 ch216
   refine qm (vp b30 6) (qv (vp b30 6) (λw' hw'=>aK rfl) ?_)
   replace bx121:=(bx121.cn hc188).cn ch216
   refine qx (λw' hw'=>a9 aX rfl (bx121.bel hw') rfl) (qm (vp b30 6) (qv (vp b30 6) (λw' hw'=>aK rfl) (qx (λw' hw'=>a9 aX rfl (bx121.bel hw') rfl) (qv (vb (cQ (bb (aF g.1) (aF ((((((ag g p).1).2).1)+1)*((((((ag g p).1).2).2).1)+1)))))) (λw' hw'=>dJ (a:=(bb (aF g.1) (aF ((((((ag g p).1).2).1)+1)*((((((ag g p).1).2).2).1)+1))))) rfl rfl) (bM ?_)))))
   intro w218 hc219
   replace hc219:=aj hc219 g108
   by_cases p27_220:cQ (bb (aF g.1) (aF ((((((ag g p).1).2).1)+1)*((((((ag g p).1).2).2).1)+1))))=true
   ·
    refine ae rfl p27_220 (a5 rfl (mv (vp b30 6) (mv (vp b30 6) (lw (vp b30 6) (aK rfl) ?_))))
    replace bx121:=bx121.cn hc219
    refine lx (a9 aX rfl bx121 rfl) (lo (aN (v:=Value.float .f64 (ar (bb (aF g.1) (aF ((((((ag g p).1).2).1)+1)*((((((ag g p).1).2).2).1)+1)))))) (az (vals:=[Value.float .f64 (bb (aF g.1) (aF ((((((ag g p).1).2).1)+1)*((((((ag g p).1).2).2).1)+1))))]) Try.func26 dq dr rfl) (d3 w218 (bb (aF g.1) (aF ((((((ag g p).1).2).1)+1)*((((((ag g p).1).2).2).1)+1)))) (by exact .inr ‹_›)) ?_))
    intro w221 hb222
    replace hb222:=aj hb222 g108
    refine lw (vp b30 6) (aK rfl) (lo ?_)
    replace bx121:=bx121.cn hb222
    refine au (cs':=[Value.float .f64 sm,Value.float .f64 (ar fq58),Value.float .f64 mn,Value.float .f64 mx,Value.float .f64 fq64,Value.float .f64 fq87,Value.float .f64 (ar (bb (aF g.1) (aF ((((((ag g p).1).2).1)+1)*((((((ag g p).1).2).2).1)+1)))))]) aX rfl rfl bx121 rfl nq (AllOne.all (.cons rfl .nil)) rfl ?_
    intro w223 ch224 bx225
    clear bx121
    refine a8 (ak (a5 rfl (lx (aQ (m:=3) (n:=1) rfl rfl (by omega)) (mi 4 (a8 (aY (a6 (a5 rfl (lx (b6 (m:=4) (n:=4) rfl rfl) (a8 (a6 ?_)))))))))))
    refine af rfl rfl (aO rfl (a6 ?_))
    clear o112
    refine a5 rfl (lx (ad (ds:=[Value.float .f64 sm,Value.float .f64 (ar fq58),Value.float .f64 mn,Value.float .f64 mx,Value.float .f64 fq64,Value.float .f64 fq87,Value.float .f64 (ar (bb (aF g.1) (aF ((((((ag g p).1).2).1)+1)*((((((ag g p).1).2).2).1)+1)))))]) bh zs8 bx225 rfl rfl) (lo ?_))
    have C229:=cg [5,6] (ch79.n.seq ((ch81.l rfl).seq (hb84.n.seq (ch86.n.seq ((ch91.l rfl).seq ((ch98.l rfl).seq (ch111.n.seq (ch113.n.seq (hc116.n.seq (hb118.n.seq ((ch120.l rfl).seq (ch123.n.seq (hc126.n.seq (ch185.n.seq (hc188.n.seq (ch216.n.seq (hc219.n.seq (hb222.n.seq (ch224.l rfl)))))))))))))))))))
    replace bx15:=bx15.ca C229
    refine au (cs':=[Value.float .f64 sm,Value.float .f64 (ar fq58),Value.float .f64 mn,Value.float .f64 mx,Value.float .f64 fq64,Value.float .f64 fq87,Value.float .f64 (ar (bb (aF g.1) (aF ((((((ag g p).1).2).1)+1)*((((((ag g p).1).2).2).1)+1)))))]) bh zs4 rfl bx15 rfl nq (AllOne.all (.cons rfl (.cons rfl (.cons rfl (.cons rfl (.cons rfl (.cons rfl (.cons rfl .nil)))))))) rfl ?_
    intro w226 ch227 bx228
    clear bx15
    refine ai 0 (a8 (av (vs:=[vg [Value.float .f64 sm,Value.float .f64 (ar fq58),Value.float .f64 mn,Value.float .f64 mx,Value.float .f64 fq64,Value.float .f64 fq87,Value.float .f64 (ar (bb (aF g.1) (aF ((((((ag g p).1).2).1)+1)*((((((ag g p).1).2).2).1)+1)))))],vi 0]) Try.func8 (.cell zs4 (cd (ds:=[Value.float .f64 sm,Value.float .f64 (ar fq58),Value.float .f64 mn,Value.float .f64 mx,Value.float .f64 fq64,Value.float .f64 fq87,Value.float .f64 (ar (bb (aF g.1) (aF ((((((ag g p).1).2).1)+1)*((((((ag g p).1).2).2).1)+1)))))]) bh bx228 rfl rfl) (.tmp rfl .nil)) ?_))
    have e0:((sm,ar fq58,mn,mx,fq64,fq87,ar (bb (aF g.1) (aF ((((((ag g p).1).2).1)+1)*((((((ag g p).1).2).2).1)+1))))):(Nat)×(Nat)×(Nat)×(Nat)×(Nat)×(Nat)×(Nat))=((al g p).1):=by
      exact dG hf0 hS (by exact c1.1 ‹_›) hmn hmx (by exact c2.2 ‹_›) (by exact c3.2 ‹_›) (by exact c4.1 ‹_›)
    have e1:(0:Int)=((al g p).2):=by
      rw[d8 hf0]
    have C230:=cg [3,5,6] (ch79.n.seq ((ch81.l rfl).seq (hb84.n.seq (ch86.n.seq ((ch91.l rfl).seq ((ch98.l rfl).seq (ch111.n.seq (ch113.n.seq (hc116.n.seq (hb118.n.seq ((ch120.l rfl).seq (ch123.n.seq (hc126.n.seq (ch185.n.seq (hc188.n.seq (ch216.n.seq (hc219.n.seq (hb222.n.seq ((ch224.l rfl).seq (ch227.l rfl))))))))))))))))))))
    replace bH:=bH.ca C230
    exact⟨(co (a:=(sm,ar fq58,mn,mx,fq64,fq87,ar (bb (aF g.1) (aF ((((((ag g p).1).2).1)+1)*((((((ag g p).1).2).2).1)+1)))))) (b:=0) (λ(z0:(Nat)×(Nat)×(Nat)×(Nat)×(Nat)×(Nat)×(Nat)) (z1:Int)=>Ending.returned (vt [vg [Value.float .f64 z0.1,Value.float .f64 z0.2.1,Value.float .f64 z0.2.2.1,Value.float .f64 z0.2.2.2.1,Value.float .f64 z0.2.2.2.2.1,Value.float .f64 z0.2.2.2.2.2.1,Value.float .f64 z0.2.2.2.2.2.2],vi z1])) e0 e1),bH.below⟩
   refine af rfl (Bool.eq_false_iff.2 p27_220) (am (ak (a5 rfl (lx (aQ (m:=3) (n:=1) rfl rfl (by omega)) (mi 4 (a8 (aY (a6 (a5 rfl (lx (b6 (m:=4) (n:=4) rfl rfl) ?_))))))))))
   refine a8 (a6 (af rfl rfl (aO rfl (a6 ?_))))
   clear o112
   refine a5 rfl ?_
   replace bx121:=bx121.cn hc219
   refine lx (ad (ds:=[Value.float .f64 sm,Value.float .f64 (ar fq58),Value.float .f64 mn,Value.float .f64 mx,Value.float .f64 fq64,Value.float .f64 fq87,Value.float .f64 (bb (aF g.1) (aF ((((((ag g p).1).2).1)+1)*((((((ag g p).1).2).2).1)+1))))]) bh zs8 bx121 rfl rfl) (lo ?_)
   have C234:=cg [5,6] (ch79.n.seq ((ch81.l rfl).seq (hb84.n.seq (ch86.n.seq ((ch91.l rfl).seq ((ch98.l rfl).seq (ch111.n.seq (ch113.n.seq (hc116.n.seq (hb118.n.seq ((ch120.l rfl).seq (ch123.n.seq (hc126.n.seq (ch185.n.seq (hc188.n.seq (ch216.n.seq hc219.n))))))))))))))))
   replace bx15:=bx15.ca C234
   refine au (cs':=[Value.float .f64 sm,Value.float .f64 (ar fq58),Value.float .f64 mn,Value.float .f64 mx,Value.float .f64 fq64,Value.float .f64 fq87,Value.float .f64 (bb (aF g.1) (aF ((((((ag g p).1).2).1)+1)*((((((ag g p).1).2).2).1)+1))))]) bh zs4 rfl bx15 rfl nq (AllOne.all (.cons rfl (.cons rfl (.cons rfl (.cons rfl (.cons rfl (.cons rfl (.cons rfl .nil)))))))) rfl ?_
   intro w231 ch232 bx233
   clear bx15
   refine ai 0 (a8 (av (vs:=[vg [Value.float .f64 sm,Value.float .f64 (ar fq58),Value.float .f64 mn,Value.float .f64 mx,Value.float .f64 fq64,Value.float .f64 fq87,Value.float .f64 (bb (aF g.1) (aF ((((((ag g p).1).2).1)+1)*((((((ag g p).1).2).2).1)+1))))],vi 0]) Try.func8 (.cell zs4 (cd (ds:=[Value.float .f64 sm,Value.float .f64 (ar fq58),Value.float .f64 mn,Value.float .f64 mx,Value.float .f64 fq64,Value.float .f64 fq87,Value.float .f64 (bb (aF g.1) (aF ((((((ag g p).1).2).1)+1)*((((((ag g p).1).2).2).1)+1))))]) bh bx233 rfl rfl) (.tmp rfl .nil)) ?_))
   have e0:((sm,ar fq58,mn,mx,fq64,fq87,bb (aF g.1) (aF ((((((ag g p).1).2).1)+1)*((((((ag g p).1).2).2).1)+1)))):(Nat)×(Nat)×(Nat)×(Nat)×(Nat)×(Nat)×(Nat))=((al g p).1):=by
     exact dG hf0 hS (by exact c1.1 ‹_›) hmn hmx (by exact c2.2 ‹_›) (by exact c3.2 ‹_›) (by exact c4.2 ‹_›)
   have e1:(0:Int)=((al g p).2):=by
     rw[d8 hf0]
   have C235:=cg [3,5,6] (ch79.n.seq ((ch81.l rfl).seq (hb84.n.seq (ch86.n.seq ((ch91.l rfl).seq ((ch98.l rfl).seq (ch111.n.seq (ch113.n.seq (hc116.n.seq (hb118.n.seq ((ch120.l rfl).seq (ch123.n.seq (hc126.n.seq (ch185.n.seq (hc188.n.seq (ch216.n.seq (hc219.n.seq (ch232.l rfl))))))))))))))))))
   replace bH:=bH.ca C235
   exact⟨(co (a:=(sm,ar fq58,mn,mx,fq64,fq87,bb (aF g.1) (aF ((((((ag g p).1).2).1)+1)*((((((ag g p).1).2).2).1)+1))))) (b:=0) (λ(z0:(Nat)×(Nat)×(Nat)×(Nat)×(Nat)×(Nat)×(Nat)) (z1:Int)=>Ending.returned (vt [vg [Value.float .f64 z0.1,Value.float .f64 z0.2.1,Value.float .f64 z0.2.2.1,Value.float .f64 z0.2.2.2.1,Value.float .f64 z0.2.2.2.2.1,Value.float .f64 z0.2.2.2.2.2.1,Value.float .f64 z0.2.2.2.2.2.2],vi z1])) e0 e1),bH.below⟩
  refine af rfl (Bool.eq_false_iff.2 p27) (am (ak (a5 rfl (lx (aQ (m:=0) (n:=1) rfl rfl (by omega)) (mi 1 (a8 (aY (a6 (a5 rfl (lx (b6 (m:=1) (n:=4) rfl rfl) ?_))))))))))
  refine a8 (a6 (ae rfl rfl (am (a6 (ao (a6 (a5 rfl ?_)))))))
  replace o112:=(o112.cn ch113).cn hc116
  refine lx (ab (v:=v110) (i:=1) nF rfl rfl o112.flat rfl (by omega) (by(simp only[List.length_set,List.length_append,List.length_cons,List.length_nil,List.length_replicate,List.length_map,List.length_take,List.length_drop];omega))) (lx (aZ dk rfl (dT hv103 o112 rfl)) (ma (vp b30 4) (a8 (a6 (bv g108 rfl d4 (by kernel_rfl) ?_)))))
  intro w237 ch236
  refine qm (vp b30 4) (qv (vp b30 4) (λw' hw'=>aK rfl) ?_)
  replace bx99:=(bx99.cn hc116).cn ch236
  refine qx (λw' hw'=>a9 aX rfl (bx99.bel hw') rfl) (qm (vp b30 4) (qv (vp b30 4) (λw' hw'=>aK rfl) (qx (λw' hw'=>a9 aX rfl (bx99.bel hw') rfl) (qv (vb (cQ fq64)) (λw' hw'=>dJ (a:=fq64) rfl rfl) (bM ?_)))))
  intro w238 hc239
  replace hc239:=aj hc239 g108
  by_cases p27_240:cQ fq64=true
  ·
   refine ae rfl p27_240 (a5 rfl (mv (vp b30 4) (mv (vp b30 4) (lw (vp b30 4) (aK rfl) ?_))))
   replace bx99:=bx99.cn hc239
   refine lx (a9 aX rfl bx99 rfl) (lo (aN (v:=Value.float .f64 (ar fq64)) (az (vals:=[Value.float .f64 fq64]) Try.func26 dq dr rfl) (d3 w238 fq64 (by exact kv hfq64 hv64)) ?_))
   intro w241 hb242
   replace hb242:=aj hb242 g108
   refine lw (vp b30 4) (aK rfl) (lo ?_)
   replace bx99:=bx99.cn hb242
   refine au (cs':=[Value.float .f64 sm,Value.float .f64 fq58,Value.float .f64 mn,Value.float .f64 mx,Value.float .f64 (ar fq64),Value.float .f64 fq87,Value.float .f64 (bb (aF g.1) (aF ((((((ag g p).1).2).1)+1)*((((((ag g p).1).2).2).1)+1))))]) aX rfl rfl bx99 rfl nq (AllOne.all (.cons rfl .nil)) rfl ?_
   intro w243 ch244 bx245
   clear bx99
   refine a8 (ak (a5 rfl (lx (aQ (m:=1) (n:=1) rfl rfl (by omega)) (mi 2 (a8 (aY (a6 (a5 rfl (lx (b6 (m:=2) (n:=4) rfl rfl) (a8 (a6 ?_)))))))))))
   refine ae rfl rfl (am (a6 (ao (a6 (a5 rfl ?_)))))
   have C246:=cg [5] (ch236.n.seq (hc239.n.seq (hb242.n.seq (ch244.l rfl))))
   replace o112:=o112.ca C246
   refine lx (ab (v:=v110) (i:=2) nF rfl rfl o112.flat rfl (by omega) (by(simp only[List.length_set,List.length_append,List.length_cons,List.length_nil,List.length_replicate,List.length_map,List.length_take,List.length_drop];omega))) (lx (aZ dk rfl (dT hv105 o112 rfl)) (ma (vp b30 5) (a8 (a6 (bv g108 rfl d4 (by kernel_rfl) ?_)))))
   intro w248 ch247
   refine qm (vp b30 5) (qv (vp b30 5) (λw' hw'=>aK rfl) ?_)
   replace bx245:=bx245.cn ch247
   refine qx (λw' hw'=>a9 aX rfl (bx245.bel hw') rfl) (qm (vp b30 5) (qv (vp b30 5) (λw' hw'=>aK rfl) (qx (λw' hw'=>a9 aX rfl (bx245.bel hw') rfl) (qv (vb (cQ fq87)) (λw' hw'=>dJ (a:=fq87) rfl rfl) (bM ?_)))))
   intro w249 hc250
   replace hc250:=aj hc250 g108
   by_cases p27_251:cQ fq87=true
   ·
    refine ae rfl p27_251 (a5 rfl (mv (vp b30 5) (mv (vp b30 5) (lw (vp b30 5) (aK rfl) ?_))))
    replace bx245:=bx245.cn hc250
    refine lx (a9 aX rfl bx245 rfl) (lo (aN (v:=Value.float .f64 (ar fq87)) (az (vals:=[Value.float .f64 fq87]) Try.func26 dq dr rfl) (d3 w249 fq87 (by exact kv hfq87 hv87)) ?_))
    intro w252 hb253
    replace hb253:=aj hb253 g108
    refine lw (vp b30 5) (aK rfl) (lo ?_)
    replace bx245:=bx245.cn hb253
    refine au (cs':=[Value.float .f64 sm,Value.float .f64 fq58,Value.float .f64 mn,Value.float .f64 mx,Value.float .f64 (ar fq64),Value.float .f64 (ar fq87),Value.float .f64 (bb (aF g.1) (aF ((((((ag g p).1).2).1)+1)*((((((ag g p).1).2).2).1)+1))))]) aX rfl rfl bx245 rfl nq (AllOne.all (.cons rfl .nil)) rfl ?_
    intro w254 ch255 bx256
    clear bx245
    refine a8 (ak (a5 rfl (lx (aQ (m:=2) (n:=1) rfl rfl (by omega)) (mi 3 (a8 (aY (a6 (a5 rfl (lx (b6 (m:=3) (n:=4) rfl rfl) (a8 (a6 ?_)))))))))))
    refine ae rfl rfl (am (a6 (ao (a6 (a5 rfl ?_)))))
    have C257:=cg [5] (ch247.n.seq (hc250.n.seq (hb253.n.seq (ch255.l rfl))))
    replace o112:=o112.ca C257
    refine lx (ab (v:=v110) (i:=3) nF rfl rfl o112.flat rfl (by omega) (by(simp only[List.length_set,List.length_append,List.length_cons,List.length_nil,List.length_replicate,List.length_map,List.length_take,List.length_drop];omega))) (lx (aZ dk rfl (dT hv107 o112 rfl)) (ma (vp b30 6) (a8 (a6 (bv g108 rfl d4 (by kernel_rfl) ?_)))))
    intro w259 ch258
    refine qm (vp b30 6) (qv (vp b30 6) (λw' hw'=>aK rfl) ?_)
    replace bx256:=bx256.cn ch258
    refine qx (λw' hw'=>a9 aX rfl (bx256.bel hw') rfl) (qm (vp b30 6) (qv (vp b30 6) (λw' hw'=>aK rfl) (qx (λw' hw'=>a9 aX rfl (bx256.bel hw') rfl) (qv (vb (cQ (bb (aF g.1) (aF ((((((ag g p).1).2).1)+1)*((((((ag g p).1).2).2).1)+1)))))) (λw' hw'=>dJ (a:=(bb (aF g.1) (aF ((((((ag g p).1).2).1)+1)*((((((ag g p).1).2).2).1)+1))))) rfl rfl) (bM ?_)))))
    intro w260 hc261
    replace hc261:=aj hc261 g108
    by_cases p27_262:cQ (bb (aF g.1) (aF ((((((ag g p).1).2).1)+1)*((((((ag g p).1).2).2).1)+1))))=true
    ·
     refine ae rfl p27_262 (a5 rfl (mv (vp b30 6) (mv (vp b30 6) (lw (vp b30 6) (aK rfl) ?_))))
     replace bx256:=bx256.cn hc261
     refine lx (a9 aX rfl bx256 rfl) (lo (aN (v:=Value.float .f64 (ar (bb (aF g.1) (aF ((((((ag g p).1).2).1)+1)*((((((ag g p).1).2).2).1)+1)))))) (az (vals:=[Value.float .f64 (bb (aF g.1) (aF ((((((ag g p).1).2).1)+1)*((((((ag g p).1).2).2).1)+1))))]) Try.func26 dq dr rfl) (d3 w260 (bb (aF g.1) (aF ((((((ag g p).1).2).1)+1)*((((((ag g p).1).2).2).1)+1)))) (by exact .inr ‹_›)) ?_))
     intro w263 hb264
     replace hb264:=aj hb264 g108
     refine lw (vp b30 6) (aK rfl) (lo ?_)
     replace bx256:=bx256.cn hb264
     refine au (cs':=[Value.float .f64 sm,Value.float .f64 fq58,Value.float .f64 mn,Value.float .f64 mx,Value.float .f64 (ar fq64),Value.float .f64 (ar fq87),Value.float .f64 (ar (bb (aF g.1) (aF ((((((ag g p).1).2).1)+1)*((((((ag g p).1).2).2).1)+1)))))]) aX rfl rfl bx256 rfl nq (AllOne.all (.cons rfl .nil)) rfl ?_
     intro w265 ch266 bx267
     clear bx256
     refine a8 (ak (a5 rfl (lx (aQ (m:=3) (n:=1) rfl rfl (by omega)) (mi 4 (a8 (aY (a6 (a5 rfl (lx (b6 (m:=4) (n:=4) rfl rfl) (a8 (a6 ?_)))))))))))
     refine af rfl rfl (aO rfl (a6 ?_))
     clear o112
     refine a5 rfl (lx (ad (ds:=[Value.float .f64 sm,Value.float .f64 fq58,Value.float .f64 mn,Value.float .f64 mx,Value.float .f64 (ar fq64),Value.float .f64 (ar fq87),Value.float .f64 (ar (bb (aF g.1) (aF ((((((ag g p).1).2).1)+1)*((((((ag g p).1).2).2).1)+1)))))]) bh zs8 bx267 rfl rfl) (lo ?_))
     have C271:=cg [5,6] (ch79.n.seq ((ch81.l rfl).seq (hb84.n.seq (ch86.n.seq ((ch91.l rfl).seq ((ch98.l rfl).seq (ch111.n.seq (ch113.n.seq (hc116.n.seq (ch236.n.seq (hc239.n.seq (hb242.n.seq ((ch244.l rfl).seq (ch247.n.seq (hc250.n.seq (hb253.n.seq ((ch255.l rfl).seq (ch258.n.seq (hc261.n.seq (hb264.n.seq (ch266.l rfl)))))))))))))))))))))
     replace bx15:=bx15.ca C271
     refine au (cs':=[Value.float .f64 sm,Value.float .f64 fq58,Value.float .f64 mn,Value.float .f64 mx,Value.float .f64 (ar fq64),Value.float .f64 (ar fq87),Value.float .f64 (ar (bb (aF g.1) (aF ((((((ag g p).1).2).1)+1)*((((((ag g p).1).2).2).1)+1)))))]) bh zs4 rfl bx15 rfl nq (AllOne.all (.cons rfl (.cons rfl (.cons rfl (.cons rfl (.cons rfl (.cons rfl (.cons rfl .nil)))))))) rfl ?_
     intro w268 ch269 bx270
     clear bx15
     refine ai 0 (a8 (av (vs:=[vg [Value.float .f64 sm,Value.float .f64 fq58,Value.float .f64 mn,Value.float .f64 mx,Value.float .f64 (ar fq64),Value.float .f64 (ar fq87),Value.float .f64 (ar (bb (aF g.1) (aF ((((((ag g p).1).2).1)+1)*((((((ag g p).1).2).2).1)+1)))))],vi 0]) Try.func8 (.cell zs4 (cd (ds:=[Value.float .f64 sm,Value.float .f64 fq58,Value.float .f64 mn,Value.float .f64 mx,Value.float .f64 (ar fq64),Value.float .f64 (ar fq87),Value.float .f64 (ar (bb (aF g.1) (aF ((((((ag g p).1).2).1)+1)*((((((ag g p).1).2).2).1)+1)))))]) bh bx270 rfl rfl) (.tmp rfl .nil)) ?_))
     have e0:((sm,fq58,mn,mx,ar fq64,ar fq87,ar (bb (aF g.1) (aF ((((((ag g p).1).2).1)+1)*((((((ag g p).1).2).2).1)+1))))):(Nat)×(Nat)×(Nat)×(Nat)×(Nat)×(Nat)×(Nat))=((al g p).1):=by
       exact dG hf0 hS (by exact c1.2 ‹_›) hmn hmx (by exact c2.1 ‹_›) (by exact c3.1 ‹_›) (by exact c4.1 ‹_›)
     have e1:(0:Int)=((al g p).2):=by
       rw[d8 hf0]
     have C272:=cg [3,5,6] (ch79.n.seq ((ch81.l rfl).seq (hb84.n.seq (ch86.n.seq ((ch91.l rfl).seq ((ch98.l rfl).seq (ch111.n.seq (ch113.n.seq (hc116.n.seq (ch236.n.seq (hc239.n.seq (hb242.n.seq ((ch244.l rfl).seq (ch247.n.seq (hc250.n.seq (hb253.n.seq ((ch255.l rfl).seq (ch258.n.seq (hc261.n.seq (hb264.n.seq ((ch266.l rfl).seq (ch269.l rfl))))))))))))))))))))))
     replace bH:=bH.ca C272
     exact⟨(co (a:=(sm,fq58,mn,mx,ar fq64,ar fq87,ar (bb (aF g.1) (aF ((((((ag g p).1).2).1)+1)*((((((ag g p).1).2).2).1)+1)))))) (b:=0) (λ(z0:(Nat)×(Nat)×(Nat)×(Nat)×(Nat)×(Nat)×(Nat)) (z1:Int)=>Ending.returned (vt [vg [Value.float .f64 z0.1,Value.float .f64 z0.2.1,Value.float .f64 z0.2.2.1,Value.float .f64 z0.2.2.2.1,Value.float .f64 z0.2.2.2.2.1,Value.float .f64 z0.2.2.2.2.2.1,Value.float .f64 z0.2.2.2.2.2.2],vi z1])) e0 e1),bH.below⟩
    refine af rfl (Bool.eq_false_iff.2 p27_262) (am (ak (a5 rfl (lx (aQ (m:=3) (n:=1) rfl rfl (by omega)) (mi 4 (a8 (aY (a6 (a5 rfl (lx (b6 (m:=4) (n:=4) rfl rfl) ?_))))))))))
    refine a8 (a6 (af rfl rfl (aO rfl (a6 ?_))))
    clear o112
    refine a5 rfl ?_
    replace bx256:=bx256.cn hc261
    refine lx (ad (ds:=[Value.float .f64 sm,Value.float .f64 fq58,Value.float .f64 mn,Value.float .f64 mx,Value.float .f64 (ar fq64),Value.float .f64 (ar fq87),Value.float .f64 (bb (aF g.1) (aF ((((((ag g p).1).2).1)+1)*((((((ag g p).1).2).2).1)+1))))]) bh zs8 bx256 rfl rfl) (lo ?_)
    have C276:=cg [5,6] (ch79.n.seq ((ch81.l rfl).seq (hb84.n.seq (ch86.n.seq ((ch91.l rfl).seq ((ch98.l rfl).seq (ch111.n.seq (ch113.n.seq (hc116.n.seq (ch236.n.seq (hc239.n.seq (hb242.n.seq ((ch244.l rfl).seq (ch247.n.seq (hc250.n.seq (hb253.n.seq ((ch255.l rfl).seq (ch258.n.seq hc261.n))))))))))))))))))
    replace bx15:=bx15.ca C276
    refine au (cs':=[Value.float .f64 sm,Value.float .f64 fq58,Value.float .f64 mn,Value.float .f64 mx,Value.float .f64 (ar fq64),Value.float .f64 (ar fq87),Value.float .f64 (bb (aF g.1) (aF ((((((ag g p).1).2).1)+1)*((((((ag g p).1).2).2).1)+1))))]) bh zs4 rfl bx15 rfl nq (AllOne.all (.cons rfl (.cons rfl (.cons rfl (.cons rfl (.cons rfl (.cons rfl (.cons rfl .nil)))))))) rfl ?_
    intro w273 ch274 bx275
    clear bx15
    refine ai 0 (a8 (av (vs:=[vg [Value.float .f64 sm,Value.float .f64 fq58,Value.float .f64 mn,Value.float .f64 mx,Value.float .f64 (ar fq64),Value.float .f64 (ar fq87),Value.float .f64 (bb (aF g.1) (aF ((((((ag g p).1).2).1)+1)*((((((ag g p).1).2).2).1)+1))))],vi 0]) Try.func8 (.cell zs4 (cd (ds:=[Value.float .f64 sm,Value.float .f64 fq58,Value.float .f64 mn,Value.float .f64 mx,Value.float .f64 (ar fq64),Value.float .f64 (ar fq87),Value.float .f64 (bb (aF g.1) (aF ((((((ag g p).1).2).1)+1)*((((((ag g p).1).2).2).1)+1))))]) bh bx275 rfl rfl) (.tmp rfl .nil)) ?_))
    have e0:((sm,fq58,mn,mx,ar fq64,ar fq87,bb (aF g.1) (aF ((((((ag g p).1).2).1)+1)*((((((ag g p).1).2).2).1)+1)))):(Nat)×(Nat)×(Nat)×(Nat)×(Nat)×(Nat)×(Nat))=((al g p).1):=by
      exact dG hf0 hS (by exact c1.2 ‹_›) hmn hmx (by exact c2.1 ‹_›) (by exact c3.1 ‹_›) (by exact c4.2 ‹_›)
    have e1:(0:Int)=((al g p).2):=by
      rw[d8 hf0]
    have C277:=cg [3,5,6] (ch79.n.seq ((ch81.l rfl).seq (hb84.n.seq (ch86.n.seq ((ch91.l rfl).seq ((ch98.l rfl).seq (ch111.n.seq (ch113.n.seq (hc116.n.seq (ch236.n.seq (hc239.n.seq (hb242.n.seq ((ch244.l rfl).seq (ch247.n.seq (hc250.n.seq (hb253.n.seq ((ch255.l rfl).seq (ch258.n.seq (hc261.n.seq (ch274.l rfl))))))))))))))))))))
    replace bH:=bH.ca C277
    exact⟨(co (a:=(sm,fq58,mn,mx,ar fq64,ar fq87,bb (aF g.1) (aF ((((((ag g p).1).2).1)+1)*((((((ag g p).1).2).2).1)+1))))) (b:=0) (λ(z0:(Nat)×(Nat)×(Nat)×(Nat)×(Nat)×(Nat)×(Nat)) (z1:Int)=>Ending.returned (vt [vg [Value.float .f64 z0.1,Value.float .f64 z0.2.1,Value.float .f64 z0.2.2.1,Value.float .f64 z0.2.2.2.1,Value.float .f64 z0.2.2.2.2.1,Value.float .f64 z0.2.2.2.2.2.1,Value.float .f64 z0.2.2.2.2.2.2],vi z1])) e0 e1),bH.below⟩
   refine af rfl (Bool.eq_false_iff.2 p27_251) (am (ak (a5 rfl (lx (aQ (m:=2) (n:=1) rfl rfl (by omega)) (mi 3 (a8 (aY (a6 (a5 rfl (lx (b6 (m:=3) (n:=4) rfl rfl) ?_))))))))))
   refine a8 (a6 (ae rfl rfl (am (a6 (ao (a6 (a5 rfl ?_)))))))
   replace o112:=(o112.cn ch247).cn hc250
   refine lx (ab (v:=v110) (i:=3) nF rfl rfl o112.flat rfl (by omega) (by(simp only[List.length_set,List.length_append,List.length_cons,List.length_nil,List.length_replicate,List.length_map,List.length_take,List.length_drop];omega))) (lx (aZ dk rfl (dT hv107 o112 rfl)) (ma (vp b30 6) (a8 (a6 (bv g108 rfl d4 (by kernel_rfl) ?_)))))
   intro w279 ch278
   refine qm (vp b30 6) (qv (vp b30 6) (λw' hw'=>aK rfl) ?_)
   replace bx245:=(bx245.cn hc250).cn ch278
   refine qx (λw' hw'=>a9 aX rfl (bx245.bel hw') rfl) (qm (vp b30 6) (qv (vp b30 6) (λw' hw'=>aK rfl) (qx (λw' hw'=>a9 aX rfl (bx245.bel hw') rfl) (qv (vb (cQ (bb (aF g.1) (aF ((((((ag g p).1).2).1)+1)*((((((ag g p).1).2).2).1)+1)))))) (λw' hw'=>dJ (a:=(bb (aF g.1) (aF ((((((ag g p).1).2).1)+1)*((((((ag g p).1).2).2).1)+1))))) rfl rfl) (bM ?_)))))
   intro w280 hc281
   replace hc281:=aj hc281 g108
   by_cases p27_282:cQ (bb (aF g.1) (aF ((((((ag g p).1).2).1)+1)*((((((ag g p).1).2).2).1)+1))))=true
   ·
    refine ae rfl p27_282 (a5 rfl (mv (vp b30 6) (mv (vp b30 6) (lw (vp b30 6) (aK rfl) ?_))))
    replace bx245:=bx245.cn hc281
    refine lx (a9 aX rfl bx245 rfl) (lo (aN (v:=Value.float .f64 (ar (bb (aF g.1) (aF ((((((ag g p).1).2).1)+1)*((((((ag g p).1).2).2).1)+1)))))) (az (vals:=[Value.float .f64 (bb (aF g.1) (aF ((((((ag g p).1).2).1)+1)*((((((ag g p).1).2).2).1)+1))))]) Try.func26 dq dr rfl) (d3 w280 (bb (aF g.1) (aF ((((((ag g p).1).2).1)+1)*((((((ag g p).1).2).2).1)+1)))) (by exact .inr ‹_›)) ?_))
    intro w283 hb284
    replace hb284:=aj hb284 g108
    refine lw (vp b30 6) (aK rfl) (lo ?_)
    replace bx245:=bx245.cn hb284
    refine au (cs':=[Value.float .f64 sm,Value.float .f64 fq58,Value.float .f64 mn,Value.float .f64 mx,Value.float .f64 (ar fq64),Value.float .f64 fq87,Value.float .f64 (ar (bb (aF g.1) (aF ((((((ag g p).1).2).1)+1)*((((((ag g p).1).2).2).1)+1)))))]) aX rfl rfl bx245 rfl nq (AllOne.all (.cons rfl .nil)) rfl ?_
    intro w285 ch286 bx287
    clear bx245
    refine a8 (ak (a5 rfl (lx (aQ (m:=3) (n:=1) rfl rfl (by omega)) (mi 4 (a8 (aY (a6 (a5 rfl (lx (b6 (m:=4) (n:=4) rfl rfl) (a8 (a6 ?_)))))))))))
    refine af rfl rfl (aO rfl (a6 ?_))
    clear o112
    refine a5 rfl (lx (ad (ds:=[Value.float .f64 sm,Value.float .f64 fq58,Value.float .f64 mn,Value.float .f64 mx,Value.float .f64 (ar fq64),Value.float .f64 fq87,Value.float .f64 (ar (bb (aF g.1) (aF ((((((ag g p).1).2).1)+1)*((((((ag g p).1).2).2).1)+1)))))]) bh zs8 bx287 rfl rfl) (lo ?_))
    have C291:=cg [5,6] (ch79.n.seq ((ch81.l rfl).seq (hb84.n.seq (ch86.n.seq ((ch91.l rfl).seq ((ch98.l rfl).seq (ch111.n.seq (ch113.n.seq (hc116.n.seq (ch236.n.seq (hc239.n.seq (hb242.n.seq ((ch244.l rfl).seq (ch247.n.seq (hc250.n.seq (ch278.n.seq (hc281.n.seq (hb284.n.seq (ch286.l rfl)))))))))))))))))))
    replace bx15:=bx15.ca C291
    refine au (cs':=[Value.float .f64 sm,Value.float .f64 fq58,Value.float .f64 mn,Value.float .f64 mx,Value.float .f64 (ar fq64),Value.float .f64 fq87,Value.float .f64 (ar (bb (aF g.1) (aF ((((((ag g p).1).2).1)+1)*((((((ag g p).1).2).2).1)+1)))))]) bh zs4 rfl bx15 rfl nq (AllOne.all (.cons rfl (.cons rfl (.cons rfl (.cons rfl (.cons rfl (.cons rfl (.cons rfl .nil)))))))) rfl ?_
    intro w288 ch289 bx290
    clear bx15
    refine ai 0 (a8 (av (vs:=[vg [Value.float .f64 sm,Value.float .f64 fq58,Value.float .f64 mn,Value.float .f64 mx,Value.float .f64 (ar fq64),Value.float .f64 fq87,Value.float .f64 (ar (bb (aF g.1) (aF ((((((ag g p).1).2).1)+1)*((((((ag g p).1).2).2).1)+1)))))],vi 0]) Try.func8 (.cell zs4 (cd (ds:=[Value.float .f64 sm,Value.float .f64 fq58,Value.float .f64 mn,Value.float .f64 mx,Value.float .f64 (ar fq64),Value.float .f64 fq87,Value.float .f64 (ar (bb (aF g.1) (aF ((((((ag g p).1).2).1)+1)*((((((ag g p).1).2).2).1)+1)))))]) bh bx290 rfl rfl) (.tmp rfl .nil)) ?_))
    have e0:((sm,fq58,mn,mx,ar fq64,fq87,ar (bb (aF g.1) (aF ((((((ag g p).1).2).1)+1)*((((((ag g p).1).2).2).1)+1))))):(Nat)×(Nat)×(Nat)×(Nat)×(Nat)×(Nat)×(Nat))=((al g p).1):=by
      exact dG hf0 hS (by exact c1.2 ‹_›) hmn hmx (by exact c2.1 ‹_›) (by exact c3.2 ‹_›) (by exact c4.1 ‹_›)
    have e1:(0:Int)=((al g p).2):=by
      rw[d8 hf0]
    have C292:=cg [3,5,6] (ch79.n.seq ((ch81.l rfl).seq (hb84.n.seq (ch86.n.seq ((ch91.l rfl).seq ((ch98.l rfl).seq (ch111.n.seq (ch113.n.seq (hc116.n.seq (ch236.n.seq (hc239.n.seq (hb242.n.seq ((ch244.l rfl).seq (ch247.n.seq (hc250.n.seq (ch278.n.seq (hc281.n.seq (hb284.n.seq ((ch286.l rfl).seq (ch289.l rfl))))))))))))))))))))
    replace bH:=bH.ca C292
    exact⟨(co (a:=(sm,fq58,mn,mx,ar fq64,fq87,ar (bb (aF g.1) (aF ((((((ag g p).1).2).1)+1)*((((((ag g p).1).2).2).1)+1)))))) (b:=0) (λ(z0:(Nat)×(Nat)×(Nat)×(Nat)×(Nat)×(Nat)×(Nat)) (z1:Int)=>Ending.returned (vt [vg [Value.float .f64 z0.1,Value.float .f64 z0.2.1,Value.float .f64 z0.2.2.1,Value.float .f64 z0.2.2.2.1,Value.float .f64 z0.2.2.2.2.1,Value.float .f64 z0.2.2.2.2.2.1,Value.float .f64 z0.2.2.2.2.2.2],vi z1])) e0 e1),bH.below⟩
   refine af rfl (Bool.eq_false_iff.2 p27_282) (am (ak (a5 rfl (lx (aQ (m:=3) (n:=1) rfl rfl (by omega)) (mi 4 (a8 (aY (a6 (a5 rfl (lx (b6 (m:=4) (n:=4) rfl rfl) ?_))))))))))
   refine a8 (a6 (af rfl rfl (aO rfl (a6 ?_))))
   clear o112
   refine a5 rfl ?_
   replace bx245:=bx245.cn hc281
   refine lx (ad (ds:=[Value.float .f64 sm,Value.float .f64 fq58,Value.float .f64 mn,Value.float .f64 mx,Value.float .f64 (ar fq64),Value.float .f64 fq87,Value.float .f64 (bb (aF g.1) (aF ((((((ag g p).1).2).1)+1)*((((((ag g p).1).2).2).1)+1))))]) bh zs8 bx245 rfl rfl) (lo ?_)
   have C296:=cg [5,6] (ch79.n.seq ((ch81.l rfl).seq (hb84.n.seq (ch86.n.seq ((ch91.l rfl).seq ((ch98.l rfl).seq (ch111.n.seq (ch113.n.seq (hc116.n.seq (ch236.n.seq (hc239.n.seq (hb242.n.seq ((ch244.l rfl).seq (ch247.n.seq (hc250.n.seq (ch278.n.seq hc281.n))))))))))))))))
   replace bx15:=bx15.ca C296
   refine au (cs':=[Value.float .f64 sm,Value.float .f64 fq58,Value.float .f64 mn,Value.float .f64 mx,Value.float .f64 (ar fq64),Value.float .f64 fq87,Value.float .f64 (bb (aF g.1) (aF ((((((ag g p).1).2).1)+1)*((((((ag g p).1).2).2).1)+1))))]) bh zs4 rfl bx15 rfl nq (AllOne.all (.cons rfl (.cons rfl (.cons rfl (.cons rfl (.cons rfl (.cons rfl (.cons rfl .nil)))))))) rfl ?_
   intro w293 ch294 bx295
   clear bx15
   refine ai 0 (a8 (av (vs:=[vg [Value.float .f64 sm,Value.float .f64 fq58,Value.float .f64 mn,Value.float .f64 mx,Value.float .f64 (ar fq64),Value.float .f64 fq87,Value.float .f64 (bb (aF g.1) (aF ((((((ag g p).1).2).1)+1)*((((((ag g p).1).2).2).1)+1))))],vi 0]) Try.func8 (.cell zs4 (cd (ds:=[Value.float .f64 sm,Value.float .f64 fq58,Value.float .f64 mn,Value.float .f64 mx,Value.float .f64 (ar fq64),Value.float .f64 fq87,Value.float .f64 (bb (aF g.1) (aF ((((((ag g p).1).2).1)+1)*((((((ag g p).1).2).2).1)+1))))]) bh bx295 rfl rfl) (.tmp rfl .nil)) ?_))
   have e0:((sm,fq58,mn,mx,ar fq64,fq87,bb (aF g.1) (aF ((((((ag g p).1).2).1)+1)*((((((ag g p).1).2).2).1)+1)))):(Nat)×(Nat)×(Nat)×(Nat)×(Nat)×(Nat)×(Nat))=((al g p).1):=by
     exact dG hf0 hS (by exact c1.2 ‹_›) hmn hmx (by exact c2.1 ‹_›) (by exact c3.2 ‹_›) (by exact c4.2 ‹_›)
   have e1:(0:Int)=((al g p).2):=by
     rw[d8 hf0]
   have C297:=cg [3,5,6] (ch79.n.seq ((ch81.l rfl).seq (hb84.n.seq (ch86.n.seq ((ch91.l rfl).seq ((ch98.l rfl).seq (ch111.n.seq (ch113.n.seq (hc116.n.seq (ch236.n.seq (hc239.n.seq (hb242.n.seq ((ch244.l rfl).seq (ch247.n.seq (hc250.n.seq (ch278.n.seq (hc281.n.seq (ch294.l rfl))))))))))))))))))
   replace bH:=bH.ca C297
   exact⟨(co (a:=(sm,fq58,mn,mx,ar fq64,fq87,bb (aF g.1) (aF ((((((ag g p).1).2).1)+1)*((((((ag g p).1).2).2).1)+1))))) (b:=0) (λ(z0:(Nat)×(Nat)×(Nat)×(Nat)×(Nat)×(Nat)×(Nat)) (z1:Int)=>Ending.returned (vt [vg [Value.float .f64 z0.1,Value.float .f64 z0.2.1,Value.float .f64 z0.2.2.1,Value.float .f64 z0.2.2.2.1,Value.float .f64 z0.2.2.2.2.1,Value.float .f64 z0.2.2.2.2.2.1,Value.float .f64 z0.2.2.2.2.2.2],vi z1])) e0 e1),bH.below⟩
  refine af rfl (Bool.eq_false_iff.2 p27_240) (am (ak (a5 rfl (lx (aQ (m:=1) (n:=1) rfl rfl (by omega)) (mi 2 (a8 (aY (a6 (a5 rfl (lx (b6 (m:=2) (n:=4) rfl rfl) ?_))))))))))
  refine a8 (a6 (ae rfl rfl (am (a6 (ao (a6 (a5 rfl ?_)))))))
  replace o112:=(o112.cn ch236).cn hc239
  refine lx (ab (v:=v110) (i:=2) nF rfl rfl o112.flat rfl (by omega) (by(simp only[List.length_set,List.length_append,List.length_cons,List.length_nil,List.length_replicate,List.length_map,List.length_take,List.length_drop];omega))) (lx (aZ dk rfl (dT hv105 o112 rfl)) (ma (vp b30 5) (a8 (a6 (bv g108 rfl d4 (by kernel_rfl) ?_)))))
  intro w299 ch298
  refine qm (vp b30 5) (qv (vp b30 5) (λw' hw'=>aK rfl) ?_)
  replace bx99:=(bx99.cn hc239).cn ch298
  refine qx (λw' hw'=>a9 aX rfl (bx99.bel hw') rfl) (qm (vp b30 5) (qv (vp b30 5) (λw' hw'=>aK rfl) (qx (λw' hw'=>a9 aX rfl (bx99.bel hw') rfl) (qv (vb (cQ fq87)) (λw' hw'=>dJ (a:=fq87) rfl rfl) (bM ?_)))))
  intro w300 hc301
  replace hc301:=aj hc301 g108
  by_cases p27_302:cQ fq87=true
  ·
   refine ae rfl p27_302 (a5 rfl (mv (vp b30 5) (mv (vp b30 5) (lw (vp b30 5) (aK rfl) ?_))))
   replace bx99:=bx99.cn hc301
   refine lx (a9 aX rfl bx99 rfl) (lo (aN (v:=Value.float .f64 (ar fq87)) (az (vals:=[Value.float .f64 fq87]) Try.func26 dq dr rfl) (d3 w300 fq87 (by exact kv hfq87 hv87)) ?_))
   intro w303 hb304
   replace hb304:=aj hb304 g108
   refine lw (vp b30 5) (aK rfl) (lo ?_)
   replace bx99:=bx99.cn hb304
   refine au (cs':=[Value.float .f64 sm,Value.float .f64 fq58,Value.float .f64 mn,Value.float .f64 mx,Value.float .f64 fq64,Value.float .f64 (ar fq87),Value.float .f64 (bb (aF g.1) (aF ((((((ag g p).1).2).1)+1)*((((((ag g p).1).2).2).1)+1))))]) aX rfl rfl bx99 rfl nq (AllOne.all (.cons rfl .nil)) rfl ?_
   intro w305 ch306 bx307
   clear bx99
   refine a8 (ak (a5 rfl (lx (aQ (m:=2) (n:=1) rfl rfl (by omega)) (mi 3 (a8 (aY (a6 (a5 rfl (lx (b6 (m:=3) (n:=4) rfl rfl) (a8 (a6 ?_)))))))))))
   refine ae rfl rfl (am (a6 (ao (a6 (a5 rfl ?_)))))
   have C308:=cg [5] (ch298.n.seq (hc301.n.seq (hb304.n.seq (ch306.l rfl))))
   replace o112:=o112.ca C308
   refine lx (ab (v:=v110) (i:=3) nF rfl rfl o112.flat rfl (by omega) (by(simp only[List.length_set,List.length_append,List.length_cons,List.length_nil,List.length_replicate,List.length_map,List.length_take,List.length_drop];omega))) (lx (aZ dk rfl (dT hv107 o112 rfl)) (ma (vp b30 6) (a8 (a6 (bv g108 rfl d4 (by kernel_rfl) ?_)))))
   intro w310 ch309
   refine qm (vp b30 6) (qv (vp b30 6) (λw' hw'=>aK rfl) ?_)
   replace bx307:=bx307.cn ch309
   refine qx (λw' hw'=>a9 aX rfl (bx307.bel hw') rfl) (qm (vp b30 6) (qv (vp b30 6) (λw' hw'=>aK rfl) (qx (λw' hw'=>a9 aX rfl (bx307.bel hw') rfl) (qv (vb (cQ (bb (aF g.1) (aF ((((((ag g p).1).2).1)+1)*((((((ag g p).1).2).2).1)+1)))))) (λw' hw'=>dJ (a:=(bb (aF g.1) (aF ((((((ag g p).1).2).1)+1)*((((((ag g p).1).2).2).1)+1))))) rfl rfl) (bM ?_)))))
   intro w311 hc312
   replace hc312:=aj hc312 g108
   by_cases p27_313:cQ (bb (aF g.1) (aF ((((((ag g p).1).2).1)+1)*((((((ag g p).1).2).2).1)+1))))=true
   ·
    refine ae rfl p27_313 (a5 rfl (mv (vp b30 6) (mv (vp b30 6) (lw (vp b30 6) (aK rfl) ?_))))
    replace bx307:=bx307.cn hc312
    refine lx (a9 aX rfl bx307 rfl) (lo (aN (v:=Value.float .f64 (ar (bb (aF g.1) (aF ((((((ag g p).1).2).1)+1)*((((((ag g p).1).2).2).1)+1)))))) (az (vals:=[Value.float .f64 (bb (aF g.1) (aF ((((((ag g p).1).2).1)+1)*((((((ag g p).1).2).2).1)+1))))]) Try.func26 dq dr rfl) (d3 w311 (bb (aF g.1) (aF ((((((ag g p).1).2).1)+1)*((((((ag g p).1).2).2).1)+1)))) (by exact .inr ‹_›)) ?_))
    intro w314 hb315
    replace hb315:=aj hb315 g108
    refine lw (vp b30 6) (aK rfl) (lo ?_)
    replace bx307:=bx307.cn hb315
    refine au (cs':=[Value.float .f64 sm,Value.float .f64 fq58,Value.float .f64 mn,Value.float .f64 mx,Value.float .f64 fq64,Value.float .f64 (ar fq87),Value.float .f64 (ar (bb (aF g.1) (aF ((((((ag g p).1).2).1)+1)*((((((ag g p).1).2).2).1)+1)))))]) aX rfl rfl bx307 rfl nq (AllOne.all (.cons rfl .nil)) rfl ?_
    intro w316 ch317 bx318
    clear bx307
    refine a8 (ak (a5 rfl (lx (aQ (m:=3) (n:=1) rfl rfl (by omega)) (mi 4 (a8 (aY (a6 (a5 rfl (lx (b6 (m:=4) (n:=4) rfl rfl) (a8 (a6 ?_)))))))))))
    refine af rfl rfl (aO rfl (a6 ?_))
    clear o112
    refine a5 rfl (lx (ad (ds:=[Value.float .f64 sm,Value.float .f64 fq58,Value.float .f64 mn,Value.float .f64 mx,Value.float .f64 fq64,Value.float .f64 (ar fq87),Value.float .f64 (ar (bb (aF g.1) (aF ((((((ag g p).1).2).1)+1)*((((((ag g p).1).2).2).1)+1)))))]) bh zs8 bx318 rfl rfl) (lo ?_))
    have C322:=cg [5,6] (ch79.n.seq ((ch81.l rfl).seq (hb84.n.seq (ch86.n.seq ((ch91.l rfl).seq ((ch98.l rfl).seq (ch111.n.seq (ch113.n.seq (hc116.n.seq (ch236.n.seq (hc239.n.seq (ch298.n.seq (hc301.n.seq (hb304.n.seq ((ch306.l rfl).seq (ch309.n.seq (hc312.n.seq (hb315.n.seq (ch317.l rfl)))))))))))))))))))
    replace bx15:=bx15.ca C322
    refine au (cs':=[Value.float .f64 sm,Value.float .f64 fq58,Value.float .f64 mn,Value.float .f64 mx,Value.float .f64 fq64,Value.float .f64 (ar fq87),Value.float .f64 (ar (bb (aF g.1) (aF ((((((ag g p).1).2).1)+1)*((((((ag g p).1).2).2).1)+1)))))]) bh zs4 rfl bx15 rfl nq (AllOne.all (.cons rfl (.cons rfl (.cons rfl (.cons rfl (.cons rfl (.cons rfl (.cons rfl .nil)))))))) rfl ?_
    intro w319 ch320 bx321
    clear bx15
    refine ai 0 (a8 (av (vs:=[vg [Value.float .f64 sm,Value.float .f64 fq58,Value.float .f64 mn,Value.float .f64 mx,Value.float .f64 fq64,Value.float .f64 (ar fq87),Value.float .f64 (ar (bb (aF g.1) (aF ((((((ag g p).1).2).1)+1)*((((((ag g p).1).2).2).1)+1)))))],vi 0]) Try.func8 (.cell zs4 (cd (ds:=[Value.float .f64 sm,Value.float .f64 fq58,Value.float .f64 mn,Value.float .f64 mx,Value.float .f64 fq64,Value.float .f64 (ar fq87),Value.float .f64 (ar (bb (aF g.1) (aF ((((((ag g p).1).2).1)+1)*((((((ag g p).1).2).2).1)+1)))))]) bh bx321 rfl rfl) (.tmp rfl .nil)) ?_))
    have e0:((sm,fq58,mn,mx,fq64,ar fq87,ar (bb (aF g.1) (aF ((((((ag g p).1).2).1)+1)*((((((ag g p).1).2).2).1)+1))))):(Nat)×(Nat)×(Nat)×(Nat)×(Nat)×(Nat)×(Nat))=((al g p).1):=by
      exact dG hf0 hS (by exact c1.2 ‹_›) hmn hmx (by exact c2.2 ‹_›) (by exact c3.1 ‹_›) (by exact c4.1 ‹_›)
    have e1:(0:Int)=((al g p).2):=by
      rw[d8 hf0]
    have C323:=cg [3,5,6] (ch79.n.seq ((ch81.l rfl).seq (hb84.n.seq (ch86.n.seq ((ch91.l rfl).seq ((ch98.l rfl).seq (ch111.n.seq (ch113.n.seq (hc116.n.seq (ch236.n.seq (hc239.n.seq (ch298.n.seq (hc301.n.seq (hb304.n.seq ((ch306.l rfl).seq (ch309.n.seq (hc312.n.seq (hb315.n.seq ((ch317.l rfl).seq (ch320.l rfl))))))))))))))))))))
    replace bH:=bH.ca C323
    exact⟨(co (a:=(sm,fq58,mn,mx,fq64,ar fq87,ar (bb (aF g.1) (aF ((((((ag g p).1).2).1)+1)*((((((ag g p).1).2).2).1)+1)))))) (b:=0) (λ(z0:(Nat)×(Nat)×(Nat)×(Nat)×(Nat)×(Nat)×(Nat)) (z1:Int)=>Ending.returned (vt [vg [Value.float .f64 z0.1,Value.float .f64 z0.2.1,Value.float .f64 z0.2.2.1,Value.float .f64 z0.2.2.2.1,Value.float .f64 z0.2.2.2.2.1,Value.float .f64 z0.2.2.2.2.2.1,Value.float .f64 z0.2.2.2.2.2.2],vi z1])) e0 e1),bH.below⟩
   refine af rfl (Bool.eq_false_iff.2 p27_313) (am (ak (a5 rfl (lx (aQ (m:=3) (n:=1) rfl rfl (by omega)) (mi 4 (a8 (aY (a6 (a5 rfl (lx (b6 (m:=4) (n:=4) rfl rfl) ?_))))))))))
   refine a8 (a6 (af rfl rfl (aO rfl (a6 ?_))))
   clear o112
   refine a5 rfl ?_
   replace bx307:=bx307.cn hc312
   refine lx (ad (ds:=[Value.float .f64 sm,Value.float .f64 fq58,Value.float .f64 mn,Value.float .f64 mx,Value.float .f64 fq64,Value.float .f64 (ar fq87),Value.float .f64 (bb (aF g.1) (aF ((((((ag g p).1).2).1)+1)*((((((ag g p).1).2).2).1)+1))))]) bh zs8 bx307 rfl rfl) (lo ?_)
   have C327:=cg [5,6] (ch79.n.seq ((ch81.l rfl).seq (hb84.n.seq (ch86.n.seq ((ch91.l rfl).seq ((ch98.l rfl).seq (ch111.n.seq (ch113.n.seq (hc116.n.seq (ch236.n.seq (hc239.n.seq (ch298.n.seq (hc301.n.seq (hb304.n.seq ((ch306.l rfl).seq (ch309.n.seq hc312.n))))))))))))))))
   replace bx15:=bx15.ca C327
   refine au (cs':=[Value.float .f64 sm,Value.float .f64 fq58,Value.float .f64 mn,Value.float .f64 mx,Value.float .f64 fq64,Value.float .f64 (ar fq87),Value.float .f64 (bb (aF g.1) (aF ((((((ag g p).1).2).1)+1)*((((((ag g p).1).2).2).1)+1))))]) bh zs4 rfl bx15 rfl nq (AllOne.all (.cons rfl (.cons rfl (.cons rfl (.cons rfl (.cons rfl (.cons rfl (.cons rfl .nil)))))))) rfl ?_
   intro w324 ch325 bx326
   clear bx15
   refine ai 0 (a8 (av (vs:=[vg [Value.float .f64 sm,Value.float .f64 fq58,Value.float .f64 mn,Value.float .f64 mx,Value.float .f64 fq64,Value.float .f64 (ar fq87),Value.float .f64 (bb (aF g.1) (aF ((((((ag g p).1).2).1)+1)*((((((ag g p).1).2).2).1)+1))))],vi 0]) Try.func8 (.cell zs4 (cd (ds:=[Value.float .f64 sm,Value.float .f64 fq58,Value.float .f64 mn,Value.float .f64 mx,Value.float .f64 fq64,Value.float .f64 (ar fq87),Value.float .f64 (bb (aF g.1) (aF ((((((ag g p).1).2).1)+1)*((((((ag g p).1).2).2).1)+1))))]) bh bx326 rfl rfl) (.tmp rfl .nil)) ?_))
   have e0:((sm,fq58,mn,mx,fq64,ar fq87,bb (aF g.1) (aF ((((((ag g p).1).2).1)+1)*((((((ag g p).1).2).2).1)+1)))):(Nat)×(Nat)×(Nat)×(Nat)×(Nat)×(Nat)×(Nat))=((al g p).1):=by
     exact dG hf0 hS (by exact c1.2 ‹_›) hmn hmx (by exact c2.2 ‹_›) (by exact c3.1 ‹_›) (by exact c4.2 ‹_›)
   have e1:(0:Int)=((al g p).2):=by
     rw[d8 hf0]
   have C328:=cg [3,5,6] (ch79.n.seq ((ch81.l rfl).seq (hb84.n.seq (ch86.n.seq ((ch91.l rfl).seq ((ch98.l rfl).seq (ch111.n.seq (ch113.n.seq (hc116.n.seq (ch236.n.seq (hc239.n.seq (ch298.n.seq (hc301.n.seq (hb304.n.seq ((ch306.l rfl).seq (ch309.n.seq (hc312.n.seq (ch325.l rfl))))))))))))))))))
   replace bH:=bH.ca C328
   exact⟨(co (a:=(sm,fq58,mn,mx,fq64,ar fq87,bb (aF g.1) (aF ((((((ag g p).1).2).1)+1)*((((((ag g p).1).2).2).1)+1))))) (b:=0) (λ(z0:(Nat)×(Nat)×(Nat)×(Nat)×(Nat)×(Nat)×(Nat)) (z1:Int)=>Ending.returned (vt [vg [Value.float .f64 z0.1,Value.float .f64 z0.2.1,Value.float .f64 z0.2.2.1,Value.float .f64 z0.2.2.2.1,Value.float .f64 z0.2.2.2.2.1,Value.float .f64 z0.2.2.2.2.2.1,Value.float .f64 z0.2.2.2.2.2.2],vi z1])) e0 e1),bH.below⟩
  refine af rfl (Bool.eq_false_iff.2 p27_302) (am (ak (a5 rfl (lx (aQ (m:=2) (n:=1) rfl rfl (by omega)) (mi 3 (a8 (aY (a6 (a5 rfl (lx (b6 (m:=3) (n:=4) rfl rfl) ?_))))))))))
  refine a8 (a6 (ae rfl rfl (am (a6 (ao (a6 (a5 rfl ?_)))))))
  replace o112:=(o112.cn ch298).cn hc301
  refine lx (ab (v:=v110) (i:=3) nF rfl rfl o112.flat rfl (by omega) (by(simp only[List.length_set,List.length_append,List.length_cons,List.length_nil,List.length_replicate,List.length_map,List.length_take,List.length_drop];omega))) (lx (aZ dk rfl (dT hv107 o112 rfl)) (ma (vp b30 6) (a8 (a6 (bv g108 rfl d4 (by kernel_rfl) ?_)))))
  intro w330 ch329
  refine qm (vp b30 6) (qv (vp b30 6) (λw' hw'=>aK rfl) ?_)
  replace bx99:=(bx99.cn hc301).cn ch329
  refine qx (λw' hw'=>a9 aX rfl (bx99.bel hw') rfl) (qm (vp b30 6) (qv (vp b30 6) (λw' hw'=>aK rfl) (qx (λw' hw'=>a9 aX rfl (bx99.bel hw') rfl) (qv (vb (cQ (bb (aF g.1) (aF ((((((ag g p).1).2).1)+1)*((((((ag g p).1).2).2).1)+1)))))) (λw' hw'=>dJ (a:=(bb (aF g.1) (aF ((((((ag g p).1).2).1)+1)*((((((ag g p).1).2).2).1)+1))))) rfl rfl) (bM ?_)))))
  intro w331 hc332
  replace hc332:=aj hc332 g108
  by_cases p27_333:cQ (bb (aF g.1) (aF ((((((ag g p).1).2).1)+1)*((((((ag g p).1).2).2).1)+1))))=true
  ·
   refine ae rfl p27_333 (a5 rfl (mv (vp b30 6) (mv (vp b30 6) (lw (vp b30 6) (aK rfl) ?_))))
   replace bx99:=bx99.cn hc332
   refine lx (a9 aX rfl bx99 rfl) (lo (aN (v:=Value.float .f64 (ar (bb (aF g.1) (aF ((((((ag g p).1).2).1)+1)*((((((ag g p).1).2).2).1)+1)))))) (az (vals:=[Value.float .f64 (bb (aF g.1) (aF ((((((ag g p).1).2).1)+1)*((((((ag g p).1).2).2).1)+1))))]) Try.func26 dq dr rfl) (d3 w331 (bb (aF g.1) (aF ((((((ag g p).1).2).1)+1)*((((((ag g p).1).2).2).1)+1)))) (by exact .inr ‹_›)) ?_))
   intro w334 hb335
   replace hb335:=aj hb335 g108
   refine lw (vp b30 6) (aK rfl) (lo ?_)
   replace bx99:=bx99.cn hb335
   refine au (cs':=[Value.float .f64 sm,Value.float .f64 fq58,Value.float .f64 mn,Value.float .f64 mx,Value.float .f64 fq64,Value.float .f64 fq87,Value.float .f64 (ar (bb (aF g.1) (aF ((((((ag g p).1).2).1)+1)*((((((ag g p).1).2).2).1)+1)))))]) aX rfl rfl bx99 rfl nq (AllOne.all (.cons rfl .nil)) rfl ?_
   intro w336 ch337 bx338
   clear bx99
   refine a8 (ak (a5 rfl (lx (aQ (m:=3) (n:=1) rfl rfl (by omega)) (mi 4 (a8 (aY (a6 (a5 rfl (lx (b6 (m:=4) (n:=4) rfl rfl) (a8 (a6 ?_)))))))))))
   refine af rfl rfl (aO rfl (a6 ?_))
   clear o112
   refine a5 rfl (lx (ad (ds:=[Value.float .f64 sm,Value.float .f64 fq58,Value.float .f64 mn,Value.float .f64 mx,Value.float .f64 fq64,Value.float .f64 fq87,Value.float .f64 (ar (bb (aF g.1) (aF ((((((ag g p).1).2).1)+1)*((((((ag g p).1).2).2).1)+1)))))]) bh zs8 bx338 rfl rfl) (lo ?_))
   have C342:=cg [5,6] (ch79.n.seq ((ch81.l rfl).seq (hb84.n.seq (ch86.n.seq ((ch91.l rfl).seq ((ch98.l rfl).seq (ch111.n.seq (ch113.n.seq (hc116.n.seq (ch236.n.seq (hc239.n.seq (ch298.n.seq (hc301.n.seq (ch329.n.seq (hc332.n.seq (hb335.n.seq (ch337.l rfl)))))))))))))))))
   replace bx15:=bx15.ca C342
   refine au (cs':=[Value.float .f64 sm,Value.float .f64 fq58,Value.float .f64 mn,Value.float .f64 mx,Value.float .f64 fq64,Value.float .f64 fq87,Value.float .f64 (ar (bb (aF g.1) (aF ((((((ag g p).1).2).1)+1)*((((((ag g p).1).2).2).1)+1)))))]) bh zs4 rfl bx15 rfl nq (AllOne.all (.cons rfl (.cons rfl (.cons rfl (.cons rfl (.cons rfl (.cons rfl (.cons rfl .nil)))))))) rfl ?_
   intro w339 ch340 bx341
   clear bx15
   refine ai 0 (a8 (av (vs:=[vg [Value.float .f64 sm,Value.float .f64 fq58,Value.float .f64 mn,Value.float .f64 mx,Value.float .f64 fq64,Value.float .f64 fq87,Value.float .f64 (ar (bb (aF g.1) (aF ((((((ag g p).1).2).1)+1)*((((((ag g p).1).2).2).1)+1)))))],vi 0]) Try.func8 (.cell zs4 (cd (ds:=[Value.float .f64 sm,Value.float .f64 fq58,Value.float .f64 mn,Value.float .f64 mx,Value.float .f64 fq64,Value.float .f64 fq87,Value.float .f64 (ar (bb (aF g.1) (aF ((((((ag g p).1).2).1)+1)*((((((ag g p).1).2).2).1)+1)))))]) bh bx341 rfl rfl) (.tmp rfl .nil)) ?_))
   have e0:((sm,fq58,mn,mx,fq64,fq87,ar (bb (aF g.1) (aF ((((((ag g p).1).2).1)+1)*((((((ag g p).1).2).2).1)+1))))):(Nat)×(Nat)×(Nat)×(Nat)×(Nat)×(Nat)×(Nat))=((al g p).1):=by
     exact dG hf0 hS (by exact c1.2 ‹_›) hmn hmx (by exact c2.2 ‹_›) (by exact c3.2 ‹_›) (by exact c4.1 ‹_›)
   have e1:(0:Int)=((al g p).2):=by
     rw[d8 hf0]
   have C343:=cg [3,5,6] (ch79.n.seq ((ch81.l rfl).seq (hb84.n.seq (ch86.n.seq ((ch91.l rfl).seq ((ch98.l rfl).seq (ch111.n.seq (ch113.n.seq (hc116.n.seq (ch236.n.seq (hc239.n.seq (ch298.n.seq (hc301.n.seq (ch329.n.seq (hc332.n.seq (hb335.n.seq ((ch337.l rfl).seq (ch340.l rfl))))))))))))))))))
   replace bH:=bH.ca C343
   exact⟨(co (a:=(sm,fq58,mn,mx,fq64,fq87,ar (bb (aF g.1) (aF ((((((ag g p).1).2).1)+1)*((((((ag g p).1).2).2).1)+1)))))) (b:=0) (λ(z0:(Nat)×(Nat)×(Nat)×(Nat)×(Nat)×(Nat)×(Nat)) (z1:Int)=>Ending.returned (vt [vg [Value.float .f64 z0.1,Value.float .f64 z0.2.1,Value.float .f64 z0.2.2.1,Value.float .f64 z0.2.2.2.1,Value.float .f64 z0.2.2.2.2.1,Value.float .f64 z0.2.2.2.2.2.1,Value.float .f64 z0.2.2.2.2.2.2],vi z1])) e0 e1),bH.below⟩
  refine af rfl (Bool.eq_false_iff.2 p27_333) (am (ak (a5 rfl (lx (aQ (m:=3) (n:=1) rfl rfl (by omega)) (mi 4 (a8 (aY (a6 (a5 rfl (lx (b6 (m:=4) (n:=4) rfl rfl) ?_))))))))))
  refine a8 (a6 (af rfl rfl (aO rfl (a6 ?_))))
  clear o112
  refine a5 rfl ?_
  replace bx99:=bx99.cn hc332
  refine lx (ad (ds:=[Value.float .f64 sm,Value.float .f64 fq58,Value.float .f64 mn,Value.float .f64 mx,Value.float .f64 fq64,Value.float .f64 fq87,Value.float .f64 (bb (aF g.1) (aF ((((((ag g p).1).2).1)+1)*((((((ag g p).1).2).2).1)+1))))]) bh zs8 bx99 rfl rfl) (lo ?_)
  have C347:=cg [5,6] (ch79.n.seq ((ch81.l rfl).seq (hb84.n.seq (ch86.n.seq ((ch91.l rfl).seq ((ch98.l rfl).seq (ch111.n.seq (ch113.n.seq (hc116.n.seq (ch236.n.seq (hc239.n.seq (ch298.n.seq (hc301.n.seq (ch329.n.seq hc332.n))))))))))))))
  replace bx15:=bx15.ca C347
  refine au (cs':=[Value.float .f64 sm,Value.float .f64 fq58,Value.float .f64 mn,Value.float .f64 mx,Value.float .f64 fq64,Value.float .f64 fq87,Value.float .f64 (bb (aF g.1) (aF ((((((ag g p).1).2).1)+1)*((((((ag g p).1).2).2).1)+1))))]) bh zs4 rfl bx15 rfl nq (AllOne.all (.cons rfl (.cons rfl (.cons rfl (.cons rfl (.cons rfl (.cons rfl (.cons rfl .nil)))))))) rfl ?_
  intro w344 ch345 bx346
  clear bx15
  refine ai 0 (a8 (av (vs:=[vg [Value.float .f64 sm,Value.float .f64 fq58,Value.float .f64 mn,Value.float .f64 mx,Value.float .f64 fq64,Value.float .f64 fq87,Value.float .f64 (bb (aF g.1) (aF ((((((ag g p).1).2).1)+1)*((((((ag g p).1).2).2).1)+1))))],vi 0]) Try.func8 (.cell zs4 (cd (ds:=[Value.float .f64 sm,Value.float .f64 fq58,Value.float .f64 mn,Value.float .f64 mx,Value.float .f64 fq64,Value.float .f64 fq87,Value.float .f64 (bb (aF g.1) (aF ((((((ag g p).1).2).1)+1)*((((((ag g p).1).2).2).1)+1))))]) bh bx346 rfl rfl) (.tmp rfl .nil)) ?_))
  have e0:((sm,fq58,mn,mx,fq64,fq87,bb (aF g.1) (aF ((((((ag g p).1).2).1)+1)*((((((ag g p).1).2).2).1)+1)))):(Nat)×(Nat)×(Nat)×(Nat)×(Nat)×(Nat)×(Nat))=((al g p).1):=by
    exact dG hf0 hS (by exact c1.2 ‹_›) hmn hmx (by exact c2.2 ‹_›) (by exact c3.2 ‹_›) (by exact c4.2 ‹_›)
  have e1:(0:Int)=((al g p).2):=by
    rw[d8 hf0]
  have C348:=cg [3,5,6] (ch79.n.seq ((ch81.l rfl).seq (hb84.n.seq (ch86.n.seq ((ch91.l rfl).seq ((ch98.l rfl).seq (ch111.n.seq (ch113.n.seq (hc116.n.seq (ch236.n.seq (hc239.n.seq (ch298.n.seq (hc301.n.seq (ch329.n.seq (hc332.n.seq (ch345.l rfl))))))))))))))))
  replace bH:=bH.ca C348
  exact⟨(co (a:=(sm,fq58,mn,mx,fq64,fq87,bb (aF g.1) (aF ((((((ag g p).1).2).1)+1)*((((((ag g p).1).2).2).1)+1))))) (b:=0) (λ(z0:(Nat)×(Nat)×(Nat)×(Nat)×(Nat)×(Nat)×(Nat)) (z1:Int)=>Ending.returned (vt [vg [Value.float .f64 z0.1,Value.float .f64 z0.2.1,Value.float .f64 z0.2.2.1,Value.float .f64 z0.2.2.2.1,Value.float .f64 z0.2.2.2.2.1,Value.float .f64 z0.2.2.2.2.2.1,Value.float .f64 z0.2.2.2.2.2.2],vi z1])) e0 e1),bH.below⟩
 refine ae rfl (congrArg Bool.not (df p2)) (a6 ?_)
 clear bx5 bx10
 refine a5 rfl (lw (vg [Value.float .f64 0,Value.float .f64 0,Value.float .f64 0,Value.float .f64 0,Value.float .f64 0,Value.float .f64 0,Value.float .f64 0]) (bz (vs:=[]) rfl (by kernel_rfl)) (mi (bl g p) (lo ?_)))
 replace bx15:=bx15.cn hb18
 refine au (cs':=[Value.float .f64 0,Value.float .f64 0,Value.float .f64 0,Value.float .f64 0,Value.float .f64 0,Value.float .f64 0,Value.float .f64 0]) bh rfl rfl bx15 rfl nq (AllOne.all (.cons rfl (.cons rfl (.cons rfl (.cons rfl (.cons rfl (.cons rfl (.cons rfl .nil)))))))) rfl ?_
 intro w349 ch350 bx351
 clear bx15
 refine ai (bl g p) (a8 (av (vs:=[vg [Value.float .f64 0,Value.float .f64 0,Value.float .f64 0,Value.float .f64 0,Value.float .f64 0,Value.float .f64 0,Value.float .f64 0],vi (bl g p)]) Try.func8 (.cell rfl (cd (ds:=[Value.float .f64 0,Value.float .f64 0,Value.float .f64 0,Value.float .f64 0,Value.float .f64 0,Value.float .f64 0,Value.float .f64 0]) bh bx351 rfl rfl) (.tmp rfl .nil)) ?_))
 have e0:((0,0,0,0,0,0,0):(Nat)×(Nat)×(Nat)×(Nat)×(Nat)×(Nat)×(Nat))=((al g p).1):=by
   rw[rB p2]
 have e1:(bl g p:Int)=((al g p).2):=by
   rw[rB p2]
 have C352:=cg [3] (ch2.n.seq (ch7.n.seq (ch12.n.seq (hb18.n.seq (ch350.l rfl)))))
 replace bH:=bH.ca C352
 exact⟨(co (a:=(0,0,0,0,0,0,0)) (b:=bl g p) (λ(z0:(Nat)×(Nat)×(Nat)×(Nat)×(Nat)×(Nat)×(Nat)) (z1:Int)=>Ending.returned (vt [vg [Value.float .f64 z0.1,Value.float .f64 z0.2.1,Value.float .f64 z0.2.2.1,Value.float .f64 z0.2.2.2.1,Value.float .f64 z0.2.2.2.2.1,Value.float .f64 z0.2.2.2.2.2.1,Value.float .f64 z0.2.2.2.2.2.2],vi z1])) e0 e1),bH.below⟩
end TL
