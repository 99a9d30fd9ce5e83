import Derived.Test.YtmaclbnodbcniaaFmTlP3
import Derived.Test.YtmaclbnodbcniaaFmTlFwA
import Derived.Test.YtmaclbnodbcniaaFmTlFwL
import Derived.Test.YtmaclbnodbcniaaFmTlFwR
import Derived.Test.YtmaclbnodbcniaaFmTlFwMa
import Derived.Test.YtmaclbnodbcniaaFmTlFwMb
import Derived.Test.YtmaclbnodbcniaaFmTlFwMc
import Derived.Test.YtmaclbnodbcniaaProg
import Derived.Test.YtmaclbnodbcniaaFmTlAli
set_option linter.all false
set_option maxRecDepth 20000
namespace TL
open Go Go.Proofs
theorem k7:Try.prog.follows .mixedOrders=true:=by kernel_rfl
theorem pD:Try.f30.body.isNone=false:=rfl
theorem nR:(Try.f30.name== "runtime.NumGoroutine")=false:=by decide+kernel
theorem ow:Try.f31.body.isNone=false:=rfl
theorem oJ:(Try.f31.name== "runtime.NumGoroutine")=false:=by decide+kernel
set_option maxHeartbeats 8000000 in
theorem kL{b33:Nat}{w0:World}{t_v:Value}{t:(Int)×(List ((Int)×(Int)×(Int)×(Int)))×(List Int)}{t_v1:Value}{b3:Nat}{b8:Nat}{v27:Value}{O2_c1:eZ}{v28:Value}{v29:Value}{v30:Value}{W2_c1_v:Value}{ak_c1:Int}{g228:aG}{w227:World}{W2_c1:List bq}(bH:b9 w0 g228 w227)(Rt:Sl g228 (is 0) w227 t_v t.2.1)(r_t_v1:Sl g228 (is 0) w227 t_v1 t.2.2)(bx5:Bx g228 (is 1) w227 b3 [vi t.1,t_v,t_v1])(bx10:Bx g228 (is 2) w227 b8 [vn,vn,vi 0])(o23:bN g228 4 w227 v27 O2_c1)(o24:Ow g228 (is 5) (is 5) w227 v28 (List.replicate (Int.toNat (t.1+2)) (0:Int)))(o25:Ow g228 (is 6) (is 6) w227 v29 (List.replicate (Int.toNat (t.1+2)) (0:Int)))(o26:Ow g228 (is 7) (is 7) w227 v30 (List.replicate (Int.toNat (t.1+2)) (0:Int)))(bx35:Bx g228 (is 8) w227 b33 [W2_c1_v,v27,v28,v29,v30,vi t.1,vi (t.1+1),vi ak_c1,vi 0])(o_W2_c1:Ow g228 (is 12) (is 12) w227 W2_c1_v W2_c1)(hm:cB t)(hN60:t.1<=60)(hWO:(W2_c1,O2_c1)=lf t.1 t.2.1 t.2.2/\ak_c1=dH t.2.2 t.1.toNat):
    Calls Try.prog 25 (List.toArray [vp b33 0]) w227 (λee w=>∃xx:Int×(List bq)×(List Int)×(List Int)×(List Int)×aG,ee= .returned ((λ⟨fz_c6,Wz_c6,Pz_c6,Fz_c6,Nz_c6,gq⟩=>vt []) xx)/\(λ(⟨fz_c6,Wz_c6,Pz_c6,Fz_c6,Nz_c6,gq⟩:Int×(List bq)×(List Int)×(List Int)×(List Int)×aG) (w:World)=>b9 w0 gq w/\Sl gq (is 0) w t_v t.2.1/\Sl gq (is 0) w t_v1 t.2.2/\Bx gq (is 1) w b3 [vi t.1,t_v,t_v1]/\Bx gq (is 2) w b8 [vn,vn,vi 0]/\bN gq 4 w v27 O2_c1/\Ow gq (is 5) (is 5) w v28 Pz_c6/\Ow gq (is 6) (is 6) w v29 Fz_c6/\Ow gq (is 7) (is 7) w v30 Nz_c6/\Bx gq (is 8) w b33 [W2_c1_v,v27,v28,v29,v30,vi t.1,vi (t.1+1),vi ak_c1,vi fz_c6]/\Ow gq (is 12) (is 12) w W2_c1_v Wz_c6/\(dx t.1 t.2.1 t.2.2=(Wz_c6,Pz_c6,Fz_c6,Nz_c6,fz_c6))) xx w):=by
 refine aC Try.func25 rfl nq ?_
 have hm0:=hm
 obtain⟨⟨hm1,hm2⟩,hm3,hm4,hm5,hm6⟩:=hm0
 refine av ?_
 refine aX (σ:=Int×(List bq)×(List Int)×(List Int)×(List Int)×aG) (λ⟨fl,Wf,Pf,Ff,Nf,gq⟩ f w=>b9 w0 gq w/\f 0=vp b33 0/\Sl gq (is 0) w t_v t.2.1/\Sl gq (is 0) w t_v1 t.2.2/\Bx gq (is 1) w b3 [vi t.1,t_v,t_v1]/\Bx gq (is 2) w b8 [vn,vn,vi 0]/\bN gq 4 w v27 O2_c1/\Ow gq (is 5) (is 5) w v28 Pf/\Ow gq (is 6) (is 6) w v29 Ff/\Ow gq (is 7) (is 7) w v30 Nf/\Bx gq (is 8) w b33 [W2_c1_v,v27,v28,v29,v30,vi t.1,vi (t.1+1),vi ak_c1,vi fl]/\Ow gq (is 12) (is 12) w W2_c1_v Wf/\(jQ (t.1+2) t.1 (t.1+1) ak_c1 ((t.1+2)*1048576) (1048576+(t.1+2)*1048576) W2_c1 O2_c1 (dx t.1 t.2.1 t.2.2) Wf Pf Ff Nf fl/\(Ff.length:Int)=t.1+2/\(Nf.length:Int)=t.1+2)) (λ⟨fl,Wf,Pf,Ff,Nf,gq⟩=>(ak_c1-fl).toNat) (0,W2_c1,(List.replicate (Int.toNat (t.1+2)) (0:Int)),(List.replicate (Int.toNat (t.1+2)) (0:Int)),(List.replicate (Int.toNat (t.1+2)) (0:Int)),g228) ?_ ?_
 · exact⟨bH,rfl,Rt,r_t_v1,bx5,bx10,o23,o24,o25,o26,bx35,o_W2_c1,by exact⟨lU hm hWO,by rw[List.length_replicate];omega,by rw[List.length_replicate];omega⟩⟩
 clear Rt r_t_v1 bx5 bx10 o23 o24 o25 o26 bx35 o_W2_c1 bH
 rintro⟨fl,Wf,Pf,Ff,Nf,g747⟩ f745 w746 ⟨bH,zs0_c6,Rt,r_t_v1,bx5,bx10,o23,o24,o25,o26,bx35,o_W2_c1,hqa0⟩ back0_c6
 obtain⟨hqa,hff,hnf⟩:=hqa0
 have hqi:=hqa.ii
 have hbd:=hqi.d
 have hbp:=hbd.pt.pl
 obtain⟨hfb1,hfb2,hfb3⟩:=hqi.fb
 refine a9 (a9 (a6 rfl (mz zs0_c6 (lo ?_))))
 refine bF (σ:=(List Int)×(List Int)×Bool×aG) (V:=λ⟨xF,xP,rR,gq⟩=>vb rR) (S:=λ⟨xF,xP,rR,gq⟩ w=>b9 w0 gq w/\Sl gq (is 0) w t_v t.2.1/\Sl gq (is 0) w t_v1 t.2.2/\Bx gq (is 1) w b3 [vi t.1,t_v,t_v1]/\Bx gq (is 2) w b8 [vn,vn,vi 0]/\bN gq 4 w v27 O2_c1/\Ow gq (is 5) (is 5) w v28 xP/\Ow gq (is 6) (is 6) w v29 xF/\Ow gq (is 7) (is 7) w v30 Nf/\Bx gq (is 8) w b33 [W2_c1_v,v27,v28,v29,v30,vi t.1,vi (t.1+1),vi ak_c1,vi fl]/\Ow gq (is 12) (is 12) w W2_c1_v Wf/\(nL (t.1+2) t.1 (t.1+1) Wf O2_c1 Pf rR xF xP)) (aU (vals:=[vp b33 0]) Try.func30 pD nR rfl) (jG bH Rt r_t_v1 bx5 bx10 o23 o24 o25 o26 bx35 o_W2_c1 hm hN60 hbd hff) ?_
 clear Rt r_t_v1 bx5 bx10 o23 o24 o25 o26 bx35 o_W2_c1 bH
 rintro⟨xF,xP,rR,g941⟩ w940 ⟨bH,Rt,r_t_v1,bx5,bx10,o23,o24,o25,o26,bx35,o_W2_c1,hrj⟩
 obtain⟨hrj1,hrj2⟩:=hrj.len hbd
 refine af ?_
 by_cases p0_c6:rR=true
 ·
  refine aj rfl p0_c6 (au (av (av ?_)))
  refine aX (σ:=Int×(List bq)×(List Int)×(List Int)×aG) (λ⟨fl1,Wl,Fl,Nl,gq⟩ f w=>b9 w0 gq w/\f 0=vp b33 0/\Sl gq (is 0) w t_v t.2.1/\Sl gq (is 0) w t_v1 t.2.2/\Bx gq (is 1) w b3 [vi t.1,t_v,t_v1]/\Bx gq (is 2) w b8 [vn,vn,vi 0]/\bN gq 4 w v27 O2_c1/\Ow gq (is 5) (is 5) w v28 xP/\Ow gq (is 6) (is 6) w v29 Fl/\Ow gq (is 7) (is 7) w v30 Nl/\Bx gq (is 8) w b33 [W2_c1_v,v27,v28,v29,v30,vi t.1,vi (t.1+1),vi ak_c1,vi fl1]/\Ow gq (is 12) (is 12) w W2_c1_v Wl/\(jR (t.1+2) t.1 (t.1+1) ak_c1 ((t.1+2)*1048576) (1048576+(t.1+2)*1048576) W2_c1 O2_c1 (dx t.1 t.2.1 t.2.2) fl Wl xP Fl Nl fl1/\(Fl.length:Int)=t.1+2/\(Nl.length:Int)=t.1+2)) (λ⟨fl1,Wl,Fl,Nl,gq⟩=>(ak_c1-fl1).toNat) (fl,Wf,xF,Nf,g941) ?_ ?_
  · exact⟨bH,zs0_c6,Rt,r_t_v1,bx5,bx10,o23,o24,o25,o26,bx35,o_W2_c1,by exact⟨hqa.goJ hrj ‹_›,(hrj.len hbd).1,hnf⟩⟩
  clear Rt r_t_v1 bx5 bx10 o23 o24 o25 o26 bx35 o_W2_c1 bH
  rintro⟨fl1,Wl,Fl,Nl,g944⟩ f942 w943 ⟨bH,zs0_c6,Rt,r_t_v1,bx5,bx10,o23,o24,o25,o26,bx35,o_W2_c1,hqb0⟩ back1_c6
  obtain⟨hqb,hfl,hnl⟩:=hqb0
  have hqi1:=hqb.ii
  have hbd:=hqi1.d
  have hbp1:=hbd.pt.pl
  obtain⟨hfc1,hfc2,hfc3⟩:=hqi1.fb
  have hfc0:=hqb.le0
  refine a9 (a9 (a6 rfl (mz zs0_c6 (lo ?_))))
  refine bF (σ:=(List Int)×(List Int)×Bool×aG) (V:=λ⟨xL,xN,rL,gq⟩=>vb rL) (S:=λ⟨xL,xN,rL,gq⟩ w=>b9 w0 gq w/\Sl gq (is 0) w t_v t.2.1/\Sl gq (is 0) w t_v1 t.2.2/\Bx gq (is 1) w b3 [vi t.1,t_v,t_v1]/\Bx gq (is 2) w b8 [vn,vn,vi 0]/\bN gq 4 w v27 O2_c1/\Ow gq (is 5) (is 5) w v28 xP/\Ow gq (is 6) (is 6) w v29 xL/\Ow gq (is 7) (is 7) w v30 xN/\Bx gq (is 8) w b33 [W2_c1_v,v27,v28,v29,v30,vi t.1,vi (t.1+1),vi ak_c1,vi fl1]/\Ow gq (is 12) (is 12) w W2_c1_v Wl/\(xL=(bM (t.1+2) t.1 Wl O2_c1 xP).1/\xN=gb (t.1+2)/\rL=decide (0<=gI xL (t.1+1)))) (aU (vals:=[vp b33 0]) Try.func31 ow oJ rfl) (jK bH Rt r_t_v1 bx5 bx10 o23 o24 o25 o26 bx35 o_W2_c1 hm hbd hfl hnl) ?_
  clear Rt r_t_v1 bx5 bx10 o23 o24 o25 o26 bx35 o_W2_c1 bH
  rintro⟨xL,xN,rL,g1005⟩ w1004 ⟨bH,Rt,r_t_v1,bx5,bx10,o23,o24,o25,o26,bx35,o_W2_c1,hle⟩
  obtain⟨hle1,hle2,hle3⟩:=hle
  have hle4:=fJ hbd hle1
  have hle5:=iP (by omega) hle2
  refine af ?_
  by_cases p1_c6:rL=true
  ·
   refine aj rfl p1_c6 (au (av (a9 ?_)))
   have hqc:=hqb.yes' hle1 hle2 (of_decide_eq_true (hle3▸‹_›))
   obtain⟨hqc1,hqc3⟩:=hqc.lens
   refine aL g1005 [0,1,2,3,4,5,6,7,8,10] k7 ?_
   intro w1007 ch1006
   refine xp (v:=vp b33 0) 0 rfl (λw=>ah zs0_c6) (xp (v:=vp b33 0) 1 rfl (λw=>ah zs0_c6) (xp (v:=vp b33 0) 2 rfl (λw=>ad rfl) (xp 3 rfl (λw=>a7 bB rfl rfl rfl rfl) ?_)))
   replace bx35:=bx35.cn ch1006
   refine xv 4 [3,2,1,0,5,6,7,8] rfl (a8 ae rfl bx35 rfl) (xp (v:=vp b33 0) 5 rfl (λw=>ah zs0_c6) (xp (v:=vp b33 0) 6 rfl (λw=>ad rfl) (xp 7 rfl (λw=>a7 bB rfl rfl rfl rfl) (xv 8 [7,6,5,4,3,2,1,0] rfl (a8 ae rfl bx35 rfl) (aD 9 rfl (by kernel_rfl) rfl ?_)))))
   replace bH:=bH.cn ch1006
   replace Rt:=Rt.cn ch1006
   replace r_t_v1:=r_t_v1.cn ch1006
   replace bx5:=bx5.cn ch1006
   replace bx10:=bx10.cn ch1006
   replace o23:=o23.cn ch1006
   replace o24:=o24.cn ch1006
   replace o25:=o25.cn ch1006
   replace o26:=o26.cn ch1006
   replace o_W2_c1:=o_W2_c1.cn ch1006
   refine bF (σ:=(List bq)×(List Int)×Int×aG) (V:=λ⟨xW_c24,xn_c24,rr_c24,gq⟩=>vi rr_c24) (S:=λ⟨xW_c24,xn_c24,rr_c24,gq⟩ w=>b9 w0 gq w/\Sl gq (is 0) w t_v t.2.1/\Sl gq (is 0) w t_v1 t.2.2/\Bx gq (is 1) w b3 [vi t.1,t_v,t_v1]/\Bx gq (is 2) w b8 [vn,vn,vi 0]/\bN gq 4 w v27 O2_c1/\Ow gq (is 5) (is 5) w v28 xP/\Ow gq (is 6) (is 6) w v29 xL/\Ow gq (is 7) (is 7) w v30 xn_c24/\Bx gq (is 8) w b33 [W2_c1_v,v27,v28,v29,v30,vi t.1,vi (t.1+1),vi ak_c1,vi fl1]/\Ow gq (is 12) (is 12) w W2_c1_v xW_c24/\(rr_c24=(cL O2_c1 xP xL (t.1+1) (fh (t.1+2) O2_c1 xN xL t.1) t.1 ak_c1 Wl xN).1/\xW_c24=(cL O2_c1 xP xL (t.1+1) (fh (t.1+2) O2_c1 xN xL t.1) t.1 ak_c1 Wl xN).2.1/\xn_c24=(cL O2_c1 xP xL (t.1+1) (fh (t.1+2) O2_c1 xN xL t.1) t.1 ak_c1 Wl xN).2.2)) (aU (vals:=[vp b33 0,vi t.1,vi ak_c1]) Try.func32 jl jv rfl) (gC (fh (t.1+2) O2_c1 xN xL t.1) bH Rt r_t_v1 bx5 bx10 o23 o24 o25 o26 bx35 o_W2_c1 (by exact hqc.pun)) ?_
   clear Rt r_t_v1 bx5 bx10 o23 o24 o25 o26 bx35 o_W2_c1 bH
   rintro⟨xW_c24,xn_c24,rr_c24,g1068⟩ w1067 ⟨bH,Rt,r_t_v1,bx5,bx10,o23,o24,o25,o26,bx35,o_W2_c1,hpr_c24⟩
   have hqe:=hqc.push hpr_c24
   refine xp (v:=vi rr_c24) 10 rfl (λw=>bD rfl) (bc (by kernel_rfl) (av ?_))
   refine aX (σ:=Int×Int×(List bq)×(List Int)×aG) (λ⟨fl2,pn,Wp,Np,gq⟩ f w=>b9 w0 gq w/\f 0=vp b33 0/\f 2=vi pn/\Sl gq (is 0) w t_v t.2.1/\Sl gq (is 0) w t_v1 t.2.2/\Bx gq (is 1) w b3 [vi t.1,t_v,t_v1]/\Bx gq (is 2) w b8 [vn,vn,vi 0]/\bN gq 4 w v27 O2_c1/\Ow gq (is 5) (is 5) w v28 xP/\Ow gq (is 6) (is 6) w v29 xL/\Ow gq (is 7) (is 7) w v30 Np/\Bx gq (is 8) w b33 [W2_c1_v,v27,v28,v29,v30,vi t.1,vi (t.1+1),vi ak_c1,vi fl2]/\Ow gq (is 12) (is 12) w W2_c1_v Wp/\(oA (t.1+2) t.1 (t.1+1) ak_c1 ((t.1+2)*1048576) (1048576+(t.1+2)*1048576) W2_c1 O2_c1 (dx t.1 t.2.1 t.2.2) fl1 Wp xP xL Np fl2 pn)) (λ⟨fl2,pn,Wp,Np,gq⟩=>(ak_c1-fl2).toNat) (fl1,rr_c24,xW_c24,xn_c24,g1068) ?_ ?_
   · exact⟨bH,zs0_c6,rfl,Rt,r_t_v1,bx5,bx10,o23,o24,o25,o26,bx35,o_W2_c1,by exact hqe⟩
   clear Rt r_t_v1 bx5 bx10 o23 o24 o25 o26 bx35 o_W2_c1 bH
   rintro⟨fl2,pn,Wp,Np,g1071⟩ f1069 w1070 ⟨bH,zs0_c6,zs2_c6,Rt,r_t_v1,bx5,bx10,o23,o24,o25,o26,bx35,o_W2_c1,hqd⟩ back3_c6
   obtain⟨hqi2,hpn0,hqd1,hqd2⟩:=hqd.ii
   obtain⟨hfd1,hfd2,hfd3⟩:=hqi2.fb
   refine a9 (a9 (a6 rfl (mz zs2_c6 (lx (bY (m:=pn) (n:=0) rfl rfl) (af ?_)))))
   by_cases p3_c6:0<pn
   ·
    refine aj rfl (dt p3_c6) (au (a9 (av (a6 rfl (mz zs0_c6 (lw (vp b33 0) (ad rfl) (lx (a7 bB rfl rfl rfl rfl) (lx (a8 ae rfl bx35 rfl) (mz zs2_c6 ?_)))))))))
    refine lx (aP (m:=fl2) (n:=pn) rfl rfl (by omega)) (lw (vp b33 0) (ad rfl) (lx (a7 bB rfl rfl rfl rfl) (lo (aR (cs':=[W2_c1_v,v27,v28,v29,v30,vi t.1,vi (t.1+1),vi ak_c1,vi (fl2+pn)]) ae rfl rfl bx35 rfl nq (AllOne.all (.cons rfl .nil)) rfl ?_))))
    intro w1072 ch1073 bx1074
    clear bx35
    refine af (aq ?_)
    have hqc2:=hqd.yes ‹_›
    refine aL g1071 [0,1,2,3,4,5,6,7,8,10] k7 ?_
    intro w1076 ch1075
    refine xp (v:=vp b33 0) 0 rfl (λw=>ah zs0_c6) (xp (v:=vp b33 0) 1 rfl (λw=>ah zs0_c6) (xp (v:=vp b33 0) 2 rfl (λw=>ad rfl) (xp 3 rfl (λw=>a7 bB rfl rfl rfl rfl) ?_)))
    replace bx1074:=bx1074.cn ch1075
    refine xv 4 [3,2,1,0,5,6,7,8] rfl (a8 ae rfl bx1074 rfl) (xp (v:=vp b33 0) 5 rfl (λw=>ah zs0_c6) (xp (v:=vp b33 0) 6 rfl (λw=>ad rfl) (xp 7 rfl (λw=>a7 bB rfl rfl rfl rfl) (xv 8 [7,6,5,4,3,2,1,0] rfl (a8 ae rfl bx1074 rfl) (aD 9 rfl (by kernel_rfl) rfl ?_)))))
    replace bH:=bH.ce ch1073
    replace bH:=bH.cn ch1075
    replace Rt:=(Rt.ce ch1073).cn ch1075
    replace r_t_v1:=(r_t_v1.ce ch1073).cn ch1075
    replace bx5:=(bx5.ce ch1073).cn ch1075
    replace bx10:=(bx10.ce ch1073).cn ch1075
    replace o23:=(o23.ce ch1073).cn ch1075
    replace o24:=(o24.ce ch1073).cn ch1075
    replace o25:=(o25.ce ch1073).cn ch1075
    replace o26:=(o26.ce ch1073).cn ch1075
    replace o_W2_c1:=(o_W2_c1.ce ch1073).cn ch1075
    refine bF (σ:=(List bq)×(List Int)×Int×aG) (V:=λ⟨xW_c26,xn_c26,rr_c26,gq⟩=>vi rr_c26) (S:=λ⟨xW_c26,xn_c26,rr_c26,gq⟩ w=>b9 w0 gq w/\Sl gq (is 0) w t_v t.2.1/\Sl gq (is 0) w t_v1 t.2.2/\Bx gq (is 1) w b3 [vi t.1,t_v,t_v1]/\Bx gq (is 2) w b8 [vn,vn,vi 0]/\bN gq 4 w v27 O2_c1/\Ow gq (is 5) (is 5) w v28 xP/\Ow gq (is 6) (is 6) w v29 xL/\Ow gq (is 7) (is 7) w v30 xn_c26/\Bx gq (is 8) w b33 [W2_c1_v,v27,v28,v29,v30,vi t.1,vi (t.1+1),vi ak_c1,vi (fl2+pn)]/\Ow gq (is 12) (is 12) w W2_c1_v xW_c26/\(rr_c26=(cL O2_c1 xP xL (t.1+1) (fh (t.1+2) O2_c1 Np xL t.1) t.1 ak_c1 Wp Np).1/\xW_c26=(cL O2_c1 xP xL (t.1+1) (fh (t.1+2) O2_c1 Np xL t.1) t.1 ak_c1 Wp Np).2.1/\xn_c26=(cL O2_c1 xP xL (t.1+1) (fh (t.1+2) O2_c1 Np xL t.1) t.1 ak_c1 Wp Np).2.2)) (aU (vals:=[vp b33 0,vi t.1,vi ak_c1]) Try.func32 jl jv rfl) (gC (fh (t.1+2) O2_c1 Np xL t.1) bH Rt r_t_v1 bx5 bx10 o23 o24 o25 o26 bx1074 o_W2_c1 (by exact hqc2.pun)) ?_
    clear Rt r_t_v1 bx5 bx10 o23 o24 o25 o26 o_W2_c1 bx1074 bH
    rintro⟨xW_c26,xn_c26,rr_c26,g1078⟩ w1077 ⟨bH,Rt,r_t_v1,bx5,bx10,o23,o24,o25,o26,bx1074,o_W2_c1,hpr_c26⟩
    have hqe:=hqc2.push hpr_c26
    refine xp (v:=vi rr_c26) 10 rfl (λw=>bD rfl) (bc (by kernel_rfl) ?_)
    refine back3_c6 (fl2+pn,rr_c26,xW_c26,xn_c26,g1078) _ _ ⟨bH,zs0_c6,rfl,Rt,r_t_v1,bx5,bx10,o23,o24,o25,o26,bx1074,o_W2_c1,?_⟩ ?_
    · show oA (t.1+2) t.1 (t.1+1) ak_c1 ((t.1+2)*1048576) (1048576+(t.1+2)*1048576) W2_c1 O2_c1 (dx t.1 t.2.1 t.2.2) fl1 xW_c26 xP xL xn_c26 (fl2+pn) rr_c26
      exact hqe
    · show(ak_c1-(fl2+pn)).toNat<(ak_c1-fl2).toNat
      omega
   refine am rfl (df p3_c6) (aM rfl (aq ?_))
   refine back1_c6 (fl2,Wp,xL,Np,g1071) _ _ ⟨bH,zs0_c6,Rt,r_t_v1,bx5,bx10,o23,o24,o25,o26,bx35,o_W2_c1,?_⟩ ?_
   · show jR (t.1+2) t.1 (t.1+1) ak_c1 ((t.1+2)*1048576) (1048576+(t.1+2)*1048576) W2_c1 O2_c1 (dx t.1 t.2.1 t.2.2) fl Wp xP xL Np fl2/\(xL.length:Int)=t.1+2/\(Np.length:Int)=t.1+2
     exact⟨(hqd.no ‹_› hfc0).1,hqd1,hqd2⟩
   · show(ak_c1-fl2).toNat<(ak_c1-fl1).toNat
     (have h1:=(hqd.no ‹_› hfc0).2;omega)
  refine am rfl (Bool.eq_false_iff.2 p1_c6) (aM rfl (aq ?_))
  refine back0_c6 (fl1,Wl,xP,xL,xN,g1005) _ _ ⟨bH,zs0_c6,Rt,r_t_v1,bx5,bx10,o23,o24,o25,o26,bx35,o_W2_c1,?_⟩ ?_
  · show jQ (t.1+2) t.1 (t.1+1) ak_c1 ((t.1+2)*1048576) (1048576+(t.1+2)*1048576) W2_c1 O2_c1 (dx t.1 t.2.1 t.2.2) Wl xP xL xN fl1/\(xL.length:Int)=t.1+2/\(xN.length:Int)=t.1+2
    exact⟨(hqb.no' hle1 hle2 (λh=>absurd (hle3▸dt h) ‹_›)).1,fJ hbd hle1,iP (by omega) hle2⟩
  · show(ak_c1-fl1).toNat<(ak_c1-fl).toNat
    (have h1:=(hqb.no' hle1 hle2 (λh=>absurd (hle3▸dt h) ‹_›)).2;omega)
 refine am rfl (Bool.eq_false_iff.2 p0_c6) (aM rfl (bU (vs:=[]) Try.func25 .nil ?_))
 refine⟨(fl,Wf,xP,xF,Nf,g941),rfl,bH,Rt,r_t_v1,bx5,bx10,o23,o24,o25,o26,bx35,o_W2_c1,?_⟩
 show dx t.1 t.2.1 t.2.2=(Wf,xP,xF,Nf,fl)
 exact hqa.stopJ ‹_› ‹_›
end TL
