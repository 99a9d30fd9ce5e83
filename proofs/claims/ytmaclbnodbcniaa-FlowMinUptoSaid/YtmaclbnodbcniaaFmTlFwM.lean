import Derived.Test.YtmaclbnodbcniaaFmTlP3
import Derived.Test.YtmaclbnodbcniaaFmTlFwA
import Derived.Test.YtmaclbnodbcniaaFmTlFwL
import Derived.Test.YtmaclbnodbcniaaFmTlFwR
import Derived.Test.YtmaclbnodbcniaaFmTlFwMa
import Derived.Test.YtmaclbnodbcniaaFmTlFwMb
import Derived.Test.YtmaclbnodbcniaaFmTlFwMc
import Derived.Test.YtmaclbnodbcniaaFmTlFwMd
import Derived.Test.YtmaclbnodbcniaaProg
import Derived.Test.YtmaclbnodbcniaaFmTlAli
set_option linter.all false
set_option maxRecDepth 20000
namespace TL
open Go Go.Proofs
theorem cO:Try.prog.follows .mixedOrders=true:=by kernel_rfl
theorem gu:Tp Try.prog 2 false 1 8 (.int .i64 0):=Tp.of (by kernel_rfl)
theorem l6:Tp Try.prog 25 true 3 56 (.agg #[.int .i64 0,.slice none 0 0,.slice none 0 0]):=Tp.of (by kernel_rfl)
theorem bP:Tp Try.prog 30 true 3 56 (.agg #[.slice none 0 0,.slice none 0 0,.int .i64 0]):=Tp.of (by kernel_rfl)
theorem cN:Tp Try.prog 57 true 3 24 (.agg #[.int .i64 0,.int .i64 0,.int .i64 0]):=Tp.of (by kernel_rfl)
theorem kz:Try.f14.body.isNone=false:=rfl
theorem kS:(Try.f14.name== "runtime.NumGoroutine")=false:=by decide+kernel
theorem qZ:Try.f24.body.isNone=false:=rfl
theorem qC:(Try.f24.name== "runtime.NumGoroutine")=false:=by decide+kernel
theorem qY:Try.f25.body.isNone=false:=rfl
theorem qM:(Try.f25.name== "runtime.NumGoroutine")=false:=by decide+kernel
theorem qD:Try.f26.body.isNone=false:=rfl
theorem qO:(Try.f26.name== "runtime.NumGoroutine")=false:=by decide+kernel
theorem iM:Try.f29.body.isNone=false:=rfl
theorem iC:(Try.f29.name== "runtime.NumGoroutine")=false:=by decide+kernel
set_option maxHeartbeats 8000000 in
theorem kC(w0:World)(t:(Int)×(List ((Int)×(Int)×(Int)×(Int)))×(List Int))(t_v t_v1:Value)(ht_v:Ro w0 t_v t.2.1)(ht_v1:Ro w0 t_v1 t.2.2)(hN:t.1<=60\/¬cB t):
    Calls Try.prog 12 #[vg [vi t.1,t_v,t_v1]] w0 (λee w=>∃xx:aG×Value×Value,ee= .returned ((λ⟨δ,rv0,rv1⟩=>vt [vg [rv0,rv1,vi ((((ax t).1).2).2)],vi ((ax t).2)]) xx)/\(λ(⟨δ,rv0,rv1⟩:aG×Value×Value) (w:World)=>jY w0 δ w/\Ow δ (is 1) (is 1) w rv0 (((ax t).1).1)/\Ow δ (is 2) (is 2) w rv1 ((((ax t).1).2).1)) xx w):=by
 refine aC Try.func12 rfl nq ?_
 have bH:=b9.start w0
 have Rt:=ht_v.sl
 have r_t_v1:=ht_v1.sl
 refine a9 (a6 rfl (cQ rfl (d4 c0 (is 1) (1,0) rfl rfl ?_)))
 intro g4 w1 b3 ch2 bx5
 replace bx5:Bx g4 (is 1) w1 b3 [vi t.1,t_v,t_v1]:=bx5
 refine lo (cd g4 (is 2) (2,0) rfl bP ?_)
 intro g9 w6 b8 ch7 bx10
 replace bx10:Bx g9 (is 2) w6 b8 [vn,vn,vi 0]:=bx10
 refine ai 0 (af (a9 (a9 (a6 rfl ?_))))
 replace bx5:=bx5.cn ch7
 refine lx (bm (ds:=[vi t.1,t_v,t_v1]) l6 rfl bx5 rfl rfl) ?_
 replace Rt:=(Rt.cn ch2).cn ch7
 replace r_t_v1:=(r_t_v1.cn ch2).cn ch7
 refine lo (bE (v:=vb (bQ t)) (aU (vals:=[vg [vi t.1,t_v,t_v1]]) Try.func14 kz kS rfl) (gO w6 t t_v t_v1 (Rt).ro (r_t_v1).ro) ?_)
 intro w11 hb12
 replace hb12:=aB hb12 g9
 refine lx (cz (b:=(bQ t)) rfl) (af ?_)
 by_cases p1:(bQ t)=true
 ·
  have hm:cB t:=of_decide_eq_true ‹_›
  have hN60:t.1<=60:=hN.resolve_right (λh=>h hm)
  have hm0:=hm
  obtain⟨⟨hm1,hm2⟩,hm3,hm4,hm5,hm6⟩:=hm0
  refine am rfl (congrArg Bool.not p1) (au (a9 (a6 rfl ?_)))
  replace bx5:=bx5.cn hb12
  refine lx (bm (ds:=[vi t.1,t_v,t_v1]) l6 rfl bx5 rfl rfl) (lo (c6 (aU (vals:=[vg [vi t.1,t_v,t_v1]]) Try.func24 qZ qC rfl) (aC Try.func24 rfl nq ?_)))
  replace Rt:=Rt.cn hb12
  replace r_t_v1:=r_t_v1.cn hb12
  refine a9 (a6 rfl (cQ rfl (d4 g9 (is 3) (3,0) rfl rfl ?_)))
  intro g16 w13 b15 ch14 bx17
  replace bx17:Bx g16 (is 3) w13 b15 [vi t.1,t_v,t_v1]:=bx17
  refine ma ((Value.pointer none)) (af (a9 (a6 rfl (lx (a7 cP rfl rfl rfl rfl) (lx (a8 ae rfl bx17 rfl) (lx (aP (m:=t.1) (n:=2) rfl rfl (by omega)) (ai (t.1+2) (af (a9 (aL g16 [0,2,4,6,8,9,10,11,12,13,15] cO ?_))))))))))
  intro w19 ch18
  refine xp (v:=vi (t.1+2)) 0 rfl (λw=>ah rfl) (xp (v:=vi (t.1+2)) 2 rfl (λw=>ah rfl) (xp (v:=vi (t.1+2)) 4 rfl (λw=>ah rfl) (xp (v:=vi (t.1+2)) 6 rfl (λw=>ah rfl) (xp 8 rfl (λw=>a7 cP rfl rfl rfl rfl) ?_))))
  replace bx17:=bx17.cn ch18
  refine xh 9 [8,6,4,2,0,1,3,5,7,10,11,12] rfl (λw' hw'=>a8 ae rfl (bx17.bel hw') rfl) (xp 10 rfl (λw=>a7 cP rfl rfl rfl rfl) (xh 11 [10,9,8,6,4,2,0,1,3,5,7] rfl (λw' hw'=>a8 ae rfl (bx17.bel hw') rfl) (xp 12 rfl (λw=>aP (m:=t.1) (n:=1) rfl rfl (by omega)) ?_)))
  refine n7 g16 [⟨1,13,[],(λ_ γ w v=>bN (α:=Int) γ 4 w v (List.replicate (Int.toNat (t.1+2)) ([]:List Int)))⟩,⟨3,15,[],(λ_ γ w v=>Ow (α:=Int) γ (is 5) (is 5) w v (List.replicate (Int.toNat (t.1+2)) ((0:Int):Int)))⟩,⟨5,17,[],(λ_ γ w v=>Ow (α:=Int) γ (is 6) (is 6) w v (List.replicate (Int.toNat (t.1+2)) ((0:Int):Int)))⟩,⟨7,19,[],(λ_ γ w v=>Ow (α:=Int) γ (is 7) (is 7) w v (List.replicate (Int.toNat (t.1+2)) ((0:Int):Int)))⟩] [(1,13),(3,15),(5,17),(7,19)] _ rfl ⟨(λ_ _ _ _ _ _ h k=>bN.chg k h (cK _)),(λ_ _ _ _ _ _ h k=>Ow.chg k h (cK _) (cK _)),(λ_ _ _ _ _ _ h k=>Ow.chg k h (cK _) (cK _)),(λ_ _ _ _ _ _ h k=>Ow.chg k h (cK _) (cK _)),trivial⟩ (by decide) (by decide) (by kernel_rfl) (by kernel_rfl) (fuel:=3) rfl ⟨⟨rfl,_,rfl,rfl,by decide,λf' val hf' hv=>⟨rfl,λγ w hd=>j8 (α:=Int) (n:=t.1+2) (cp:=t.1+2) γ 4 c5 ao rfl ((hf' 12 rfl).trans rfl) ((hf' 12 rfl).trans rfl) (by omega) (by omega) (by omega) (by omega) (λg2 w2 v h k=>⟨g2,h,k⟩)⟩⟩,⟨rfl,_,rfl,rfl,by decide,λf' val hf' hv=>⟨rfl,λγ w hd=>dw (α:=Int) (l:=t.1+2) (cp:=t.1+2) γ (is 5) (is 5) (5,0) rfl (0:Int) aW ae rfl ((hf' 14 rfl).trans rfl) ((hf' 14 rfl).trans rfl) (by omega) (by omega) (by omega) (by omega) (λg2 w2 v h k _=>⟨g2,h,k⟩)⟩⟩,⟨rfl,_,rfl,rfl,by decide,λf' val hf' hv=>⟨rfl,λγ w hd=>dw (α:=Int) (l:=t.1+2) (cp:=t.1+2) γ (is 6) (is 6) (6,0) rfl (0:Int) aW ae rfl ((hf' 16 rfl).trans rfl) ((hf' 16 rfl).trans rfl) (by omega) (by omega) (by omega) (by omega) (λg2 w2 v h k _=>⟨g2,h,k⟩)⟩⟩,⟨rfl,_,rfl,rfl,by decide,λf' val hf' hv=>⟨rfl,λγ w hd=>dw (α:=Int) (l:=t.1+2) (cp:=t.1+2) γ (is 7) (is 7) (7,0) rfl (0:Int) aW ae rfl ((hf' 18 rfl).trans rfl) ((hf' 18 rfl).trans rfl) (by omega) (by omega) (by omega) (by omega) (λg2 w2 v h k _=>⟨g2,h,k⟩)⟩⟩,trivial⟩ ?_
  refine λg20 w21 ch22 v27 o23 v28 o24 v29 o25 v30 o26=>?_
  replace o23:bN (α:=Int) g20 4 w21 v27 (List.replicate (Int.toNat (t.1+2)) ([]:List Int)):=o23
  replace o24:Ow (α:=Int) g20 (is 5) (is 5) w21 v28 (List.replicate (Int.toNat (t.1+2)) ((0:Int):Int)):=o24
  replace o25:Ow (α:=Int) g20 (is 6) (is 6) w21 v29 (List.replicate (Int.toNat (t.1+2)) ((0:Int):Int)):=o25
  replace o26:Ow (α:=Int) g20 (is 7) (is 7) w21 v30 (List.replicate (Int.toNat (t.1+2)) ((0:Int):Int)):=o26
  refine xp (v:=vg [vn,v27,v28,v29,v30,vi t.1,vi (t.1+1),vi 0,vi 0]) 13 rfl (λw=>bp (vs:=[(1,v27),(2,v28),(3,v29),(4,v30),(5,vi t.1),(6,vi (t.1+1))]) rfl (by rw[Sl.form o23.sl,Sl.form o24.flat,Sl.form o25.flat,Sl.form o26.flat];kernel_rfl)) (aD 14 rfl (by kernel_rfl) rfl (d4 g20 (is 8) (8,0) rfl rfl ?_))
  intro g34 w31 b33 ch32 bx35
  replace bx35:Bx g34 (is 8) w31 b33 [vn,v27,v28,v29,v30,vi t.1,vi (t.1+1),vi 0,vi 0]:=bx35
  refine xp (v:=vp b33 0) 15 rfl (λw=>bD rfl) (bc (by kernel_rfl) (a9 (a9 (a6 rfl (lx (a7 cP rfl rfl rfl rfl) ?_)))))
  replace bx17:=(bx17.cn ch22).cn ch32
  refine lx (a8 bT rfl bx17 rfl) ?_
  have C36:=cg [] (ch14.n.seq (ch18.n.seq (ch22.n.seq ch32.n)))
  replace Rt:=Rt.ca C36
  have len37:=(Rt).small
  refine lx (ba dB rfl Rt) (mi 0 (af (av ?_)))
  refine aX (σ:=Value×(List bq)×Nat×eZ×aG) (λ⟨W_c1_v,W_c1,k_c1,O_c1,gq⟩ f w=>b9 w0 gq w/\f 1=vp b15 0/\f 4=vp b33 0/\f 28=t_v/\f 29=vi (t.2.1.length:Int)/\f 30=vi ↑k_c1/\Sl gq (is 0) w t_v t.2.1/\Sl gq (is 0) w t_v1 t.2.2/\Bx gq (is 1) w b3 [vi t.1,t_v,t_v1]/\Bx gq (is 2) w b8 [vn,vn,vi 0]/\Bx gq (is 3) w b15 [vi t.1,t_v,t_v1]/\bN gq 4 w v27 O_c1/\Ow gq (is 5) (is 5) w v28 (List.replicate (Int.toNat (t.1+2)) (0:Int))/\Ow gq (is 6) (is 6) w v29 (List.replicate (Int.toNat (t.1+2)) (0:Int))/\Ow gq (is 7) (is 7) w v30 (List.replicate (Int.toNat (t.1+2)) (0:Int))/\Bx gq (is 8) w b33 [W_c1_v,v27,v28,v29,v30,vi t.1,vi (t.1+1),vi 0,vi 0]/\Ow gq (is 12) (is 12) w W_c1_v W_c1/\(k_c1:Int)<=((t.2.1.length:Int):Int)/\(jB t k_c1 W_c1 O_c1)) (λ⟨W_c1_v,W_c1,k_c1,O_c1,gq⟩=>Int.toNat (((t.2.1.length:Int):Int)-(k_c1:Int))) (vn,[],0,(List.replicate (Int.toNat (t.1+2)) ([]:List Int)),g34) ?_ ?_
  have C39:=cg [] (hb12.n.seq (ch14.n.seq (ch18.n.seq (ch22.n.seq ch32.n))))
  have C38:=ch2.n.seq (ch7.n.seq C39)
  · exact⟨bH.ca C38,rfl,rfl,rfl,rfl,rfl,Rt,r_t_v1.ca C36,bx5.ca C36,bx10.ca C39,bx17,o23.cn ch32,o24.cn ch32,o25.cn ch32,o26.cn ch32,bx35,Ow.nil,by omega,by exact jB.start hm⟩
  clear Rt r_t_v1 bx5 bx10 bx17 o23 o24 o25 o26 bx35 bH
  rintro⟨W_c1_v,W_c1,k_c1,O_c1,g42⟩ f40 w41 ⟨bH,zs1_c1,zs4_c1,zs28_c1,zs29_c1,zs30_c1,Rt,r_t_v1,bx5,bx10,bx17,o23,o24,o25,o26,bx35,o_W_c1,hle_k_c1,hla_c1⟩ back4_c1
  obtain⟨hlw_c1,hlo_c1,hlk_c1⟩:=hla_c1.lw hm
  refine a9 (a6 rfl (lx (bo (m:=↑k_c1) (n:=(t.2.1.length:Int)) zs30_c1 zs29_c1) (af (a9 ?_))))
  by_cases p4_c1:(k_c1:Int)<(t.2.1.length:Int)
  ·
   refine aj rfl (dt p4_c1) ?_
   obtain⟨⟨ha0_c1,ha1_c1⟩,⟨ha2_c1,ha3_c1⟩,⟨ha4_c1,ha5_c1⟩,ha6_c1,ha7_c1⟩:=hm.2.2.2.1 _ (bx (xs:=t.2.1) (i:=↑k_c1) (by omega) ‹_›)
   have hr1_c1:=hla_c1.rl hm (u:=(gI t.2.1 ↑k_c1).1) (by omega) (by omega)
   have hr2_c1:=hla_c1.rl hm (u:=(gI t.2.1 ↑k_c1).2.1) (by omega) (by omega)
   refine au (a9 (av (a9 (a6 rfl (lx (aa (v:=t_v) (i:=↑k_c1) dB rfl zs28_c1 Rt zs30_c1 (by omega) (by omega)) (lw (vg [vi ((gI t.2.1 ↑k_c1).1),vi (((gI t.2.1 ↑k_c1).2).1),vi ((((gI t.2.1 ↑k_c1).2).2).1),vi ((((gI t.2.1 ↑k_c1).2).2).2)]) (bh (v:=t_v) (i:=↑k_c1) bz rfl Rt (by omega) (by omega) rfl) (lo (cd g42 (is 9) (9,0) rfl bz ?_))))))))
   intro g46 w43 b45 ch44 bx47
   replace bx47:Bx g46 (is 9) w43 b45 [vi 0,vi 0,vi 0,vi 0]:=bx47
   refine lo (aR (cs':=[vi ((gI t.2.1 ↑k_c1).1),vi (((gI t.2.1 ↑k_c1).2).1),vi ((((gI t.2.1 ↑k_c1).2).2).1),vi ((((gI t.2.1 ↑k_c1).2).2).2)]) bz rfl rfl bx47 rfl nq (AllOne.all (.cons rfl (.cons rfl (.cons rfl (.cons rfl .nil))))) rfl ?_)
   intro w48 ch49 bx50
   clear bx47
   refine af (a6 rfl (mz zs4_c1 (lx (a7 dK rfl rfl rfl rfl) (lx (a8 ae rfl bx50 rfl) (lx (a7 dK rfl rfl rfl rfl) (lx (a8 ae rfl bx50 rfl) (lx (a7 dK rfl rfl rfl rfl) (lx (a8 ae rfl bx50 rfl) (lx (a7 dK rfl rfl rfl rfl) (lx (a8 ae rfl bx50 rfl) ?_))))))))))
   refine lo ?_
   refine bF (σ:=Value×(List bq)×eZ×aG) (V:=λ⟨Wj_c2_v,Wj_c2,Oj_c2,gq⟩=>vt []) (S:=λ⟨Wj_c2_v,Wj_c2,Oj_c2,gq⟩ w=>b9 w0 gq w/\Sl gq (is 0) w t_v t.2.1/\Sl gq (is 0) w t_v1 t.2.2/\Bx gq (is 1) w b3 [vi t.1,t_v,t_v1]/\Bx gq (is 2) w b8 [vn,vn,vi 0]/\Bx gq (is 3) w b15 [vi t.1,t_v,t_v1]/\bN gq 4 w v27 Oj_c2/\Ow gq (is 5) (is 5) w v28 (List.replicate (Int.toNat (t.1+2)) (0:Int))/\Ow gq (is 6) (is 6) w v29 (List.replicate (Int.toNat (t.1+2)) (0:Int))/\Ow gq (is 7) (is 7) w v30 (List.replicate (Int.toNat (t.1+2)) (0:Int))/\Bx gq (is 8) w b33 [Wj_c2_v,v27,v28,v29,v30,vi t.1,vi (t.1+1),vi 0,vi 0]/\Bx gq (is 9) w b45 [vi ((gI t.2.1 ↑k_c1).1),vi (((gI t.2.1 ↑k_c1).2).1),vi ((((gI t.2.1 ↑k_c1).2).2).1),vi ((((gI t.2.1 ↑k_c1).2).2).2)]/\Ow gq (is 12) (is 12) w Wj_c2_v Wj_c2/\((Wj_c2,Oj_c2)=de (W_c1,O_c1) ((gI t.2.1 ↑k_c1).1) (((gI t.2.1 ↑k_c1).2).1) ((((gI t.2.1 ↑k_c1).2).2).1) ((((gI t.2.1 ↑k_c1).2).2).2))) (aU (vals:=[vp b33 0,vi ((gI t.2.1 ↑k_c1).1),vi (((gI t.2.1 ↑k_c1).2).1),vi ((((gI t.2.1 ↑k_c1).2).2).1),vi ((((gI t.2.1 ↑k_c1).2).2).2)]) Try.func29 iM iC rfl) ?_ ?_
   ·
    refine aC Try.func29 rfl nq ?_
    replace o_W_c1:=(o_W_c1.cn ch44).ce ch49
    replace o23:=(o23.cn ch44).ce ch49
    replace o24:=(o24.cn ch44).ce ch49
    replace o25:=(o25.cn ch44).ce ch49
    replace o26:=(o26.cn ch44).ce ch49
    have hrs_c2:=cS (O:=O_c1) (a:=((gI t.2.1 ↑k_c1).1)) (b:=(((gI t.2.1 ↑k_c1).2).1)) (x:=(W_c1.length:Int)) (by omega) (by omega) (by omega)
    have hrt_c2:=hrs_c2
    try simp only[Int.toNat_natCast] at hrt_c2
    refine a9 ?_
    refine bS (σ:=aG) (λgq f w=>b9 w0 gq w/\f 0=vp b33 0/\f 1=vi ((gI t.2.1 ↑k_c1).1)/\f 2=vi (((gI t.2.1 ↑k_c1).2).1)/\f 3=vi ((((gI t.2.1 ↑k_c1).2).2).1)/\f 4=vi ((((gI t.2.1 ↑k_c1).2).2).2)/\Sl gq (is 0) w t_v t.2.1/\Sl gq (is 0) w t_v1 t.2.2/\Bx gq (is 1) w b3 [vi t.1,t_v,t_v1]/\Bx gq (is 2) w b8 [vn,vn,vi 0]/\Bx gq (is 3) w b15 [vi t.1,t_v,t_v1]/\Ow gq (is 5) (is 5) w v28 (List.replicate (Int.toNat (t.1+2)) (0:Int))/\Ow gq (is 6) (is 6) w v29 (List.replicate (Int.toNat (t.1+2)) (0:Int))/\Ow gq (is 7) (is 7) w v30 (List.replicate (Int.toNat (t.1+2)) (0:Int))/\Bx gq (is 8) w b33 [W_c1_v,v27,v28,v29,v30,vi t.1,vi (t.1+1),vi 0,vi 0]/\Ow gq (is 12) (is 12) w W_c1_v W_c1/\Bx gq (is 9) w b45 [vi ((gI t.2.1 ↑k_c1).1),vi (((gI t.2.1 ↑k_c1).2).1),vi ((((gI t.2.1 ↑k_c1).2).2).1),vi ((((gI t.2.1 ↑k_c1).2).2).2)]/\bN gq 4 w v27 (List.set O_c1 (Int.toNat ((gI t.2.1 ↑k_c1).1)) (gI O_c1 ((gI t.2.1 ↑k_c1).1)++([(W_c1.length:Int)]:List Int)))) g46 [0,1,2,4,5,6,7,8,9,10,11,12,13,14,15,16,19] cO ?_ ?_
    ·
     intro mid
     intro w52 ch51
     refine xp (v:=vp b33 0) 0 rfl (λw=>ah rfl) (xp (v:=vp b33 0) 1 rfl (λw=>ad rfl) (xp 2 rfl (λw=>a7 bB rfl rfl rfl rfl) (xp (v:=vi ((gI t.2.1 ↑k_c1).1)) 4 rfl (λw=>ah rfl) (xp (v:=vp b33 0) 5 rfl (λw=>ah rfl) (xp (v:=vp b33 0) 6 rfl (λw=>ad rfl) (xp 7 rfl (λw=>a7 bB rfl rfl rfl rfl) ?_))))))
     have C53:=cg [9] (ch44.n.seq ((ch49.l rfl).seq ch51.n))
     replace bx35:=bx35.ca C53
     refine xh 8 [7,6,5,4,2,1,0,3,9,12,13,14,15,16,17] rfl (λw' hw'=>a8 aN rfl (bx35.bel hw') rfl) (xp (v:=vi ((gI t.2.1 ↑k_c1).1)) 9 rfl (λw=>ah rfl) ?_)
     replace o23:=o23.cn ch51
     refine xh 10 [9,8,7,6,5,4,2,1,0,3,12,13,14,15,16,17] rfl (λw' hw'=>aa (v:=v27) (i:=(gI t.2.1 ↑k_c1).1) c5 rfl rfl (o23.sl.bel hw') rfl (by omega) (by omega)) ?_
     obtain⟨v54,cel55,r56⟩:=bC (r:=(gI t.2.1 ↑k_c1).1) o23 (by omega) (by omega)
     refine xh 11 [10,9,8,7,6,5,4,2,1,0,3,12,13,14,15,16,17] rfl (λw' hw'=>bb ao rfl (bW cel55 hw')) (xp (v:=vp b33 0) 12 rfl (λw=>ah rfl) (xp (v:=vp b33 0) 13 rfl (λw=>ad rfl) (xp 14 rfl (λw=>a7 bB rfl rfl rfl rfl) (xh 15 [14,13,12,11,10,9,8,7,6,5,4,2,1,0,3] rfl (λw' hw'=>a8 aY rfl (bx35.bel hw') rfl) ?_))))
     replace o_W_c1:=o_W_c1.cn ch51
     have len57:=(o_W_c1.flat).small
     refine xp 16 rfl (λw=>ba cZ rfl o_W_c1.flat) ?_
     refine cq 3 17 rfl rfl (by kernel_rfl) rfl rfl ?_ ?_
     ·
      refine aV (v:=v27) (a8 aN rfl bx35 rfl) (aD 17 rfl (by kernel_rfl) rfl (aw (α:=Int) g46 (is 10) (is 10) (10,0) rfl ([(W_c1.length:Int)]:List Int) aW ae (by decide) (by decide) (vs:=[(0,vi (W_c1.length:Int))]) rfl rfl (.cons rfl .nil) ?_))
      intro g58 w59 v60 ch61 o62
      refine aD 18 rfl (by kernel_rfl) rfl ?_
      replace o23:=o23.cn ch61
      replace r56:=r56.cn ch61
      refine aA (α:=Int) (xs:=(gI O_c1 ((gI t.2.1 ↑k_c1).1))) (ys:=([(W_c1.length:Int)]:List Int)) g58 (J:=row 4 (Int.toNat ((gI t.2.1 ↑k_c1).1)+1)) (S:=row 4 (Int.toNat ((gI t.2.1 ↑k_c1).1)+1)) (4,Int.toNat ((gI t.2.1 ↑k_c1).1)+1) rfl aW ae (by decide) rfl rfl rfl r56 o62.flat (by decide) (by(simp;omega)) ?_
      intro g63 w64 v65 ch66 o67
      have o68:=o23.rowchg ch66
      clear o23 cel55 r56
      obtain⟨us69,hl70,r71⟩:=o68.vc
      try simp only[List.length_set,List.length_append,List.length_cons,List.length_nil] at hl70
      refine xv 19 [18,17,3,16,15,14,13,12,11,10,9,8,7,6,5,4,2,1,0] rfl (aa (v:=v27) (i:=(gI t.2.1 ↑k_c1).1) c5 rfl rfl r71 rfl (by omega) (by omega)) (aD 20 rfl (by kernel_rfl) rfl (aJ (r:=(gI t.2.1 ↑k_c1).1) ao rfl rfl o68 o67 (by omega) (by omega) ?_))
      intro w75 ch76 o77
      clear o68 o67
      refine bc (by kernel_rfl) ?_
      have C78:=cg [4,9] (ch44.n.seq ((ch49.l rfl).seq (ch51.n.seq (ch61.n.seq ((ch66.lr rfl).seq (ch76.l rfl))))))
      have C80:=cg [4] (ch61.n.seq ((ch66.lr rfl).seq (ch76.l rfl)))
      have C79:=ch51.n.seq C80
      exact mid (g63) _ _ ⟨bH.ca C78,rfl,rfl,rfl,rfl,rfl,Rt.ca C78,r_t_v1.ca C78,bx5.ca C78,bx10.ca C78,bx17.ca C78,o24.ca C79,o25.ca C79,o26.ca C79,bx35.ca C80,o_W_c1.ca C80,bx50.ca C79,o77⟩
     ·
      refine aw (α:=Int) g46 (is 10) (is 10) (10,0) rfl ([(W_c1.length:Int)]:List Int) aW ae (by decide) (by decide) (vs:=[(0,vi (W_c1.length:Int))]) rfl rfl (.cons rfl .nil) ?_
      intro g81 w82 v83 ch84 o85
      refine cq 3 18 rfl rfl (by kernel_rfl) rfl rfl ?_ ?_
      ·
       replace bx35:=bx35.cn ch84
       refine aV (v:=v27) (a8 aN rfl bx35 rfl) (aD 18 rfl (by kernel_rfl) rfl ?_)
       replace o23:=o23.cn ch84
       replace r56:=r56.cn ch84
       refine aA (α:=Int) (xs:=(gI O_c1 ((gI t.2.1 ↑k_c1).1))) (ys:=([(W_c1.length:Int)]:List Int)) g81 (J:=row 4 (Int.toNat ((gI t.2.1 ↑k_c1).1)+1)) (S:=row 4 (Int.toNat ((gI t.2.1 ↑k_c1).1)+1)) (4,Int.toNat ((gI t.2.1 ↑k_c1).1)+1) rfl aW ae (by decide) rfl rfl rfl r56 o85.flat (by decide) (by(simp;omega)) ?_
       intro g86 w87 v88 ch89 o90
       have o91:=o23.rowchg ch89
       clear o23 cel55 r56
       obtain⟨us92,hl93,r94⟩:=o91.vc
       try simp only[List.length_set,List.length_append,List.length_cons,List.length_nil] at hl93
       refine xv 19 [18,3,17,16,15,14,13,12,11,10,9,8,7,6,5,4,2,1,0] rfl (aa (v:=v27) (i:=(gI t.2.1 ↑k_c1).1) c5 rfl rfl r94 rfl (by omega) (by omega)) (aD 20 rfl (by kernel_rfl) rfl (aJ (r:=(gI t.2.1 ↑k_c1).1) ao rfl rfl o91 o90 (by omega) (by omega) ?_))
       intro w98 ch99 o100
       clear o91 o90
       refine bc (by kernel_rfl) ?_
       have C101:=cg [4,9] (ch44.n.seq ((ch49.l rfl).seq (ch51.n.seq (ch84.n.seq ((ch89.lr rfl).seq (ch99.l rfl))))))
       have C103:=cg [4] (ch84.n.seq ((ch89.lr rfl).seq (ch99.l rfl)))
       have C102:=ch51.n.seq C103
       exact mid (g86) _ _ ⟨bH.ca C101,rfl,rfl,rfl,rfl,rfl,Rt.ca C101,r_t_v1.ca C101,bx5.ca C101,bx10.ca C101,bx17.ca C101,o24.ca C102,o25.ca C102,o26.ca C102,(bx35.chg ch89 (br rfl)).ce ch99,o_W_c1.ca C103,bx50.ca C102,o100⟩
      ·
       replace o23:=o23.cn ch84
       replace r56:=r56.cn ch84
       refine aA (α:=Int) (xs:=(gI O_c1 ((gI t.2.1 ↑k_c1).1))) (ys:=([(W_c1.length:Int)]:List Int)) g81 (J:=row 4 (Int.toNat ((gI t.2.1 ↑k_c1).1)+1)) (S:=row 4 (Int.toNat ((gI t.2.1 ↑k_c1).1)+1)) (4,Int.toNat ((gI t.2.1 ↑k_c1).1)+1) rfl aW ae (by decide) rfl rfl rfl r56 o85.flat (by decide) (by(simp;omega)) ?_
       intro g104 w105 v106 ch107 o108
       have o109:=o23.rowchg ch107
       clear o23 cel55 r56
       replace bx35:=(bx35.cn ch84).chg ch107 (br rfl)
       refine aD 3 rfl (by kernel_rfl) rfl (aV (v:=v27) (a8 aN rfl bx35 rfl) ?_)
       obtain⟨us110,hl111,r112⟩:=o109.vc
       try simp only[List.length_set,List.length_append,List.length_cons,List.length_nil] at hl111
       refine xv 19 [3,18,17,16,15,14,13,12,11,10,9,8,7,6,5,4,2,1,0] rfl (aa (v:=v27) (i:=(gI t.2.1 ↑k_c1).1) c5 rfl rfl r112 rfl (by omega) (by omega)) (aD 20 rfl (by kernel_rfl) rfl (aJ (r:=(gI t.2.1 ↑k_c1).1) ao rfl rfl o109 o108 (by omega) (by omega) ?_))
       intro w116 ch117 o118
       clear o109 o108
       refine bc (by kernel_rfl) ?_
       have C119:=cg [4,9] (ch44.n.seq ((ch49.l rfl).seq (ch51.n.seq (ch84.n.seq ((ch107.lr rfl).seq (ch117.l rfl))))))
       have C121:=cg [4] (ch84.n.seq ((ch107.lr rfl).seq (ch117.l rfl)))
       have C120:=ch51.n.seq C121
       exact mid (g104) _ _ ⟨bH.ca C119,rfl,rfl,rfl,rfl,rfl,Rt.ca C119,r_t_v1.ca C119,bx5.ca C119,bx10.ca C119,bx17.ca C119,o24.ca C120,o25.ca C120,o26.ca C120,bx35.ce ch117,o_W_c1.ca C121,bx50.ca C120,o118⟩
    clear Rt r_t_v1 bx5 bx10 bx17 o23 o24 o25 o26 bx35 o_W_c1 bx50 bH
    rintro g124 f122 w123 ⟨bH,zs0_c2,zs1_c2,zs2_c2,zs3_c2,zs4_c2,Rt,r_t_v1,bx5,bx10,bx17,o24,o25,o26,bx35,o_W_c1,bx50,o74⟩
    refine a9 (a6 rfl (mz zs0_c2 (mz zs0_c2 (lw (vp b33 0) (ad rfl) (lx (a7 bB rfl rfl rfl rfl) (lx (a8 aY rfl bx35 rfl) (mz zs2_c2 (mz zs3_c2 (mz zs4_c2 (lw (vg [vi (((gI t.2.1 ↑k_c1).2).1),vi ((((gI t.2.1 ↑k_c1).2).2).1),vi ((((gI t.2.1 ↑k_c1).2).2).2)]) (bp (vs:=[(0,vi (((gI t.2.1 ↑k_c1).2).1)),(1,vi ((((gI t.2.1 ↑k_c1).2).2).1)),(2,vi ((((gI t.2.1 ↑k_c1).2).2).2))]) rfl (by kernel_rfl)) ?_))))))))))
    refine lo (aw (α:=bq) g124 (is 11) (is 11) (11,0) rfl ([(((gI t.2.1 ↑k_c1).2).1,(((gI t.2.1 ↑k_c1).2).2).1,(((gI t.2.1 ↑k_c1).2).2).2)]:List bq) cZ cN (by decide) (by decide) (vs:=[(0,vg [vi (((gI t.2.1 ↑k_c1).2).1),vi ((((gI t.2.1 ↑k_c1).2).2).1),vi ((((gI t.2.1 ↑k_c1).2).2).2)])]) rfl rfl (.cons rfl .nil) ?_)
    intro g125 w126 v127 ch128 o129
    refine lo ?_
    replace o_W_c1:=o_W_c1.cn ch128
    refine aA (α:=bq) (xs:=W_c1) (ys:=([(((gI t.2.1 ↑k_c1).2).1,(((gI t.2.1 ↑k_c1).2).2).1,(((gI t.2.1 ↑k_c1).2).2).2)]:List bq)) g125 (J:=is 12) (S:=is 12) (12,0) rfl cZ cN (by decide) rfl rfl rfl o_W_c1 o129.flat (by decide) (by(simp;omega)) ?_
    intro g130 w131 v132 ch133 o134
    clear o_W_c1
    refine lw (vp b33 0) (ad rfl) (lx (a7 bB rfl rfl rfl rfl) (lo ?_))
    replace bx35:=(bx35.cn ch128).ce ch133
    refine bj (cs':=[v132,v27,v28,v29,v30,vi t.1,vi (t.1+1),vi 0,vi 0]) aY rfl rfl bx35 (bf o134.flat) nq (aZ o134.flat) rfl ?_
    intro w135 ch136 bx137
    clear bx35
    refine af (a9 ?_)
    clear o129
    refine bS (σ:=aG) (λgq f w=>b9 w0 gq w/\f 0=vp b33 0/\f 1=vi ((gI t.2.1 ↑k_c1).1)/\f 4=vi ((((gI t.2.1 ↑k_c1).2).2).2)/\Sl gq (is 0) w t_v t.2.1/\Sl gq (is 0) w t_v1 t.2.2/\Bx gq (is 1) w b3 [vi t.1,t_v,t_v1]/\Bx gq (is 2) w b8 [vn,vn,vi 0]/\Bx gq (is 3) w b15 [vi t.1,t_v,t_v1]/\Ow gq (is 5) (is 5) w v28 (List.replicate (Int.toNat (t.1+2)) (0:Int))/\Ow gq (is 6) (is 6) w v29 (List.replicate (Int.toNat (t.1+2)) (0:Int))/\Ow gq (is 7) (is 7) w v30 (List.replicate (Int.toNat (t.1+2)) (0:Int))/\Bx gq (is 9) w b45 [vi ((gI t.2.1 ↑k_c1).1),vi (((gI t.2.1 ↑k_c1).2).1),vi ((((gI t.2.1 ↑k_c1).2).2).1),vi ((((gI t.2.1 ↑k_c1).2).2).2)]/\Ow gq (is 12) (is 12) w v132 (W_c1++([(((gI t.2.1 ↑k_c1).2).1,(((gI t.2.1 ↑k_c1).2).2).1,(((gI t.2.1 ↑k_c1).2).2).2)]:List bq))/\Bx gq (is 8) w b33 [v132,v27,v28,v29,v30,vi t.1,vi (t.1+1),vi 0,vi 0]/\bN gq 4 w v27 (List.set (List.set O_c1 (Int.toNat ((gI t.2.1 ↑k_c1).1)) (gI O_c1 ((gI t.2.1 ↑k_c1).1)++([(W_c1.length:Int)]:List Int))) (Int.toNat (((gI t.2.1 ↑k_c1).2).1)) (gI (List.set O_c1 (Int.toNat ((gI t.2.1 ↑k_c1).1)) (gI O_c1 ((gI t.2.1 ↑k_c1).1)++([(W_c1.length:Int)]:List Int))) (((gI t.2.1 ↑k_c1).2).1)++([(List.length (W_c1++([(((gI t.2.1 ↑k_c1).2).1,(((gI t.2.1 ↑k_c1).2).2).1,(((gI t.2.1 ↑k_c1).2).2).2)]:List bq)):Int)]:List Int)))) g130 [0,1,2,4,5,6,7,8,9,10,11,12,13,14,15,16,19] cO ?_ ?_
    ·
     intro mid
     intro w139 ch138
     refine xp (v:=vp b33 0) 0 rfl (λw=>ah zs0_c2) (xp (v:=vp b33 0) 1 rfl (λw=>ad rfl) (xp 2 rfl (λw=>a7 bB rfl rfl rfl rfl) (xp (v:=vi (((gI t.2.1 ↑k_c1).2).1)) 4 rfl (λw=>ah zs2_c2) (xp (v:=vp b33 0) 5 rfl (λw=>ah zs0_c2) (xp (v:=vp b33 0) 6 rfl (λw=>ad rfl) (xp 7 rfl (λw=>a7 bB rfl rfl rfl rfl) ?_))))))
     replace bx137:=bx137.cn ch138
     refine xh 8 [7,6,5,4,2,1,0,3,9,12,13,14,15,16,17] rfl (λw' hw'=>a8 aN rfl (bx137.bel hw') rfl) (xp (v:=vi (((gI t.2.1 ↑k_c1).2).1)) 9 rfl (λw=>ah zs2_c2) ?_)
     have C140:=cg [8,12] (ch128.n.seq ((ch133.l rfl).seq ((ch136.l rfl).seq ch138.n)))
     replace o74:=o74.ca C140
     refine xh 10 [9,8,7,6,5,4,2,1,0,3,12,13,14,15,16,17] rfl (λw' hw'=>aa (v:=v27) (i:=((gI t.2.1 ↑k_c1).2).1) c5 rfl rfl (o74.sl.bel hw') rfl (by omega) (by(simp only[List.length_set,List.length_append,List.length_cons,List.length_nil,List.length_replicate,List.length_map,List.length_take,List.length_drop];omega))) ?_
     obtain⟨v141,cel142,r143⟩:=bC (r:=((gI t.2.1 ↑k_c1).2).1) o74 (by omega) (by(simp only[List.length_set,List.length_append,List.length_cons,List.length_nil,List.length_replicate,List.length_map,List.length_take,List.length_drop];omega))
     refine xh 11 [10,9,8,7,6,5,4,2,1,0,3,12,13,14,15,16,17] rfl (λw' hw'=>bb ao rfl (bW cel142 hw')) (xp (v:=vp b33 0) 12 rfl (λw=>ah zs0_c2) (xp (v:=vp b33 0) 13 rfl (λw=>ad rfl) (xp 14 rfl (λw=>a7 bB rfl rfl rfl rfl) (xh 15 [14,13,12,11,10,9,8,7,6,5,4,2,1,0,3] rfl (λw' hw'=>a8 aY rfl (bx137.bel hw') rfl) ?_))))
     replace o134:=(o134.ce ch136).cn ch138
     have len144:=(o134.flat).small
     refine xp 16 rfl (λw=>ba cZ rfl o134.flat) ?_
     refine cq 3 17 rfl rfl (by kernel_rfl) rfl rfl ?_ ?_
     ·
      refine aV (v:=v27) (a8 aN rfl bx137 rfl) (aD 17 rfl (by kernel_rfl) rfl (aw (α:=Int) g130 (is 13) (is 13) (13,0) rfl ([(List.length (W_c1++([(((gI t.2.1 ↑k_c1).2).1,(((gI t.2.1 ↑k_c1).2).2).1,(((gI t.2.1 ↑k_c1).2).2).2)]:List bq)):Int)]:List Int) aW ae (by decide) (by decide) (vs:=[(0,vi (List.length (W_c1++([(((gI t.2.1 ↑k_c1).2).1,(((gI t.2.1 ↑k_c1).2).2).1,(((gI t.2.1 ↑k_c1).2).2).2)]:List bq)):Int))]) rfl rfl (.cons rfl .nil) ?_))
      intro g145 w146 v147 ch148 o149
      refine aD 18 rfl (by kernel_rfl) rfl ?_
      replace o74:=o74.cn ch148
      replace r143:=r143.cn ch148
      refine aA (α:=Int) (xs:=(gI (List.set O_c1 (Int.toNat ((gI t.2.1 ↑k_c1).1)) (gI O_c1 ((gI t.2.1 ↑k_c1).1)++([(W_c1.length:Int)]:List Int))) (((gI t.2.1 ↑k_c1).2).1))) (ys:=([(List.length (W_c1++([(((gI t.2.1 ↑k_c1).2).1,(((gI t.2.1 ↑k_c1).2).2).1,(((gI t.2.1 ↑k_c1).2).2).2)]:List bq)):Int)]:List Int)) g145 (J:=row 4 (Int.toNat (((gI t.2.1 ↑k_c1).2).1)+1)) (S:=row 4 (Int.toNat (((gI t.2.1 ↑k_c1).2).1)+1)) (4,Int.toNat (((gI t.2.1 ↑k_c1).2).1)+1) rfl aW ae (by decide) rfl rfl rfl r143 o149.flat (by decide) (by(simp;omega)) ?_
      intro g150 w151 v152 ch153 o154
      have o155:=o74.rowchg ch153
      clear o74 cel142 r143
      obtain⟨us156,hl157,r158⟩:=o155.vc
      try simp only[List.length_set,List.length_append,List.length_cons,List.length_nil] at hl157
      refine xv 19 [18,17,3,16,15,14,13,12,11,10,9,8,7,6,5,4,2,1,0] rfl (aa (v:=v27) (i:=((gI t.2.1 ↑k_c1).2).1) c5 rfl rfl r158 rfl (by omega) (by omega)) (aD 20 rfl (by kernel_rfl) rfl (aJ (r:=((gI t.2.1 ↑k_c1).2).1) ao rfl rfl o155 o154 (by omega) (by(simp only[List.length_set,List.length_append,List.length_cons,List.length_nil,List.length_replicate,List.length_map,List.length_take,List.length_drop];omega)) ?_))
      intro w162 ch163 o164
      clear o155 o154
      refine bc (by kernel_rfl) ?_
      have C165:=cg [4,8,12] (ch128.n.seq ((ch133.l rfl).seq ((ch136.l rfl).seq (ch138.n.seq (ch148.n.seq ((ch153.lr rfl).seq (ch163.l rfl)))))))
      have C166:=cg [4] (ch148.n.seq ((ch153.lr rfl).seq (ch163.l rfl)))
      exact mid (g150) _ _ ⟨bH.ca C165,zs0_c2,zs1_c2,zs4_c2,Rt.ca C165,r_t_v1.ca C165,bx5.ca C165,bx10.ca C165,bx17.ca C165,o24.ca C165,o25.ca C165,o26.ca C165,bx50.ca C165,o134.ca C166,bx137.ca C166,o164⟩
     ·
      refine aw (α:=Int) g130 (is 13) (is 13) (13,0) rfl ([(List.length (W_c1++([(((gI t.2.1 ↑k_c1).2).1,(((gI t.2.1 ↑k_c1).2).2).1,(((gI t.2.1 ↑k_c1).2).2).2)]:List bq)):Int)]:List Int) aW ae (by decide) (by decide) (vs:=[(0,vi (List.length (W_c1++([(((gI t.2.1 ↑k_c1).2).1,(((gI t.2.1 ↑k_c1).2).2).1,(((gI t.2.1 ↑k_c1).2).2).2)]:List bq)):Int))]) rfl rfl (.cons rfl .nil) ?_
      intro g167 w168 v169 ch170 o171
      refine cq 3 18 rfl rfl (by kernel_rfl) rfl rfl ?_ ?_
      ·
       replace bx137:=bx137.cn ch170
       refine aV (v:=v27) (a8 aN rfl bx137 rfl) (aD 18 rfl (by kernel_rfl) rfl ?_)
       replace o74:=o74.cn ch170
       replace r143:=r143.cn ch170
       refine aA (α:=Int) (xs:=(gI (List.set O_c1 (Int.toNat ((gI t.2.1 ↑k_c1).1)) (gI O_c1 ((gI t.2.1 ↑k_c1).1)++([(W_c1.length:Int)]:List Int))) (((gI t.2.1 ↑k_c1).2).1))) (ys:=([(List.length (W_c1++([(((gI t.2.1 ↑k_c1).2).1,(((gI t.2.1 ↑k_c1).2).2).1,(((gI t.2.1 ↑k_c1).2).2).2)]:List bq)):Int)]:List Int)) g167 (J:=row 4 (Int.toNat (((gI t.2.1 ↑k_c1).2).1)+1)) (S:=row 4 (Int.toNat (((gI t.2.1 ↑k_c1).2).1)+1)) (4,Int.toNat (((gI t.2.1 ↑k_c1).2).1)+1) rfl aW ae (by decide) rfl rfl rfl r143 o171.flat (by decide) (by(simp;omega)) ?_
       intro g172 w173 v174 ch175 o176
       have o177:=o74.rowchg ch175
       clear o74 cel142 r143
       obtain⟨us178,hl179,r180⟩:=o177.vc
       try simp only[List.length_set,List.length_append,List.length_cons,List.length_nil] at hl179
       refine xv 19 [18,3,17,16,15,14,13,12,11,10,9,8,7,6,5,4,2,1,0] rfl (aa (v:=v27) (i:=((gI t.2.1 ↑k_c1).2).1) c5 rfl rfl r180 rfl (by omega) (by omega)) (aD 20 rfl (by kernel_rfl) rfl (aJ (r:=((gI t.2.1 ↑k_c1).2).1) ao rfl rfl o177 o176 (by omega) (by(simp only[List.length_set,List.length_append,List.length_cons,List.length_nil,List.length_replicate,List.length_map,List.length_take,List.length_drop];omega)) ?_))
       intro w184 ch185 o186
       clear o177 o176
       refine bc (by kernel_rfl) ?_
       have C187:=cg [4,8,12] (ch128.n.seq ((ch133.l rfl).seq ((ch136.l rfl).seq (ch138.n.seq (ch170.n.seq ((ch175.lr rfl).seq (ch185.l rfl)))))))
       have C188:=cg [4] (ch170.n.seq ((ch175.lr rfl).seq (ch185.l rfl)))
       exact mid (g172) _ _ ⟨bH.ca C187,zs0_c2,zs1_c2,zs4_c2,Rt.ca C187,r_t_v1.ca C187,bx5.ca C187,bx10.ca C187,bx17.ca C187,o24.ca C187,o25.ca C187,o26.ca C187,bx50.ca C187,o134.ca C188,(bx137.chg ch175 (br rfl)).ce ch185,o186⟩
      ·
       replace o74:=o74.cn ch170
       replace r143:=r143.cn ch170
       refine aA (α:=Int) (xs:=(gI (List.set O_c1 (Int.toNat ((gI t.2.1 ↑k_c1).1)) (gI O_c1 ((gI t.2.1 ↑k_c1).1)++([(W_c1.length:Int)]:List Int))) (((gI t.2.1 ↑k_c1).2).1))) (ys:=([(List.length (W_c1++([(((gI t.2.1 ↑k_c1).2).1,(((gI t.2.1 ↑k_c1).2).2).1,(((gI t.2.1 ↑k_c1).2).2).2)]:List bq)):Int)]:List Int)) g167 (J:=row 4 (Int.toNat (((gI t.2.1 ↑k_c1).2).1)+1)) (S:=row 4 (Int.toNat (((gI t.2.1 ↑k_c1).2).1)+1)) (4,Int.toNat (((gI t.2.1 ↑k_c1).2).1)+1) rfl aW ae (by decide) rfl rfl rfl r143 o171.flat (by decide) (by(simp;omega)) ?_
       intro g189 w190 v191 ch192 o193
       have o194:=o74.rowchg ch192
       clear o74 cel142 r143
       replace bx137:=(bx137.cn ch170).chg ch192 (br rfl)
       refine aD 3 rfl (by kernel_rfl) rfl (aV (v:=v27) (a8 aN rfl bx137 rfl) ?_)
       obtain⟨us195,hl196,r197⟩:=o194.vc
       try simp only[List.length_set,List.length_append,List.length_cons,List.length_nil] at hl196
       refine xv 19 [3,18,17,16,15,14,13,12,11,10,9,8,7,6,5,4,2,1,0] rfl (aa (v:=v27) (i:=((gI t.2.1 ↑k_c1).2).1) c5 rfl rfl r197 rfl (by omega) (by omega)) (aD 20 rfl (by kernel_rfl) rfl (aJ (r:=((gI t.2.1 ↑k_c1).2).1) ao rfl rfl o194 o193 (by omega) (by(simp only[List.length_set,List.length_append,List.length_cons,List.length_nil,List.length_replicate,List.length_map,List.length_take,List.length_drop];omega)) ?_))
       intro w201 ch202 o203
       clear o194 o193
       refine bc (by kernel_rfl) ?_
       have C204:=cg [4,8,12] (ch128.n.seq ((ch133.l rfl).seq ((ch136.l rfl).seq (ch138.n.seq (ch170.n.seq ((ch192.lr rfl).seq (ch202.l rfl)))))))
       have C205:=cg [4] (ch170.n.seq ((ch192.lr rfl).seq (ch202.l rfl)))
       exact mid (g189) _ _ ⟨bH.ca C204,zs0_c2,zs1_c2,zs4_c2,Rt.ca C204,r_t_v1.ca C204,bx5.ca C204,bx10.ca C204,bx17.ca C204,o24.ca C204,o25.ca C204,o26.ca C204,bx50.ca C204,o134.ca C205,bx137.ce ch202,o203⟩
    clear Rt r_t_v1 bx5 bx10 bx17 o24 o25 o26 bx50 o74 o134 bx137 bH
    rintro g208 f206 w207 ⟨bH,zs0_c2,zs1_c2,zs4_c2,Rt,r_t_v1,bx5,bx10,bx17,o24,o25,o26,bx50,o134,bx137,o162⟩
    refine a6 rfl (mz zs0_c2 (mz zs0_c2 (lw (vp b33 0) (ad rfl) (lx (a7 bB rfl rfl rfl rfl) (lx (a8 aY rfl bx137 rfl) (mz zs1_c2 (mz zs4_c2 (lw (vi (-((((gI t.2.1 ↑k_c1).2).2).2))) (fc (m:=(((gI t.2.1 ↑k_c1).2).2).2) rfl (by omega)) (lw (vg [vi ((gI t.2.1 ↑k_c1).1),vi 0,vi (-((((gI t.2.1 ↑k_c1).2).2).2))]) (bp (vs:=[(0,vi ((gI t.2.1 ↑k_c1).1)),(1,vi 0),(2,vi (-((((gI t.2.1 ↑k_c1).2).2).2)))]) rfl (by kernel_rfl)) ?_)))))))))
    refine lo (aw (α:=bq) g208 (is 14) (is 14) (14,0) rfl ([((gI t.2.1 ↑k_c1).1,0,-((((gI t.2.1 ↑k_c1).2).2).2))]:List bq) cZ cN (by decide) (by decide) (vs:=[(0,vg [vi ((gI t.2.1 ↑k_c1).1),vi 0,vi (-((((gI t.2.1 ↑k_c1).2).2).2))])]) rfl rfl (.cons rfl .nil) ?_)
    intro g209 w210 v211 ch212 o213
    refine lo ?_
    replace o134:=o134.cn ch212
    refine aA (α:=bq) (xs:=(W_c1++([(((gI t.2.1 ↑k_c1).2).1,(((gI t.2.1 ↑k_c1).2).2).1,(((gI t.2.1 ↑k_c1).2).2).2)]:List bq))) (ys:=([((gI t.2.1 ↑k_c1).1,0,-((((gI t.2.1 ↑k_c1).2).2).2))]:List bq)) g209 (J:=is 12) (S:=is 12) (12,0) rfl cZ cN (by decide) rfl rfl rfl o134 o213.flat (by decide) (by(simp;omega)) ?_
    intro g214 w215 v216 ch217 o218
    clear o134
    refine lw (vp b33 0) (ad rfl) (lx (a7 bB rfl rfl rfl rfl) (lo ?_))
    replace bx137:=(bx137.cn ch212).ce ch217
    refine bj (cs':=[v216,v27,v28,v29,v30,vi t.1,vi (t.1+1),vi 0,vi 0]) aY rfl rfl bx137 (bf o218.flat) nq (aZ o218.flat) rfl ?_
    intro w219 ch220 bx221
    clear bx137
    refine af (bU (vs:=[]) Try.func29 .nil ?_)
    have C222:=cg [8,12] (ch212.n.seq ((ch217.l rfl).seq (ch220.l rfl)))
    replace bH:=bH.ca C222
    replace Rt:=Rt.ca C222
    replace r_t_v1:=r_t_v1.ca C222
    replace bx5:=bx5.ca C222
    replace bx10:=bx10.ca C222
    replace bx17:=bx17.ca C222
    replace o162:=o162.ca C222
    replace o24:=o24.ca C222
    replace o25:=o25.ca C222
    replace o26:=o26.ca C222
    replace bx50:=bx50.ca C222
    replace o218:=o218.ce ch220
    refine⟨(v216,((W_c1++([(((gI t.2.1 ↑k_c1).2).1,(((gI t.2.1 ↑k_c1).2).2).1,(((gI t.2.1 ↑k_c1).2).2).2)]:List bq))++([((gI t.2.1 ↑k_c1).1,0,-((((gI t.2.1 ↑k_c1).2).2).2))]:List bq)),(List.set (List.set O_c1 (Int.toNat ((gI t.2.1 ↑k_c1).1)) (gI O_c1 ((gI t.2.1 ↑k_c1).1)++([(W_c1.length:Int)]:List Int))) (Int.toNat (((gI t.2.1 ↑k_c1).2).1)) (gI (List.set O_c1 (Int.toNat ((gI t.2.1 ↑k_c1).1)) (gI O_c1 ((gI t.2.1 ↑k_c1).1)++([(W_c1.length:Int)]:List Int))) (((gI t.2.1 ↑k_c1).2).1)++([(List.length (W_c1++([(((gI t.2.1 ↑k_c1).2).1,(((gI t.2.1 ↑k_c1).2).2).1,(((gI t.2.1 ↑k_c1).2).2).2)]:List bq)):Int)]:List Int))),g214),rfl,bH,Rt,r_t_v1,bx5,bx10,bx17,o162,o24,o25,o26,bx221,bx50,o218,?_⟩
    show(((W_c1++([(((gI t.2.1 ↑k_c1).2).1,(((gI t.2.1 ↑k_c1).2).2).1,(((gI t.2.1 ↑k_c1).2).2).2)]:List bq))++([((gI t.2.1 ↑k_c1).1,0,-((((gI t.2.1 ↑k_c1).2).2).2))]:List bq)),(List.set (List.set O_c1 (Int.toNat ((gI t.2.1 ↑k_c1).1)) (gI O_c1 ((gI t.2.1 ↑k_c1).1)++([(W_c1.length:Int)]:List Int))) (Int.toNat (((gI t.2.1 ↑k_c1).2).1)) (gI (List.set O_c1 (Int.toNat ((gI t.2.1 ↑k_c1).1)) (gI O_c1 ((gI t.2.1 ↑k_c1).1)++([(W_c1.length:Int)]:List Int))) (((gI t.2.1 ↑k_c1).2).1)++([(List.length (W_c1++([(((gI t.2.1 ↑k_c1).2).1,(((gI t.2.1 ↑k_c1).2).2).1,(((gI t.2.1 ↑k_c1).2).2).2)]:List bq)):Int)]:List Int))))=de (W_c1,O_c1) ((gI t.2.1 ↑k_c1).1) (((gI t.2.1 ↑k_c1).2).1) ((((gI t.2.1 ↑k_c1).2).2).1) ((((gI t.2.1 ↑k_c1).2).2).2)
    (unfold de;simp)
   clear Rt r_t_v1 bx5 bx10 bx17 o23 o24 o25 o26 bx35 o_W_c1 bx50 bH
   rintro⟨Wj_c2_v,Wj_c2,Oj_c2,g224⟩ w223 ⟨bH,Rt,r_t_v1,bx5,bx10,bx17,o23,o24,o25,o26,bx35,bx50,o_Wj_c2,hja_c2⟩
   have hjw_c2:Wj_c2.length=(W_c1).length+2:=by have h:=congrArg (λz=>z.1.length) hja_c2;simpa[de] using h
   refine af (aq ?_)
   clear bx50
   refine a6 rfl (lx (aP (m:=↑k_c1) (n:=1) zs30_c1 rfl (by omega)) (mi ((k_c1:Int)+1) (af ?_)))
   refine back4_c1 (Wj_c2_v,Wj_c2,k_c1+1,Oj_c2,g224) _ _ ⟨bH,zs1_c1,zs4_c1,zs28_c1,zs29_c1,rfl,Rt,r_t_v1,bx5,bx10,bx17,o23,o24,o25,o26,bx35,o_Wj_c2,by omega,?_⟩ ?_
   · show jB t (k_c1+1) Wj_c2 Oj_c2
     exact hla_c1.arc ‹_› ‹_›
   · show Int.toNat (((t.2.1.length:Int):Int)-((k_c1+1):Int))<Int.toNat (((t.2.1.length:Int):Int)-(k_c1:Int))
     omega
  refine am rfl (df p4_c1) (aM rfl (a9 (a9 (a6 rfl (lx (a7 cP rfl rfl zs1_c1 rfl) (lx (a8 ao rfl bx17 rfl) ?_))))))
  have len225:=(r_t_v1).small
  refine lx (ba aW rfl r_t_v1) (mi 0 (af (av ?_)))
  clear bx17
  refine aX (σ:=Value×(List bq)×Int×Nat×eZ×aG) (λ⟨W2_c1_v,W2_c1,ak_c1,j_c1,O2_c1,gq⟩ f w=>b9 w0 gq w/\f 4=vp b33 0/\f 46=t_v1/\f 47=vi (t.2.2.length:Int)/\f 48=vi ↑j_c1/\Sl gq (is 0) w t_v t.2.1/\Sl gq (is 0) w t_v1 t.2.2/\Bx gq (is 1) w b3 [vi t.1,t_v,t_v1]/\Bx gq (is 2) w b8 [vn,vn,vi 0]/\bN gq 4 w v27 O2_c1/\Ow gq (is 5) (is 5) w v28 (List.replicate (Int.toNat (t.1+2)) (0:Int))/\Ow gq (is 6) (is 6) w v29 (List.replicate (Int.toNat (t.1+2)) (0:Int))/\Ow gq (is 7) (is 7) w v30 (List.replicate (Int.toNat (t.1+2)) (0:Int))/\Bx gq (is 8) w b33 [W2_c1_v,v27,v28,v29,v30,vi t.1,vi (t.1+1),vi ak_c1,vi 0]/\Ow gq (is 12) (is 12) w W2_c1_v W2_c1/\(j_c1:Int)<=((t.2.2.length:Int):Int)/\(gv t j_c1 W2_c1 O2_c1 ak_c1)) (λ⟨W2_c1_v,W2_c1,ak_c1,j_c1,O2_c1,gq⟩=>Int.toNat (((t.2.2.length:Int):Int)-(j_c1:Int))) (W_c1_v,W_c1,0,0,O_c1,g42) ?_ ?_
  · exact⟨bH,zs4_c1,rfl,rfl,rfl,Rt,r_t_v1,bx5,bx10,o23,o24,o25,o26,bx35,o_W_c1,by omega,by exact gv.start hla_c1 (by omega) ‹_›⟩
  clear Rt r_t_v1 bx5 bx10 o23 o24 o25 o26 bx35 o_W_c1 bH
  rintro⟨W2_c1_v,W2_c1,ak_c1,j_c1,O2_c1,g228⟩ f226 w227 ⟨bH,zs4_c1,zs46_c1,zs47_c1,zs48_c1,Rt,r_t_v1,bx5,bx10,o23,o24,o25,o26,bx35,o_W2_c1,hle_j_c1,hln_c1⟩ back9_c1
  obtain⟨hnw_c1,hno_c1,hnk_c1⟩:=hln_c1.1.lw hm
  obtain⟨hna_c1,hnb_c1⟩:=hln_c1.bd hm (by omega)
  refine a9 (a6 rfl (lx (bo (m:=↑j_c1) (n:=(t.2.2.length:Int)) zs48_c1 zs47_c1) (af (a9 ?_))))
  by_cases p9_c1:(j_c1:Int)<(t.2.2.length:Int)
  ·
   refine aj rfl (dt p9_c1) ?_
   obtain⟨hnd0_c1,hnd1_c1⟩:=hm.2.2.2.2 _ (bx (xs:=t.2.2) (i:=↑j_c1) (by omega) ‹_›)
   have hr3_c1:=hln_c1.1.rl hm (u:=(j_c1:Int)) (by omega) (by omega)
   have hr4_c1:=hln_c1.1.rl hm (u:=t.1) (by omega) (by omega)
   have hr5_c1:=hln_c1.1.rl hm (u:=t.1+1) (by omega) (by omega)
   refine au (a9 (av (a9 (a6 rfl (mz zs48_c1 (lx (aa (v:=t_v1) (i:=↑j_c1) aW rfl zs46_c1 r_t_v1 zs48_c1 (by omega) (by omega)) (lx (ay (v:=t_v1) (i:=↑j_c1) ae rfl r_t_v1 (by omega) (by omega) (by decide) rfl) (ai (j_c1:Int) (ai (gI t.2.2 ↑j_c1) (af (a9 (a9 (a6 rfl ?_)))))))))))))
   refine mi (gI t.2.2 ↑j_c1) (lx (bY (m:=(gI t.2.2 ↑j_c1)) (n:=0) rfl rfl) (af ?_))
   by_cases p11_c1:0<(gI t.2.2 ↑j_c1)
   ·
    refine aj rfl (dt p11_c1) (a9 (a6 rfl (mz zs4_c1 (mz zs4_c1 (lw (vp b33 0) (ad rfl) (lx (a7 bB rfl rfl rfl rfl) (lx (a8 ae rfl bx35 rfl) (mi ↑j_c1 (mi (gI t.2.2 ↑j_c1) (lo ?_))))))))))
    refine bF (σ:=Value×(List bq)×eZ×aG) (V:=λ⟨Wj_c3_v,Wj_c3,Oj_c3,gq⟩=>vt []) (S:=λ⟨Wj_c3_v,Wj_c3,Oj_c3,gq⟩ w=>b9 w0 gq w/\Sl gq (is 0) w t_v t.2.1/\Sl gq (is 0) w t_v1 t.2.2/\Bx gq (is 1) w b3 [vi t.1,t_v,t_v1]/\Bx gq (is 2) w b8 [vn,vn,vi 0]/\bN gq 4 w v27 Oj_c3/\Ow gq (is 5) (is 5) w v28 (List.replicate (Int.toNat (t.1+2)) (0:Int))/\Ow gq (is 6) (is 6) w v29 (List.replicate (Int.toNat (t.1+2)) (0:Int))/\Ow gq (is 7) (is 7) w v30 (List.replicate (Int.toNat (t.1+2)) (0:Int))/\Bx gq (is 8) w b33 [Wj_c3_v,v27,v28,v29,v30,vi t.1,vi (t.1+1),vi ak_c1,vi 0]/\Ow gq (is 12) (is 12) w Wj_c3_v Wj_c3/\((Wj_c3,Oj_c3)=de (W2_c1,O2_c1) t.1 (j_c1:Int) (gI t.2.2 ↑j_c1) 0)) (aU (vals:=[vp b33 0,vi t.1,vi ↑j_c1,vi (gI t.2.2 ↑j_c1),vi 0]) Try.func29 iM iC rfl) ?_ ?_
    ·
     refine aC Try.func29 rfl nq ?_
     have hrs_c3:=cS (O:=O2_c1) (a:=t.1) (b:=(j_c1:Int)) (x:=(W2_c1.length:Int)) (by omega) (by omega) (by omega)
     have hrt_c3:=hrs_c3
     try simp only[Int.toNat_natCast] at hrt_c3
     refine a9 ?_
     refine bS (σ:=aG) (λgq f w=>b9 w0 gq w/\f 0=vp b33 0/\f 1=vi t.1/\f 2=vi ↑j_c1/\f 3=vi (gI t.2.2 ↑j_c1)/\f 4=vi 0/\Sl gq (is 0) w t_v t.2.1/\Sl gq (is 0) w t_v1 t.2.2/\Bx gq (is 1) w b3 [vi t.1,t_v,t_v1]/\Bx gq (is 2) w b8 [vn,vn,vi 0]/\Ow gq (is 5) (is 5) w v28 (List.replicate (Int.toNat (t.1+2)) (0:Int))/\Ow gq (is 6) (is 6) w v29 (List.replicate (Int.toNat (t.1+2)) (0:Int))/\Ow gq (is 7) (is 7) w v30 (List.replicate (Int.toNat (t.1+2)) (0:Int))/\Bx gq (is 8) w b33 [W2_c1_v,v27,v28,v29,v30,vi t.1,vi (t.1+1),vi ak_c1,vi 0]/\Ow gq (is 12) (is 12) w W2_c1_v W2_c1/\bN gq 4 w v27 (List.set O2_c1 (Int.toNat t.1) (gI O2_c1 t.1++([(W2_c1.length:Int)]:List Int)))) g228 [0,1,2,4,5,6,7,8,9,10,11,12,13,14,15,16,19] cO ?_ ?_
     ·
      intro mid
      intro w230 ch229
      refine xp (v:=vp b33 0) 0 rfl (λw=>ah rfl) (xp (v:=vp b33 0) 1 rfl (λw=>ad rfl) (xp 2 rfl (λw=>a7 bB rfl rfl rfl rfl) (xp (v:=vi t.1) 4 rfl (λw=>ah rfl) (xp (v:=vp b33 0) 5 rfl (λw=>ah rfl) (xp (v:=vp b33 0) 6 rfl (λw=>ad rfl) (xp 7 rfl (λw=>a7 bB rfl rfl rfl rfl) ?_))))))
      replace bx35:=bx35.cn ch229
      refine xh 8 [7,6,5,4,2,1,0,3,9,12,13,14,15,16,17] rfl (λw' hw'=>a8 aN rfl (bx35.bel hw') rfl) (xp (v:=vi t.1) 9 rfl (λw=>ah rfl) ?_)
      replace o23:=o23.cn ch229
      refine xh 10 [9,8,7,6,5,4,2,1,0,3,12,13,14,15,16,17] rfl (λw' hw'=>aa (v:=v27) (i:=t.1) c5 rfl rfl (o23.sl.bel hw') rfl (by omega) (by omega)) ?_
      obtain⟨v231,cel232,r233⟩:=bC (r:=t.1) o23 (by omega) (by omega)
      refine xh 11 [10,9,8,7,6,5,4,2,1,0,3,12,13,14,15,16,17] rfl (λw' hw'=>bb ao rfl (bW cel232 hw')) (xp (v:=vp b33 0) 12 rfl (λw=>ah rfl) (xp (v:=vp b33 0) 13 rfl (λw=>ad rfl) (xp 14 rfl (λw=>a7 bB rfl rfl rfl rfl) (xh 15 [14,13,12,11,10,9,8,7,6,5,4,2,1,0,3] rfl (λw' hw'=>a8 aY rfl (bx35.bel hw') rfl) ?_))))
      replace o_W2_c1:=o_W2_c1.cn ch229
      have len234:=(o_W2_c1.flat).small
      refine xp 16 rfl (λw=>ba cZ rfl o_W2_c1.flat) ?_
      refine cq 3 17 rfl rfl (by kernel_rfl) rfl rfl ?_ ?_
      ·
       refine aV (v:=v27) (a8 aN rfl bx35 rfl) (aD 17 rfl (by kernel_rfl) rfl (aw (α:=Int) g228 (is 15) (is 15) (15,0) rfl ([(W2_c1.length:Int)]:List Int) aW ae (by decide) (by decide) (vs:=[(0,vi (W2_c1.length:Int))]) rfl rfl (.cons rfl .nil) ?_))
       intro g235 w236 v237 ch238 o239
       refine aD 18 rfl (by kernel_rfl) rfl ?_
       replace o23:=o23.cn ch238
       replace r233:=r233.cn ch238
       refine aA (α:=Int) (xs:=(gI O2_c1 t.1)) (ys:=([(W2_c1.length:Int)]:List Int)) g235 (J:=row 4 (Int.toNat t.1+1)) (S:=row 4 (Int.toNat t.1+1)) (4,Int.toNat t.1+1) rfl aW ae (by decide) rfl rfl rfl r233 o239.flat (by decide) (by(simp;omega)) ?_
       intro g240 w241 v242 ch243 o244
       have o245:=o23.rowchg ch243
       clear o23 cel232 r233
       obtain⟨us246,hl247,r248⟩:=o245.vc
       try simp only[List.length_set,List.length_append,List.length_cons,List.length_nil] at hl247
       refine xv 19 [18,17,3,16,15,14,13,12,11,10,9,8,7,6,5,4,2,1,0] rfl (aa (v:=v27) (i:=t.1) c5 rfl rfl r248 rfl (by omega) (by omega)) (aD 20 rfl (by kernel_rfl) rfl (aJ (r:=t.1) ao rfl rfl o245 o244 (by omega) (by omega) ?_))
       intro w252 ch253 o254
       clear o245 o244
       refine bc (by kernel_rfl) ?_
       have C256:=cg [4] (ch238.n.seq ((ch243.lr rfl).seq (ch253.l rfl)))
       have C255:=ch229.n.seq C256
       exact mid (g240) _ _ ⟨bH.ca C255,rfl,rfl,rfl,rfl,rfl,Rt.ca C255,r_t_v1.ca C255,bx5.ca C255,bx10.ca C255,o24.ca C255,o25.ca C255,o26.ca C255,bx35.ca C256,o_W2_c1.ca C256,o254⟩
      ·
       refine aw (α:=Int) g228 (is 15) (is 15) (15,0) rfl ([(W2_c1.length:Int)]:List Int) aW ae (by decide) (by decide) (vs:=[(0,vi (W2_c1.length:Int))]) rfl rfl (.cons rfl .nil) ?_
       intro g257 w258 v259 ch260 o261
       refine cq 3 18 rfl rfl (by kernel_rfl) rfl rfl ?_ ?_
       ·
        replace bx35:=bx35.cn ch260
        refine aV (v:=v27) (a8 aN rfl bx35 rfl) (aD 18 rfl (by kernel_rfl) rfl ?_)
        replace o23:=o23.cn ch260
        replace r233:=r233.cn ch260
        refine aA (α:=Int) (xs:=(gI O2_c1 t.1)) (ys:=([(W2_c1.length:Int)]:List Int)) g257 (J:=row 4 (Int.toNat t.1+1)) (S:=row 4 (Int.toNat t.1+1)) (4,Int.toNat t.1+1) rfl aW ae (by decide) rfl rfl rfl r233 o261.flat (by decide) (by(simp;omega)) ?_
        intro g262 w263 v264 ch265 o266
        have o267:=o23.rowchg ch265
        clear o23 cel232 r233
        obtain⟨us268,hl269,r270⟩:=o267.vc
        try simp only[List.length_set,List.length_append,List.length_cons,List.length_nil] at hl269
        refine xv 19 [18,3,17,16,15,14,13,12,11,10,9,8,7,6,5,4,2,1,0] rfl (aa (v:=v27) (i:=t.1) c5 rfl rfl r270 rfl (by omega) (by omega)) (aD 20 rfl (by kernel_rfl) rfl (aJ (r:=t.1) ao rfl rfl o267 o266 (by omega) (by omega) ?_))
        intro w274 ch275 o276
        clear o267 o266
        refine bc (by kernel_rfl) ?_
        have C278:=cg [4] (ch260.n.seq ((ch265.lr rfl).seq (ch275.l rfl)))
        have C277:=ch229.n.seq C278
        exact mid (g262) _ _ ⟨bH.ca C277,rfl,rfl,rfl,rfl,rfl,Rt.ca C277,r_t_v1.ca C277,bx5.ca C277,bx10.ca C277,o24.ca C277,o25.ca C277,o26.ca C277,(bx35.chg ch265 (br rfl)).ce ch275,o_W2_c1.ca C278,o276⟩
       ·
        replace o23:=o23.cn ch260
        replace r233:=r233.cn ch260
        refine aA (α:=Int) (xs:=(gI O2_c1 t.1)) (ys:=([(W2_c1.length:Int)]:List Int)) g257 (J:=row 4 (Int.toNat t.1+1)) (S:=row 4 (Int.toNat t.1+1)) (4,Int.toNat t.1+1) rfl aW ae (by decide) rfl rfl rfl r233 o261.flat (by decide) (by(simp;omega)) ?_
        intro g279 w280 v281 ch282 o283
        have o284:=o23.rowchg ch282
        clear o23 cel232 r233
        replace bx35:=(bx35.cn ch260).chg ch282 (br rfl)
        refine aD 3 rfl (by kernel_rfl) rfl (aV (v:=v27) (a8 aN rfl bx35 rfl) ?_)
        obtain⟨us285,hl286,r287⟩:=o284.vc
        try simp only[List.length_set,List.length_append,List.length_cons,List.length_nil] at hl286
        refine xv 19 [3,18,17,16,15,14,13,12,11,10,9,8,7,6,5,4,2,1,0] rfl (aa (v:=v27) (i:=t.1) c5 rfl rfl r287 rfl (by omega) (by omega)) (aD 20 rfl (by kernel_rfl) rfl (aJ (r:=t.1) ao rfl rfl o284 o283 (by omega) (by omega) ?_))
        intro w291 ch292 o293
        clear o284 o283
        refine bc (by kernel_rfl) ?_
        have C295:=cg [4] (ch260.n.seq ((ch282.lr rfl).seq (ch292.l rfl)))
        have C294:=ch229.n.seq C295
        exact mid (g279) _ _ ⟨bH.ca C294,rfl,rfl,rfl,rfl,rfl,Rt.ca C294,r_t_v1.ca C294,bx5.ca C294,bx10.ca C294,o24.ca C294,o25.ca C294,o26.ca C294,bx35.ce ch292,o_W2_c1.ca C295,o293⟩
     clear Rt r_t_v1 bx5 bx10 o23 o24 o25 o26 bx35 o_W2_c1 bH
     rintro g298 f296 w297 ⟨bH,zs0_c3,zs1_c3,zs2_c3,zs3_c3,zs4_c3,Rt,r_t_v1,bx5,bx10,o24,o25,o26,bx35,o_W2_c1,o252⟩
     refine a9 (a6 rfl (mz zs0_c3 (mz zs0_c3 (lw (vp b33 0) (ad rfl) (lx (a7 bB rfl rfl rfl rfl) (lx (a8 aY rfl bx35 rfl) (mz zs2_c3 (mz zs3_c3 (mz zs4_c3 (lw (vg [vi ↑j_c1,vi (gI t.2.2 ↑j_c1),vi 0]) (bp (vs:=[(0,vi ↑j_c1),(1,vi (gI t.2.2 ↑j_c1)),(2,vi 0)]) rfl (by kernel_rfl)) ?_))))))))))
     refine lo (aw (α:=bq) g298 (is 16) (is 16) (16,0) rfl ([((j_c1:Int),(gI t.2.2 ↑j_c1),0)]:List bq) cZ cN (by decide) (by decide) (vs:=[(0,vg [vi ↑j_c1,vi (gI t.2.2 ↑j_c1),vi 0])]) rfl rfl (.cons rfl .nil) ?_)
     intro g299 w300 v301 ch302 o303
     refine lo ?_
     replace o_W2_c1:=o_W2_c1.cn ch302
     refine aA (α:=bq) (xs:=W2_c1) (ys:=([((j_c1:Int),(gI t.2.2 ↑j_c1),0)]:List bq)) g299 (J:=is 12) (S:=is 12) (12,0) rfl cZ cN (by decide) rfl rfl rfl o_W2_c1 o303.flat (by decide) (by(simp;omega)) ?_
     intro g304 w305 v306 ch307 o308
     clear o_W2_c1
     refine lw (vp b33 0) (ad rfl) (lx (a7 bB rfl rfl rfl rfl) (lo ?_))
     replace bx35:=(bx35.cn ch302).ce ch307
     refine bj (cs':=[v306,v27,v28,v29,v30,vi t.1,vi (t.1+1),vi ak_c1,vi 0]) aY rfl rfl bx35 (bf o308.flat) nq (aZ o308.flat) rfl ?_
     intro w309 ch310 bx311
     clear bx35
     refine af (a9 ?_)
     clear o303
     refine bS (σ:=aG) (λgq f w=>b9 w0 gq w/\f 0=vp b33 0/\f 1=vi t.1/\f 4=vi 0/\Sl gq (is 0) w t_v t.2.1/\Sl gq (is 0) w t_v1 t.2.2/\Bx gq (is 1) w b3 [vi t.1,t_v,t_v1]/\Bx gq (is 2) w b8 [vn,vn,vi 0]/\Ow gq (is 5) (is 5) w v28 (List.replicate (Int.toNat (t.1+2)) (0:Int))/\Ow gq (is 6) (is 6) w v29 (List.replicate (Int.toNat (t.1+2)) (0:Int))/\Ow gq (is 7) (is 7) w v30 (List.replicate (Int.toNat (t.1+2)) (0:Int))/\Ow gq (is 12) (is 12) w v306 (W2_c1++([((j_c1:Int),(gI t.2.2 ↑j_c1),0)]:List bq))/\Bx gq (is 8) w b33 [v306,v27,v28,v29,v30,vi t.1,vi (t.1+1),vi ak_c1,vi 0]/\bN gq 4 w v27 (List.set (List.set O2_c1 (Int.toNat t.1) (gI O2_c1 t.1++([(W2_c1.length:Int)]:List Int))) (Int.toNat ↑j_c1) (gI (List.set O2_c1 (Int.toNat t.1) (gI O2_c1 t.1++([(W2_c1.length:Int)]:List Int))) (j_c1:Int)++([(List.length (W2_c1++([((j_c1:Int),(gI t.2.2 ↑j_c1),0)]:List bq)):Int)]:List Int)))) g304 [0,1,2,4,5,6,7,8,9,10,11,12,13,14,15,16,19] cO ?_ ?_
     ·
      intro mid
      intro w313 ch312
      refine xp (v:=vp b33 0) 0 rfl (λw=>ah zs0_c3) (xp (v:=vp b33 0) 1 rfl (λw=>ad rfl) (xp 2 rfl (λw=>a7 bB rfl rfl rfl rfl) (xp (v:=vi ↑j_c1) 4 rfl (λw=>ah zs2_c3) (xp (v:=vp b33 0) 5 rfl (λw=>ah zs0_c3) (xp (v:=vp b33 0) 6 rfl (λw=>ad rfl) (xp 7 rfl (λw=>a7 bB rfl rfl rfl rfl) ?_))))))
      replace bx311:=bx311.cn ch312
      refine xh 8 [7,6,5,4,2,1,0,3,9,12,13,14,15,16,17] rfl (λw' hw'=>a8 aN rfl (bx311.bel hw') rfl) (xp (v:=vi ↑j_c1) 9 rfl (λw=>ah zs2_c3) ?_)
      have C314:=cg [8,12] (ch302.n.seq ((ch307.l rfl).seq ((ch310.l rfl).seq ch312.n)))
      replace o252:=o252.ca C314
      refine xh 10 [9,8,7,6,5,4,2,1,0,3,12,13,14,15,16,17] rfl (λw' hw'=>aa (v:=v27) (i:=↑j_c1) c5 rfl rfl (o252.sl.bel hw') rfl (by omega) (by(simp only[List.length_set,List.length_append,List.length_cons,List.length_nil,List.length_replicate,List.length_map,List.length_take,List.length_drop];omega))) ?_
      obtain⟨v315,cel316,r317⟩:=bC (r:=(j_c1:Int)) o252 (by omega) (by(simp only[List.length_set,List.length_append,List.length_cons,List.length_nil,List.length_replicate,List.length_map,List.length_take,List.length_drop];omega))
      refine xh 11 [10,9,8,7,6,5,4,2,1,0,3,12,13,14,15,16,17] rfl (λw' hw'=>bb ao rfl (bW cel316 hw')) (xp (v:=vp b33 0) 12 rfl (λw=>ah zs0_c3) (xp (v:=vp b33 0) 13 rfl (λw=>ad rfl) (xp 14 rfl (λw=>a7 bB rfl rfl rfl rfl) (xh 15 [14,13,12,11,10,9,8,7,6,5,4,2,1,0,3] rfl (λw' hw'=>a8 aY rfl (bx311.bel hw') rfl) ?_))))
      replace o308:=(o308.ce ch310).cn ch312
      have len318:=(o308.flat).small
      refine xp 16 rfl (λw=>ba cZ rfl o308.flat) ?_
      refine cq 3 17 rfl rfl (by kernel_rfl) rfl rfl ?_ ?_
      ·
       refine aV (v:=v27) (a8 aN rfl bx311 rfl) (aD 17 rfl (by kernel_rfl) rfl (aw (α:=Int) g304 (is 17) (is 17) (17,0) rfl ([(List.length (W2_c1++([((j_c1:Int),(gI t.2.2 ↑j_c1),0)]:List bq)):Int)]:List Int) aW ae (by decide) (by decide) (vs:=[(0,vi (List.length (W2_c1++([((j_c1:Int),(gI t.2.2 ↑j_c1),0)]:List bq)):Int))]) rfl rfl (.cons rfl .nil) ?_))
       intro g319 w320 v321 ch322 o323
       refine aD 18 rfl (by kernel_rfl) rfl ?_
       replace o252:=o252.cn ch322
       replace r317:=r317.cn ch322
       refine aA (α:=Int) (xs:=(gI (List.set O2_c1 (Int.toNat t.1) (gI O2_c1 t.1++([(W2_c1.length:Int)]:List Int))) (j_c1:Int))) (ys:=([(List.length (W2_c1++([((j_c1:Int),(gI t.2.2 ↑j_c1),0)]:List bq)):Int)]:List Int)) g319 (J:=row 4 (Int.toNat ↑j_c1+1)) (S:=row 4 (Int.toNat ↑j_c1+1)) (4,Int.toNat ↑j_c1+1) rfl aW ae (by decide) rfl rfl rfl r317 o323.flat (by decide) (by(simp;omega)) ?_
       intro g324 w325 v326 ch327 o328
       have o329:=o252.rowchg ch327
       clear o252 cel316 r317
       obtain⟨us330,hl331,r332⟩:=o329.vc
       try simp only[List.length_set,List.length_append,List.length_cons,List.length_nil] at hl331
       refine xv 19 [18,17,3,16,15,14,13,12,11,10,9,8,7,6,5,4,2,1,0] rfl (aa (v:=v27) (i:=↑j_c1) c5 rfl rfl r332 rfl (by omega) (by omega)) (aD 20 rfl (by kernel_rfl) rfl (aJ (r:=(j_c1:Int)) ao rfl rfl o329 o328 (by omega) (by(simp only[List.length_set,List.length_append,List.length_cons,List.length_nil,List.length_replicate,List.length_map,List.length_take,List.length_drop];omega)) ?_))
       intro w336 ch337 o338
       clear o329 o328
       refine bc (by kernel_rfl) ?_
       have C339:=cg [4,8,12] (ch302.n.seq ((ch307.l rfl).seq ((ch310.l rfl).seq (ch312.n.seq (ch322.n.seq ((ch327.lr rfl).seq (ch337.l rfl)))))))
       have C340:=cg [4] (ch322.n.seq ((ch327.lr rfl).seq (ch337.l rfl)))
       exact mid (g324) _ _ ⟨bH.ca C339,zs0_c3,zs1_c3,zs4_c3,Rt.ca C339,r_t_v1.ca C339,bx5.ca C339,bx10.ca C339,o24.ca C339,o25.ca C339,o26.ca C339,o308.ca C340,bx311.ca C340,o338⟩
      ·
       refine aw (α:=Int) g304 (is 17) (is 17) (17,0) rfl ([(List.length (W2_c1++([((j_c1:Int),(gI t.2.2 ↑j_c1),0)]:List bq)):Int)]:List Int) aW ae (by decide) (by decide) (vs:=[(0,vi (List.length (W2_c1++([((j_c1:Int),(gI t.2.2 ↑j_c1),0)]:List bq)):Int))]) rfl rfl (.cons rfl .nil) ?_
       intro g341 w342 v343 ch344 o345
       refine cq 3 18 rfl rfl (by kernel_rfl) rfl rfl ?_ ?_
       ·
        replace bx311:=bx311.cn ch344
        refine aV (v:=v27) (a8 aN rfl bx311 rfl) (aD 18 rfl (by kernel_rfl) rfl ?_)
        replace o252:=o252.cn ch344
        replace r317:=r317.cn ch344
        refine aA (α:=Int) (xs:=(gI (List.set O2_c1 (Int.toNat t.1) (gI O2_c1 t.1++([(W2_c1.length:Int)]:List Int))) (j_c1:Int))) (ys:=([(List.length (W2_c1++([((j_c1:Int),(gI t.2.2 ↑j_c1),0)]:List bq)):Int)]:List Int)) g341 (J:=row 4 (Int.toNat ↑j_c1+1)) (S:=row 4 (Int.toNat ↑j_c1+1)) (4,Int.toNat ↑j_c1+1) rfl aW ae (by decide) rfl rfl rfl r317 o345.flat (by decide) (by(simp;omega)) ?_
        intro g346 w347 v348 ch349 o350
        have o351:=o252.rowchg ch349
        clear o252 cel316 r317
        obtain⟨us352,hl353,r354⟩:=o351.vc
        try simp only[List.length_set,List.length_append,List.length_cons,List.length_nil] at hl353
        refine xv 19 [18,3,17,16,15,14,13,12,11,10,9,8,7,6,5,4,2,1,0] rfl (aa (v:=v27) (i:=↑j_c1) c5 rfl rfl r354 rfl (by omega) (by omega)) (aD 20 rfl (by kernel_rfl) rfl (aJ (r:=(j_c1:Int)) ao rfl rfl o351 o350 (by omega) (by(simp only[List.length_set,List.length_append,List.length_cons,List.length_nil,List.length_replicate,List.length_map,List.length_take,List.length_drop];omega)) ?_))
        intro w358 ch359 o360
        clear o351 o350
        refine bc (by kernel_rfl) ?_
        have C361:=cg [4,8,12] (ch302.n.seq ((ch307.l rfl).seq ((ch310.l rfl).seq (ch312.n.seq (ch344.n.seq ((ch349.lr rfl).seq (ch359.l rfl)))))))
        have C362:=cg [4] (ch344.n.seq ((ch349.lr rfl).seq (ch359.l rfl)))
        exact mid (g346) _ _ ⟨bH.ca C361,zs0_c3,zs1_c3,zs4_c3,Rt.ca C361,r_t_v1.ca C361,bx5.ca C361,bx10.ca C361,o24.ca C361,o25.ca C361,o26.ca C361,o308.ca C362,(bx311.chg ch349 (br rfl)).ce ch359,o360⟩
       ·
        replace o252:=o252.cn ch344
        replace r317:=r317.cn ch344
        refine aA (α:=Int) (xs:=(gI (List.set O2_c1 (Int.toNat t.1) (gI O2_c1 t.1++([(W2_c1.length:Int)]:List Int))) (j_c1:Int))) (ys:=([(List.length (W2_c1++([((j_c1:Int),(gI t.2.2 ↑j_c1),0)]:List bq)):Int)]:List Int)) g341 (J:=row 4 (Int.toNat ↑j_c1+1)) (S:=row 4 (Int.toNat ↑j_c1+1)) (4,Int.toNat ↑j_c1+1) rfl aW ae (by decide) rfl rfl rfl r317 o345.flat (by decide) (by(simp;omega)) ?_
        intro g363 w364 v365 ch366 o367
        have o368:=o252.rowchg ch366
        clear o252 cel316 r317
        replace bx311:=(bx311.cn ch344).chg ch366 (br rfl)
        refine aD 3 rfl (by kernel_rfl) rfl (aV (v:=v27) (a8 aN rfl bx311 rfl) ?_)
        obtain⟨us369,hl370,r371⟩:=o368.vc
        try simp only[List.length_set,List.length_append,List.length_cons,List.length_nil] at hl370
        refine xv 19 [3,18,17,16,15,14,13,12,11,10,9,8,7,6,5,4,2,1,0] rfl (aa (v:=v27) (i:=↑j_c1) c5 rfl rfl r371 rfl (by omega) (by omega)) (aD 20 rfl (by kernel_rfl) rfl (aJ (r:=(j_c1:Int)) ao rfl rfl o368 o367 (by omega) (by(simp only[List.length_set,List.length_append,List.length_cons,List.length_nil,List.length_replicate,List.length_map,List.length_take,List.length_drop];omega)) ?_))
        intro w375 ch376 o377
        clear o368 o367
        refine bc (by kernel_rfl) ?_
        have C378:=cg [4,8,12] (ch302.n.seq ((ch307.l rfl).seq ((ch310.l rfl).seq (ch312.n.seq (ch344.n.seq ((ch366.lr rfl).seq (ch376.l rfl)))))))
        have C379:=cg [4] (ch344.n.seq ((ch366.lr rfl).seq (ch376.l rfl)))
        exact mid (g363) _ _ ⟨bH.ca C378,zs0_c3,zs1_c3,zs4_c3,Rt.ca C378,r_t_v1.ca C378,bx5.ca C378,bx10.ca C378,o24.ca C378,o25.ca C378,o26.ca C378,o308.ca C379,bx311.ce ch376,o377⟩
     clear Rt r_t_v1 bx5 bx10 o24 o25 o26 o252 o308 bx311 bH
     rintro g382 f380 w381 ⟨bH,zs0_c3,zs1_c3,zs4_c3,Rt,r_t_v1,bx5,bx10,o24,o25,o26,o308,bx311,o336⟩
     refine a6 rfl (mz zs0_c3 (mz zs0_c3 (lw (vp b33 0) (ad rfl) (lx (a7 bB rfl rfl rfl rfl) (lx (a8 aY rfl bx311 rfl) (mz zs1_c3 (mz zs4_c3 (lw (vi (-0)) (fc (m:=0) rfl (by omega)) (lw (vg [vi t.1,vi 0,vi (-0)]) (bp (vs:=[(0,vi t.1),(1,vi 0),(2,vi (-0))]) rfl (by kernel_rfl)) ?_)))))))))
     refine lo (aw (α:=bq) g382 (is 18) (is 18) (18,0) rfl ([(t.1,0,-0)]:List bq) cZ cN (by decide) (by decide) (vs:=[(0,vg [vi t.1,vi 0,vi (-0)])]) rfl rfl (.cons rfl .nil) ?_)
     intro g383 w384 v385 ch386 o387
     refine lo ?_
     replace o308:=o308.cn ch386
     refine aA (α:=bq) (xs:=(W2_c1++([((j_c1:Int),(gI t.2.2 ↑j_c1),0)]:List bq))) (ys:=([(t.1,0,-0)]:List bq)) g383 (J:=is 12) (S:=is 12) (12,0) rfl cZ cN (by decide) rfl rfl rfl o308 o387.flat (by decide) (by(simp;omega)) ?_
     intro g388 w389 v390 ch391 o392
     clear o308
     refine lw (vp b33 0) (ad rfl) (lx (a7 bB rfl rfl rfl rfl) (lo ?_))
     replace bx311:=(bx311.cn ch386).ce ch391
     refine bj (cs':=[v390,v27,v28,v29,v30,vi t.1,vi (t.1+1),vi ak_c1,vi 0]) aY rfl rfl bx311 (bf o392.flat) nq (aZ o392.flat) rfl ?_
     intro w393 ch394 bx395
     clear bx311
     refine af (bU (vs:=[]) Try.func29 .nil ?_)
     have C396:=cg [8,12] (ch386.n.seq ((ch391.l rfl).seq (ch394.l rfl)))
     replace bH:=bH.ca C396
     replace Rt:=Rt.ca C396
     replace r_t_v1:=r_t_v1.ca C396
     replace bx5:=bx5.ca C396
     replace bx10:=bx10.ca C396
     replace o336:=o336.ca C396
     replace o24:=o24.ca C396
     replace o25:=o25.ca C396
     replace o26:=o26.ca C396
     replace o392:=o392.ce ch394
     refine⟨(v390,((W2_c1++([((j_c1:Int),(gI t.2.2 ↑j_c1),0)]:List bq))++([(t.1,0,-0)]:List bq)),(List.set (List.set O2_c1 (Int.toNat t.1) (gI O2_c1 t.1++([(W2_c1.length:Int)]:List Int))) (Int.toNat ↑j_c1) (gI (List.set O2_c1 (Int.toNat t.1) (gI O2_c1 t.1++([(W2_c1.length:Int)]:List Int))) (j_c1:Int)++([(List.length (W2_c1++([((j_c1:Int),(gI t.2.2 ↑j_c1),0)]:List bq)):Int)]:List Int))),g388),rfl,bH,Rt,r_t_v1,bx5,bx10,o336,o24,o25,o26,bx395,o392,?_⟩
     show(((W2_c1++([((j_c1:Int),(gI t.2.2 ↑j_c1),0)]:List bq))++([(t.1,0,-0)]:List bq)),(List.set (List.set O2_c1 (Int.toNat t.1) (gI O2_c1 t.1++([(W2_c1.length:Int)]:List Int))) (Int.toNat ↑j_c1) (gI (List.set O2_c1 (Int.toNat t.1) (gI O2_c1 t.1++([(W2_c1.length:Int)]:List Int))) (j_c1:Int)++([(List.length (W2_c1++([((j_c1:Int),(gI t.2.2 ↑j_c1),0)]:List bq)):Int)]:List Int))))=de (W2_c1,O2_c1) t.1 (j_c1:Int) (gI t.2.2 ↑j_c1) 0
     (unfold de;simp)
    clear Rt r_t_v1 bx5 bx10 o23 o24 o25 o26 bx35 o_W2_c1 bH
    rintro⟨Wj_c3_v,Wj_c3,Oj_c3,g398⟩ w397 ⟨bH,Rt,r_t_v1,bx5,bx10,o23,o24,o25,o26,bx35,o_Wj_c3,hja_c3⟩
    have hjw_c3:Wj_c3.length=(W2_c1).length+2:=by have h:=congrArg (λz=>z.1.length) hja_c3;simpa[de] using h
    refine af (a6 rfl (mz zs4_c1 (lw (vp b33 0) (ad rfl) (lx (a7 bB rfl rfl rfl rfl) (lx (a8 ae rfl bx35 rfl) (mi (gI t.2.2 ↑j_c1) (lx (aP (m:=ak_c1) (n:=(gI t.2.2 ↑j_c1)) rfl rfl (by omega)) (lw (vp b33 0) (ad rfl) (lx (a7 bB rfl rfl rfl rfl) (lo ?_))))))))))
    refine aR (cs':=[Wj_c3_v,v27,v28,v29,v30,vi t.1,vi (t.1+1),vi (ak_c1+(gI t.2.2 ↑j_c1)),vi 0]) ae rfl rfl bx35 rfl nq (AllOne.all (.cons rfl .nil)) rfl ?_
    intro w399 ch400 bx401
    clear bx35
    refine af (a9 (a6 rfl (mi (gI t.2.2 ↑j_c1) (lx (bo (m:=(gI t.2.2 ↑j_c1)) (n:=0) rfl rfl) (af ?_)))))
    by_cases p14_c1:(gI t.2.2 ↑j_c1)<0
    ·
     refine aj rfl (dt p14_c1) (a6 rfl (mz zs4_c1 (mi ↑j_c1 (mz zs4_c1 (lw (vp b33 0) (ad rfl) (lx (a7 bB rfl rfl rfl rfl) (lx (a8 ae rfl bx401 rfl) (mi (gI t.2.2 ↑j_c1) (lw (vi (-(gI t.2.2 ↑j_c1))) (fc (m:=(gI t.2.2 ↑j_c1)) rfl (by omega)) ?_)))))))))
     refine lo ?_
     refine bF (σ:=Value×(List bq)×eZ×aG) (V:=λ⟨Wj_c4_v,Wj_c4,Oj_c4,gq⟩=>vt []) (S:=λ⟨Wj_c4_v,Wj_c4,Oj_c4,gq⟩ w=>b9 w0 gq w/\Sl gq (is 0) w t_v t.2.1/\Sl gq (is 0) w t_v1 t.2.2/\Bx gq (is 1) w b3 [vi t.1,t_v,t_v1]/\Bx gq (is 2) w b8 [vn,vn,vi 0]/\bN gq 4 w v27 Oj_c4/\Ow gq (is 5) (is 5) w v28 (List.replicate (Int.toNat (t.1+2)) (0:Int))/\Ow gq (is 6) (is 6) w v29 (List.replicate (Int.toNat (t.1+2)) (0:Int))/\Ow gq (is 7) (is 7) w v30 (List.replicate (Int.toNat (t.1+2)) (0:Int))/\Bx gq (is 8) w b33 [Wj_c4_v,v27,v28,v29,v30,vi t.1,vi (t.1+1),vi (ak_c1+(gI t.2.2 ↑j_c1)),vi 0]/\Ow gq (is 12) (is 12) w Wj_c4_v Wj_c4/\((Wj_c4,Oj_c4)=de (Wj_c3,Oj_c3) (j_c1:Int) (t.1+1) (-(gI t.2.2 ↑j_c1)) 0)) (aU (vals:=[vp b33 0,vi ↑j_c1,vi (t.1+1),vi (-(gI t.2.2 ↑j_c1)),vi 0]) Try.func29 iM iC rfl) ?_ ?_
     ·
      refine aC Try.func29 rfl nq ?_
      replace o_Wj_c3:=o_Wj_c3.ce ch400
      replace o23:=o23.ce ch400
      replace o24:=o24.ce ch400
      replace o25:=o25.ce ch400
      replace o26:=o26.ce ch400
      have hrs_c4:=cS (O:=Oj_c3) (a:=(j_c1:Int)) (b:=(t.1+1)) (x:=(Wj_c3.length:Int)) (by omega) (by omega) (by omega)
      have hrt_c4:=hrs_c4
      try simp only[Int.toNat_natCast] at hrt_c4
      refine a9 ?_
      refine bS (σ:=aG) (λgq f w=>b9 w0 gq w/\f 0=vp b33 0/\f 1=vi ↑j_c1/\f 2=vi (t.1+1)/\f 3=vi (-(gI t.2.2 ↑j_c1))/\f 4=vi 0/\Sl gq (is 0) w t_v t.2.1/\Sl gq (is 0) w t_v1 t.2.2/\Bx gq (is 1) w b3 [vi t.1,t_v,t_v1]/\Bx gq (is 2) w b8 [vn,vn,vi 0]/\Ow gq (is 5) (is 5) w v28 (List.replicate (Int.toNat (t.1+2)) (0:Int))/\Ow gq (is 6) (is 6) w v29 (List.replicate (Int.toNat (t.1+2)) (0:Int))/\Ow gq (is 7) (is 7) w v30 (List.replicate (Int.toNat (t.1+2)) (0:Int))/\Ow gq (is 12) (is 12) w Wj_c3_v Wj_c3/\Bx gq (is 8) w b33 [Wj_c3_v,v27,v28,v29,v30,vi t.1,vi (t.1+1),vi (ak_c1+(gI t.2.2 ↑j_c1)),vi 0]/\bN gq 4 w v27 (List.set Oj_c3 (Int.toNat ↑j_c1) (gI Oj_c3 ↑j_c1++([(Wj_c3.length:Int)]:List Int)))) g398 [0,1,2,4,5,6,7,8,9,10,11,12,13,14,15,16,19] cO ?_ ?_
      ·
       intro mid
       intro w403 ch402
       refine xp (v:=vp b33 0) 0 rfl (λw=>ah rfl) (xp (v:=vp b33 0) 1 rfl (λw=>ad rfl) (xp 2 rfl (λw=>a7 bB rfl rfl rfl rfl) (xp (v:=vi ↑j_c1) 4 rfl (λw=>ah rfl) (xp (v:=vp b33 0) 5 rfl (λw=>ah rfl) (xp (v:=vp b33 0) 6 rfl (λw=>ad rfl) (xp 7 rfl (λw=>a7 bB rfl rfl rfl rfl) ?_))))))
       replace bx401:=bx401.cn ch402
       refine xh 8 [7,6,5,4,2,1,0,3,9,12,13,14,15,16,17] rfl (λw' hw'=>a8 aN rfl (bx401.bel hw') rfl) (xp (v:=vi ↑j_c1) 9 rfl (λw=>ah rfl) ?_)
       replace o23:=o23.cn ch402
       refine xh 10 [9,8,7,6,5,4,2,1,0,3,12,13,14,15,16,17] rfl (λw' hw'=>aa (v:=v27) (i:=↑j_c1) c5 rfl rfl (o23.sl.bel hw') rfl (by omega) (by omega)) ?_
       obtain⟨v404,cel405,r406⟩:=bC (r:=(j_c1:Int)) o23 (by omega) (by omega)
       refine xh 11 [10,9,8,7,6,5,4,2,1,0,3,12,13,14,15,16,17] rfl (λw' hw'=>bb ao rfl (bW cel405 hw')) (xp (v:=vp b33 0) 12 rfl (λw=>ah rfl) (xp (v:=vp b33 0) 13 rfl (λw=>ad rfl) (xp 14 rfl (λw=>a7 bB rfl rfl rfl rfl) (xh 15 [14,13,12,11,10,9,8,7,6,5,4,2,1,0,3] rfl (λw' hw'=>a8 aY rfl (bx401.bel hw') rfl) ?_))))
       replace o_Wj_c3:=o_Wj_c3.cn ch402
       have len407:=(o_Wj_c3.flat).small
       refine xp 16 rfl (λw=>ba cZ rfl o_Wj_c3.flat) ?_
       refine cq 3 17 rfl rfl (by kernel_rfl) rfl rfl ?_ ?_
       ·
        refine aV (v:=v27) (a8 aN rfl bx401 rfl) (aD 17 rfl (by kernel_rfl) rfl (aw (α:=Int) g398 (is 19) (is 19) (19,0) rfl ([(Wj_c3.length:Int)]:List Int) aW ae (by decide) (by decide) (vs:=[(0,vi (Wj_c3.length:Int))]) rfl rfl (.cons rfl .nil) ?_))
        intro g408 w409 v410 ch411 o412
        refine aD 18 rfl (by kernel_rfl) rfl ?_
        replace o23:=o23.cn ch411
        replace r406:=r406.cn ch411
        refine aA (α:=Int) (xs:=(gI Oj_c3 ↑j_c1)) (ys:=([(Wj_c3.length:Int)]:List Int)) g408 (J:=row 4 (Int.toNat ↑j_c1+1)) (S:=row 4 (Int.toNat ↑j_c1+1)) (4,Int.toNat ↑j_c1+1) rfl aW ae (by decide) rfl rfl rfl r406 o412.flat (by decide) (by omega) ?_
        intro g413 w414 v415 ch416 o417
        have o418:=o23.rowchg ch416
        clear o23 cel405 r406
        obtain⟨us419,hl420,r421⟩:=o418.vc
        try simp only[List.length_set,List.length_append,List.length_cons,List.length_nil] at hl420
        refine xv 19 [18,17,3,16,15,14,13,12,11,10,9,8,7,6,5,4,2,1,0] rfl (aa (v:=v27) (i:=↑j_c1) c5 rfl rfl r421 rfl (by omega) (by omega)) (aD 20 rfl (by kernel_rfl) rfl (aJ (r:=(j_c1:Int)) ao rfl rfl o418 o417 (by omega) (by omega) ?_))
        intro w425 ch426 o427
        clear o418 o417
        refine bc (by kernel_rfl) ?_
        have C428:=cg [4,8] ((ch400.l rfl).seq (ch402.n.seq (ch411.n.seq ((ch416.lr rfl).seq (ch426.l rfl)))))
        have C430:=cg [4] (ch411.n.seq ((ch416.lr rfl).seq (ch426.l rfl)))
        have C429:=ch402.n.seq C430
        exact mid (g413) _ _ ⟨bH.ca C428,rfl,rfl,rfl,rfl,rfl,Rt.ca C428,r_t_v1.ca C428,bx5.ca C428,bx10.ca C428,o24.ca C429,o25.ca C429,o26.ca C429,o_Wj_c3.ca C430,bx401.ca C430,o427⟩
       ·
        refine aw (α:=Int) g398 (is 19) (is 19) (19,0) rfl ([(Wj_c3.length:Int)]:List Int) aW ae (by decide) (by decide) (vs:=[(0,vi (Wj_c3.length:Int))]) rfl rfl (.cons rfl .nil) ?_
        intro g431 w432 v433 ch434 o435
        refine cq 3 18 rfl rfl (by kernel_rfl) rfl rfl ?_ ?_
        ·
         replace bx401:=bx401.cn ch434
         refine aV (v:=v27) (a8 aN rfl bx401 rfl) (aD 18 rfl (by kernel_rfl) rfl ?_)
         replace o23:=o23.cn ch434
         replace r406:=r406.cn ch434
         refine aA (α:=Int) (xs:=(gI Oj_c3 ↑j_c1)) (ys:=([(Wj_c3.length:Int)]:List Int)) g431 (J:=row 4 (Int.toNat ↑j_c1+1)) (S:=row 4 (Int.toNat ↑j_c1+1)) (4,Int.toNat ↑j_c1+1) rfl aW ae (by decide) rfl rfl rfl r406 o435.flat (by decide) (by omega) ?_
         intro g436 w437 v438 ch439 o440
         have o441:=o23.rowchg ch439
         clear o23 cel405 r406
         obtain⟨us442,hl443,r444⟩:=o441.vc
         try simp only[List.length_set,List.length_append,List.length_cons,List.length_nil] at hl443
         refine xv 19 [18,3,17,16,15,14,13,12,11,10,9,8,7,6,5,4,2,1,0] rfl (aa (v:=v27) (i:=↑j_c1) c5 rfl rfl r444 rfl (by omega) (by omega)) (aD 20 rfl (by kernel_rfl) rfl (aJ (r:=(j_c1:Int)) ao rfl rfl o441 o440 (by omega) (by omega) ?_))
         intro w448 ch449 o450
         clear o441 o440
         refine bc (by kernel_rfl) ?_
         have C451:=cg [4,8] ((ch400.l rfl).seq (ch402.n.seq (ch434.n.seq ((ch439.lr rfl).seq (ch449.l rfl)))))
         have C453:=cg [4] (ch434.n.seq ((ch439.lr rfl).seq (ch449.l rfl)))
         have C452:=ch402.n.seq C453
         exact mid (g436) _ _ ⟨bH.ca C451,rfl,rfl,rfl,rfl,rfl,Rt.ca C451,r_t_v1.ca C451,bx5.ca C451,bx10.ca C451,o24.ca C452,o25.ca C452,o26.ca C452,o_Wj_c3.ca C453,(bx401.chg ch439 (br rfl)).ce ch449,o450⟩
        ·
         replace o23:=o23.cn ch434
         replace r406:=r406.cn ch434
         refine aA (α:=Int) (xs:=(gI Oj_c3 ↑j_c1)) (ys:=([(Wj_c3.length:Int)]:List Int)) g431 (J:=row 4 (Int.toNat ↑j_c1+1)) (S:=row 4 (Int.toNat ↑j_c1+1)) (4,Int.toNat ↑j_c1+1) rfl aW ae (by decide) rfl rfl rfl r406 o435.flat (by decide) (by omega) ?_
         intro g454 w455 v456 ch457 o458
         have o459:=o23.rowchg ch457
         clear o23 cel405 r406
         replace bx401:=(bx401.cn ch434).chg ch457 (br rfl)
         refine aD 3 rfl (by kernel_rfl) rfl (aV (v:=v27) (a8 aN rfl bx401 rfl) ?_)
         obtain⟨us460,hl461,r462⟩:=o459.vc
         try simp only[List.length_set,List.length_append,List.length_cons,List.length_nil] at hl461
         refine xv 19 [3,18,17,16,15,14,13,12,11,10,9,8,7,6,5,4,2,1,0] rfl (aa (v:=v27) (i:=↑j_c1) c5 rfl rfl r462 rfl (by omega) (by omega)) (aD 20 rfl (by kernel_rfl) rfl (aJ (r:=(j_c1:Int)) ao rfl rfl o459 o458 (by omega) (by omega) ?_))
         intro w466 ch467 o468
         clear o459 o458
         refine bc (by kernel_rfl) ?_
         have C469:=cg [4,8] ((ch400.l rfl).seq (ch402.n.seq (ch434.n.seq ((ch457.lr rfl).seq (ch467.l rfl)))))
         have C471:=cg [4] (ch434.n.seq ((ch457.lr rfl).seq (ch467.l rfl)))
         have C470:=ch402.n.seq C471
         exact mid (g454) _ _ ⟨bH.ca C469,rfl,rfl,rfl,rfl,rfl,Rt.ca C469,r_t_v1.ca C469,bx5.ca C469,bx10.ca C469,o24.ca C470,o25.ca C470,o26.ca C470,o_Wj_c3.ca C471,bx401.ce ch467,o468⟩
      clear Rt r_t_v1 bx5 bx10 o23 o24 o25 o26 o_Wj_c3 bx401 bH
      rintro g474 f472 w473 ⟨bH,zs0_c4,zs1_c4,zs2_c4,zs3_c4,zs4_c4,Rt,r_t_v1,bx5,bx10,o24,o25,o26,o_Wj_c3,bx401,o425⟩
      refine a9 (a6 rfl (mz zs0_c4 (mz zs0_c4 (lw (vp b33 0) (ad rfl) (lx (a7 bB rfl rfl rfl rfl) (lx (a8 aY rfl bx401 rfl) (mz zs2_c4 (mz zs3_c4 (mz zs4_c4 (lw (vg [vi (t.1+1),vi (-(gI t.2.2 ↑j_c1)),vi 0]) (bp (vs:=[(0,vi (t.1+1)),(1,vi (-(gI t.2.2 ↑j_c1))),(2,vi 0)]) rfl (by kernel_rfl)) ?_))))))))))
      refine lo (aw (α:=bq) g474 (is 20) (is 20) (20,0) rfl ([(t.1+1,-(gI t.2.2 ↑j_c1),0)]:List bq) cZ cN (by decide) (by decide) (vs:=[(0,vg [vi (t.1+1),vi (-(gI t.2.2 ↑j_c1)),vi 0])]) rfl rfl (.cons rfl .nil) ?_)
      intro g475 w476 v477 ch478 o479
      refine lo ?_
      replace o_Wj_c3:=o_Wj_c3.cn ch478
      refine aA (α:=bq) (xs:=Wj_c3) (ys:=([(t.1+1,-(gI t.2.2 ↑j_c1),0)]:List bq)) g475 (J:=is 12) (S:=is 12) (12,0) rfl cZ cN (by decide) rfl rfl rfl o_Wj_c3 o479.flat (by decide) (by omega) ?_
      intro g480 w481 v482 ch483 o484
      clear o_Wj_c3
      refine lw (vp b33 0) (ad rfl) (lx (a7 bB rfl rfl rfl rfl) (lo ?_))
      replace bx401:=(bx401.cn ch478).ce ch483
      refine bj (cs':=[v482,v27,v28,v29,v30,vi t.1,vi (t.1+1),vi (ak_c1+(gI t.2.2 ↑j_c1)),vi 0]) aY rfl rfl bx401 (bf o484.flat) nq (aZ o484.flat) rfl ?_
      intro w485 ch486 bx487
      clear bx401
      refine af (a9 ?_)
      clear o479
      refine bS (σ:=aG) (λgq f w=>b9 w0 gq w/\f 0=vp b33 0/\f 1=vi ↑j_c1/\f 4=vi 0/\Sl gq (is 0) w t_v t.2.1/\Sl gq (is 0) w t_v1 t.2.2/\Bx gq (is 1) w b3 [vi t.1,t_v,t_v1]/\Bx gq (is 2) w b8 [vn,vn,vi 0]/\Ow gq (is 5) (is 5) w v28 (List.replicate (Int.toNat (t.1+2)) (0:Int))/\Ow gq (is 6) (is 6) w v29 (List.replicate (Int.toNat (t.1+2)) (0:Int))/\Ow gq (is 7) (is 7) w v30 (List.replicate (Int.toNat (t.1+2)) (0:Int))/\Ow gq (is 12) (is 12) w v482 (Wj_c3++([(t.1+1,-(gI t.2.2 ↑j_c1),0)]:List bq))/\Bx gq (is 8) w b33 [v482,v27,v28,v29,v30,vi t.1,vi (t.1+1),vi (ak_c1+(gI t.2.2 ↑j_c1)),vi 0]/\bN gq 4 w v27 (List.set (List.set Oj_c3 (Int.toNat ↑j_c1) (gI Oj_c3 ↑j_c1++([(Wj_c3.length:Int)]:List Int))) (Int.toNat (t.1+1)) (gI (List.set Oj_c3 (Int.toNat ↑j_c1) (gI Oj_c3 ↑j_c1++([(Wj_c3.length:Int)]:List Int))) (t.1+1)++([(List.length (Wj_c3++([(t.1+1,-(gI t.2.2 ↑j_c1),0)]:List bq)):Int)]:List Int)))) g480 [0,1,2,4,5,6,7,8,9,10,11,12,13,14,15,16,19] cO ?_ ?_
      ·
       intro mid
       intro w489 ch488
       refine xp (v:=vp b33 0) 0 rfl (λw=>ah zs0_c4) (xp (v:=vp b33 0) 1 rfl (λw=>ad rfl) (xp 2 rfl (λw=>a7 bB rfl rfl rfl rfl) (xp (v:=vi (t.1+1)) 4 rfl (λw=>ah zs2_c4) (xp (v:=vp b33 0) 5 rfl (λw=>ah zs0_c4) (xp (v:=vp b33 0) 6 rfl (λw=>ad rfl) (xp 7 rfl (λw=>a7 bB rfl rfl rfl rfl) ?_))))))
       replace bx487:=bx487.cn ch488
       refine xh 8 [7,6,5,4,2,1,0,3,9,12,13,14,15,16,17] rfl (λw' hw'=>a8 aN rfl (bx487.bel hw') rfl) (xp (v:=vi (t.1+1)) 9 rfl (λw=>ah zs2_c4) ?_)
       have C490:=cg [8,12] (ch478.n.seq ((ch483.l rfl).seq ((ch486.l rfl).seq ch488.n)))
       replace o425:=o425.ca C490
       refine xh 10 [9,8,7,6,5,4,2,1,0,3,12,13,14,15,16,17] rfl (λw' hw'=>aa (v:=v27) (i:=t.1+1) c5 rfl rfl (o425.sl.bel hw') rfl (by omega) (by omega)) ?_
       obtain⟨v491,cel492,r493⟩:=bC (r:=t.1+1) o425 (by omega) (by omega)
       refine xh 11 [10,9,8,7,6,5,4,2,1,0,3,12,13,14,15,16,17] rfl (λw' hw'=>bb ao rfl (bW cel492 hw')) (xp (v:=vp b33 0) 12 rfl (λw=>ah zs0_c4) (xp (v:=vp b33 0) 13 rfl (λw=>ad rfl) (xp 14 rfl (λw=>a7 bB rfl rfl rfl rfl) (xh 15 [14,13,12,11,10,9,8,7,6,5,4,2,1,0,3] rfl (λw' hw'=>a8 aY rfl (bx487.bel hw') rfl) ?_))))
       replace o484:=(o484.ce ch486).cn ch488
       have len494:=(o484.flat).small
       refine xp 16 rfl (λw=>ba cZ rfl o484.flat) ?_
       refine cq 3 17 rfl rfl (by kernel_rfl) rfl rfl ?_ ?_
       ·
        refine aV (v:=v27) (a8 aN rfl bx487 rfl) (aD 17 rfl (by kernel_rfl) rfl (aw (α:=Int) g480 (is 21) (is 21) (21,0) rfl ([(List.length (Wj_c3++([(t.1+1,-(gI t.2.2 ↑j_c1),0)]:List bq)):Int)]:List Int) aW ae (by decide) (by decide) (vs:=[(0,vi (List.length (Wj_c3++([(t.1+1,-(gI t.2.2 ↑j_c1),0)]:List bq)):Int))]) rfl rfl (.cons rfl .nil) ?_))
        intro g495 w496 v497 ch498 o499
        refine aD 18 rfl (by kernel_rfl) rfl ?_
        replace o425:=o425.cn ch498
        replace r493:=r493.cn ch498
        refine aA (α:=Int) (xs:=(gI (List.set Oj_c3 (Int.toNat ↑j_c1) (gI Oj_c3 ↑j_c1++([(Wj_c3.length:Int)]:List Int))) (t.1+1))) (ys:=([(List.length (Wj_c3++([(t.1+1,-(gI t.2.2 ↑j_c1),0)]:List bq)):Int)]:List Int)) g495 (J:=row 4 (Int.toNat (t.1+1)+1)) (S:=row 4 (Int.toNat (t.1+1)+1)) (4,Int.toNat (t.1+1)+1) rfl aW ae (by decide) rfl rfl rfl r493 o499.flat (by decide) (by omega) ?_
        intro g500 w501 v502 ch503 o504
        have o505:=o425.rowchg ch503
        clear o425 cel492 r493
        obtain⟨us506,hl507,r508⟩:=o505.vc
        try simp only[List.length_set,List.length_append,List.length_cons,List.length_nil] at hl507
        refine xv 19 [18,17,3,16,15,14,13,12,11,10,9,8,7,6,5,4,2,1,0] rfl (aa (v:=v27) (i:=t.1+1) c5 rfl rfl r508 rfl (by omega) (by omega)) (aD 20 rfl (by kernel_rfl) rfl (aJ (r:=t.1+1) ao rfl rfl o505 o504 (by omega) (by omega) ?_))
        intro w512 ch513 o514
        clear o505 o504
        refine bc (by kernel_rfl) ?_
        have C515:=cg [4,8,12] (ch478.n.seq ((ch483.l rfl).seq ((ch486.l rfl).seq (ch488.n.seq (ch498.n.seq ((ch503.lr rfl).seq (ch513.l rfl)))))))
        have C516:=cg [4] (ch498.n.seq ((ch503.lr rfl).seq (ch513.l rfl)))
        exact mid (g500) _ _ ⟨bH.ca C515,zs0_c4,zs1_c4,zs4_c4,Rt.ca C515,r_t_v1.ca C515,bx5.ca C515,bx10.ca C515,o24.ca C515,o25.ca C515,o26.ca C515,o484.ca C516,bx487.ca C516,o514⟩
       ·
        refine aw (α:=Int) g480 (is 21) (is 21) (21,0) rfl ([(List.length (Wj_c3++([(t.1+1,-(gI t.2.2 ↑j_c1),0)]:List bq)):Int)]:List Int) aW ae (by decide) (by decide) (vs:=[(0,vi (List.length (Wj_c3++([(t.1+1,-(gI t.2.2 ↑j_c1),0)]:List bq)):Int))]) rfl rfl (.cons rfl .nil) ?_
        intro g517 w518 v519 ch520 o521
        refine cq 3 18 rfl rfl (by kernel_rfl) rfl rfl ?_ ?_
        ·
         replace bx487:=bx487.cn ch520
         refine aV (v:=v27) (a8 aN rfl bx487 rfl) (aD 18 rfl (by kernel_rfl) rfl ?_)
         replace o425:=o425.cn ch520
         replace r493:=r493.cn ch520
         refine aA (α:=Int) (xs:=(gI (List.set Oj_c3 (Int.toNat ↑j_c1) (gI Oj_c3 ↑j_c1++([(Wj_c3.length:Int)]:List Int))) (t.1+1))) (ys:=([(List.length (Wj_c3++([(t.1+1,-(gI t.2.2 ↑j_c1),0)]:List bq)):Int)]:List Int)) g517 (J:=row 4 (Int.toNat (t.1+1)+1)) (S:=row 4 (Int.toNat (t.1+1)+1)) (4,Int.toNat (t.1+1)+1) rfl aW ae (by decide) rfl rfl rfl r493 o521.flat (by decide) (by omega) ?_
         intro g522 w523 v524 ch525 o526
         have o527:=o425.rowchg ch525
         clear o425 cel492 r493
         obtain⟨us528,hl529,r530⟩:=o527.vc
         try simp only[List.length_set,List.length_append,List.length_cons,List.length_nil] at hl529
         refine xv 19 [18,3,17,16,15,14,13,12,11,10,9,8,7,6,5,4,2,1,0] rfl (aa (v:=v27) (i:=t.1+1) c5 rfl rfl r530 rfl (by omega) (by omega)) (aD 20 rfl (by kernel_rfl) rfl (aJ (r:=t.1+1) ao rfl rfl o527 o526 (by omega) (by omega) ?_))
         intro w534 ch535 o536
         clear o527 o526
         refine bc (by kernel_rfl) ?_
         have C537:=cg [4,8,12] (ch478.n.seq ((ch483.l rfl).seq ((ch486.l rfl).seq (ch488.n.seq (ch520.n.seq ((ch525.lr rfl).seq (ch535.l rfl)))))))
         have C538:=cg [4] (ch520.n.seq ((ch525.lr rfl).seq (ch535.l rfl)))
         exact mid (g522) _ _ ⟨bH.ca C537,zs0_c4,zs1_c4,zs4_c4,Rt.ca C537,r_t_v1.ca C537,bx5.ca C537,bx10.ca C537,o24.ca C537,o25.ca C537,o26.ca C537,o484.ca C538,(bx487.chg ch525 (br rfl)).ce ch535,o536⟩
        ·
         replace o425:=o425.cn ch520
         replace r493:=r493.cn ch520
         refine aA (α:=Int) (xs:=(gI (List.set Oj_c3 (Int.toNat ↑j_c1) (gI Oj_c3 ↑j_c1++([(Wj_c3.length:Int)]:List Int))) (t.1+1))) (ys:=([(List.length (Wj_c3++([(t.1+1,-(gI t.2.2 ↑j_c1),0)]:List bq)):Int)]:List Int)) g517 (J:=row 4 (Int.toNat (t.1+1)+1)) (S:=row 4 (Int.toNat (t.1+1)+1)) (4,Int.toNat (t.1+1)+1) rfl aW ae (by decide) rfl rfl rfl r493 o521.flat (by decide) (by omega) ?_
         intro g539 w540 v541 ch542 o543
         have o544:=o425.rowchg ch542
         clear o425 cel492 r493
         replace bx487:=(bx487.cn ch520).chg ch542 (br rfl)
         refine aD 3 rfl (by kernel_rfl) rfl (aV (v:=v27) (a8 aN rfl bx487 rfl) ?_)
         obtain⟨us545,hl546,r547⟩:=o544.vc
         try simp only[List.length_set,List.length_append,List.length_cons,List.length_nil] at hl546
         refine xv 19 [3,18,17,16,15,14,13,12,11,10,9,8,7,6,5,4,2,1,0] rfl (aa (v:=v27) (i:=t.1+1) c5 rfl rfl r547 rfl (by omega) (by omega)) (aD 20 rfl (by kernel_rfl) rfl (aJ (r:=t.1+1) ao rfl rfl o544 o543 (by omega) (by omega) ?_))
         intro w551 ch552 o553
         clear o544 o543
         refine bc (by kernel_rfl) ?_
         have C554:=cg [4,8,12] (ch478.n.seq ((ch483.l rfl).seq ((ch486.l rfl).seq (ch488.n.seq (ch520.n.seq ((ch542.lr rfl).seq (ch552.l rfl)))))))
         have C555:=cg [4] (ch520.n.seq ((ch542.lr rfl).seq (ch552.l rfl)))
         exact mid (g539) _ _ ⟨bH.ca C554,zs0_c4,zs1_c4,zs4_c4,Rt.ca C554,r_t_v1.ca C554,bx5.ca C554,bx10.ca C554,o24.ca C554,o25.ca C554,o26.ca C554,o484.ca C555,bx487.ce ch552,o553⟩
      clear Rt r_t_v1 bx5 bx10 o24 o25 o26 o425 o484 bx487 bH
      rintro g558 f556 w557 ⟨bH,zs0_c4,zs1_c4,zs4_c4,Rt,r_t_v1,bx5,bx10,o24,o25,o26,o484,bx487,o512⟩
      refine a6 rfl (mz zs0_c4 (mz zs0_c4 (lw (vp b33 0) (ad rfl) (lx (a7 bB rfl rfl rfl rfl) (lx (a8 aY rfl bx487 rfl) (mz zs1_c4 (mz zs4_c4 (lw (vi (-0)) (fc (m:=0) rfl (by omega)) (lw (vg [vi ↑j_c1,vi 0,vi (-0)]) (bp (vs:=[(0,vi ↑j_c1),(1,vi 0),(2,vi (-0))]) rfl (by kernel_rfl)) ?_)))))))))
      refine lo (aw (α:=bq) g558 (is 22) (is 22) (22,0) rfl ([((j_c1:Int),0,-0)]:List bq) cZ cN (by decide) (by decide) (vs:=[(0,vg [vi ↑j_c1,vi 0,vi (-0)])]) rfl rfl (.cons rfl .nil) ?_)
      intro g559 w560 v561 ch562 o563
      refine lo ?_
      replace o484:=o484.cn ch562
      refine aA (α:=bq) (xs:=(Wj_c3++([(t.1+1,-(gI t.2.2 ↑j_c1),0)]:List bq))) (ys:=([((j_c1:Int),0,-0)]:List bq)) g559 (J:=is 12) (S:=is 12) (12,0) rfl cZ cN (by decide) rfl rfl rfl o484 o563.flat (by decide) (by omega) ?_
      intro g564 w565 v566 ch567 o568
      clear o484
      refine lw (vp b33 0) (ad rfl) (lx (a7 bB rfl rfl rfl rfl) (lo ?_))
      replace bx487:=(bx487.cn ch562).ce ch567
      refine bj (cs':=[v566,v27,v28,v29,v30,vi t.1,vi (t.1+1),vi (ak_c1+(gI t.2.2 ↑j_c1)),vi 0]) aY rfl rfl bx487 (bf o568.flat) nq (aZ o568.flat) rfl ?_
      intro w569 ch570 bx571
      clear bx487
      refine af (bU (vs:=[]) Try.func29 .nil ?_)
      have C572:=cg [8,12] (ch562.n.seq ((ch567.l rfl).seq (ch570.l rfl)))
      replace bH:=bH.ca C572
      replace Rt:=Rt.ca C572
      replace r_t_v1:=r_t_v1.ca C572
      replace bx5:=bx5.ca C572
      replace bx10:=bx10.ca C572
      replace o512:=o512.ca C572
      replace o24:=o24.ca C572
      replace o25:=o25.ca C572
      replace o26:=o26.ca C572
      replace o568:=o568.ce ch570
      refine⟨(v566,((Wj_c3++([(t.1+1,-(gI t.2.2 ↑j_c1),0)]:List bq))++([((j_c1:Int),0,-0)]:List bq)),(List.set (List.set Oj_c3 (Int.toNat ↑j_c1) (gI Oj_c3 ↑j_c1++([(Wj_c3.length:Int)]:List Int))) (Int.toNat (t.1+1)) (gI (List.set Oj_c3 (Int.toNat ↑j_c1) (gI Oj_c3 ↑j_c1++([(Wj_c3.length:Int)]:List Int))) (t.1+1)++([(List.length (Wj_c3++([(t.1+1,-(gI t.2.2 ↑j_c1),0)]:List bq)):Int)]:List Int))),g564),rfl,bH,Rt,r_t_v1,bx5,bx10,o512,o24,o25,o26,bx571,o568,?_⟩
      show(((Wj_c3++([(t.1+1,-(gI t.2.2 ↑j_c1),0)]:List bq))++([((j_c1:Int),0,-0)]:List bq)),(List.set (List.set Oj_c3 (Int.toNat ↑j_c1) (gI Oj_c3 ↑j_c1++([(Wj_c3.length:Int)]:List Int))) (Int.toNat (t.1+1)) (gI (List.set Oj_c3 (Int.toNat ↑j_c1) (gI Oj_c3 ↑j_c1++([(Wj_c3.length:Int)]:List Int))) (t.1+1)++([(List.length (Wj_c3++([(t.1+1,-(gI t.2.2 ↑j_c1),0)]:List bq)):Int)]:List Int))))=de (Wj_c3,Oj_c3) (j_c1:Int) (t.1+1) (-(gI t.2.2 ↑j_c1)) 0
      (unfold de;simp)
     clear Rt r_t_v1 bx5 bx10 o23 o24 o25 o26 o_Wj_c3 bx401 bH
     rintro⟨Wj_c4_v,Wj_c4,Oj_c4,g574⟩ w573 ⟨bH,Rt,r_t_v1,bx5,bx10,o23,o24,o25,o26,bx401,o_Wj_c4,hja_c4⟩
     have hjw_c4:Wj_c4.length=(Wj_c3).length+2:=by have h:=congrArg (λz=>z.1.length) hja_c4;simpa[de] using h
     refine af (aq (a6 rfl (lx (aP (m:=↑j_c1) (n:=1) zs48_c1 rfl (by omega)) (mi ((j_c1:Int)+1) (af ?_)))))
     refine back9_c1 (Wj_c4_v,Wj_c4,ak_c1+(gI t.2.2 ↑j_c1),j_c1+1,Oj_c4,g574) _ _ ⟨bH,zs4_c1,zs46_c1,zs47_c1,rfl,Rt,r_t_v1,bx5,bx10,o23,o24,o25,o26,bx401,o_Wj_c4,by omega,?_⟩ ?_
     · show gv t (j_c1+1) Wj_c4 Oj_c4 (ak_c1+(gI t.2.2 ↑j_c1))
       (exfalso;omega)
     · show Int.toNat (((t.2.2.length:Int):Int)-((j_c1+1):Int))<Int.toNat (((t.2.2.length:Int):Int)-(j_c1:Int))
       omega
    refine am rfl (df p14_c1) (au (aq (a6 rfl (lx (aP (m:=↑j_c1) (n:=1) zs48_c1 rfl (by omega)) (mi ((j_c1:Int)+1) (af ?_))))))
    refine back9_c1 (Wj_c3_v,Wj_c3,ak_c1+(gI t.2.2 ↑j_c1),j_c1+1,Oj_c3,g398) _ _ ⟨bH.ce ch400,zs4_c1,zs46_c1,zs47_c1,rfl,Rt.ce ch400,r_t_v1.ce ch400,bx5.ce ch400,bx10.ce ch400,o23.ce ch400,o24.ce ch400,o25.ce ch400,o26.ce ch400,bx401,o_Wj_c3.ce ch400,by omega,?_⟩ ?_
    · show gv t (j_c1+1) Wj_c3 Oj_c3 (ak_c1+(gI t.2.2 ↑j_c1))
      exact hln_c1.plus hm ‹_› ‹_› ‹_›
    · show Int.toNat (((t.2.2.length:Int):Int)-((j_c1+1):Int))<Int.toNat (((t.2.2.length:Int):Int)-(j_c1:Int))
      omega
   refine am rfl (df p11_c1) (au (a9 (a6 rfl (mi (gI t.2.2 ↑j_c1) (lx (bo (m:=(gI t.2.2 ↑j_c1)) (n:=0) rfl rfl) (af ?_))))))
   by_cases p14_c1:(gI t.2.2 ↑j_c1)<0
   ·
    refine aj rfl (dt p14_c1) (a6 rfl (mz zs4_c1 (mi ↑j_c1 (mz zs4_c1 (lw (vp b33 0) (ad rfl) (lx (a7 bB rfl rfl rfl rfl) (lx (a8 ae rfl bx35 rfl) (mi (gI t.2.2 ↑j_c1) (lw (vi (-(gI t.2.2 ↑j_c1))) (fc (m:=(gI t.2.2 ↑j_c1)) rfl (by omega)) ?_)))))))))
    refine lo ?_
    refine bF (σ:=Value×(List bq)×eZ×aG) (V:=λ⟨Wj_c5_v,Wj_c5,Oj_c5,gq⟩=>vt []) (S:=λ⟨Wj_c5_v,Wj_c5,Oj_c5,gq⟩ w=>b9 w0 gq w/\Sl gq (is 0) w t_v t.2.1/\Sl gq (is 0) w t_v1 t.2.2/\Bx gq (is 1) w b3 [vi t.1,t_v,t_v1]/\Bx gq (is 2) w b8 [vn,vn,vi 0]/\bN gq 4 w v27 Oj_c5/\Ow gq (is 5) (is 5) w v28 (List.replicate (Int.toNat (t.1+2)) (0:Int))/\Ow gq (is 6) (is 6) w v29 (List.replicate (Int.toNat (t.1+2)) (0:Int))/\Ow gq (is 7) (is 7) w v30 (List.replicate (Int.toNat (t.1+2)) (0:Int))/\Bx gq (is 8) w b33 [Wj_c5_v,v27,v28,v29,v30,vi t.1,vi (t.1+1),vi ak_c1,vi 0]/\Ow gq (is 12) (is 12) w Wj_c5_v Wj_c5/\((Wj_c5,Oj_c5)=de (W2_c1,O2_c1) (j_c1:Int) (t.1+1) (-(gI t.2.2 ↑j_c1)) 0)) (aU (vals:=[vp b33 0,vi ↑j_c1,vi (t.1+1),vi (-(gI t.2.2 ↑j_c1)),vi 0]) Try.func29 iM iC rfl) ?_ ?_
    ·
     refine aC Try.func29 rfl nq ?_
     have hrs_c5:=cS (O:=O2_c1) (a:=(j_c1:Int)) (b:=(t.1+1)) (x:=(W2_c1.length:Int)) (by omega) (by omega) (by omega)
     have hrt_c5:=hrs_c5
     try simp only[Int.toNat_natCast] at hrt_c5
     refine a9 ?_
     refine bS (σ:=aG) (λgq f w=>b9 w0 gq w/\f 0=vp b33 0/\f 1=vi ↑j_c1/\f 2=vi (t.1+1)/\f 3=vi (-(gI t.2.2 ↑j_c1))/\f 4=vi 0/\Sl gq (is 0) w t_v t.2.1/\Sl gq (is 0) w t_v1 t.2.2/\Bx gq (is 1) w b3 [vi t.1,t_v,t_v1]/\Bx gq (is 2) w b8 [vn,vn,vi 0]/\Ow gq (is 5) (is 5) w v28 (List.replicate (Int.toNat (t.1+2)) (0:Int))/\Ow gq (is 6) (is 6) w v29 (List.replicate (Int.toNat (t.1+2)) (0:Int))/\Ow gq (is 7) (is 7) w v30 (List.replicate (Int.toNat (t.1+2)) (0:Int))/\Bx gq (is 8) w b33 [W2_c1_v,v27,v28,v29,v30,vi t.1,vi (t.1+1),vi ak_c1,vi 0]/\Ow gq (is 12) (is 12) w W2_c1_v W2_c1/\bN gq 4 w v27 (List.set O2_c1 (Int.toNat ↑j_c1) (gI O2_c1 ↑j_c1++([(W2_c1.length:Int)]:List Int)))) g228 [0,1,2,4,5,6,7,8,9,10,11,12,13,14,15,16,19] cO ?_ ?_
     ·
      intro mid
      intro w576 ch575
      refine xp (v:=vp b33 0) 0 rfl (λw=>ah rfl) (xp (v:=vp b33 0) 1 rfl (λw=>ad rfl) (xp 2 rfl (λw=>a7 bB rfl rfl rfl rfl) (xp (v:=vi ↑j_c1) 4 rfl (λw=>ah rfl) (xp (v:=vp b33 0) 5 rfl (λw=>ah rfl) (xp (v:=vp b33 0) 6 rfl (λw=>ad rfl) (xp 7 rfl (λw=>a7 bB rfl rfl rfl rfl) ?_))))))
      replace bx35:=bx35.cn ch575
      refine xh 8 [7,6,5,4,2,1,0,3,9,12,13,14,15,16,17] rfl (λw' hw'=>a8 aN rfl (bx35.bel hw') rfl) (xp (v:=vi ↑j_c1) 9 rfl (λw=>ah rfl) ?_)
      replace o23:=o23.cn ch575
      refine xh 10 [9,8,7,6,5,4,2,1,0,3,12,13,14,15,16,17] rfl (λw' hw'=>aa (v:=v27) (i:=↑j_c1) c5 rfl rfl (o23.sl.bel hw') rfl (by omega) (by omega)) ?_
      obtain⟨v577,cel578,r579⟩:=bC (r:=(j_c1:Int)) o23 (by omega) (by omega)
      refine xh 11 [10,9,8,7,6,5,4,2,1,0,3,12,13,14,15,16,17] rfl (λw' hw'=>bb ao rfl (bW cel578 hw')) (xp (v:=vp b33 0) 12 rfl (λw=>ah rfl) (xp (v:=vp b33 0) 13 rfl (λw=>ad rfl) (xp 14 rfl (λw=>a7 bB rfl rfl rfl rfl) (xh 15 [14,13,12,11,10,9,8,7,6,5,4,2,1,0,3] rfl (λw' hw'=>a8 aY rfl (bx35.bel hw') rfl) ?_))))
      replace o_W2_c1:=o_W2_c1.cn ch575
      have len580:=(o_W2_c1.flat).small
      refine xp 16 rfl (λw=>ba cZ rfl o_W2_c1.flat) ?_
      refine cq 3 17 rfl rfl (by kernel_rfl) rfl rfl ?_ ?_
      ·
       refine aV (v:=v27) (a8 aN rfl bx35 rfl) (aD 17 rfl (by kernel_rfl) rfl (aw (α:=Int) g228 (is 23) (is 23) (23,0) rfl ([(W2_c1.length:Int)]:List Int) aW ae (by decide) (by decide) (vs:=[(0,vi (W2_c1.length:Int))]) rfl rfl (.cons rfl .nil) ?_))
       intro g581 w582 v583 ch584 o585
       refine aD 18 rfl (by kernel_rfl) rfl ?_
       replace o23:=o23.cn ch584
       replace r579:=r579.cn ch584
       refine aA (α:=Int) (xs:=(gI O2_c1 ↑j_c1)) (ys:=([(W2_c1.length:Int)]:List Int)) g581 (J:=row 4 (Int.toNat ↑j_c1+1)) (S:=row 4 (Int.toNat ↑j_c1+1)) (4,Int.toNat ↑j_c1+1) rfl aW ae (by decide) rfl rfl rfl r579 o585.flat (by decide) (by(simp;omega)) ?_
       intro g586 w587 v588 ch589 o590
       have o591:=o23.rowchg ch589
       clear o23 cel578 r579
       obtain⟨us592,hl593,r594⟩:=o591.vc
       try simp only[List.length_set,List.length_append,List.length_cons,List.length_nil] at hl593
       refine xv 19 [18,17,3,16,15,14,13,12,11,10,9,8,7,6,5,4,2,1,0] rfl (aa (v:=v27) (i:=↑j_c1) c5 rfl rfl r594 rfl (by omega) (by omega)) (aD 20 rfl (by kernel_rfl) rfl (aJ (r:=(j_c1:Int)) ao rfl rfl o591 o590 (by omega) (by omega) ?_))
       intro w598 ch599 o600
       clear o591 o590
       refine bc (by kernel_rfl) ?_
       have C602:=cg [4] (ch584.n.seq ((ch589.lr rfl).seq (ch599.l rfl)))
       have C601:=ch575.n.seq C602
       exact mid (g586) _ _ ⟨bH.ca C601,rfl,rfl,rfl,rfl,rfl,Rt.ca C601,r_t_v1.ca C601,bx5.ca C601,bx10.ca C601,o24.ca C601,o25.ca C601,o26.ca C601,bx35.ca C602,o_W2_c1.ca C602,o600⟩
      ·
       refine aw (α:=Int) g228 (is 23) (is 23) (23,0) rfl ([(W2_c1.length:Int)]:List Int) aW ae (by decide) (by decide) (vs:=[(0,vi (W2_c1.length:Int))]) rfl rfl (.cons rfl .nil) ?_
       intro g603 w604 v605 ch606 o607
       refine cq 3 18 rfl rfl (by kernel_rfl) rfl rfl ?_ ?_
       ·
        replace bx35:=bx35.cn ch606
        refine aV (v:=v27) (a8 aN rfl bx35 rfl) (aD 18 rfl (by kernel_rfl) rfl ?_)
        replace o23:=o23.cn ch606
        replace r579:=r579.cn ch606
        refine aA (α:=Int) (xs:=(gI O2_c1 ↑j_c1)) (ys:=([(W2_c1.length:Int)]:List Int)) g603 (J:=row 4 (Int.toNat ↑j_c1+1)) (S:=row 4 (Int.toNat ↑j_c1+1)) (4,Int.toNat ↑j_c1+1) rfl aW ae (by decide) rfl rfl rfl r579 o607.flat (by decide) (by(simp;omega)) ?_
        intro g608 w609 v610 ch611 o612
        have o613:=o23.rowchg ch611
        clear o23 cel578 r579
        obtain⟨us614,hl615,r616⟩:=o613.vc
        try simp only[List.length_set,List.length_append,List.length_cons,List.length_nil] at hl615
        refine xv 19 [18,3,17,16,15,14,13,12,11,10,9,8,7,6,5,4,2,1,0] rfl (aa (v:=v27) (i:=↑j_c1) c5 rfl rfl r616 rfl (by omega) (by omega)) (aD 20 rfl (by kernel_rfl) rfl (aJ (r:=(j_c1:Int)) ao rfl rfl o613 o612 (by omega) (by omega) ?_))
        intro w620 ch621 o622
        clear o613 o612
        refine bc (by kernel_rfl) ?_
        have C624:=cg [4] (ch606.n.seq ((ch611.lr rfl).seq (ch621.l rfl)))
        have C623:=ch575.n.seq C624
        exact mid (g608) _ _ ⟨bH.ca C623,rfl,rfl,rfl,rfl,rfl,Rt.ca C623,r_t_v1.ca C623,bx5.ca C623,bx10.ca C623,o24.ca C623,o25.ca C623,o26.ca C623,(bx35.chg ch611 (br rfl)).ce ch621,o_W2_c1.ca C624,o622⟩
       ·
        replace o23:=o23.cn ch606
        replace r579:=r579.cn ch606
        refine aA (α:=Int) (xs:=(gI O2_c1 ↑j_c1)) (ys:=([(W2_c1.length:Int)]:List Int)) g603 (J:=row 4 (Int.toNat ↑j_c1+1)) (S:=row 4 (Int.toNat ↑j_c1+1)) (4,Int.toNat ↑j_c1+1) rfl aW ae (by decide) rfl rfl rfl r579 o607.flat (by decide) (by(simp;omega)) ?_
        intro g625 w626 v627 ch628 o629
        have o630:=o23.rowchg ch628
        clear o23 cel578 r579
        replace bx35:=(bx35.cn ch606).chg ch628 (br rfl)
        refine aD 3 rfl (by kernel_rfl) rfl (aV (v:=v27) (a8 aN rfl bx35 rfl) ?_)
        obtain⟨us631,hl632,r633⟩:=o630.vc
        try simp only[List.length_set,List.length_append,List.length_cons,List.length_nil] at hl632
        refine xv 19 [3,18,17,16,15,14,13,12,11,10,9,8,7,6,5,4,2,1,0] rfl (aa (v:=v27) (i:=↑j_c1) c5 rfl rfl r633 rfl (by omega) (by omega)) (aD 20 rfl (by kernel_rfl) rfl (aJ (r:=(j_c1:Int)) ao rfl rfl o630 o629 (by omega) (by omega) ?_))
        intro w637 ch638 o639
        clear o630 o629
        refine bc (by kernel_rfl) ?_
        have C641:=cg [4] (ch606.n.seq ((ch628.lr rfl).seq (ch638.l rfl)))
        have C640:=ch575.n.seq C641
        exact mid (g625) _ _ ⟨bH.ca C640,rfl,rfl,rfl,rfl,rfl,Rt.ca C640,r_t_v1.ca C640,bx5.ca C640,bx10.ca C640,o24.ca C640,o25.ca C640,o26.ca C640,bx35.ce ch638,o_W2_c1.ca C641,o639⟩
     clear Rt r_t_v1 bx5 bx10 o23 o24 o25 o26 bx35 o_W2_c1 bH
     rintro g644 f642 w643 ⟨bH,zs0_c5,zs1_c5,zs2_c5,zs3_c5,zs4_c5,Rt,r_t_v1,bx5,bx10,o24,o25,o26,bx35,o_W2_c1,o598⟩
     refine a9 (a6 rfl (mz zs0_c5 (mz zs0_c5 (lw (vp b33 0) (ad rfl) (lx (a7 bB rfl rfl rfl rfl) (lx (a8 aY rfl bx35 rfl) (mz zs2_c5 (mz zs3_c5 (mz zs4_c5 (lw (vg [vi (t.1+1),vi (-(gI t.2.2 ↑j_c1)),vi 0]) (bp (vs:=[(0,vi (t.1+1)),(1,vi (-(gI t.2.2 ↑j_c1))),(2,vi 0)]) rfl (by kernel_rfl)) ?_))))))))))
     refine lo (aw (α:=bq) g644 (is 24) (is 24) (24,0) rfl ([(t.1+1,-(gI t.2.2 ↑j_c1),0)]:List bq) cZ cN (by decide) (by decide) (vs:=[(0,vg [vi (t.1+1),vi (-(gI t.2.2 ↑j_c1)),vi 0])]) rfl rfl (.cons rfl .nil) ?_)
     intro g645 w646 v647 ch648 o649
     refine lo ?_
     replace o_W2_c1:=o_W2_c1.cn ch648
     refine aA (α:=bq) (xs:=W2_c1) (ys:=([(t.1+1,-(gI t.2.2 ↑j_c1),0)]:List bq)) g645 (J:=is 12) (S:=is 12) (12,0) rfl cZ cN (by decide) rfl rfl rfl o_W2_c1 o649.flat (by decide) (by(simp;omega)) ?_
     intro g650 w651 v652 ch653 o654
     clear o_W2_c1
     refine lw (vp b33 0) (ad rfl) (lx (a7 bB rfl rfl rfl rfl) (lo ?_))
     replace bx35:=(bx35.cn ch648).ce ch653
     refine bj (cs':=[v652,v27,v28,v29,v30,vi t.1,vi (t.1+1),vi ak_c1,vi 0]) aY rfl rfl bx35 (bf o654.flat) nq (aZ o654.flat) rfl ?_
     intro w655 ch656 bx657
     clear bx35
     refine af (a9 ?_)
     clear o649
     refine bS (σ:=aG) (λgq f w=>b9 w0 gq w/\f 0=vp b33 0/\f 1=vi ↑j_c1/\f 4=vi 0/\Sl gq (is 0) w t_v t.2.1/\Sl gq (is 0) w t_v1 t.2.2/\Bx gq (is 1) w b3 [vi t.1,t_v,t_v1]/\Bx gq (is 2) w b8 [vn,vn,vi 0]/\Ow gq (is 5) (is 5) w v28 (List.replicate (Int.toNat (t.1+2)) (0:Int))/\Ow gq (is 6) (is 6) w v29 (List.replicate (Int.toNat (t.1+2)) (0:Int))/\Ow gq (is 7) (is 7) w v30 (List.replicate (Int.toNat (t.1+2)) (0:Int))/\Ow gq (is 12) (is 12) w v652 (W2_c1++([(t.1+1,-(gI t.2.2 ↑j_c1),0)]:List bq))/\Bx gq (is 8) w b33 [v652,v27,v28,v29,v30,vi t.1,vi (t.1+1),vi ak_c1,vi 0]/\bN gq 4 w v27 (List.set (List.set O2_c1 (Int.toNat ↑j_c1) (gI O2_c1 ↑j_c1++([(W2_c1.length:Int)]:List Int))) (Int.toNat (t.1+1)) (gI (List.set O2_c1 (Int.toNat ↑j_c1) (gI O2_c1 ↑j_c1++([(W2_c1.length:Int)]:List Int))) (t.1+1)++([(List.length (W2_c1++([(t.1+1,-(gI t.2.2 ↑j_c1),0)]:List bq)):Int)]:List Int)))) g650 [0,1,2,4,5,6,7,8,9,10,11,12,13,14,15,16,19] cO ?_ ?_
     ·
      intro mid
      intro w659 ch658
      refine xp (v:=vp b33 0) 0 rfl (λw=>ah zs0_c5) (xp (v:=vp b33 0) 1 rfl (λw=>ad rfl) (xp 2 rfl (λw=>a7 bB rfl rfl rfl rfl) (xp (v:=vi (t.1+1)) 4 rfl (λw=>ah zs2_c5) (xp (v:=vp b33 0) 5 rfl (λw=>ah zs0_c5) (xp (v:=vp b33 0) 6 rfl (λw=>ad rfl) (xp 7 rfl (λw=>a7 bB rfl rfl rfl rfl) ?_))))))
      replace bx657:=bx657.cn ch658
      refine xh 8 [7,6,5,4,2,1,0,3,9,12,13,14,15,16,17] rfl (λw' hw'=>a8 aN rfl (bx657.bel hw') rfl) (xp (v:=vi (t.1+1)) 9 rfl (λw=>ah zs2_c5) ?_)
      have C660:=cg [8,12] (ch648.n.seq ((ch653.l rfl).seq ((ch656.l rfl).seq ch658.n)))
      replace o598:=o598.ca C660
      refine xh 10 [9,8,7,6,5,4,2,1,0,3,12,13,14,15,16,17] rfl (λw' hw'=>aa (v:=v27) (i:=t.1+1) c5 rfl rfl (o598.sl.bel hw') rfl (by omega) (by(simp only[List.length_set,List.length_append,List.length_cons,List.length_nil,List.length_replicate,List.length_map,List.length_take,List.length_drop];omega))) ?_
      obtain⟨v661,cel662,r663⟩:=bC (r:=t.1+1) o598 (by omega) (by(simp only[List.length_set,List.length_append,List.length_cons,List.length_nil,List.length_replicate,List.length_map,List.length_take,List.length_drop];omega))
      refine xh 11 [10,9,8,7,6,5,4,2,1,0,3,12,13,14,15,16,17] rfl (λw' hw'=>bb ao rfl (bW cel662 hw')) (xp (v:=vp b33 0) 12 rfl (λw=>ah zs0_c5) (xp (v:=vp b33 0) 13 rfl (λw=>ad rfl) (xp 14 rfl (λw=>a7 bB rfl rfl rfl rfl) (xh 15 [14,13,12,11,10,9,8,7,6,5,4,2,1,0,3] rfl (λw' hw'=>a8 aY rfl (bx657.bel hw') rfl) ?_))))
      replace o654:=(o654.ce ch656).cn ch658
      have len664:=(o654.flat).small
      refine xp 16 rfl (λw=>ba cZ rfl o654.flat) ?_
      refine cq 3 17 rfl rfl (by kernel_rfl) rfl rfl ?_ ?_
      ·
       refine aV (v:=v27) (a8 aN rfl bx657 rfl) (aD 17 rfl (by kernel_rfl) rfl (aw (α:=Int) g650 (is 25) (is 25) (25,0) rfl ([(List.length (W2_c1++([(t.1+1,-(gI t.2.2 ↑j_c1),0)]:List bq)):Int)]:List Int) aW ae (by decide) (by decide) (vs:=[(0,vi (List.length (W2_c1++([(t.1+1,-(gI t.2.2 ↑j_c1),0)]:List bq)):Int))]) rfl rfl (.cons rfl .nil) ?_))
       intro g665 w666 v667 ch668 o669
       refine aD 18 rfl (by kernel_rfl) rfl ?_
       replace o598:=o598.cn ch668
       replace r663:=r663.cn ch668
       refine aA (α:=Int) (xs:=(gI (List.set O2_c1 (Int.toNat ↑j_c1) (gI O2_c1 ↑j_c1++([(W2_c1.length:Int)]:List Int))) (t.1+1))) (ys:=([(List.length (W2_c1++([(t.1+1,-(gI t.2.2 ↑j_c1),0)]:List bq)):Int)]:List Int)) g665 (J:=row 4 (Int.toNat (t.1+1)+1)) (S:=row 4 (Int.toNat (t.1+1)+1)) (4,Int.toNat (t.1+1)+1) rfl aW ae (by decide) rfl rfl rfl r663 o669.flat (by decide) (by(simp;omega)) ?_
       intro g670 w671 v672 ch673 o674
       have o675:=o598.rowchg ch673
       clear o598 cel662 r663
       obtain⟨us676,hl677,r678⟩:=o675.vc
       try simp only[List.length_set,List.length_append,List.length_cons,List.length_nil] at hl677
       refine xv 19 [18,17,3,16,15,14,13,12,11,10,9,8,7,6,5,4,2,1,0] rfl (aa (v:=v27) (i:=t.1+1) c5 rfl rfl r678 rfl (by omega) (by omega)) (aD 20 rfl (by kernel_rfl) rfl (aJ (r:=t.1+1) ao rfl rfl o675 o674 (by omega) (by(simp only[List.length_set,List.length_append,List.length_cons,List.length_nil,List.length_replicate,List.length_map,List.length_take,List.length_drop];omega)) ?_))
       intro w682 ch683 o684
       clear o675 o674
       refine bc (by kernel_rfl) ?_
       have C685:=cg [4,8,12] (ch648.n.seq ((ch653.l rfl).seq ((ch656.l rfl).seq (ch658.n.seq (ch668.n.seq ((ch673.lr rfl).seq (ch683.l rfl)))))))
       have C686:=cg [4] (ch668.n.seq ((ch673.lr rfl).seq (ch683.l rfl)))
       exact mid (g670) _ _ ⟨bH.ca C685,zs0_c5,zs1_c5,zs4_c5,Rt.ca C685,r_t_v1.ca C685,bx5.ca C685,bx10.ca C685,o24.ca C685,o25.ca C685,o26.ca C685,o654.ca C686,bx657.ca C686,o684⟩
      ·
       refine aw (α:=Int) g650 (is 25) (is 25) (25,0) rfl ([(List.length (W2_c1++([(t.1+1,-(gI t.2.2 ↑j_c1),0)]:List bq)):Int)]:List Int) aW ae (by decide) (by decide) (vs:=[(0,vi (List.length (W2_c1++([(t.1+1,-(gI t.2.2 ↑j_c1),0)]:List bq)):Int))]) rfl rfl (.cons rfl .nil) ?_
       intro g687 w688 v689 ch690 o691
       refine cq 3 18 rfl rfl (by kernel_rfl) rfl rfl ?_ ?_
       ·
        replace bx657:=bx657.cn ch690
        refine aV (v:=v27) (a8 aN rfl bx657 rfl) (aD 18 rfl (by kernel_rfl) rfl ?_)
        replace o598:=o598.cn ch690
        replace r663:=r663.cn ch690
        refine aA (α:=Int) (xs:=(gI (List.set O2_c1 (Int.toNat ↑j_c1) (gI O2_c1 ↑j_c1++([(W2_c1.length:Int)]:List Int))) (t.1+1))) (ys:=([(List.length (W2_c1++([(t.1+1,-(gI t.2.2 ↑j_c1),0)]:List bq)):Int)]:List Int)) g687 (J:=row 4 (Int.toNat (t.1+1)+1)) (S:=row 4 (Int.toNat (t.1+1)+1)) (4,Int.toNat (t.1+1)+1) rfl aW ae (by decide) rfl rfl rfl r663 o691.flat (by decide) (by(simp;omega)) ?_
        intro g692 w693 v694 ch695 o696
        have o697:=o598.rowchg ch695
        clear o598 cel662 r663
        obtain⟨us698,hl699,r700⟩:=o697.vc
        try simp only[List.length_set,List.length_append,List.length_cons,List.length_nil] at hl699
        refine xv 19 [18,3,17,16,15,14,13,12,11,10,9,8,7,6,5,4,2,1,0] rfl (aa (v:=v27) (i:=t.1+1) c5 rfl rfl r700 rfl (by omega) (by omega)) (aD 20 rfl (by kernel_rfl) rfl (aJ (r:=t.1+1) ao rfl rfl o697 o696 (by omega) (by(simp only[List.length_set,List.length_append,List.length_cons,List.length_nil,List.length_replicate,List.length_map,List.length_take,List.length_drop];omega)) ?_))
        intro w704 ch705 o706
        clear o697 o696
        refine bc (by kernel_rfl) ?_
        have C707:=cg [4,8,12] (ch648.n.seq ((ch653.l rfl).seq ((ch656.l rfl).seq (ch658.n.seq (ch690.n.seq ((ch695.lr rfl).seq (ch705.l rfl)))))))
        have C708:=cg [4] (ch690.n.seq ((ch695.lr rfl).seq (ch705.l rfl)))
        exact mid (g692) _ _ ⟨bH.ca C707,zs0_c5,zs1_c5,zs4_c5,Rt.ca C707,r_t_v1.ca C707,bx5.ca C707,bx10.ca C707,o24.ca C707,o25.ca C707,o26.ca C707,o654.ca C708,(bx657.chg ch695 (br rfl)).ce ch705,o706⟩
       ·
        replace o598:=o598.cn ch690
        replace r663:=r663.cn ch690
        refine aA (α:=Int) (xs:=(gI (List.set O2_c1 (Int.toNat ↑j_c1) (gI O2_c1 ↑j_c1++([(W2_c1.length:Int)]:List Int))) (t.1+1))) (ys:=([(List.length (W2_c1++([(t.1+1,-(gI t.2.2 ↑j_c1),0)]:List bq)):Int)]:List Int)) g687 (J:=row 4 (Int.toNat (t.1+1)+1)) (S:=row 4 (Int.toNat (t.1+1)+1)) (4,Int.toNat (t.1+1)+1) rfl aW ae (by decide) rfl rfl rfl r663 o691.flat (by decide) (by(simp;omega)) ?_
        intro g709 w710 v711 ch712 o713
        have o714:=o598.rowchg ch712
        clear o598 cel662 r663
        replace bx657:=(bx657.cn ch690).chg ch712 (br rfl)
        refine aD 3 rfl (by kernel_rfl) rfl (aV (v:=v27) (a8 aN rfl bx657 rfl) ?_)
        obtain⟨us715,hl716,r717⟩:=o714.vc
        try simp only[List.length_set,List.length_append,List.length_cons,List.length_nil] at hl716
        refine xv 19 [3,18,17,16,15,14,13,12,11,10,9,8,7,6,5,4,2,1,0] rfl (aa (v:=v27) (i:=t.1+1) c5 rfl rfl r717 rfl (by omega) (by omega)) (aD 20 rfl (by kernel_rfl) rfl (aJ (r:=t.1+1) ao rfl rfl o714 o713 (by omega) (by(simp only[List.length_set,List.length_append,List.length_cons,List.length_nil,List.length_replicate,List.length_map,List.length_take,List.length_drop];omega)) ?_))
        intro w721 ch722 o723
        clear o714 o713
        refine bc (by kernel_rfl) ?_
        have C724:=cg [4,8,12] (ch648.n.seq ((ch653.l rfl).seq ((ch656.l rfl).seq (ch658.n.seq (ch690.n.seq ((ch712.lr rfl).seq (ch722.l rfl)))))))
        have C725:=cg [4] (ch690.n.seq ((ch712.lr rfl).seq (ch722.l rfl)))
        exact mid (g709) _ _ ⟨bH.ca C724,zs0_c5,zs1_c5,zs4_c5,Rt.ca C724,r_t_v1.ca C724,bx5.ca C724,bx10.ca C724,o24.ca C724,o25.ca C724,o26.ca C724,o654.ca C725,bx657.ce ch722,o723⟩
     clear Rt r_t_v1 bx5 bx10 o24 o25 o26 o598 o654 bx657 bH
     rintro g728 f726 w727 ⟨bH,zs0_c5,zs1_c5,zs4_c5,Rt,r_t_v1,bx5,bx10,o24,o25,o26,o654,bx657,o682⟩
     refine a6 rfl (mz zs0_c5 (mz zs0_c5 (lw (vp b33 0) (ad rfl) (lx (a7 bB rfl rfl rfl rfl) (lx (a8 aY rfl bx657 rfl) (mz zs1_c5 (mz zs4_c5 (lw (vi (-0)) (fc (m:=0) rfl (by omega)) (lw (vg [vi ↑j_c1,vi 0,vi (-0)]) (bp (vs:=[(0,vi ↑j_c1),(1,vi 0),(2,vi (-0))]) rfl (by kernel_rfl)) ?_)))))))))
     refine lo (aw (α:=bq) g728 (is 26) (is 26) (26,0) rfl ([((j_c1:Int),0,-0)]:List bq) cZ cN (by decide) (by decide) (vs:=[(0,vg [vi ↑j_c1,vi 0,vi (-0)])]) rfl rfl (.cons rfl .nil) ?_)
     intro g729 w730 v731 ch732 o733
     refine lo ?_
     replace o654:=o654.cn ch732
     refine aA (α:=bq) (xs:=(W2_c1++([(t.1+1,-(gI t.2.2 ↑j_c1),0)]:List bq))) (ys:=([((j_c1:Int),0,-0)]:List bq)) g729 (J:=is 12) (S:=is 12) (12,0) rfl cZ cN (by decide) rfl rfl rfl o654 o733.flat (by decide) (by(simp;omega)) ?_
     intro g734 w735 v736 ch737 o738
     clear o654
     refine lw (vp b33 0) (ad rfl) (lx (a7 bB rfl rfl rfl rfl) (lo ?_))
     replace bx657:=(bx657.cn ch732).ce ch737
     refine bj (cs':=[v736,v27,v28,v29,v30,vi t.1,vi (t.1+1),vi ak_c1,vi 0]) aY rfl rfl bx657 (bf o738.flat) nq (aZ o738.flat) rfl ?_
     intro w739 ch740 bx741
     clear bx657
     refine af (bU (vs:=[]) Try.func29 .nil ?_)
     have C742:=cg [8,12] (ch732.n.seq ((ch737.l rfl).seq (ch740.l rfl)))
     replace bH:=bH.ca C742
     replace Rt:=Rt.ca C742
     replace r_t_v1:=r_t_v1.ca C742
     replace bx5:=bx5.ca C742
     replace bx10:=bx10.ca C742
     replace o682:=o682.ca C742
     replace o24:=o24.ca C742
     replace o25:=o25.ca C742
     replace o26:=o26.ca C742
     replace o738:=o738.ce ch740
     refine⟨(v736,((W2_c1++([(t.1+1,-(gI t.2.2 ↑j_c1),0)]:List bq))++([((j_c1:Int),0,-0)]:List bq)),(List.set (List.set O2_c1 (Int.toNat ↑j_c1) (gI O2_c1 ↑j_c1++([(W2_c1.length:Int)]:List Int))) (Int.toNat (t.1+1)) (gI (List.set O2_c1 (Int.toNat ↑j_c1) (gI O2_c1 ↑j_c1++([(W2_c1.length:Int)]:List Int))) (t.1+1)++([(List.length (W2_c1++([(t.1+1,-(gI t.2.2 ↑j_c1),0)]:List bq)):Int)]:List Int))),g734),rfl,bH,Rt,r_t_v1,bx5,bx10,o682,o24,o25,o26,bx741,o738,?_⟩
     show(((W2_c1++([(t.1+1,-(gI t.2.2 ↑j_c1),0)]:List bq))++([((j_c1:Int),0,-0)]:List bq)),(List.set (List.set O2_c1 (Int.toNat ↑j_c1) (gI O2_c1 ↑j_c1++([(W2_c1.length:Int)]:List Int))) (Int.toNat (t.1+1)) (gI (List.set O2_c1 (Int.toNat ↑j_c1) (gI O2_c1 ↑j_c1++([(W2_c1.length:Int)]:List Int))) (t.1+1)++([(List.length (W2_c1++([(t.1+1,-(gI t.2.2 ↑j_c1),0)]:List bq)):Int)]:List Int))))=de (W2_c1,O2_c1) (j_c1:Int) (t.1+1) (-(gI t.2.2 ↑j_c1)) 0
     (unfold de;simp)
    clear Rt r_t_v1 bx5 bx10 o23 o24 o25 o26 bx35 o_W2_c1 bH
    rintro⟨Wj_c5_v,Wj_c5,Oj_c5,g744⟩ w743 ⟨bH,Rt,r_t_v1,bx5,bx10,o23,o24,o25,o26,bx35,o_Wj_c5,hja_c5⟩
    have hjw_c5:Wj_c5.length=(W2_c1).length+2:=by have h:=congrArg (λz=>z.1.length) hja_c5;simpa[de] using h
    refine af (aq (a6 rfl (lx (aP (m:=↑j_c1) (n:=1) zs48_c1 rfl (by omega)) (mi ((j_c1:Int)+1) (af ?_)))))
    refine back9_c1 (Wj_c5_v,Wj_c5,ak_c1,j_c1+1,Oj_c5,g744) _ _ ⟨bH,zs4_c1,zs46_c1,zs47_c1,rfl,Rt,r_t_v1,bx5,bx10,o23,o24,o25,o26,bx35,o_Wj_c5,by omega,?_⟩ ?_
    · show gv t (j_c1+1) Wj_c5 Oj_c5 ak_c1
      exact hln_c1.minus hm ‹_› ‹_› ‹_› ‹_›
    · show Int.toNat (((t.2.2.length:Int):Int)-((j_c1+1):Int))<Int.toNat (((t.2.2.length:Int):Int)-(j_c1:Int))
      omega
   refine am rfl (df p14_c1) (au (aq (a6 rfl (lx (aP (m:=↑j_c1) (n:=1) zs48_c1 rfl (by omega)) (mi ((j_c1:Int)+1) (af ?_))))))
   refine back9_c1 (W2_c1_v,W2_c1,ak_c1,j_c1+1,O2_c1,g228) _ _ ⟨bH,zs4_c1,zs46_c1,zs47_c1,rfl,Rt,r_t_v1,bx5,bx10,o23,o24,o25,o26,bx35,o_W2_c1,by omega,?_⟩ ?_
   · show gv t (j_c1+1) W2_c1 O2_c1 ak_c1
     exact hln_c1.none hm ‹_› ‹_› ‹_›
   · show Int.toNat (((t.2.2.length:Int):Int)-((j_c1+1):Int))<Int.toNat (((t.2.2.length:Int):Int)-(j_c1:Int))
     omega
  refine am rfl (df p9_c1) (aM rfl (a9 (a6 rfl (mz zs4_c1 (ma (vp b33 0) (af (aF (vs:=[vp b33 0]) Try.func24 (.tmp rfl .nil) ?_)))))))
  refine⟨vp b33 0,rfl,?_⟩
  refine ma (vp b33 0) (af (a9 ?_))
  have hWO:=hln_c1.done hm (by omega) (by omega)
  refine a6 rfl (mv (vp b33 0) (lo ?_))
  refine bF (σ:=Int×(List bq)×(List Int)×(List Int)×(List Int)×aG) (V:=λ⟨fz_c6,Wz_c6,Pz_c6,Fz_c6,Nz_c6,gq⟩=>vt []) (S:=λ⟨fz_c6,Wz_c6,Pz_c6,Fz_c6,Nz_c6,gq⟩ w=>b9 w0 gq w/\Sl gq (is 0) w t_v t.2.1/\Sl gq (is 0) w t_v1 t.2.2/\Bx gq (is 1) w b3 [vi t.1,t_v,t_v1]/\Bx gq (is 2) w b8 [vn,vn,vi 0]/\bN gq 4 w v27 O2_c1/\Ow gq (is 5) (is 5) w v28 Pz_c6/\Ow gq (is 6) (is 6) w v29 Fz_c6/\Ow gq (is 7) (is 7) w v30 Nz_c6/\Bx gq (is 8) w b33 [W2_c1_v,v27,v28,v29,v30,vi t.1,vi (t.1+1),vi ak_c1,vi fz_c6]/\Ow gq (is 12) (is 12) w W2_c1_v Wz_c6/\(dx t.1 t.2.1 t.2.2=(Wz_c6,Pz_c6,Fz_c6,Nz_c6,fz_c6))) (aU (vals:=[vp b33 0]) Try.func25 qY qM rfl) (kL bH Rt r_t_v1 bx5 bx10 o23 o24 o25 o26 bx35 o_W2_c1 hm hN60 (hln_c1.done hm (by omega) (by omega))) ?_
  clear Rt r_t_v1 bx5 bx10 o23 o24 o25 o26 bx35 o_W2_c1 bH
  rintro⟨fz_c6,Wz_c6,Pz_c6,Fz_c6,Nz_c6,g1080⟩ w1079 ⟨bH,Rt,r_t_v1,bx5,bx10,o23,o24,o25,o26,bx35,o_W2_c1,hfz_c6⟩
  obtain⟨hfzp_c6,hfzf_c6,hfzw_c6,hfz0_c6,hfz1_c6⟩:=o8 hm hfz_c6
  refine af (a9 (a9 (bt g1080 rfl cO (by kernel_rfl) ?_)))
  intro w1082 ch1081
  replace bx5:=bx5.cn ch1081
  refine qx (λw' hw'=>bm (ds:=[vi t.1,t_v,t_v1]) l6 rfl (bx5.bel hw') rfl rfl) ?_
  replace Rt:=Rt.cn ch1081
  replace r_t_v1:=r_t_v1.cn ch1081
  refine dJ (v:=vb (decide (dd t.2.2=0))) rfl (λw' hw'=>aU (vals:=[vg [vi t.1,t_v,t_v1]]) Try.func26 qD qO rfl) (λw' hw'=>(ip w' t t_v t_v1 ((Rt.bel hw')).ro ((r_t_v1.bel hw')).ro (by exact hm)).mono λe w2 h2=>⟨h2.1,hw'.trans (h2.2.mono hw'.size)⟩) (qx (λw' hw'=>cz (b:=(decide (dd t.2.2=0))) rfl) (qm (vb (!(decide (dd t.2.2=0)))) ?_))
  by_cases q19:(decide (dd t.2.2=0))=true
  ·
   refine aQ (v:=vp b33 0) (wy (congrArg Bool.not q19)) (λw' hw'=>ah rfl) (aQ (v:=vp b33 0) (wy (congrArg Bool.not q19)) (λw' hw'=>ad rfl) (aQ (v:=vp b33 8) (wy (congrArg Bool.not q19)) (λw' hw'=>a7 bB rfl rfl rfl rfl) ?_))
   replace bx35:=bx35.cn ch1081
   refine aQ (v:=vi fz_c6) (wy (congrArg Bool.not q19)) (λw' hw'=>a8 ae rfl (bx35.bel hw') rfl) (aQ (v:=vp b33 0) (wy (congrArg Bool.not q19)) (λw' hw'=>ah rfl) (aQ (v:=vp b33 0) (wy (congrArg Bool.not q19)) (λw' hw'=>ad rfl) (aQ (v:=vp b33 7) (wy (congrArg Bool.not q19)) (λw' hw'=>a7 bB rfl rfl rfl rfl) (aQ (v:=vi ak_c1) (wy (congrArg Bool.not q19)) (λw' hw'=>a8 ae rfl (bx35.bel hw') rfl) (aQ (v:=vb (!(decide (fz_c6=ak_c1)))) (wy (congrArg Bool.not q19)) (λw' hw'=>cY (m:=fz_c6) (n:=ak_c1) rfl rfl) ?_)))))
   refine qv (vb (!(decide (fz_c6=ak_c1)))) (λw' hw'=>aH rfl (congrArg Bool.not q19) rfl) (bX ?_)
   intro w1083 hc1084
   replace hc1084:=aB hc1084 g1080
   by_cases p5:fz_c6=ak_c1
   ·
    refine am rfl (congrArg Bool.not (dt p5)) (au (a9 ?_))
    refine ie (σ:=Nat×Value×Value×aG) (λ⟨b1104,v1092,v1098,gq⟩ f w=>b9 w0 gq w/\f 1=vp b3 0/\f 2=vp b8 0/\f 4=vp b33 0/\f 5=vp b1104 0/\Sl gq (is 0) w t_v t.2.1/\Sl gq (is 0) w t_v1 t.2.2/\Bx gq (is 1) w b3 [vi t.1,t_v,t_v1]/\Bx gq (is 2) w b8 [vn,vn,vi 0]/\bN gq 4 w v27 O2_c1/\Ow gq (is 5) (is 5) w v28 Pz_c6/\Ow gq (is 6) (is 6) w v29 Fz_c6/\Ow gq (is 7) (is 7) w v30 Nz_c6/\Bx gq (is 8) w b33 [W2_c1_v,v27,v28,v29,v30,vi t.1,vi (t.1+1),vi ak_c1,vi fz_c6]/\Ow gq (is 12) (is 12) w W2_c1_v Wz_c6/\Ow gq (is 38) (is 38) w v1092 (List.replicate (Int.toNat (t.2.1.length:Int)) (0:Int))/\Ow gq (is 39) (is 39) w v1098 (List.drop (Int.toNat 0) (List.take (Int.toNat t.1) Pz_c6))/\Bx gq (is 40) w b1104 [v1092,v1098,vi 0]) g1080 (inl [39,40]) cO ?_ ?_
    ·
     intro mid
     intro w1086 ch1085
     refine ht 0 rfl (bZ.refl _ _ _) (λw' hw'=>a7 cP rfl rfl rfl rfl) ?_
     replace bx5:=(bx5.cn hc1084).cn ch1085
     refine ht 1 rfl (bZ.refl _ _ _) (λw' hw'=>a8 bT rfl (bx5.chg hw' (dF rfl)) rfl) ?_
     replace Rt:=(Rt.cn hc1084).cn ch1085
     refine ht 2 rfl (bZ.refl _ _ _) (λw' hw'=>ba dB rfl Rt) (ht (v:=vp b33 0) 4 rfl (bZ.refl _ _ _) (λw' hw'=>ah rfl) (ht (v:=vp b33 0) 5 rfl (bZ.refl _ _ _) (λw' hw'=>ad rfl) (ht 6 rfl (bZ.refl _ _ _) (λw' hw'=>a7 bB rfl rfl rfl rfl) ?_)))
     replace bx35:=(bx35.cn hc1084).cn ch1085
     refine ht 7 rfl (bZ.refl _ _ _) (λw' hw'=>a8 ao rfl (bx35.chg hw' (dF rfl)) rfl) (ht 8 rfl (bZ.refl _ _ _) (λw' hw'=>a7 cP rfl rfl rfl rfl) (ht 9 rfl (bZ.refl _ _ _) (λw' hw'=>a8 ae rfl (bx5.chg hw' (dF rfl)) rfl) ?_))
     have C1087:=cg [] (ch1081.n.seq (hc1084.n.seq ch1085.n))
     replace o24:=o24.ca C1087
     refine ht (v:=(bu v28 1 (Int.toNat 0) (Int.toNat t.1))) 10 rfl (bZ.refl _ _ _) (λw' hw'=>cr (v:=v28) (l:=0) (h:=t.1) aW rfl rfl o24.flat (.inr ⟨rfl,rfl⟩) (.inl (congrArg some rfl)) (by omega) (by omega) (by omega)) ?_
     have r1089:=cT o24.flat (show Int.toNat 0<=Int.toNat t.1 by omega) (show Int.toNat t.1<=List.length _ by omega)
     refine dN 3 [11,13] (by kernel_rfl) ⟨dR 3 rfl (by kernel_rfl) rfl ?_,dR 11 rfl (by kernel_rfl) rfl ?_,dR 13 rfl (by kernel_rfl) rfl ?_,trivial⟩
     ·
      refine dw (α:=Int) (l:=(t.2.1.length:Int)) (cp:=(t.2.1.length:Int)) g1080 (is 38) (is 38) (38,0) rfl (0:Int) aW ae rfl rfl rfl (by omega) (by omega) (by omega) (by omega) ?_
      intro g1090 w1091 v1092 ch1093 o1094 _
      have hs1095:bZ (inl [39,40]) _ _ _ _:=ch1093.n
      refine⟨hs1095.same,?_⟩
      refine dN 11 [13] (by kernel_rfl) ⟨dR 11 rfl (by kernel_rfl) rfl ?_,dR 13 rfl (by kernel_rfl) rfl ?_,trivial⟩
      ·
       refine aA (α:=Int) (xs:=([])) (ys:=(List.drop (Int.toNat 0) (List.take (Int.toNat t.1) Pz_c6))) g1090 (J:=is 39) (S:=is 39) (39,0) rfl aW ae (by decide) rfl rfl rfl Ow.nil (r1089.ca hs1095) (by decide) (by(simp;omega)) ?_
       intro g1096 w1097 v1098 ch1099 o1100
       replace o1100:Ow g1096 (is 39) (is 39) w1097 v1098 ((List.drop (Int.toNat 0) (List.take (Int.toNat t.1) Pz_c6)):List Int):=o1100
       have hs1101:=hs1095.seq (ch1099.l rfl)
       refine⟨hs1101.same,?_⟩
       refine ht (v:=vg [v1092,v1098,vi 0]) 12 rfl hs1101.same (λw' hw'=>bp (vs:=[(0,v1092),(1,v1098)]) rfl (by rw[Sl.form o1094.flat,Sl.form o1100.flat];kernel_rfl)) (bL 13 rfl (by kernel_rfl) rfl (cd g1096 (is 40) (40,0) rfl bP ?_))
       intro g1105 w1102 b1104 ch1103 bx1106
       replace bx1106:Bx g1105 (is 40) w1102 b1104 [vn,vn,vi 0]:=bx1106
       have hs1107:=hs1101.seq (ch1103.n)
       refine⟨hs1107.same,?_⟩
       refine bL 14 rfl (by kernel_rfl) rfl ?_
       replace o1100:=o1100.cn ch1103
       replace o1094:=(o1094.ce ch1099).cn ch1103
       refine aR (cs':=[v1092,v1098,vi 0]) bP rfl rfl bx1106 rfl nq (AllOne.all (.cons (aZ o1094.flat) (.cons (aZ o1100.flat) (.cons rfl .nil)))) rfl ?_
       intro w1108 ch1109 bx1110
       clear bx1106
       have hs1111:=hs1107.seq (ch1109.l rfl)
       refine⟨hs1111.same,?_⟩
       refine dV (by kernel_rfl) ?_
       have C1112:=cg [39,40] (ch1081.n.seq (hc1084.n.seq (ch1085.n.seq (ch1093.n.seq ((ch1099.l rfl).seq (ch1103.n.seq (ch1109.l rfl)))))))
       replace r_t_v1:=(r_t_v1.cn hc1084).cn ch1085
       replace bx10:=bx10.ca C1087
       replace o23:=o23.ca C1087
       replace o25:=o25.ca C1087
       replace o26:=o26.ca C1087
       replace o_W2_c1:=o_W2_c1.ca C1087
       exact mid (b1104,v1092,v1098,g1105) _ _ ⟨bH.ca C1112,rfl,rfl,rfl,rfl,(Rt.ca hs1111),(r_t_v1.ca hs1111),(bx5.ca hs1111),(bx10.ca hs1111),(o23.ca hs1111),(o24.ca hs1111),(o25.ca hs1111),(o26.ca hs1111),(bx35.ca hs1111),(o_W2_c1.ca hs1111),o1094.ce ch1109,o1100.ce ch1109,bx1110⟩
      ·
       refine cd g1090 (is 40) (40,0) rfl bP ?_
       intro g1116 w1113 b1115 ch1114 bx1117
       replace bx1117:Bx g1116 (is 40) w1113 b1115 [vn,vn,vi 0]:=bx1117
       have hs1118:=hs1095.seq (ch1114.n)
       refine⟨hs1118.same,?_⟩
       refine bL 11 rfl (by kernel_rfl) rfl (aA (α:=Int) (xs:=([])) (ys:=(List.drop (Int.toNat 0) (List.take (Int.toNat t.1) Pz_c6))) g1116 (J:=is 39) (S:=is 39) (39,0) rfl aW ae (by decide) rfl rfl rfl Ow.nil (r1089.ca hs1118) (by decide) (by(simp;omega)) ?_)
       intro g1119 w1120 v1121 ch1122 o1123
       replace o1123:Ow g1119 (is 39) (is 39) w1120 v1121 ((List.drop (Int.toNat 0) (List.take (Int.toNat t.1) Pz_c6)):List Int):=o1123
       have hs1124:=hs1118.seq (ch1122.l rfl)
       refine⟨hs1124.same,?_⟩
       refine ht (v:=vg [v1092,v1121,vi 0]) 12 rfl hs1124.same (λw' hw'=>bp (vs:=[(0,v1092),(1,v1121)]) rfl (by rw[Sl.form o1094.flat,Sl.form o1123.flat];kernel_rfl)) (bL 14 rfl (by kernel_rfl) rfl ?_)
       replace bx1117:=bx1117.ce ch1122
       replace o1094:=(o1094.cn ch1114).ce ch1122
       refine aR (cs':=[v1092,v1121,vi 0]) bP rfl rfl bx1117 rfl nq (AllOne.all (.cons (aZ o1094.flat) (.cons (aZ o1123.flat) (.cons rfl .nil)))) rfl ?_
       intro w1125 ch1126 bx1127
       clear bx1117
       have hs1128:=hs1124.seq (ch1126.l rfl)
       refine⟨hs1128.same,?_⟩
       refine dV (by kernel_rfl) ?_
       have C1129:=cg [39,40] (ch1081.n.seq (hc1084.n.seq (ch1085.n.seq (ch1093.n.seq (ch1114.n.seq ((ch1122.l rfl).seq (ch1126.l rfl)))))))
       replace r_t_v1:=(r_t_v1.cn hc1084).cn ch1085
       replace bx10:=bx10.ca C1087
       replace o23:=o23.ca C1087
       replace o25:=o25.ca C1087
       replace o26:=o26.ca C1087
       replace o_W2_c1:=o_W2_c1.ca C1087
       exact mid (b1115,v1092,v1121,g1119) _ _ ⟨bH.ca C1129,rfl,rfl,rfl,rfl,(Rt.ca hs1128),(r_t_v1.ca hs1128),(bx5.ca hs1128),(bx10.ca hs1128),(o23.ca hs1128),(o24.ca hs1128),(o25.ca hs1128),(o26.ca hs1128),(bx35.ca hs1128),(o_W2_c1.ca hs1128),o1094.ce ch1126,o1123.ce ch1126,bx1127⟩
     ·
      refine aA (α:=Int) (xs:=([])) (ys:=(List.drop (Int.toNat 0) (List.take (Int.toNat t.1) Pz_c6))) g1080 (J:=is 39) (S:=is 39) (39,0) rfl aW ae (by decide) rfl rfl rfl Ow.nil r1089 (by decide) (by(simp;omega)) ?_
      intro g1130 w1131 v1132 ch1133 o1134
      replace o1134:Ow g1130 (is 39) (is 39) w1131 v1132 ((List.drop (Int.toNat 0) (List.take (Int.toNat t.1) Pz_c6)):List Int):=o1134
      have hs1135:bZ (inl [39,40]) _ _ _ _:=ch1133.l rfl
      refine⟨hs1135.same,?_⟩
      refine dN 3 [13] (by kernel_rfl) ⟨dR 3 rfl (by kernel_rfl) rfl ?_,dR 13 rfl (by kernel_rfl) rfl ?_,trivial⟩
      ·
       refine dw (α:=Int) (l:=(t.2.1.length:Int)) (cp:=(t.2.1.length:Int)) g1130 (is 38) (is 38) (38,0) rfl (0:Int) aW ae rfl rfl rfl (by omega) (by omega) (by omega) (by omega) ?_
       intro g1136 w1137 v1138 ch1139 o1140 _
       have hs1141:=hs1135.seq (ch1139.n)
       refine⟨hs1141.same,?_⟩
       refine ht (v:=vg [v1138,v1132,vi 0]) 12 rfl hs1141.same (λw' hw'=>bp (vs:=[(0,v1138),(1,v1132)]) rfl (by rw[Sl.form o1134.flat,Sl.form o1140.flat];kernel_rfl)) (bL 13 rfl (by kernel_rfl) rfl (cd g1136 (is 40) (40,0) rfl bP ?_))
       intro g1145 w1142 b1144 ch1143 bx1146
       replace bx1146:Bx g1145 (is 40) w1142 b1144 [vn,vn,vi 0]:=bx1146
       have hs1147:=hs1141.seq (ch1143.n)
       refine⟨hs1147.same,?_⟩
       refine bL 14 rfl (by kernel_rfl) rfl ?_
       replace o1134:=(o1134.cn ch1139).cn ch1143
       replace o1140:=o1140.cn ch1143
       refine aR (cs':=[v1138,v1132,vi 0]) bP rfl rfl bx1146 rfl nq (AllOne.all (.cons (aZ o1140.flat) (.cons (aZ o1134.flat) (.cons rfl .nil)))) rfl ?_
       intro w1148 ch1149 bx1150
       clear bx1146
       have hs1151:=hs1147.seq (ch1149.l rfl)
       refine⟨hs1151.same,?_⟩
       refine dV (by kernel_rfl) ?_
       have C1152:=cg [39,40] (ch1081.n.seq (hc1084.n.seq (ch1085.n.seq ((ch1133.l rfl).seq (ch1139.n.seq (ch1143.n.seq (ch1149.l rfl)))))))
       replace r_t_v1:=(r_t_v1.cn hc1084).cn ch1085
       replace bx10:=bx10.ca C1087
       replace o23:=o23.ca C1087
       replace o25:=o25.ca C1087
       replace o26:=o26.ca C1087
       replace o_W2_c1:=o_W2_c1.ca C1087
       exact mid (b1144,v1138,v1132,g1145) _ _ ⟨bH.ca C1152,rfl,rfl,rfl,rfl,(Rt.ca hs1151),(r_t_v1.ca hs1151),(bx5.ca hs1151),(bx10.ca hs1151),(o23.ca hs1151),(o24.ca hs1151),(o25.ca hs1151),(o26.ca hs1151),(bx35.ca hs1151),(o_W2_c1.ca hs1151),o1140.ce ch1149,o1134.ce ch1149,bx1150⟩
      ·
       refine cd g1130 (is 40) (40,0) rfl bP ?_
       intro g1156 w1153 b1155 ch1154 bx1157
       replace bx1157:Bx g1156 (is 40) w1153 b1155 [vn,vn,vi 0]:=bx1157
       have hs1158:=hs1135.seq (ch1154.n)
       refine⟨hs1158.same,?_⟩
       refine bL 3 rfl (by kernel_rfl) rfl (dw (α:=Int) (l:=(t.2.1.length:Int)) (cp:=(t.2.1.length:Int)) g1156 (is 38) (is 38) (38,0) rfl (0:Int) aW ae rfl rfl rfl (by omega) (by omega) (by omega) (by omega) ?_)
       intro g1159 w1160 v1161 ch1162 o1163 _
       have hs1164:=hs1158.seq (ch1162.n)
       refine⟨hs1164.same,?_⟩
       refine ht (v:=vg [v1161,v1132,vi 0]) 12 rfl hs1164.same (λw' hw'=>bp (vs:=[(0,v1161),(1,v1132)]) rfl (by rw[Sl.form o1134.flat,Sl.form o1163.flat];kernel_rfl)) (bL 14 rfl (by kernel_rfl) rfl ?_)
       replace bx1157:=bx1157.cn ch1162
       replace o1134:=(o1134.cn ch1154).cn ch1162
       refine aR (cs':=[v1161,v1132,vi 0]) bP rfl rfl bx1157 rfl nq (AllOne.all (.cons (aZ o1163.flat) (.cons (aZ o1134.flat) (.cons rfl .nil)))) rfl ?_
       intro w1165 ch1166 bx1167
       clear bx1157
       have hs1168:=hs1164.seq (ch1166.l rfl)
       refine⟨hs1168.same,?_⟩
       refine dV (by kernel_rfl) ?_
       have C1169:=cg [39,40] (ch1081.n.seq (hc1084.n.seq (ch1085.n.seq ((ch1133.l rfl).seq (ch1154.n.seq (ch1162.n.seq (ch1166.l rfl)))))))
       replace r_t_v1:=(r_t_v1.cn hc1084).cn ch1085
       replace bx10:=bx10.ca C1087
       replace o23:=o23.ca C1087
       replace o25:=o25.ca C1087
       replace o26:=o26.ca C1087
       replace o_W2_c1:=o_W2_c1.ca C1087
       exact mid (b1155,v1161,v1132,g1159) _ _ ⟨bH.ca C1169,rfl,rfl,rfl,rfl,(Rt.ca hs1168),(r_t_v1.ca hs1168),(bx5.ca hs1168),(bx10.ca hs1168),(o23.ca hs1168),(o24.ca hs1168),(o25.ca hs1168),(o26.ca hs1168),(bx35.ca hs1168),(o_W2_c1.ca hs1168),o1163.ce ch1166,o1134.ce ch1166,bx1167⟩
     ·
      refine cd g1080 (is 40) (40,0) rfl bP ?_
      intro g1173 w1170 b1172 ch1171 bx1174
      replace bx1174:Bx g1173 (is 40) w1170 b1172 [vn,vn,vi 0]:=bx1174
      have hs1175:bZ (inl [39,40]) _ _ _ _:=ch1171.n
      refine⟨hs1175.same,?_⟩
      refine dN 3 [11] (by kernel_rfl) ⟨dR 3 rfl (by kernel_rfl) rfl ?_,dR 11 rfl (by kernel_rfl) rfl ?_,trivial⟩
      ·
       refine dw (α:=Int) (l:=(t.2.1.length:Int)) (cp:=(t.2.1.length:Int)) g1173 (is 38) (is 38) (38,0) rfl (0:Int) aW ae rfl rfl rfl (by omega) (by omega) (by omega) (by omega) ?_
       intro g1176 w1177 v1178 ch1179 o1180 _
       have hs1181:=hs1175.seq (ch1179.n)
       refine⟨hs1181.same,?_⟩
       refine bL 11 rfl (by kernel_rfl) rfl (aA (α:=Int) (xs:=([])) (ys:=(List.drop (Int.toNat 0) (List.take (Int.toNat t.1) Pz_c6))) g1176 (J:=is 39) (S:=is 39) (39,0) rfl aW ae (by decide) rfl rfl rfl Ow.nil (r1089.ca hs1181) (by decide) (by(simp;omega)) ?_)
       intro g1182 w1183 v1184 ch1185 o1186
       replace o1186:Ow g1182 (is 39) (is 39) w1183 v1184 ((List.drop (Int.toNat 0) (List.take (Int.toNat t.1) Pz_c6)):List Int):=o1186
       have hs1187:=hs1181.seq (ch1185.l rfl)
       refine⟨hs1187.same,?_⟩
       refine ht (v:=vg [v1178,v1184,vi 0]) 12 rfl hs1187.same (λw' hw'=>bp (vs:=[(0,v1178),(1,v1184)]) rfl (by rw[Sl.form o1180.flat,Sl.form o1186.flat];kernel_rfl)) (bL 14 rfl (by kernel_rfl) rfl ?_)
       replace bx1174:=(bx1174.cn ch1179).ce ch1185
       replace o1180:=o1180.ce ch1185
       refine aR (cs':=[v1178,v1184,vi 0]) bP rfl rfl bx1174 rfl nq (AllOne.all (.cons (aZ o1180.flat) (.cons (aZ o1186.flat) (.cons rfl .nil)))) rfl ?_
       intro w1188 ch1189 bx1190
       clear bx1174
       have hs1191:=hs1187.seq (ch1189.l rfl)
       refine⟨hs1191.same,?_⟩
       refine dV (by kernel_rfl) ?_
       have C1192:=cg [39,40] (ch1081.n.seq (hc1084.n.seq (ch1085.n.seq (ch1171.n.seq (ch1179.n.seq ((ch1185.l rfl).seq (ch1189.l rfl)))))))
       replace r_t_v1:=(r_t_v1.cn hc1084).cn ch1085
       replace bx10:=bx10.ca C1087
       replace o23:=o23.ca C1087
       replace o25:=o25.ca C1087
       replace o26:=o26.ca C1087
       replace o_W2_c1:=o_W2_c1.ca C1087
       exact mid (b1172,v1178,v1184,g1182) _ _ ⟨bH.ca C1192,rfl,rfl,rfl,rfl,(Rt.ca hs1191),(r_t_v1.ca hs1191),(bx5.ca hs1191),(bx10.ca hs1191),(o23.ca hs1191),(o24.ca hs1191),(o25.ca hs1191),(o26.ca hs1191),(bx35.ca hs1191),(o_W2_c1.ca hs1191),o1180.ce ch1189,o1186.ce ch1189,bx1190⟩
      ·
       refine aA (α:=Int) (xs:=([])) (ys:=(List.drop (Int.toNat 0) (List.take (Int.toNat t.1) Pz_c6))) g1173 (J:=is 39) (S:=is 39) (39,0) rfl aW ae (by decide) rfl rfl rfl Ow.nil (r1089.ca hs1175) (by decide) (by(simp;omega)) ?_
       intro g1193 w1194 v1195 ch1196 o1197
       replace o1197:Ow g1193 (is 39) (is 39) w1194 v1195 ((List.drop (Int.toNat 0) (List.take (Int.toNat t.1) Pz_c6)):List Int):=o1197
       have hs1198:=hs1175.seq (ch1196.l rfl)
       refine⟨hs1198.same,?_⟩
       refine bL 3 rfl (by kernel_rfl) rfl (dw (α:=Int) (l:=(t.2.1.length:Int)) (cp:=(t.2.1.length:Int)) g1193 (is 38) (is 38) (38,0) rfl (0:Int) aW ae rfl rfl rfl (by omega) (by omega) (by omega) (by omega) ?_)
       intro g1199 w1200 v1201 ch1202 o1203 _
       have hs1204:=hs1198.seq (ch1202.n)
       refine⟨hs1204.same,?_⟩
       refine ht (v:=vg [v1201,v1195,vi 0]) 12 rfl hs1204.same (λw' hw'=>bp (vs:=[(0,v1201),(1,v1195)]) rfl (by rw[Sl.form o1197.flat,Sl.form o1203.flat];kernel_rfl)) (bL 14 rfl (by kernel_rfl) rfl ?_)
       replace bx1174:=(bx1174.ce ch1196).cn ch1202
       replace o1197:=o1197.cn ch1202
       refine aR (cs':=[v1201,v1195,vi 0]) bP rfl rfl bx1174 rfl nq (AllOne.all (.cons (aZ o1203.flat) (.cons (aZ o1197.flat) (.cons rfl .nil)))) rfl ?_
       intro w1205 ch1206 bx1207
       clear bx1174
       have hs1208:=hs1204.seq (ch1206.l rfl)
       refine⟨hs1208.same,?_⟩
       refine dV (by kernel_rfl) ?_
       have C1209:=cg [39,40] (ch1081.n.seq (hc1084.n.seq (ch1085.n.seq (ch1171.n.seq ((ch1196.l rfl).seq (ch1202.n.seq (ch1206.l rfl)))))))
       replace r_t_v1:=(r_t_v1.cn hc1084).cn ch1085
       replace bx10:=bx10.ca C1087
       replace o23:=o23.ca C1087
       replace o25:=o25.ca C1087
       replace o26:=o26.ca C1087
       replace o_W2_c1:=o_W2_c1.ca C1087
       exact mid (b1172,v1201,v1195,g1199) _ _ ⟨bH.ca C1209,rfl,rfl,rfl,rfl,(Rt.ca hs1208),(r_t_v1.ca hs1208),(bx5.ca hs1208),(bx10.ca hs1208),(o23.ca hs1208),(o24.ca hs1208),(o25.ca hs1208),(o26.ca hs1208),(bx35.ca hs1208),(o_W2_c1.ca hs1208),o1203.ce ch1206,o1197.ce ch1206,bx1207⟩
    clear Rt r_t_v1 bx5 bx10 o23 o24 o25 o26 bx35 o_W2_c1 bH
    rintro⟨b1104,v1092,v1098,g1212⟩ f1210 w1211 ⟨bH,zs1,zs2,zs4,zs5,Rt,r_t_v1,bx5,bx10,o23,o24,o25,o26,bx35,o_W2_c1,o1094,o1100,bx1110⟩
    refine a9 (a9 (a6 rfl (lx (a7 cP rfl rfl zs1 rfl) (lx (a8 bT rfl bx5 rfl) (lx (ba dB rfl Rt) (mi 0 (af (av ?_))))))))
    clear bx5
    refine aX (σ:=Int×Nat×(List Int)×aG) (λ⟨co,k,xs,gq⟩ f w=>b9 w0 gq w/\f 2=vp b8 0/\f 4=vp b33 0/\f 5=vp b1104 0/\f 45=t_v/\f 46=vi (t.2.1.length:Int)/\f 47=vi ↑k/\Sl gq (is 0) w t_v t.2.1/\Sl gq (is 0) w t_v1 t.2.2/\Bx gq (is 2) w b8 [vn,vn,vi 0]/\bN gq 4 w v27 O2_c1/\Ow gq (is 5) (is 5) w v28 Pz_c6/\Ow gq (is 6) (is 6) w v29 Fz_c6/\Ow gq (is 7) (is 7) w v30 Nz_c6/\Bx gq (is 8) w b33 [W2_c1_v,v27,v28,v29,v30,vi t.1,vi (t.1+1),vi ak_c1,vi fz_c6]/\Ow gq (is 12) (is 12) w W2_c1_v Wz_c6/\Ow gq (is 38) (is 38) w v1092 xs/\Ow gq (is 39) (is 39) w v1098 (List.drop (Int.toNat 0) (List.take (Int.toNat t.1) Pz_c6))/\Bx gq (is 40) w b1104 [v1092,v1098,vi co]/\(k:Int)<=((t.2.1.length:Int):Int)/\(nb t Wz_c6 k xs co)) (λ⟨co,k,xs,gq⟩=>Int.toNat (((t.2.1.length:Int):Int)-(k:Int))) (0,0,(List.replicate (Int.toNat (t.2.1.length:Int)) (0:Int)),g1212) ?_ ?_
    · exact⟨bH,zs2,zs4,zs5,rfl,rfl,rfl,Rt,r_t_v1,bx10,o23,o24,o25,o26,bx35,o_W2_c1,o1094,o1100,bx1110,by omega,by exact nb.start⟩
    clear Rt r_t_v1 bx10 o23 o24 o25 o26 bx35 o_W2_c1 o1094 o1100 bx1110 bH
    rintro⟨co,k,xs,g1215⟩ f1213 w1214 ⟨bH,zs2,zs4,zs5,zs45,zs46,zs47,Rt,r_t_v1,bx10,o23,o24,o25,o26,bx35,o_W2_c1,o1094,o1100,bx1110,hle_k,hmi⟩ back9
    have hmil:=hmi.ln
    obtain⟨hmb0,hmb1⟩:=hmi.bd hm hfz_c6 (by omega)
    refine a9 (a6 rfl (lx (bo (m:=↑k) (n:=(t.2.1.length:Int)) zs47 zs46) (af (a9 ?_))))
    by_cases p9:(k:Int)<(t.2.1.length:Int)
    ·
     refine aj rfl (dt p9) ?_
     obtain⟨hx0,⟨hx1,hx2⟩,⟨hx3,hx4⟩,hx5,hx6⟩:=tj hm hfz_c6 (k:=k) ‹_›
     refine au (a9 (av (a9 (a6 rfl (mz zs47 (lx (aa (v:=t_v) (i:=↑k) dB rfl zs45 Rt zs47 (by omega) (by omega)) (lw (vg [vi ((gI t.2.1 ↑k).1),vi (((gI t.2.1 ↑k).2).1),vi ((((gI t.2.1 ↑k).2).2).1),vi ((((gI t.2.1 ↑k).2).2).2)]) (bh (v:=t_v) (i:=↑k) bz rfl Rt (by omega) (by omega) rfl) (lo (cd g1215 (is 41) (41,0) rfl bz ?_)))))))))
     intro g1219 w1216 b1218 ch1217 bx1220
     replace bx1220:Bx g1219 (is 41) w1216 b1218 [vi 0,vi 0,vi 0,vi 0]:=bx1220
     refine ai (k:Int) (lo (aR (cs':=[vi ((gI t.2.1 ↑k).1),vi (((gI t.2.1 ↑k).2).1),vi ((((gI t.2.1 ↑k).2).2).1),vi ((((gI t.2.1 ↑k).2).2).2)]) bz rfl rfl bx1220 rfl nq (AllOne.all (.cons rfl (.cons rfl (.cons rfl (.cons rfl .nil))))) rfl ?_))
     intro w1221 ch1222 bx1223
     clear bx1220
     refine af (a9 (aL g1219 [0,1,2,3,4,5,6,7,8,9,10,11,12,13] cO ?_))
     intro w1225 ch1224
     refine xp 0 rfl (λw=>a7 ff rfl rfl zs5 rfl) ?_
     have C1226:=cg [41] (ch1217.n.seq ((ch1222.l rfl).seq ch1224.n))
     replace bx1110:=bx1110.ca C1226
     refine xv 1 [0,2,3,7,4,8,5,9,6,10,11,12] rfl (a8 ao rfl bx1110 rfl) (xp (v:=vi ↑k) 2 rfl (λw=>ah rfl) (xp (v:=vp b33 0) 3 rfl (λw=>ah zs4) (xp (v:=vp b33 0) 4 rfl (λw=>ad rfl) (xp 5 rfl (λw=>a7 bB rfl rfl rfl rfl) ?_))))
     replace bx35:=bx35.ca C1226
     refine xv 6 [5,4,3,2,1,0,7,8,9] rfl (a8 aY rfl bx35 rfl) (xp (v:=vi ↑k) 7 rfl (λw=>ah rfl) (xp 8 rfl (λw=>gM (m:=2) (n:=↑k) rfl rfl (by omega)) (xp 9 rfl (λw=>aP (m:=2*(k:Int)) (n:=1) rfl rfl (by omega)) ?_)))
     replace o_W2_c1:=o_W2_c1.ca C1226
     refine xv 10 [9,8,7,6,5,4,3,2,1,0] rfl (aa (v:=W2_c1_v) (i:=(2*(k:Int))+1) cZ rfl rfl o_W2_c1.flat rfl (by omega) (by omega)) (xp (v:=Value.pointer (some ⟨(aT W2_c1_v 3 (Int.toNat ((2*(k:Int))+1))).block,(aT W2_c1_v 3 (Int.toNat ((2*(k:Int))+1))).off+1,none⟩)) 11 rfl (λw=>aO ir rfl rfl rfl rfl) (xv 12 [11,10,9,8,7,6,5,4,3,2,1,0] rfl (bi (v:=W2_c1_v) (i:=(2*(k:Int))+1) ae rfl o_W2_c1.flat (by omega) (by omega) (by decide) rfl) ?_))
     replace o1094:=o1094.ca C1226
     refine xv 13 [12,11,10,9,8,7,6,5,4,3,2,1,0] rfl (aa (v:=v1092) (i:=↑k) aW rfl rfl o1094.flat rfl (by omega) (by omega)) (aD 14 rfl (by kernel_rfl) rfl (aK (i:=↑k) (((gI Wz_c6 ((2*(k:Int))+1)).2).1) ae rfl rfl o1094 (by omega) (by omega) rfl ?_))
     intro w1227 ch1228 bx1229
     clear o1094
     refine bc (by kernel_rfl) (aL g1219 [0,1,2,3,4,5,6,7,8,9,10,11] cO ?_)
     intro w1231 ch1230
     refine xp 0 rfl (λw=>a7 ff rfl rfl zs5 rfl) ?_
     replace bx1110:=(bx1110.ce ch1228).cn ch1230
     refine xv 1 [0,2,4,7,3,8,5,6,9] rfl (a8 gu rfl bx1110 rfl) (xp 2 rfl (λw=>a7 ff rfl rfl zs5 rfl) (xv 3 [2,1,0,4,7,8] rfl (a8 ao rfl bx1110 rfl) (xp (v:=vi ↑k) 4 rfl (λw=>ah rfl) ?_)))
     replace bx1229:=bx1229.cn ch1230
     refine xv 5 [4,3,2,1,0,7,8] rfl (aa (v:=v1092) (i:=↑k) aW rfl rfl bx1229.flat rfl (by omega) (by(simp only[List.length_set,List.length_append,List.length_cons,List.length_nil,List.length_replicate,List.length_map,List.length_take,List.length_drop];omega))) (xv 6 [5,4,3,2,1,0,7,8] rfl (ay (v:=v1092) (i:=↑k) ae rfl bx1229.flat (by omega) (by(simp only[List.length_set,List.length_append,List.length_cons,List.length_nil,List.length_replicate,List.length_map,List.length_take,List.length_drop];omega)) (by decide) rfl) (xp 7 rfl (λw=>a7 dK rfl rfl rfl rfl) ?_))
     have C1232:=cg [38] (ch1224.n.seq ((ch1228.l rfl).seq ch1230.n))
     replace bx1223:=bx1223.ca C1232
     refine xv 8 [7,6,5,4,3,2,1,0] rfl (a8 ae rfl bx1223 rfl) (xp 9 rfl (λw=>gM (m:=(gI (List.set xs (Int.toNat ↑k) (((gI Wz_c6 ((2*(k:Int))+1)).2).1)) (k:Int))) (n:=(((gI t.2.1 ↑k).2).2).2) rfl rfl (by(rw[dG (by omega) (by omega)];omega))) (xp 10 rfl (λw=>aP (m:=co) (n:=(gI (List.set xs (Int.toNat ↑k) (((gI Wz_c6 ((2*(k:Int))+1)).2).1)) (k:Int))*((((gI t.2.1 ↑k).2).2).2)) rfl rfl (by(rw[dG (by omega) (by omega)];omega))) (xp 11 rfl (λw=>a7 ff rfl rfl zs5 rfl) (aD 12 rfl (by kernel_rfl) rfl ?_))))
     refine aR (cs':=[v1092,v1098,vi (co+((gI (List.set xs (Int.toNat ↑k) (((gI Wz_c6 ((2*(k:Int))+1)).2).1)) (k:Int))*((((gI t.2.1 ↑k).2).2).2)))]) gu rfl rfl bx1110 rfl nq (AllOne.all (.cons rfl .nil)) rfl ?_
     intro w1233 ch1234 bx1235
     clear bx1110
     refine bc (by kernel_rfl) (aq ?_)
     clear bx1223
     refine a6 rfl (lx (aP (m:=↑k) (n:=1) zs47 rfl (by omega)) (mi ((k:Int)+1) (af ?_)))
     have C1236:=cg [38,40,41] (ch1217.n.seq ((ch1222.l rfl).seq (ch1224.n.seq ((ch1228.l rfl).seq (ch1230.n.seq (ch1234.l rfl))))))
     have C1237:=cg [38,40] ((ch1228.l rfl).seq (ch1230.n.seq (ch1234.l rfl)))
     refine back9 (co+((gI (List.set xs (Int.toNat ↑k) (((gI Wz_c6 ((2*(k:Int))+1)).2).1)) (k:Int))*((((gI t.2.1 ↑k).2).2).2)),k+1,(List.set xs (Int.toNat ↑k) (((gI Wz_c6 ((2*(k:Int))+1)).2).1)),g1219) _ _ ⟨bH.ca C1236,zs2,zs4,zs5,zs45,zs46,rfl,Rt.ca C1236,r_t_v1.ca C1236,bx10.ca C1236,o23.ca C1236,o24.ca C1236,o25.ca C1236,o26.ca C1236,bx35.ca C1237,o_W2_c1.ca C1237,bx1229.ce ch1234,o1100.ca C1236,bx1235,by omega,?_⟩ ?_
     · show nb t Wz_c6 (k+1) (List.set xs (Int.toNat ↑k) (((gI Wz_c6 ((2*(k:Int))+1)).2).1)) (co+((gI (List.set xs (Int.toNat ↑k) (((gI Wz_c6 ((2*(k:Int))+1)).2).1)) (k:Int))*((((gI t.2.1 ↑k).2).2).2)))
       exact hmi.next ‹_› rfl (by rw[dG (by omega) (by omega)])
     · show Int.toNat (((t.2.1.length:Int):Int)-((k+1):Int))<Int.toNat (((t.2.1.length:Int):Int)-(k:Int))
       omega
    refine am rfl (df p9) (aM rfl (a9 ?_))
    clear o23 o24 o25 o26 bx35 o_W2_c1
    refine a6 rfl (lx (bm (ds:=[v1092,v1098,vi co]) bP zs5 bx1110 rfl rfl) (lo (aR (cs':=[v1092,v1098,vi co]) bP zs2 rfl bx10 rfl nq (AllOne.all (.cons (aZ o1094.flat) (.cons (aZ o1100.flat) (.cons rfl .nil)))) rfl ?_)))
    intro w1238 ch1239 bx1240
    clear bx10
    refine ai 0 (af (aF (vs:=[vg [v1092,v1098,vi co],vi 0]) Try.func12 (.cell zs2 (eL (ds:=[v1092,v1098,vi co]) bP bx1240 rfl rfl) (.tmp rfl .nil)) ?_))
    replace bH:=bH.ce ch1239
    replace o1094:=o1094.ce ch1239
    replace o1100:=o1100.ce ch1239
    have e0:((xs,(List.drop (Int.toNat 0) (List.take (Int.toNat t.1) Pz_c6)),co):(List Int)×(List Int)×(Int))=((ax t).1):=by
      (rw[nb.done hm hfz_c6 hWO (of_decide_eq_true ‹_›) (by omega) hmi (by omega) ‹_›];(rfl))
    have e1:(0:Int)=((ax t).2):=by
      (rw[nb.done hm hfz_c6 hWO (of_decide_eq_true ‹_›) (by omega) hmi (by omega) ‹_›];(done))
    exact⟨(fin w0 g1215 (λn=>if n=38 then 1 else if n=39 then 2 else 0),v1092,v1098),(fz (a:=(xs,(List.drop (Int.toNat 0) (List.take (Int.toNat t.1) Pz_c6)),co)) (b:=0) (λ(z0:(List Int)×(List Int)×(Int)) (z1:Int)=>Ending.returned (vt [vg [v1092,v1098,vi z0.2.2],vi z1])) e0 e1),bH.fresh _,((congrArg (λ(z:(List Int)×(List Int)×(Int))=>z.1) e0)▸(o1094.glue (γ:=c0) (ren:=(λn=>if n=38 then 1 else if n=39 then 2 else 0)) (k:=1) bH.col rfl rfl)),((congrArg (λ(z:(List Int)×(List Int)×(Int))=>z.2.1) e0)▸(o1100.glue (γ:=c0) (ren:=(λn=>if n=38 then 1 else if n=39 then 2 else 0)) (k:=2) bH.col rfl rfl))⟩
   refine aj rfl (congrArg Bool.not (df p5)) (a9 ?_)
   clear bx5 o23 o24 o25 o26 bx35 o_W2_c1
   refine a6 rfl (lw (vg [vn,vn,vi 0]) (bp (vs:=[]) rfl (by kernel_rfl)) (lo ?_))
   replace bx10:=(bx10.cn ch1081).cn hc1084
   refine aR (cs':=[vn,vn,vi 0]) bP rfl rfl bx10 rfl nq (AllOne.all (.cons rfl (.cons rfl (.cons rfl .nil)))) rfl ?_
   intro w1241 ch1242 bx1243
   clear bx10
   refine ai 20 (af (aF (vs:=[vg [vn,vn,vi 0],vi 20]) Try.func12 (.cell rfl (eL (ds:=[vn,vn,vi 0]) bP bx1243 rfl rfl) (.tmp rfl .nil)) ?_))
   have C1244:=cg [2] (ch1081.n.seq (hc1084.n.seq (ch1242.l rfl)))
   replace bH:=bH.ca C1244
   have e0:(([],[],0):(List Int)×(List Int)×(Int))=((ax t).1):=by
     rw[eR hm (oB hfz_c6 hWO ‹_›)]
   have e1:(20:Int)=((ax t).2):=by
     rw[eR hm (oB hfz_c6 hWO ‹_›)]
   exact⟨(fin w0 g1080 (λn=>0),vn,vn),(fz (a:=([],[],0)) (b:=20) (λ(z0:(List Int)×(List Int)×(Int)) (z1:Int)=>Ending.returned (vt [vg [vn,vn,vi z0.2.2],vi z1])) e0 e1),bH.fresh _,((congrArg (λ(z:(List Int)×(List Int)×(Int))=>z.1) e0)▸Ow.nil),((congrArg (λ(z:(List Int)×(List Int)×(Int))=>z.2.1) e0)▸Ow.nil)⟩
  refine aE (wn (congrArg Bool.not (Bool.eq_false_iff.2 q19))) (aE (wn (congrArg Bool.not (Bool.eq_false_iff.2 q19))) (aE (wn (congrArg Bool.not (Bool.eq_false_iff.2 q19))) (aE (wn (congrArg Bool.not (Bool.eq_false_iff.2 q19))) (aE (wn (congrArg Bool.not (Bool.eq_false_iff.2 q19))) (aE (wn (congrArg Bool.not (Bool.eq_false_iff.2 q19))) (aE (wn (congrArg Bool.not (Bool.eq_false_iff.2 q19))) (aE (wn (congrArg Bool.not (Bool.eq_false_iff.2 q19))) (aE (wn (congrArg Bool.not (Bool.eq_false_iff.2 q19))) (qv (vb true) (λw' hw'=>az rfl (congrArg Bool.not (Bool.eq_false_iff.2 q19)) rfl) ?_)))))))))
  refine bX ?_
  intro w1245 hc1246
  replace hc1246:=aB hc1246 g1080
  refine aj rfl rfl (a9 ?_)
  clear bx5 o23 o24 o25 o26 bx35 o_W2_c1
  refine a6 rfl (lw (vg [vn,vn,vi 0]) (bp (vs:=[]) rfl (by kernel_rfl)) (lo ?_))
  replace bx10:=(bx10.cn ch1081).cn hc1246
  refine aR (cs':=[vn,vn,vi 0]) bP rfl rfl bx10 rfl nq (AllOne.all (.cons rfl (.cons rfl (.cons rfl .nil)))) rfl ?_
  intro w1247 ch1248 bx1249
  clear bx10
  refine ai 20 (af (aF (vs:=[vg [vn,vn,vi 0],vi 20]) Try.func12 (.cell rfl (eL (ds:=[vn,vn,vi 0]) bP bx1249 rfl rfl) (.tmp rfl .nil)) ?_))
  have C1250:=cg [2] (ch1081.n.seq (hc1246.n.seq (ch1248.l rfl)))
  replace bH:=bH.ca C1250
  have e0:(([],[],0):(List Int)×(List Int)×(Int))=((ax t).1):=by
    rw[eR hm (oN (λh=>absurd (dt h) ‹_›))]
  have e1:(20:Int)=((ax t).2):=by
    rw[eR hm (oN (λh=>absurd (dt h) ‹_›))]
  exact⟨(fin w0 g1080 (λn=>0),vn,vn),(fz (a:=([],[],0)) (b:=20) (λ(z0:(List Int)×(List Int)×(Int)) (z1:Int)=>Ending.returned (vt [vg [vn,vn,vi z0.2.2],vi z1])) e0 e1),bH.fresh _,((congrArg (λ(z:(List Int)×(List Int)×(Int))=>z.1) e0)▸Ow.nil),((congrArg (λ(z:(List Int)×(List Int)×(Int))=>z.2.1) e0)▸Ow.nil)⟩
 refine aj rfl (congrArg Bool.not (Bool.eq_false_iff.2 p1)) (a9 ?_)
 clear bx5
 refine a6 rfl (lw (vg [vn,vn,vi 0]) (bp (vs:=[]) rfl (by kernel_rfl)) (lo ?_))
 replace bx10:=bx10.cn hb12
 refine aR (cs':=[vn,vn,vi 0]) bP rfl rfl bx10 rfl nq (AllOne.all (.cons rfl (.cons rfl (.cons rfl .nil)))) rfl ?_
 intro w1251 ch1252 bx1253
 clear bx10
 refine ai 1 (af (aF (vs:=[vg [vn,vn,vi 0],vi 1]) Try.func12 (.cell rfl (eL (ds:=[vn,vn,vi 0]) bP bx1253 rfl rfl) (.tmp rfl .nil)) ?_))
 have C1254:=cg [2] (ch2.n.seq (ch7.n.seq (hb12.n.seq (ch1252.l rfl))))
 replace bH:=bH.ca C1254
 have e0:(([],[],0):(List Int)×(List Int)×(Int))=((ax t).1):=by
   rw[kB (λh=>absurd (dI h) ‹_›)]
 have e1:(1:Int)=((ax t).2):=by
   rw[kB (λh=>absurd (dI h) ‹_›)]
 exact⟨(fin w0 g9 (λn=>0),vn,vn),(fz (a:=([],[],0)) (b:=1) (λ(z0:(List Int)×(List Int)×(Int)) (z1:Int)=>Ending.returned (vt [vg [vn,vn,vi z0.2.2],vi z1])) e0 e1),bH.fresh _,((congrArg (λ(z:(List Int)×(List Int)×(Int))=>z.1) e0)▸Ow.nil),((congrArg (λ(z:(List Int)×(List Int)×(Int))=>z.2.1) e0)▸Ow.nil)⟩
end TL
