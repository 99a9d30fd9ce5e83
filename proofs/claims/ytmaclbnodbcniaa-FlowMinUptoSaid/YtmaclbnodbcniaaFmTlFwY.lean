import Derived.Test.YtmaclbnodbcniaaFmTlP3
import Derived.Test.YtmaclbnodbcniaaFmTlFwA
import Derived.Test.YtmaclbnodbcniaaFmTlFwL
import Derived.Test.YtmaclbnodbcniaaFmTlFwR
import Derived.Test.YtmaclbnodbcniaaFmTlFwYa
import Derived.Test.YtmaclbnodbcniaaFmTlFwYb
import Derived.Test.YtmaclbnodbcniaaFmTlFwYc
import Derived.Test.YtmaclbnodbcniaaFmTlFwYd
import Derived.Test.YtmaclbnodbcniaaProg
import Derived.Test.YtmaclbnodbcniaaFmTlAli
set_option linter.all false
set_option maxRecDepth 20000
namespace TL
open Go Go.Proofs
theorem dp:Try.prog.follows .mixedOrders=true:=by kernel_rfl
theorem l8:Tp Try.prog 25 true 3 56 (.agg #[.int .i64 0,.slice none 0 0,.slice none 0 0]):=Tp.of (by kernel_rfl)
theorem cM:Tp Try.prog 57 true 3 24 (.agg #[.int .i64 0,.int .i64 0,.int .i64 0]):=Tp.of (by kernel_rfl)
theorem qB:Try.f14.body.isNone=false:=rfl
theorem qS:(Try.f14.name== "runtime.NumGoroutine")=false:=by decide+kernel
theorem qA:Try.f24.body.isNone=false:=rfl
theorem qN:(Try.f24.name== "runtime.NumGoroutine")=false:=by decide+kernel
theorem qQ:Try.f25.body.isNone=false:=rfl
theorem qL:(Try.f25.name== "runtime.NumGoroutine")=false:=by decide+kernel
theorem qV:Try.f26.body.isNone=false:=rfl
theorem rf:(Try.f26.name== "runtime.NumGoroutine")=false:=by decide+kernel
theorem iB:Try.f29.body.isNone=false:=rfl
theorem iQ:(Try.f29.name== "runtime.NumGoroutine")=false:=by decide+kernel
set_option maxHeartbeats 8000000 in
theorem kK(w0:World)(t:(Int)×(List ((Int)×(Int)×(Int)×(Int)))×(List Int))(t_v t_v1:Value)(ht_v:Ro w0 t_v t.2.1)(ht_v1:Ro w0 t_v1 t.2.2)(hN:t.1<=60\/¬cB t):
    Calls Try.prog 13 #[vg [vi t.1,t_v,t_v1]] w0 (λee w=>∃xx:aG×Value,ee= .returned ((λ⟨δ,rv0⟩=>vt [rv0,vi ((aS t).2)]) xx)/\(λ(⟨δ,rv0⟩:aG×Value) (w:World)=>jY w0 δ w/\Ow δ (is 1) (is 1) w rv0 ((aS t).1)) xx w):=by
 refine aC Try.func13 rfl nq ?_
 have bH:=b9.start w0
 have Rt:=ht_v.sl
 have r_t_v1:=ht_v1.sl
 refine a9 (a6 rfl (cQ rfl (d4 c0 (is 1) (1,0) rfl rfl ?_)))
 intro g4 w1 b3 ch2 bx5
 replace bx5:Bx g4 (is 1) w1 b3 [vi t.1,t_v,t_v1]:=bx5
 refine ma vn (ai 0 (af (a9 (av (a9 (a6 rfl (lx (bm (ds:=[vi t.1,t_v,t_v1]) l8 rfl bx5 rfl rfl) ?_)))))))
 replace Rt:=Rt.cn ch2
 replace r_t_v1:=r_t_v1.cn ch2
 refine lo (bE (v:=vb (bQ t)) (aU (vals:=[vg [vi t.1,t_v,t_v1]]) Try.func14 qB qS rfl) (gO w1 t t_v t_v1 (Rt).ro (r_t_v1).ro) ?_)
 intro w6 hb7
 replace hb7:=aB hb7 g4
 refine lx (cz (b:=(bQ t)) rfl) (ma (vb (!(bQ t))) (af ?_))
 by_cases p1:(bQ t)=true
 ·
  have hm:cB t:=of_decide_eq_true ‹_›
  have hN60:t.1<=60:=hN.resolve_right (λh=>h hm)
  have hm0:=hm
  obtain⟨⟨hm1,hm2⟩,hm3,hm4,hm5,hm6⟩:=hm0
  refine am rfl (congrArg Bool.not p1) (a9 (a6 rfl ?_))
  replace bx5:=bx5.cn hb7
  refine lx (bm (ds:=[vi t.1,t_v,t_v1]) l8 rfl bx5 rfl rfl) ?_
  replace Rt:=Rt.cn hb7
  replace r_t_v1:=r_t_v1.cn hb7
  refine lo (bE (v:=vb (decide (dd t.2.2=0))) (aU (vals:=[vg [vi t.1,t_v,t_v1]]) Try.func26 qV rf rfl) (ip w6 t t_v t_v1 (Rt).ro (r_t_v1).ro (by exact hm)) ?_)
  intro w8 hb9
  replace hb9:=aB hb9 g4
  refine lx (cz (b:=(decide (dd t.2.2=0))) rfl) (ma (vb (!(decide (dd t.2.2=0)))) (af ?_))
  by_cases p3:(decide (dd t.2.2=0))=true
  ·
   refine am rfl (congrArg Bool.not p3) (au (aq (a9 (a6 rfl ?_))))
   replace bx5:=bx5.cn hb9
   refine lx (bm (ds:=[vi t.1,t_v,t_v1]) l8 rfl bx5 rfl rfl) (lo (c6 (aU (vals:=[vg [vi t.1,t_v,t_v1]]) Try.func24 qA qN rfl) (aC Try.func24 rfl nq ?_)))
   replace Rt:=Rt.cn hb9
   replace r_t_v1:=r_t_v1.cn hb9
   refine a9 (a6 rfl (cQ rfl (d4 g4 (is 2) (2,0) rfl rfl ?_)))
   intro g13 w10 b12 ch11 bx14
   replace bx14:Bx g13 (is 2) w10 b12 [vi t.1,t_v,t_v1]:=bx14
   refine ma ((Value.pointer none)) (af (a9 (a6 rfl (lx (a7 cP rfl rfl rfl rfl) (lx (a8 ae rfl bx14 rfl) (lx (aP (m:=t.1) (n:=2) rfl rfl (by omega)) (ai (t.1+2) (af (a9 (aL g13 [0,2,4,6,8,9,10,11,12,13,15] dp ?_))))))))))
   intro w16 ch15
   refine xp (v:=vi (t.1+2)) 0 rfl (λw=>ah rfl) (xp (v:=vi (t.1+2)) 2 rfl (λw=>ah rfl) (xp (v:=vi (t.1+2)) 4 rfl (λw=>ah rfl) (xp (v:=vi (t.1+2)) 6 rfl (λw=>ah rfl) (xp 8 rfl (λw=>a7 cP rfl rfl rfl rfl) ?_))))
   replace bx14:=bx14.cn ch15
   refine xh 9 [8,6,4,2,0,1,3,5,7,10,11,12] rfl (λw' hw'=>a8 ae rfl (bx14.bel hw') rfl) (xp 10 rfl (λw=>a7 cP rfl rfl rfl rfl) (xh 11 [10,9,8,6,4,2,0,1,3,5,7] rfl (λw' hw'=>a8 ae rfl (bx14.bel hw') rfl) (xp 12 rfl (λw=>aP (m:=t.1) (n:=1) rfl rfl (by omega)) ?_)))
   refine n7 g13 [⟨1,13,[],(λ_ γ w v=>bN (α:=Int) γ 3 w v (List.replicate (Int.toNat (t.1+2)) ([]:List Int)))⟩,⟨3,15,[],(λ_ γ w v=>Ow (α:=Int) γ (is 4) (is 4) w v (List.replicate (Int.toNat (t.1+2)) ((0:Int):Int)))⟩,⟨5,17,[],(λ_ γ w v=>Ow (α:=Int) γ (is 5) (is 5) w v (List.replicate (Int.toNat (t.1+2)) ((0:Int):Int)))⟩,⟨7,19,[],(λ_ γ w v=>Ow (α:=Int) γ (is 6) (is 6) w v (List.replicate (Int.toNat (t.1+2)) ((0:Int):Int)))⟩] [(1,13),(3,15),(5,17),(7,19)] _ rfl ⟨(λ_ _ _ _ _ _ h k=>bN.chg k h (cK _)),(λ_ _ _ _ _ _ h k=>Ow.chg k h (cK _) (cK _)),(λ_ _ _ _ _ _ h k=>Ow.chg k h (cK _) (cK _)),(λ_ _ _ _ _ _ h k=>Ow.chg k h (cK _) (cK _)),trivial⟩ (by decide) (by decide) (by kernel_rfl) (by kernel_rfl) (fuel:=3) rfl ⟨⟨rfl,_,rfl,rfl,by decide,λf' val hf' hv=>⟨rfl,λγ w hd=>j8 (α:=Int) (n:=t.1+2) (cp:=t.1+2) γ 3 c5 ao rfl ((hf' 12 rfl).trans rfl) ((hf' 12 rfl).trans rfl) (by omega) (by omega) (by omega) (by omega) (λg2 w2 v h k=>⟨g2,h,k⟩)⟩⟩,⟨rfl,_,rfl,rfl,by decide,λf' val hf' hv=>⟨rfl,λγ w hd=>dw (α:=Int) (l:=t.1+2) (cp:=t.1+2) γ (is 4) (is 4) (4,0) rfl (0:Int) aW ae rfl ((hf' 14 rfl).trans rfl) ((hf' 14 rfl).trans rfl) (by omega) (by omega) (by omega) (by omega) (λg2 w2 v h k _=>⟨g2,h,k⟩)⟩⟩,⟨rfl,_,rfl,rfl,by decide,λf' val hf' hv=>⟨rfl,λγ w hd=>dw (α:=Int) (l:=t.1+2) (cp:=t.1+2) γ (is 5) (is 5) (5,0) rfl (0:Int) aW ae rfl ((hf' 16 rfl).trans rfl) ((hf' 16 rfl).trans rfl) (by omega) (by omega) (by omega) (by omega) (λg2 w2 v h k _=>⟨g2,h,k⟩)⟩⟩,⟨rfl,_,rfl,rfl,by decide,λf' val hf' hv=>⟨rfl,λγ w hd=>dw (α:=Int) (l:=t.1+2) (cp:=t.1+2) γ (is 6) (is 6) (6,0) rfl (0:Int) aW ae rfl ((hf' 18 rfl).trans rfl) ((hf' 18 rfl).trans rfl) (by omega) (by omega) (by omega) (by omega) (λg2 w2 v h k _=>⟨g2,h,k⟩)⟩⟩,trivial⟩ ?_
   refine λg17 w18 ch19 v24 o20 v25 o21 v26 o22 v27 o23=>?_
   replace o20:bN (α:=Int) g17 3 w18 v24 (List.replicate (Int.toNat (t.1+2)) ([]:List Int)):=o20
   replace o21:Ow (α:=Int) g17 (is 4) (is 4) w18 v25 (List.replicate (Int.toNat (t.1+2)) ((0:Int):Int)):=o21
   replace o22:Ow (α:=Int) g17 (is 5) (is 5) w18 v26 (List.replicate (Int.toNat (t.1+2)) ((0:Int):Int)):=o22
   replace o23:Ow (α:=Int) g17 (is 6) (is 6) w18 v27 (List.replicate (Int.toNat (t.1+2)) ((0:Int):Int)):=o23
   refine xp (v:=vg [vn,v24,v25,v26,v27,vi t.1,vi (t.1+1),vi 0,vi 0]) 13 rfl (λw=>bp (vs:=[(1,v24),(2,v25),(3,v26),(4,v27),(5,vi t.1),(6,vi (t.1+1))]) rfl (by rw[Sl.form o20.sl,Sl.form o21.flat,Sl.form o22.flat,Sl.form o23.flat];kernel_rfl)) (aD 14 rfl (by kernel_rfl) rfl (d4 g17 (is 7) (7,0) rfl rfl ?_))
   intro g31 w28 b30 ch29 bx32
   replace bx32:Bx g31 (is 7) w28 b30 [vn,v24,v25,v26,v27,vi t.1,vi (t.1+1),vi 0,vi 0]:=bx32
   refine xp (v:=vp b30 0) 15 rfl (λw=>bD rfl) (bc (by kernel_rfl) (a9 (a9 (a6 rfl (lx (a7 cP rfl rfl rfl rfl) ?_)))))
   replace bx14:=(bx14.cn ch19).cn ch29
   refine lx (a8 bT rfl bx14 rfl) ?_
   have C33:=cg [] (ch11.n.seq (ch15.n.seq (ch19.n.seq ch29.n)))
   replace Rt:=Rt.ca C33
   have len34:=(Rt).small
   refine lx (ba dB rfl Rt) (mi 0 (af (av ?_)))
   refine aX (σ:=Value×(List bq)×Nat×eZ×aG) (λ⟨W_c1_v,W_c1,k_c1,O_c1,gq⟩ f w=>b9 w0 gq w/\f 1=vp b12 0/\f 4=vp b30 0/\f 28=t_v/\f 29=vi (t.2.1.length:Int)/\f 30=vi ↑k_c1/\Sl gq (is 0) w t_v t.2.1/\Sl gq (is 0) w t_v1 t.2.2/\Bx gq (is 1) w b3 [vi t.1,t_v,t_v1]/\Bx gq (is 2) w b12 [vi t.1,t_v,t_v1]/\bN gq 3 w v24 O_c1/\Ow gq (is 4) (is 4) w v25 (List.replicate (Int.toNat (t.1+2)) (0:Int))/\Ow gq (is 5) (is 5) w v26 (List.replicate (Int.toNat (t.1+2)) (0:Int))/\Ow gq (is 6) (is 6) w v27 (List.replicate (Int.toNat (t.1+2)) (0:Int))/\Bx gq (is 7) w b30 [W_c1_v,v24,v25,v26,v27,vi t.1,vi (t.1+1),vi 0,vi 0]/\Ow gq (is 11) (is 11) w W_c1_v W_c1/\(k_c1:Int)<=((t.2.1.length:Int):Int)/\(jB t k_c1 W_c1 O_c1)) (λ⟨W_c1_v,W_c1,k_c1,O_c1,gq⟩=>Int.toNat (((t.2.1.length:Int):Int)-(k_c1:Int))) (vn,[],0,(List.replicate (Int.toNat (t.1+2)) ([]:List Int)),g31) ?_ ?_
   have C35:=cg [] (ch2.n.seq (hb7.n.seq (hb9.n.seq (ch11.n.seq (ch15.n.seq (ch19.n.seq ch29.n))))))
   · exact⟨bH.ca C35,rfl,rfl,rfl,rfl,rfl,Rt,r_t_v1.ca C33,bx5.ca C33,bx14,o20.cn ch29,o21.cn ch29,o22.cn ch29,o23.cn ch29,bx32,Ow.nil,by omega,by exact jB.start hm⟩
   clear Rt r_t_v1 bx5 bx14 o20 o21 o22 o23 bx32 bH
   rintro⟨W_c1_v,W_c1,k_c1,O_c1,g38⟩ f36 w37 ⟨bH,zs1_c1,zs4_c1,zs28_c1,zs29_c1,zs30_c1,Rt,r_t_v1,bx5,bx14,o20,o21,o22,o23,bx32,o_W_c1,hle_k_c1,hla_c1⟩ back4_c1
   obtain⟨hlw_c1,hlo_c1,hlk_c1⟩:=hla_c1.lw hm
   refine a9 (a6 rfl (lx (bo (m:=↑k_c1) (n:=(t.2.1.length:Int)) zs30_c1 zs29_c1) (af (a9 ?_))))
   by_cases p4_c1:(k_c1:Int)<(t.2.1.length:Int)
   ·
    refine aj rfl (dt p4_c1) ?_
    obtain⟨⟨ha0_c1,ha1_c1⟩,⟨ha2_c1,ha3_c1⟩,⟨ha4_c1,ha5_c1⟩,ha6_c1,ha7_c1⟩:=hm.2.2.2.1 _ (bx (xs:=t.2.1) (i:=↑k_c1) (by omega) ‹_›)
    have hr1_c1:=hla_c1.rl hm (u:=(gI t.2.1 ↑k_c1).1) (by omega) (by omega)
    have hr2_c1:=hla_c1.rl hm (u:=(gI t.2.1 ↑k_c1).2.1) (by omega) (by omega)
    refine au (a9 (av (a9 (a6 rfl (lx (aa (v:=t_v) (i:=↑k_c1) dB rfl zs28_c1 Rt zs30_c1 (by omega) (by omega)) (lw (vg [vi ((gI t.2.1 ↑k_c1).1),vi (((gI t.2.1 ↑k_c1).2).1),vi ((((gI t.2.1 ↑k_c1).2).2).1),vi ((((gI t.2.1 ↑k_c1).2).2).2)]) (bh (v:=t_v) (i:=↑k_c1) bz rfl Rt (by omega) (by omega) rfl) (lo (cd g38 (is 8) (8,0) rfl bz ?_))))))))
    intro g42 w39 b41 ch40 bx43
    replace bx43:Bx g42 (is 8) w39 b41 [vi 0,vi 0,vi 0,vi 0]:=bx43
    refine lo (aR (cs':=[vi ((gI t.2.1 ↑k_c1).1),vi (((gI t.2.1 ↑k_c1).2).1),vi ((((gI t.2.1 ↑k_c1).2).2).1),vi ((((gI t.2.1 ↑k_c1).2).2).2)]) bz rfl rfl bx43 rfl nq (AllOne.all (.cons rfl (.cons rfl (.cons rfl (.cons rfl .nil))))) rfl ?_)
    intro w44 ch45 bx46
    clear bx43
    refine af (a6 rfl (mz zs4_c1 (lx (a7 dK rfl rfl rfl rfl) (lx (a8 ae rfl bx46 rfl) (lx (a7 dK rfl rfl rfl rfl) (lx (a8 ae rfl bx46 rfl) (lx (a7 dK rfl rfl rfl rfl) (lx (a8 ae rfl bx46 rfl) (lx (a7 dK rfl rfl rfl rfl) (lx (a8 ae rfl bx46 rfl) ?_))))))))))
    refine lo ?_
    refine bF (σ:=Value×(List bq)×eZ×aG) (V:=λ⟨Wj_c2_v,Wj_c2,Oj_c2,gq⟩=>vt []) (S:=λ⟨Wj_c2_v,Wj_c2,Oj_c2,gq⟩ w=>b9 w0 gq w/\Sl gq (is 0) w t_v t.2.1/\Sl gq (is 0) w t_v1 t.2.2/\Bx gq (is 1) w b3 [vi t.1,t_v,t_v1]/\Bx gq (is 2) w b12 [vi t.1,t_v,t_v1]/\bN gq 3 w v24 Oj_c2/\Ow gq (is 4) (is 4) w v25 (List.replicate (Int.toNat (t.1+2)) (0:Int))/\Ow gq (is 5) (is 5) w v26 (List.replicate (Int.toNat (t.1+2)) (0:Int))/\Ow gq (is 6) (is 6) w v27 (List.replicate (Int.toNat (t.1+2)) (0:Int))/\Bx gq (is 7) w b30 [Wj_c2_v,v24,v25,v26,v27,vi t.1,vi (t.1+1),vi 0,vi 0]/\Bx gq (is 8) w b41 [vi ((gI t.2.1 ↑k_c1).1),vi (((gI t.2.1 ↑k_c1).2).1),vi ((((gI t.2.1 ↑k_c1).2).2).1),vi ((((gI t.2.1 ↑k_c1).2).2).2)]/\Ow gq (is 11) (is 11) w Wj_c2_v Wj_c2/\((Wj_c2,Oj_c2)=de (W_c1,O_c1) ((gI t.2.1 ↑k_c1).1) (((gI t.2.1 ↑k_c1).2).1) ((((gI t.2.1 ↑k_c1).2).2).1) ((((gI t.2.1 ↑k_c1).2).2).2))) (aU (vals:=[vp b30 0,vi ((gI t.2.1 ↑k_c1).1),vi (((gI t.2.1 ↑k_c1).2).1),vi ((((gI t.2.1 ↑k_c1).2).2).1),vi ((((gI t.2.1 ↑k_c1).2).2).2)]) Try.func29 iB iQ rfl) ?_ ?_
    ·
     refine aC Try.func29 rfl nq ?_
     replace o_W_c1:=(o_W_c1.cn ch40).ce ch45
     replace o20:=(o20.cn ch40).ce ch45
     replace o21:=(o21.cn ch40).ce ch45
     replace o22:=(o22.cn ch40).ce ch45
     replace o23:=(o23.cn ch40).ce ch45
     have hrs_c2:=cS (O:=O_c1) (a:=((gI t.2.1 ↑k_c1).1)) (b:=(((gI t.2.1 ↑k_c1).2).1)) (x:=(W_c1.length:Int)) (by omega) (by omega) (by omega)
     have hrt_c2:=hrs_c2
     try simp only[Int.toNat_natCast] at hrt_c2
     refine a9 ?_
     refine bS (σ:=aG) (λgq f w=>b9 w0 gq w/\f 0=vp b30 0/\f 1=vi ((gI t.2.1 ↑k_c1).1)/\f 2=vi (((gI t.2.1 ↑k_c1).2).1)/\f 3=vi ((((gI t.2.1 ↑k_c1).2).2).1)/\f 4=vi ((((gI t.2.1 ↑k_c1).2).2).2)/\Sl gq (is 0) w t_v t.2.1/\Sl gq (is 0) w t_v1 t.2.2/\Bx gq (is 1) w b3 [vi t.1,t_v,t_v1]/\Bx gq (is 2) w b12 [vi t.1,t_v,t_v1]/\Ow gq (is 4) (is 4) w v25 (List.replicate (Int.toNat (t.1+2)) (0:Int))/\Ow gq (is 5) (is 5) w v26 (List.replicate (Int.toNat (t.1+2)) (0:Int))/\Ow gq (is 6) (is 6) w v27 (List.replicate (Int.toNat (t.1+2)) (0:Int))/\Bx gq (is 7) w b30 [W_c1_v,v24,v25,v26,v27,vi t.1,vi (t.1+1),vi 0,vi 0]/\Ow gq (is 11) (is 11) w W_c1_v W_c1/\Bx gq (is 8) w b41 [vi ((gI t.2.1 ↑k_c1).1),vi (((gI t.2.1 ↑k_c1).2).1),vi ((((gI t.2.1 ↑k_c1).2).2).1),vi ((((gI t.2.1 ↑k_c1).2).2).2)]/\bN gq 3 w v24 (List.set O_c1 (Int.toNat ((gI t.2.1 ↑k_c1).1)) (gI O_c1 ((gI t.2.1 ↑k_c1).1)++([(W_c1.length:Int)]:List Int)))) g42 [0,1,2,4,5,6,7,8,9,10,11,12,13,14,15,16,19] dp ?_ ?_
     ·
      intro mid
      intro w48 ch47
      refine xp (v:=vp b30 0) 0 rfl (λw=>ah rfl) (xp (v:=vp b30 0) 1 rfl (λw=>ad rfl) (xp 2 rfl (λw=>a7 bB rfl rfl rfl rfl) (xp (v:=vi ((gI t.2.1 ↑k_c1).1)) 4 rfl (λw=>ah rfl) (xp (v:=vp b30 0) 5 rfl (λw=>ah rfl) (xp (v:=vp b30 0) 6 rfl (λw=>ad rfl) (xp 7 rfl (λw=>a7 bB rfl rfl rfl rfl) ?_))))))
      have C49:=cg [8] (ch40.n.seq ((ch45.l rfl).seq ch47.n))
      replace bx32:=bx32.ca C49
      refine xh 8 [7,6,5,4,2,1,0,3,9,12,13,14,15,16,17] rfl (λw' hw'=>a8 bv rfl (bx32.bel hw') rfl) (xp (v:=vi ((gI t.2.1 ↑k_c1).1)) 9 rfl (λw=>ah rfl) ?_)
      replace o20:=o20.cn ch47
      refine xh 10 [9,8,7,6,5,4,2,1,0,3,12,13,14,15,16,17] rfl (λw' hw'=>aa (v:=v24) (i:=(gI t.2.1 ↑k_c1).1) c5 rfl rfl (o20.sl.bel hw') rfl (by omega) (by omega)) ?_
      obtain⟨v50,cel51,r52⟩:=bC (r:=(gI t.2.1 ↑k_c1).1) o20 (by omega) (by omega)
      refine xh 11 [10,9,8,7,6,5,4,2,1,0,3,12,13,14,15,16,17] rfl (λw' hw'=>bb ao rfl (bW cel51 hw')) (xp (v:=vp b30 0) 12 rfl (λw=>ah rfl) (xp (v:=vp b30 0) 13 rfl (λw=>ad rfl) (xp 14 rfl (λw=>a7 bB rfl rfl rfl rfl) (xh 15 [14,13,12,11,10,9,8,7,6,5,4,2,1,0,3] rfl (λw' hw'=>a8 aY rfl (bx32.bel hw') rfl) ?_))))
      replace o_W_c1:=o_W_c1.cn ch47
      have len53:=(o_W_c1.flat).small
      refine xp 16 rfl (λw=>ba cZ rfl o_W_c1.flat) ?_
      refine cq 3 17 rfl rfl (by kernel_rfl) rfl rfl ?_ ?_
      ·
       refine aV (v:=v24) (a8 bv rfl bx32 rfl) (aD 17 rfl (by kernel_rfl) rfl (aw (α:=Int) g42 (is 9) (is 9) (9,0) rfl ([(W_c1.length:Int)]:List Int) aW ae (by decide) (by decide) (vs:=[(0,vi (W_c1.length:Int))]) rfl rfl (.cons rfl .nil) ?_))
       intro g54 w55 v56 ch57 o58
       refine aD 18 rfl (by kernel_rfl) rfl ?_
       replace o20:=o20.cn ch57
       replace r52:=r52.cn ch57
       refine aA (α:=Int) (xs:=(gI O_c1 ((gI t.2.1 ↑k_c1).1))) (ys:=([(W_c1.length:Int)]:List Int)) g54 (J:=row 3 (Int.toNat ((gI t.2.1 ↑k_c1).1)+1)) (S:=row 3 (Int.toNat ((gI t.2.1 ↑k_c1).1)+1)) (3,Int.toNat ((gI t.2.1 ↑k_c1).1)+1) rfl aW ae (by decide) rfl rfl rfl r52 o58.flat (by decide) (by(simp;omega)) ?_
       intro g59 w60 v61 ch62 o63
       have o64:=o20.rowchg ch62
       clear o20 cel51 r52
       obtain⟨us65,hl66,r67⟩:=o64.vc
       try simp only[List.length_set,List.length_append,List.length_cons,List.length_nil] at hl66
       refine xv 19 [18,17,3,16,15,14,13,12,11,10,9,8,7,6,5,4,2,1,0] rfl (aa (v:=v24) (i:=(gI t.2.1 ↑k_c1).1) c5 rfl rfl r67 rfl (by omega) (by omega)) (aD 20 rfl (by kernel_rfl) rfl (aJ (r:=(gI t.2.1 ↑k_c1).1) ao rfl rfl o64 o63 (by omega) (by omega) ?_))
       intro w71 ch72 o73
       clear o64 o63
       refine bc (by kernel_rfl) ?_
       have C74:=cg [3,8] (ch40.n.seq ((ch45.l rfl).seq (ch47.n.seq (ch57.n.seq ((ch62.lr rfl).seq (ch72.l rfl))))))
       have C76:=cg [3] (ch57.n.seq ((ch62.lr rfl).seq (ch72.l rfl)))
       have C75:=ch47.n.seq C76
       exact mid (g59) _ _ ⟨bH.ca C74,rfl,rfl,rfl,rfl,rfl,Rt.ca C74,r_t_v1.ca C74,bx5.ca C74,bx14.ca C74,o21.ca C75,o22.ca C75,o23.ca C75,bx32.ca C76,o_W_c1.ca C76,bx46.ca C75,o73⟩
      ·
       refine aw (α:=Int) g42 (is 9) (is 9) (9,0) rfl ([(W_c1.length:Int)]:List Int) aW ae (by decide) (by decide) (vs:=[(0,vi (W_c1.length:Int))]) rfl rfl (.cons rfl .nil) ?_
       intro g77 w78 v79 ch80 o81
       refine cq 3 18 rfl rfl (by kernel_rfl) rfl rfl ?_ ?_
       ·
        replace bx32:=bx32.cn ch80
        refine aV (v:=v24) (a8 bv rfl bx32 rfl) (aD 18 rfl (by kernel_rfl) rfl ?_)
        replace o20:=o20.cn ch80
        replace r52:=r52.cn ch80
        refine aA (α:=Int) (xs:=(gI O_c1 ((gI t.2.1 ↑k_c1).1))) (ys:=([(W_c1.length:Int)]:List Int)) g77 (J:=row 3 (Int.toNat ((gI t.2.1 ↑k_c1).1)+1)) (S:=row 3 (Int.toNat ((gI t.2.1 ↑k_c1).1)+1)) (3,Int.toNat ((gI t.2.1 ↑k_c1).1)+1) rfl aW ae (by decide) rfl rfl rfl r52 o81.flat (by decide) (by(simp;omega)) ?_
        intro g82 w83 v84 ch85 o86
        have o87:=o20.rowchg ch85
        clear o20 cel51 r52
        obtain⟨us88,hl89,r90⟩:=o87.vc
        try simp only[List.length_set,List.length_append,List.length_cons,List.length_nil] at hl89
        refine xv 19 [18,3,17,16,15,14,13,12,11,10,9,8,7,6,5,4,2,1,0] rfl (aa (v:=v24) (i:=(gI t.2.1 ↑k_c1).1) c5 rfl rfl r90 rfl (by omega) (by omega)) (aD 20 rfl (by kernel_rfl) rfl (aJ (r:=(gI t.2.1 ↑k_c1).1) ao rfl rfl o87 o86 (by omega) (by omega) ?_))
        intro w94 ch95 o96
        clear o87 o86
        refine bc (by kernel_rfl) ?_
        have C97:=cg [3,8] (ch40.n.seq ((ch45.l rfl).seq (ch47.n.seq (ch80.n.seq ((ch85.lr rfl).seq (ch95.l rfl))))))
        have C99:=cg [3] (ch80.n.seq ((ch85.lr rfl).seq (ch95.l rfl)))
        have C98:=ch47.n.seq C99
        exact mid (g82) _ _ ⟨bH.ca C97,rfl,rfl,rfl,rfl,rfl,Rt.ca C97,r_t_v1.ca C97,bx5.ca C97,bx14.ca C97,o21.ca C98,o22.ca C98,o23.ca C98,(bx32.chg ch85 (br rfl)).ce ch95,o_W_c1.ca C99,bx46.ca C98,o96⟩
       ·
        replace o20:=o20.cn ch80
        replace r52:=r52.cn ch80
        refine aA (α:=Int) (xs:=(gI O_c1 ((gI t.2.1 ↑k_c1).1))) (ys:=([(W_c1.length:Int)]:List Int)) g77 (J:=row 3 (Int.toNat ((gI t.2.1 ↑k_c1).1)+1)) (S:=row 3 (Int.toNat ((gI t.2.1 ↑k_c1).1)+1)) (3,Int.toNat ((gI t.2.1 ↑k_c1).1)+1) rfl aW ae (by decide) rfl rfl rfl r52 o81.flat (by decide) (by(simp;omega)) ?_
        intro g100 w101 v102 ch103 o104
        have o105:=o20.rowchg ch103
        clear o20 cel51 r52
        replace bx32:=(bx32.cn ch80).chg ch103 (br rfl)
        refine aD 3 rfl (by kernel_rfl) rfl (aV (v:=v24) (a8 bv rfl bx32 rfl) ?_)
        obtain⟨us106,hl107,r108⟩:=o105.vc
        try simp only[List.length_set,List.length_append,List.length_cons,List.length_nil] at hl107
        refine xv 19 [3,18,17,16,15,14,13,12,11,10,9,8,7,6,5,4,2,1,0] rfl (aa (v:=v24) (i:=(gI t.2.1 ↑k_c1).1) c5 rfl rfl r108 rfl (by omega) (by omega)) (aD 20 rfl (by kernel_rfl) rfl (aJ (r:=(gI t.2.1 ↑k_c1).1) ao rfl rfl o105 o104 (by omega) (by omega) ?_))
        intro w112 ch113 o114
        clear o105 o104
        refine bc (by kernel_rfl) ?_
        have C115:=cg [3,8] (ch40.n.seq ((ch45.l rfl).seq (ch47.n.seq (ch80.n.seq ((ch103.lr rfl).seq (ch113.l rfl))))))
        have C117:=cg [3] (ch80.n.seq ((ch103.lr rfl).seq (ch113.l rfl)))
        have C116:=ch47.n.seq C117
        exact mid (g100) _ _ ⟨bH.ca C115,rfl,rfl,rfl,rfl,rfl,Rt.ca C115,r_t_v1.ca C115,bx5.ca C115,bx14.ca C115,o21.ca C116,o22.ca C116,o23.ca C116,bx32.ce ch113,o_W_c1.ca C117,bx46.ca C116,o114⟩
     clear Rt r_t_v1 bx5 bx14 o20 o21 o22 o23 bx32 o_W_c1 bx46 bH
     rintro g120 f118 w119 ⟨bH,zs0_c2,zs1_c2,zs2_c2,zs3_c2,zs4_c2,Rt,r_t_v1,bx5,bx14,o21,o22,o23,bx32,o_W_c1,bx46,o70⟩
     refine a9 (a6 rfl (mz zs0_c2 (mz zs0_c2 (lw (vp b30 0) (ad rfl) (lx (a7 bB rfl rfl rfl rfl) (lx (a8 aY rfl bx32 rfl) (mz zs2_c2 (mz zs3_c2 (mz zs4_c2 (lw (vg [vi (((gI t.2.1 ↑k_c1).2).1),vi ((((gI t.2.1 ↑k_c1).2).2).1),vi ((((gI t.2.1 ↑k_c1).2).2).2)]) (bp (vs:=[(0,vi (((gI t.2.1 ↑k_c1).2).1)),(1,vi ((((gI t.2.1 ↑k_c1).2).2).1)),(2,vi ((((gI t.2.1 ↑k_c1).2).2).2))]) rfl (by kernel_rfl)) ?_))))))))))
     refine lo (aw (α:=bq) g120 (is 10) (is 10) (10,0) rfl ([(((gI t.2.1 ↑k_c1).2).1,(((gI t.2.1 ↑k_c1).2).2).1,(((gI t.2.1 ↑k_c1).2).2).2)]:List bq) cZ cM (by decide) (by decide) (vs:=[(0,vg [vi (((gI t.2.1 ↑k_c1).2).1),vi ((((gI t.2.1 ↑k_c1).2).2).1),vi ((((gI t.2.1 ↑k_c1).2).2).2)])]) rfl rfl (.cons rfl .nil) ?_)
     intro g121 w122 v123 ch124 o125
     refine lo ?_
     replace o_W_c1:=o_W_c1.cn ch124
     refine aA (α:=bq) (xs:=W_c1) (ys:=([(((gI t.2.1 ↑k_c1).2).1,(((gI t.2.1 ↑k_c1).2).2).1,(((gI t.2.1 ↑k_c1).2).2).2)]:List bq)) g121 (J:=is 11) (S:=is 11) (11,0) rfl cZ cM (by decide) rfl rfl rfl o_W_c1 o125.flat (by decide) (by(simp;omega)) ?_
     intro g126 w127 v128 ch129 o130
     clear o_W_c1
     refine lw (vp b30 0) (ad rfl) (lx (a7 bB rfl rfl rfl rfl) (lo ?_))
     replace bx32:=(bx32.cn ch124).ce ch129
     refine bj (cs':=[v128,v24,v25,v26,v27,vi t.1,vi (t.1+1),vi 0,vi 0]) aY rfl rfl bx32 (bf o130.flat) nq (aZ o130.flat) rfl ?_
     intro w131 ch132 bx133
     clear bx32
     refine af (a9 ?_)
     clear o125
     refine bS (σ:=aG) (λgq f w=>b9 w0 gq w/\f 0=vp b30 0/\f 1=vi ((gI t.2.1 ↑k_c1).1)/\f 4=vi ((((gI t.2.1 ↑k_c1).2).2).2)/\Sl gq (is 0) w t_v t.2.1/\Sl gq (is 0) w t_v1 t.2.2/\Bx gq (is 1) w b3 [vi t.1,t_v,t_v1]/\Bx gq (is 2) w b12 [vi t.1,t_v,t_v1]/\Ow gq (is 4) (is 4) w v25 (List.replicate (Int.toNat (t.1+2)) (0:Int))/\Ow gq (is 5) (is 5) w v26 (List.replicate (Int.toNat (t.1+2)) (0:Int))/\Ow gq (is 6) (is 6) w v27 (List.replicate (Int.toNat (t.1+2)) (0:Int))/\Bx gq (is 8) w b41 [vi ((gI t.2.1 ↑k_c1).1),vi (((gI t.2.1 ↑k_c1).2).1),vi ((((gI t.2.1 ↑k_c1).2).2).1),vi ((((gI t.2.1 ↑k_c1).2).2).2)]/\Ow gq (is 11) (is 11) w v128 (W_c1++([(((gI t.2.1 ↑k_c1).2).1,(((gI t.2.1 ↑k_c1).2).2).1,(((gI t.2.1 ↑k_c1).2).2).2)]:List bq))/\Bx gq (is 7) w b30 [v128,v24,v25,v26,v27,vi t.1,vi (t.1+1),vi 0,vi 0]/\bN gq 3 w v24 (List.set (List.set O_c1 (Int.toNat ((gI t.2.1 ↑k_c1).1)) (gI O_c1 ((gI t.2.1 ↑k_c1).1)++([(W_c1.length:Int)]:List Int))) (Int.toNat (((gI t.2.1 ↑k_c1).2).1)) (gI (List.set O_c1 (Int.toNat ((gI t.2.1 ↑k_c1).1)) (gI O_c1 ((gI t.2.1 ↑k_c1).1)++([(W_c1.length:Int)]:List Int))) (((gI t.2.1 ↑k_c1).2).1)++([(List.length (W_c1++([(((gI t.2.1 ↑k_c1).2).1,(((gI t.2.1 ↑k_c1).2).2).1,(((gI t.2.1 ↑k_c1).2).2).2)]:List bq)):Int)]:List Int)))) g126 [0,1,2,4,5,6,7,8,9,10,11,12,13,14,15,16,19] dp ?_ ?_
     ·
      intro mid
      intro w135 ch134
      refine xp (v:=vp b30 0) 0 rfl (λw=>ah zs0_c2) (xp (v:=vp b30 0) 1 rfl (λw=>ad rfl) (xp 2 rfl (λw=>a7 bB rfl rfl rfl rfl) (xp (v:=vi (((gI t.2.1 ↑k_c1).2).1)) 4 rfl (λw=>ah zs2_c2) (xp (v:=vp b30 0) 5 rfl (λw=>ah zs0_c2) (xp (v:=vp b30 0) 6 rfl (λw=>ad rfl) (xp 7 rfl (λw=>a7 bB rfl rfl rfl rfl) ?_))))))
      replace bx133:=bx133.cn ch134
      refine xh 8 [7,6,5,4,2,1,0,3,9,12,13,14,15,16,17] rfl (λw' hw'=>a8 bv rfl (bx133.bel hw') rfl) (xp (v:=vi (((gI t.2.1 ↑k_c1).2).1)) 9 rfl (λw=>ah zs2_c2) ?_)
      have C136:=cg [7,11] (ch124.n.seq ((ch129.l rfl).seq ((ch132.l rfl).seq ch134.n)))
      replace o70:=o70.ca C136
      refine xh 10 [9,8,7,6,5,4,2,1,0,3,12,13,14,15,16,17] rfl (λw' hw'=>aa (v:=v24) (i:=((gI t.2.1 ↑k_c1).2).1) c5 rfl rfl (o70.sl.bel hw') rfl (by omega) (by(simp only[List.length_set,List.length_append,List.length_cons,List.length_nil,List.length_replicate,List.length_map,List.length_take,List.length_drop];omega))) ?_
      obtain⟨v137,cel138,r139⟩:=bC (r:=((gI t.2.1 ↑k_c1).2).1) o70 (by omega) (by(simp only[List.length_set,List.length_append,List.length_cons,List.length_nil,List.length_replicate,List.length_map,List.length_take,List.length_drop];omega))
      refine xh 11 [10,9,8,7,6,5,4,2,1,0,3,12,13,14,15,16,17] rfl (λw' hw'=>bb ao rfl (bW cel138 hw')) (xp (v:=vp b30 0) 12 rfl (λw=>ah zs0_c2) (xp (v:=vp b30 0) 13 rfl (λw=>ad rfl) (xp 14 rfl (λw=>a7 bB rfl rfl rfl rfl) (xh 15 [14,13,12,11,10,9,8,7,6,5,4,2,1,0,3] rfl (λw' hw'=>a8 aY rfl (bx133.bel hw') rfl) ?_))))
      replace o130:=(o130.ce ch132).cn ch134
      have len140:=(o130.flat).small
      refine xp 16 rfl (λw=>ba cZ rfl o130.flat) ?_
      refine cq 3 17 rfl rfl (by kernel_rfl) rfl rfl ?_ ?_
      ·
       refine aV (v:=v24) (a8 bv rfl bx133 rfl) (aD 17 rfl (by kernel_rfl) rfl (aw (α:=Int) g126 (is 12) (is 12) (12,0) rfl ([(List.length (W_c1++([(((gI t.2.1 ↑k_c1).2).1,(((gI t.2.1 ↑k_c1).2).2).1,(((gI t.2.1 ↑k_c1).2).2).2)]:List bq)):Int)]:List Int) aW ae (by decide) (by decide) (vs:=[(0,vi (List.length (W_c1++([(((gI t.2.1 ↑k_c1).2).1,(((gI t.2.1 ↑k_c1).2).2).1,(((gI t.2.1 ↑k_c1).2).2).2)]:List bq)):Int))]) rfl rfl (.cons rfl .nil) ?_))
       intro g141 w142 v143 ch144 o145
       refine aD 18 rfl (by kernel_rfl) rfl ?_
       replace o70:=o70.cn ch144
       replace r139:=r139.cn ch144
       refine aA (α:=Int) (xs:=(gI (List.set O_c1 (Int.toNat ((gI t.2.1 ↑k_c1).1)) (gI O_c1 ((gI t.2.1 ↑k_c1).1)++([(W_c1.length:Int)]:List Int))) (((gI t.2.1 ↑k_c1).2).1))) (ys:=([(List.length (W_c1++([(((gI t.2.1 ↑k_c1).2).1,(((gI t.2.1 ↑k_c1).2).2).1,(((gI t.2.1 ↑k_c1).2).2).2)]:List bq)):Int)]:List Int)) g141 (J:=row 3 (Int.toNat (((gI t.2.1 ↑k_c1).2).1)+1)) (S:=row 3 (Int.toNat (((gI t.2.1 ↑k_c1).2).1)+1)) (3,Int.toNat (((gI t.2.1 ↑k_c1).2).1)+1) rfl aW ae (by decide) rfl rfl rfl r139 o145.flat (by decide) (by(simp;omega)) ?_
       intro g146 w147 v148 ch149 o150
       have o151:=o70.rowchg ch149
       clear o70 cel138 r139
       obtain⟨us152,hl153,r154⟩:=o151.vc
       try simp only[List.length_set,List.length_append,List.length_cons,List.length_nil] at hl153
       refine xv 19 [18,17,3,16,15,14,13,12,11,10,9,8,7,6,5,4,2,1,0] rfl (aa (v:=v24) (i:=((gI t.2.1 ↑k_c1).2).1) c5 rfl rfl r154 rfl (by omega) (by omega)) (aD 20 rfl (by kernel_rfl) rfl (aJ (r:=((gI t.2.1 ↑k_c1).2).1) ao rfl rfl o151 o150 (by omega) (by(simp only[List.length_set,List.length_append,List.length_cons,List.length_nil,List.length_replicate,List.length_map,List.length_take,List.length_drop];omega)) ?_))
       intro w158 ch159 o160
       clear o151 o150
       refine bc (by kernel_rfl) ?_
       have C161:=cg [3,7,11] (ch124.n.seq ((ch129.l rfl).seq ((ch132.l rfl).seq (ch134.n.seq (ch144.n.seq ((ch149.lr rfl).seq (ch159.l rfl)))))))
       have C162:=cg [3] (ch144.n.seq ((ch149.lr rfl).seq (ch159.l rfl)))
       exact mid (g146) _ _ ⟨bH.ca C161,zs0_c2,zs1_c2,zs4_c2,Rt.ca C161,r_t_v1.ca C161,bx5.ca C161,bx14.ca C161,o21.ca C161,o22.ca C161,o23.ca C161,bx46.ca C161,o130.ca C162,bx133.ca C162,o160⟩
      ·
       refine aw (α:=Int) g126 (is 12) (is 12) (12,0) rfl ([(List.length (W_c1++([(((gI t.2.1 ↑k_c1).2).1,(((gI t.2.1 ↑k_c1).2).2).1,(((gI t.2.1 ↑k_c1).2).2).2)]:List bq)):Int)]:List Int) aW ae (by decide) (by decide) (vs:=[(0,vi (List.length (W_c1++([(((gI t.2.1 ↑k_c1).2).1,(((gI t.2.1 ↑k_c1).2).2).1,(((gI t.2.1 ↑k_c1).2).2).2)]:List bq)):Int))]) rfl rfl (.cons rfl .nil) ?_
       intro g163 w164 v165 ch166 o167
       refine cq 3 18 rfl rfl (by kernel_rfl) rfl rfl ?_ ?_
       ·
        replace bx133:=bx133.cn ch166
        refine aV (v:=v24) (a8 bv rfl bx133 rfl) (aD 18 rfl (by kernel_rfl) rfl ?_)
        replace o70:=o70.cn ch166
        replace r139:=r139.cn ch166
        refine aA (α:=Int) (xs:=(gI (List.set O_c1 (Int.toNat ((gI t.2.1 ↑k_c1).1)) (gI O_c1 ((gI t.2.1 ↑k_c1).1)++([(W_c1.length:Int)]:List Int))) (((gI t.2.1 ↑k_c1).2).1))) (ys:=([(List.length (W_c1++([(((gI t.2.1 ↑k_c1).2).1,(((gI t.2.1 ↑k_c1).2).2).1,(((gI t.2.1 ↑k_c1).2).2).2)]:List bq)):Int)]:List Int)) g163 (J:=row 3 (Int.toNat (((gI t.2.1 ↑k_c1).2).1)+1)) (S:=row 3 (Int.toNat (((gI t.2.1 ↑k_c1).2).1)+1)) (3,Int.toNat (((gI t.2.1 ↑k_c1).2).1)+1) rfl aW ae (by decide) rfl rfl rfl r139 o167.flat (by decide) (by(simp;omega)) ?_
        intro g168 w169 v170 ch171 o172
        have o173:=o70.rowchg ch171
        clear o70 cel138 r139
        obtain⟨us174,hl175,r176⟩:=o173.vc
        try simp only[List.length_set,List.length_append,List.length_cons,List.length_nil] at hl175
        refine xv 19 [18,3,17,16,15,14,13,12,11,10,9,8,7,6,5,4,2,1,0] rfl (aa (v:=v24) (i:=((gI t.2.1 ↑k_c1).2).1) c5 rfl rfl r176 rfl (by omega) (by omega)) (aD 20 rfl (by kernel_rfl) rfl (aJ (r:=((gI t.2.1 ↑k_c1).2).1) ao rfl rfl o173 o172 (by omega) (by(simp only[List.length_set,List.length_append,List.length_cons,List.length_nil,List.length_replicate,List.length_map,List.length_take,List.length_drop];omega)) ?_))
        intro w180 ch181 o182
        clear o173 o172
        refine bc (by kernel_rfl) ?_
        have C183:=cg [3,7,11] (ch124.n.seq ((ch129.l rfl).seq ((ch132.l rfl).seq (ch134.n.seq (ch166.n.seq ((ch171.lr rfl).seq (ch181.l rfl)))))))
        have C184:=cg [3] (ch166.n.seq ((ch171.lr rfl).seq (ch181.l rfl)))
        exact mid (g168) _ _ ⟨bH.ca C183,zs0_c2,zs1_c2,zs4_c2,Rt.ca C183,r_t_v1.ca C183,bx5.ca C183,bx14.ca C183,o21.ca C183,o22.ca C183,o23.ca C183,bx46.ca C183,o130.ca C184,(bx133.chg ch171 (br rfl)).ce ch181,o182⟩
       ·
        replace o70:=o70.cn ch166
        replace r139:=r139.cn ch166
        refine aA (α:=Int) (xs:=(gI (List.set O_c1 (Int.toNat ((gI t.2.1 ↑k_c1).1)) (gI O_c1 ((gI t.2.1 ↑k_c1).1)++([(W_c1.length:Int)]:List Int))) (((gI t.2.1 ↑k_c1).2).1))) (ys:=([(List.length (W_c1++([(((gI t.2.1 ↑k_c1).2).1,(((gI t.2.1 ↑k_c1).2).2).1,(((gI t.2.1 ↑k_c1).2).2).2)]:List bq)):Int)]:List Int)) g163 (J:=row 3 (Int.toNat (((gI t.2.1 ↑k_c1).2).1)+1)) (S:=row 3 (Int.toNat (((gI t.2.1 ↑k_c1).2).1)+1)) (3,Int.toNat (((gI t.2.1 ↑k_c1).2).1)+1) rfl aW ae (by decide) rfl rfl rfl r139 o167.flat (by decide) (by(simp;omega)) ?_
        intro g185 w186 v187 ch188 o189
        have o190:=o70.rowchg ch188
        clear o70 cel138 r139
        replace bx133:=(bx133.cn ch166).chg ch188 (br rfl)
        refine aD 3 rfl (by kernel_rfl) rfl (aV (v:=v24) (a8 bv rfl bx133 rfl) ?_)
        obtain⟨us191,hl192,r193⟩:=o190.vc
        try simp only[List.length_set,List.length_append,List.length_cons,List.length_nil] at hl192
        refine xv 19 [3,18,17,16,15,14,13,12,11,10,9,8,7,6,5,4,2,1,0] rfl (aa (v:=v24) (i:=((gI t.2.1 ↑k_c1).2).1) c5 rfl rfl r193 rfl (by omega) (by omega)) (aD 20 rfl (by kernel_rfl) rfl (aJ (r:=((gI t.2.1 ↑k_c1).2).1) ao rfl rfl o190 o189 (by omega) (by(simp only[List.length_set,List.length_append,List.length_cons,List.length_nil,List.length_replicate,List.length_map,List.length_take,List.length_drop];omega)) ?_))
        intro w197 ch198 o199
        clear o190 o189
        refine bc (by kernel_rfl) ?_
        have C200:=cg [3,7,11] (ch124.n.seq ((ch129.l rfl).seq ((ch132.l rfl).seq (ch134.n.seq (ch166.n.seq ((ch188.lr rfl).seq (ch198.l rfl)))))))
        have C201:=cg [3] (ch166.n.seq ((ch188.lr rfl).seq (ch198.l rfl)))
        exact mid (g185) _ _ ⟨bH.ca C200,zs0_c2,zs1_c2,zs4_c2,Rt.ca C200,r_t_v1.ca C200,bx5.ca C200,bx14.ca C200,o21.ca C200,o22.ca C200,o23.ca C200,bx46.ca C200,o130.ca C201,bx133.ce ch198,o199⟩
     clear Rt r_t_v1 bx5 bx14 o21 o22 o23 bx46 o70 o130 bx133 bH
     rintro g204 f202 w203 ⟨bH,zs0_c2,zs1_c2,zs4_c2,Rt,r_t_v1,bx5,bx14,o21,o22,o23,bx46,o130,bx133,o158⟩
     refine a6 rfl (mz zs0_c2 (mz zs0_c2 (lw (vp b30 0) (ad rfl) (lx (a7 bB rfl rfl rfl rfl) (lx (a8 aY rfl bx133 rfl) (mz zs1_c2 (mz zs4_c2 (lw (vi (-((((gI t.2.1 ↑k_c1).2).2).2))) (fc (m:=(((gI t.2.1 ↑k_c1).2).2).2) rfl (by omega)) (lw (vg [vi ((gI t.2.1 ↑k_c1).1),vi 0,vi (-((((gI t.2.1 ↑k_c1).2).2).2))]) (bp (vs:=[(0,vi ((gI t.2.1 ↑k_c1).1)),(1,vi 0),(2,vi (-((((gI t.2.1 ↑k_c1).2).2).2)))]) rfl (by kernel_rfl)) ?_)))))))))
     refine lo (aw (α:=bq) g204 (is 13) (is 13) (13,0) rfl ([((gI t.2.1 ↑k_c1).1,0,-((((gI t.2.1 ↑k_c1).2).2).2))]:List bq) cZ cM (by decide) (by decide) (vs:=[(0,vg [vi ((gI t.2.1 ↑k_c1).1),vi 0,vi (-((((gI t.2.1 ↑k_c1).2).2).2))])]) rfl rfl (.cons rfl .nil) ?_)
     intro g205 w206 v207 ch208 o209
     refine lo ?_
     replace o130:=o130.cn ch208
     refine aA (α:=bq) (xs:=(W_c1++([(((gI t.2.1 ↑k_c1).2).1,(((gI t.2.1 ↑k_c1).2).2).1,(((gI t.2.1 ↑k_c1).2).2).2)]:List bq))) (ys:=([((gI t.2.1 ↑k_c1).1,0,-((((gI t.2.1 ↑k_c1).2).2).2))]:List bq)) g205 (J:=is 11) (S:=is 11) (11,0) rfl cZ cM (by decide) rfl rfl rfl o130 o209.flat (by decide) (by(simp;omega)) ?_
     intro g210 w211 v212 ch213 o214
     clear o130
     refine lw (vp b30 0) (ad rfl) (lx (a7 bB rfl rfl rfl rfl) (lo ?_))
     replace bx133:=(bx133.cn ch208).ce ch213
     refine bj (cs':=[v212,v24,v25,v26,v27,vi t.1,vi (t.1+1),vi 0,vi 0]) aY rfl rfl bx133 (bf o214.flat) nq (aZ o214.flat) rfl ?_
     intro w215 ch216 bx217
     clear bx133
     refine af (bU (vs:=[]) Try.func29 .nil ?_)
     have C218:=cg [7,11] (ch208.n.seq ((ch213.l rfl).seq (ch216.l rfl)))
     replace bH:=bH.ca C218
     replace Rt:=Rt.ca C218
     replace r_t_v1:=r_t_v1.ca C218
     replace bx5:=bx5.ca C218
     replace bx14:=bx14.ca C218
     replace o158:=o158.ca C218
     replace o21:=o21.ca C218
     replace o22:=o22.ca C218
     replace o23:=o23.ca C218
     replace bx46:=bx46.ca C218
     replace o214:=o214.ce ch216
     refine⟨(v212,((W_c1++([(((gI t.2.1 ↑k_c1).2).1,(((gI t.2.1 ↑k_c1).2).2).1,(((gI t.2.1 ↑k_c1).2).2).2)]:List bq))++([((gI t.2.1 ↑k_c1).1,0,-((((gI t.2.1 ↑k_c1).2).2).2))]:List bq)),(List.set (List.set O_c1 (Int.toNat ((gI t.2.1 ↑k_c1).1)) (gI O_c1 ((gI t.2.1 ↑k_c1).1)++([(W_c1.length:Int)]:List Int))) (Int.toNat (((gI t.2.1 ↑k_c1).2).1)) (gI (List.set O_c1 (Int.toNat ((gI t.2.1 ↑k_c1).1)) (gI O_c1 ((gI t.2.1 ↑k_c1).1)++([(W_c1.length:Int)]:List Int))) (((gI t.2.1 ↑k_c1).2).1)++([(List.length (W_c1++([(((gI t.2.1 ↑k_c1).2).1,(((gI t.2.1 ↑k_c1).2).2).1,(((gI t.2.1 ↑k_c1).2).2).2)]:List bq)):Int)]:List Int))),g210),rfl,bH,Rt,r_t_v1,bx5,bx14,o158,o21,o22,o23,bx217,bx46,o214,?_⟩
     show(((W_c1++([(((gI t.2.1 ↑k_c1).2).1,(((gI t.2.1 ↑k_c1).2).2).1,(((gI t.2.1 ↑k_c1).2).2).2)]:List bq))++([((gI t.2.1 ↑k_c1).1,0,-((((gI t.2.1 ↑k_c1).2).2).2))]:List bq)),(List.set (List.set O_c1 (Int.toNat ((gI t.2.1 ↑k_c1).1)) (gI O_c1 ((gI t.2.1 ↑k_c1).1)++([(W_c1.length:Int)]:List Int))) (Int.toNat (((gI t.2.1 ↑k_c1).2).1)) (gI (List.set O_c1 (Int.toNat ((gI t.2.1 ↑k_c1).1)) (gI O_c1 ((gI t.2.1 ↑k_c1).1)++([(W_c1.length:Int)]:List Int))) (((gI t.2.1 ↑k_c1).2).1)++([(List.length (W_c1++([(((gI t.2.1 ↑k_c1).2).1,(((gI t.2.1 ↑k_c1).2).2).1,(((gI t.2.1 ↑k_c1).2).2).2)]:List bq)):Int)]:List Int))))=de (W_c1,O_c1) ((gI t.2.1 ↑k_c1).1) (((gI t.2.1 ↑k_c1).2).1) ((((gI t.2.1 ↑k_c1).2).2).1) ((((gI t.2.1 ↑k_c1).2).2).2)
     (unfold de;simp)
    clear Rt r_t_v1 bx5 bx14 o20 o21 o22 o23 bx32 o_W_c1 bx46 bH
    rintro⟨Wj_c2_v,Wj_c2,Oj_c2,g220⟩ w219 ⟨bH,Rt,r_t_v1,bx5,bx14,o20,o21,o22,o23,bx32,bx46,o_Wj_c2,hja_c2⟩
    have hjw_c2:Wj_c2.length=(W_c1).length+2:=by have h:=congrArg (λz=>z.1.length) hja_c2;simpa[de] using h
    refine af (aq ?_)
    clear bx46
    refine a6 rfl (lx (aP (m:=↑k_c1) (n:=1) zs30_c1 rfl (by omega)) (mi ((k_c1:Int)+1) (af ?_)))
    refine back4_c1 (Wj_c2_v,Wj_c2,k_c1+1,Oj_c2,g220) _ _ ⟨bH,zs1_c1,zs4_c1,zs28_c1,zs29_c1,rfl,Rt,r_t_v1,bx5,bx14,o20,o21,o22,o23,bx32,o_Wj_c2,by omega,?_⟩ ?_
    · show jB t (k_c1+1) Wj_c2 Oj_c2
      exact hla_c1.arc ‹_› ‹_›
    · show Int.toNat (((t.2.1.length:Int):Int)-((k_c1+1):Int))<Int.toNat (((t.2.1.length:Int):Int)-(k_c1:Int))
      omega
   refine am rfl (df p4_c1) (aM rfl (a9 (a9 (a6 rfl (lx (a7 cP rfl rfl zs1_c1 rfl) (lx (a8 ao rfl bx14 rfl) ?_))))))
   have len221:=(r_t_v1).small
   refine lx (ba aW rfl r_t_v1) (mi 0 (af (av ?_)))
   clear bx14
   refine aX (σ:=Value×(List bq)×Int×Nat×eZ×aG) (λ⟨W2_c1_v,W2_c1,ak_c1,j_c1,O2_c1,gq⟩ f w=>b9 w0 gq w/\f 4=vp b30 0/\f 46=t_v1/\f 47=vi (t.2.2.length:Int)/\f 48=vi ↑j_c1/\Sl gq (is 0) w t_v t.2.1/\Sl gq (is 0) w t_v1 t.2.2/\Bx gq (is 1) w b3 [vi t.1,t_v,t_v1]/\bN gq 3 w v24 O2_c1/\Ow gq (is 4) (is 4) w v25 (List.replicate (Int.toNat (t.1+2)) (0:Int))/\Ow gq (is 5) (is 5) w v26 (List.replicate (Int.toNat (t.1+2)) (0:Int))/\Ow gq (is 6) (is 6) w v27 (List.replicate (Int.toNat (t.1+2)) (0:Int))/\Bx gq (is 7) w b30 [W2_c1_v,v24,v25,v26,v27,vi t.1,vi (t.1+1),vi ak_c1,vi 0]/\Ow gq (is 11) (is 11) w W2_c1_v W2_c1/\(j_c1:Int)<=((t.2.2.length:Int):Int)/\(gv t j_c1 W2_c1 O2_c1 ak_c1)) (λ⟨W2_c1_v,W2_c1,ak_c1,j_c1,O2_c1,gq⟩=>Int.toNat (((t.2.2.length:Int):Int)-(j_c1:Int))) (W_c1_v,W_c1,0,0,O_c1,g38) ?_ ?_
   · exact⟨bH,zs4_c1,rfl,rfl,rfl,Rt,r_t_v1,bx5,o20,o21,o22,o23,bx32,o_W_c1,by omega,by exact gv.start hla_c1 (by omega) ‹_›⟩
   clear Rt r_t_v1 bx5 o20 o21 o22 o23 bx32 o_W_c1 bH
   rintro⟨W2_c1_v,W2_c1,ak_c1,j_c1,O2_c1,g224⟩ f222 w223 ⟨bH,zs4_c1,zs46_c1,zs47_c1,zs48_c1,Rt,r_t_v1,bx5,o20,o21,o22,o23,bx32,o_W2_c1,hle_j_c1,hln_c1⟩ back9_c1
   obtain⟨hnw_c1,hno_c1,hnk_c1⟩:=hln_c1.1.lw hm
   obtain⟨hna_c1,hnb_c1⟩:=hln_c1.bd hm (by omega)
   refine a9 (a6 rfl (lx (bo (m:=↑j_c1) (n:=(t.2.2.length:Int)) zs48_c1 zs47_c1) (af (a9 ?_))))
   by_cases p9_c1:(j_c1:Int)<(t.2.2.length:Int)
   ·
    refine aj rfl (dt p9_c1) ?_
    obtain⟨hnd0_c1,hnd1_c1⟩:=hm.2.2.2.2 _ (bx (xs:=t.2.2) (i:=↑j_c1) (by omega) ‹_›)
    have hr3_c1:=hln_c1.1.rl hm (u:=(j_c1:Int)) (by omega) (by omega)
    have hr4_c1:=hln_c1.1.rl hm (u:=t.1) (by omega) (by omega)
    have hr5_c1:=hln_c1.1.rl hm (u:=t.1+1) (by omega) (by omega)
    refine au (a9 (av (a9 (a6 rfl (mz zs48_c1 (lx (aa (v:=t_v1) (i:=↑j_c1) aW rfl zs46_c1 r_t_v1 zs48_c1 (by omega) (by omega)) (lx (ay (v:=t_v1) (i:=↑j_c1) ae rfl r_t_v1 (by omega) (by omega) (by decide) rfl) (ai (j_c1:Int) (ai (gI t.2.2 ↑j_c1) (af (a9 (a9 (a6 rfl ?_)))))))))))))
    refine mi (gI t.2.2 ↑j_c1) (lx (bY (m:=(gI t.2.2 ↑j_c1)) (n:=0) rfl rfl) (af ?_))
    by_cases p11_c1:0<(gI t.2.2 ↑j_c1)
    ·
     refine aj rfl (dt p11_c1) (a9 (a6 rfl (mz zs4_c1 (mz zs4_c1 (lw (vp b30 0) (ad rfl) (lx (a7 bB rfl rfl rfl rfl) (lx (a8 ae rfl bx32 rfl) (mi ↑j_c1 (mi (gI t.2.2 ↑j_c1) (lo ?_))))))))))
     refine bF (σ:=Value×(List bq)×eZ×aG) (V:=λ⟨Wj_c3_v,Wj_c3,Oj_c3,gq⟩=>vt []) (S:=λ⟨Wj_c3_v,Wj_c3,Oj_c3,gq⟩ w=>b9 w0 gq w/\Sl gq (is 0) w t_v t.2.1/\Sl gq (is 0) w t_v1 t.2.2/\Bx gq (is 1) w b3 [vi t.1,t_v,t_v1]/\bN gq 3 w v24 Oj_c3/\Ow gq (is 4) (is 4) w v25 (List.replicate (Int.toNat (t.1+2)) (0:Int))/\Ow gq (is 5) (is 5) w v26 (List.replicate (Int.toNat (t.1+2)) (0:Int))/\Ow gq (is 6) (is 6) w v27 (List.replicate (Int.toNat (t.1+2)) (0:Int))/\Bx gq (is 7) w b30 [Wj_c3_v,v24,v25,v26,v27,vi t.1,vi (t.1+1),vi ak_c1,vi 0]/\Ow gq (is 11) (is 11) w Wj_c3_v Wj_c3/\((Wj_c3,Oj_c3)=de (W2_c1,O2_c1) t.1 (j_c1:Int) (gI t.2.2 ↑j_c1) 0)) (aU (vals:=[vp b30 0,vi t.1,vi ↑j_c1,vi (gI t.2.2 ↑j_c1),vi 0]) Try.func29 iB iQ rfl) ?_ ?_
     ·
      refine aC Try.func29 rfl nq ?_
      have hrs_c3:=cS (O:=O2_c1) (a:=t.1) (b:=(j_c1:Int)) (x:=(W2_c1.length:Int)) (by omega) (by omega) (by omega)
      have hrt_c3:=hrs_c3
      try simp only[Int.toNat_natCast] at hrt_c3
      refine a9 ?_
      refine bS (σ:=aG) (λgq f w=>b9 w0 gq w/\f 0=vp b30 0/\f 1=vi t.1/\f 2=vi ↑j_c1/\f 3=vi (gI t.2.2 ↑j_c1)/\f 4=vi 0/\Sl gq (is 0) w t_v t.2.1/\Sl gq (is 0) w t_v1 t.2.2/\Bx gq (is 1) w b3 [vi t.1,t_v,t_v1]/\Ow gq (is 4) (is 4) w v25 (List.replicate (Int.toNat (t.1+2)) (0:Int))/\Ow gq (is 5) (is 5) w v26 (List.replicate (Int.toNat (t.1+2)) (0:Int))/\Ow gq (is 6) (is 6) w v27 (List.replicate (Int.toNat (t.1+2)) (0:Int))/\Bx gq (is 7) w b30 [W2_c1_v,v24,v25,v26,v27,vi t.1,vi (t.1+1),vi ak_c1,vi 0]/\Ow gq (is 11) (is 11) w W2_c1_v W2_c1/\bN gq 3 w v24 (List.set O2_c1 (Int.toNat t.1) (gI O2_c1 t.1++([(W2_c1.length:Int)]:List Int)))) g224 [0,1,2,4,5,6,7,8,9,10,11,12,13,14,15,16,19] dp ?_ ?_
      ·
       intro mid
       intro w226 ch225
       refine xp (v:=vp b30 0) 0 rfl (λw=>ah rfl) (xp (v:=vp b30 0) 1 rfl (λw=>ad rfl) (xp 2 rfl (λw=>a7 bB rfl rfl rfl rfl) (xp (v:=vi t.1) 4 rfl (λw=>ah rfl) (xp (v:=vp b30 0) 5 rfl (λw=>ah rfl) (xp (v:=vp b30 0) 6 rfl (λw=>ad rfl) (xp 7 rfl (λw=>a7 bB rfl rfl rfl rfl) ?_))))))
       replace bx32:=bx32.cn ch225
       refine xh 8 [7,6,5,4,2,1,0,3,9,12,13,14,15,16,17] rfl (λw' hw'=>a8 bv rfl (bx32.bel hw') rfl) (xp (v:=vi t.1) 9 rfl (λw=>ah rfl) ?_)
       replace o20:=o20.cn ch225
       refine xh 10 [9,8,7,6,5,4,2,1,0,3,12,13,14,15,16,17] rfl (λw' hw'=>aa (v:=v24) (i:=t.1) c5 rfl rfl (o20.sl.bel hw') rfl (by omega) (by omega)) ?_
       obtain⟨v227,cel228,r229⟩:=bC (r:=t.1) o20 (by omega) (by omega)
       refine xh 11 [10,9,8,7,6,5,4,2,1,0,3,12,13,14,15,16,17] rfl (λw' hw'=>bb ao rfl (bW cel228 hw')) (xp (v:=vp b30 0) 12 rfl (λw=>ah rfl) (xp (v:=vp b30 0) 13 rfl (λw=>ad rfl) (xp 14 rfl (λw=>a7 bB rfl rfl rfl rfl) (xh 15 [14,13,12,11,10,9,8,7,6,5,4,2,1,0,3] rfl (λw' hw'=>a8 aY rfl (bx32.bel hw') rfl) ?_))))
       replace o_W2_c1:=o_W2_c1.cn ch225
       have len230:=(o_W2_c1.flat).small
       refine xp 16 rfl (λw=>ba cZ rfl o_W2_c1.flat) ?_
       refine cq 3 17 rfl rfl (by kernel_rfl) rfl rfl ?_ ?_
       ·
        refine aV (v:=v24) (a8 bv rfl bx32 rfl) (aD 17 rfl (by kernel_rfl) rfl (aw (α:=Int) g224 (is 14) (is 14) (14,0) rfl ([(W2_c1.length:Int)]:List Int) aW ae (by decide) (by decide) (vs:=[(0,vi (W2_c1.length:Int))]) rfl rfl (.cons rfl .nil) ?_))
        intro g231 w232 v233 ch234 o235
        refine aD 18 rfl (by kernel_rfl) rfl ?_
        replace o20:=o20.cn ch234
        replace r229:=r229.cn ch234
        refine aA (α:=Int) (xs:=(gI O2_c1 t.1)) (ys:=([(W2_c1.length:Int)]:List Int)) g231 (J:=row 3 (Int.toNat t.1+1)) (S:=row 3 (Int.toNat t.1+1)) (3,Int.toNat t.1+1) rfl aW ae (by decide) rfl rfl rfl r229 o235.flat (by decide) (by(simp;omega)) ?_
        intro g236 w237 v238 ch239 o240
        have o241:=o20.rowchg ch239
        clear o20 cel228 r229
        obtain⟨us242,hl243,r244⟩:=o241.vc
        try simp only[List.length_set,List.length_append,List.length_cons,List.length_nil] at hl243
        refine xv 19 [18,17,3,16,15,14,13,12,11,10,9,8,7,6,5,4,2,1,0] rfl (aa (v:=v24) (i:=t.1) c5 rfl rfl r244 rfl (by omega) (by omega)) (aD 20 rfl (by kernel_rfl) rfl (aJ (r:=t.1) ao rfl rfl o241 o240 (by omega) (by omega) ?_))
        intro w248 ch249 o250
        clear o241 o240
        refine bc (by kernel_rfl) ?_
        have C252:=cg [3] (ch234.n.seq ((ch239.lr rfl).seq (ch249.l rfl)))
        have C251:=ch225.n.seq C252
        exact mid (g236) _ _ ⟨bH.ca C251,rfl,rfl,rfl,rfl,rfl,Rt.ca C251,r_t_v1.ca C251,bx5.ca C251,o21.ca C251,o22.ca C251,o23.ca C251,bx32.ca C252,o_W2_c1.ca C252,o250⟩
       ·
        refine aw (α:=Int) g224 (is 14) (is 14) (14,0) rfl ([(W2_c1.length:Int)]:List Int) aW ae (by decide) (by decide) (vs:=[(0,vi (W2_c1.length:Int))]) rfl rfl (.cons rfl .nil) ?_
        intro g253 w254 v255 ch256 o257
        refine cq 3 18 rfl rfl (by kernel_rfl) rfl rfl ?_ ?_
        ·
         replace bx32:=bx32.cn ch256
         refine aV (v:=v24) (a8 bv rfl bx32 rfl) (aD 18 rfl (by kernel_rfl) rfl ?_)
         replace o20:=o20.cn ch256
         replace r229:=r229.cn ch256
         refine aA (α:=Int) (xs:=(gI O2_c1 t.1)) (ys:=([(W2_c1.length:Int)]:List Int)) g253 (J:=row 3 (Int.toNat t.1+1)) (S:=row 3 (Int.toNat t.1+1)) (3,Int.toNat t.1+1) rfl aW ae (by decide) rfl rfl rfl r229 o257.flat (by decide) (by(simp;omega)) ?_
         intro g258 w259 v260 ch261 o262
         have o263:=o20.rowchg ch261
         clear o20 cel228 r229
         obtain⟨us264,hl265,r266⟩:=o263.vc
         try simp only[List.length_set,List.length_append,List.length_cons,List.length_nil] at hl265
         refine xv 19 [18,3,17,16,15,14,13,12,11,10,9,8,7,6,5,4,2,1,0] rfl (aa (v:=v24) (i:=t.1) c5 rfl rfl r266 rfl (by omega) (by omega)) (aD 20 rfl (by kernel_rfl) rfl (aJ (r:=t.1) ao rfl rfl o263 o262 (by omega) (by omega) ?_))
         intro w270 ch271 o272
         clear o263 o262
         refine bc (by kernel_rfl) ?_
         have C274:=cg [3] (ch256.n.seq ((ch261.lr rfl).seq (ch271.l rfl)))
         have C273:=ch225.n.seq C274
         exact mid (g258) _ _ ⟨bH.ca C273,rfl,rfl,rfl,rfl,rfl,Rt.ca C273,r_t_v1.ca C273,bx5.ca C273,o21.ca C273,o22.ca C273,o23.ca C273,(bx32.chg ch261 (br rfl)).ce ch271,o_W2_c1.ca C274,o272⟩
        ·
         replace o20:=o20.cn ch256
         replace r229:=r229.cn ch256
         refine aA (α:=Int) (xs:=(gI O2_c1 t.1)) (ys:=([(W2_c1.length:Int)]:List Int)) g253 (J:=row 3 (Int.toNat t.1+1)) (S:=row 3 (Int.toNat t.1+1)) (3,Int.toNat t.1+1) rfl aW ae (by decide) rfl rfl rfl r229 o257.flat (by decide) (by(simp;omega)) ?_
         intro g275 w276 v277 ch278 o279
         have o280:=o20.rowchg ch278
         clear o20 cel228 r229
         replace bx32:=(bx32.cn ch256).chg ch278 (br rfl)
         refine aD 3 rfl (by kernel_rfl) rfl (aV (v:=v24) (a8 bv rfl bx32 rfl) ?_)
         obtain⟨us281,hl282,r283⟩:=o280.vc
         try simp only[List.length_set,List.length_append,List.length_cons,List.length_nil] at hl282
         refine xv 19 [3,18,17,16,15,14,13,12,11,10,9,8,7,6,5,4,2,1,0] rfl (aa (v:=v24) (i:=t.1) c5 rfl rfl r283 rfl (by omega) (by omega)) (aD 20 rfl (by kernel_rfl) rfl (aJ (r:=t.1) ao rfl rfl o280 o279 (by omega) (by omega) ?_))
         intro w287 ch288 o289
         clear o280 o279
         refine bc (by kernel_rfl) ?_
         have C291:=cg [3] (ch256.n.seq ((ch278.lr rfl).seq (ch288.l rfl)))
         have C290:=ch225.n.seq C291
         exact mid (g275) _ _ ⟨bH.ca C290,rfl,rfl,rfl,rfl,rfl,Rt.ca C290,r_t_v1.ca C290,bx5.ca C290,o21.ca C290,o22.ca C290,o23.ca C290,bx32.ce ch288,o_W2_c1.ca C291,o289⟩
      clear Rt r_t_v1 bx5 o20 o21 o22 o23 bx32 o_W2_c1 bH
      rintro g294 f292 w293 ⟨bH,zs0_c3,zs1_c3,zs2_c3,zs3_c3,zs4_c3,Rt,r_t_v1,bx5,o21,o22,o23,bx32,o_W2_c1,o248⟩
      refine a9 (a6 rfl (mz zs0_c3 (mz zs0_c3 (lw (vp b30 0) (ad rfl) (lx (a7 bB rfl rfl rfl rfl) (lx (a8 aY rfl bx32 rfl) (mz zs2_c3 (mz zs3_c3 (mz zs4_c3 (lw (vg [vi ↑j_c1,vi (gI t.2.2 ↑j_c1),vi 0]) (bp (vs:=[(0,vi ↑j_c1),(1,vi (gI t.2.2 ↑j_c1)),(2,vi 0)]) rfl (by kernel_rfl)) ?_))))))))))
      refine lo (aw (α:=bq) g294 (is 15) (is 15) (15,0) rfl ([((j_c1:Int),(gI t.2.2 ↑j_c1),0)]:List bq) cZ cM (by decide) (by decide) (vs:=[(0,vg [vi ↑j_c1,vi (gI t.2.2 ↑j_c1),vi 0])]) rfl rfl (.cons rfl .nil) ?_)
      intro g295 w296 v297 ch298 o299
      refine lo ?_
      replace o_W2_c1:=o_W2_c1.cn ch298
      refine aA (α:=bq) (xs:=W2_c1) (ys:=([((j_c1:Int),(gI t.2.2 ↑j_c1),0)]:List bq)) g295 (J:=is 11) (S:=is 11) (11,0) rfl cZ cM (by decide) rfl rfl rfl o_W2_c1 o299.flat (by decide) (by(simp;omega)) ?_
      intro g300 w301 v302 ch303 o304
      clear o_W2_c1
      refine lw (vp b30 0) (ad rfl) (lx (a7 bB rfl rfl rfl rfl) (lo ?_))
      replace bx32:=(bx32.cn ch298).ce ch303
      refine bj (cs':=[v302,v24,v25,v26,v27,vi t.1,vi (t.1+1),vi ak_c1,vi 0]) aY rfl rfl bx32 (bf o304.flat) nq (aZ o304.flat) rfl ?_
      intro w305 ch306 bx307
      clear bx32
      refine af (a9 ?_)
      clear o299
      refine bS (σ:=aG) (λgq f w=>b9 w0 gq w/\f 0=vp b30 0/\f 1=vi t.1/\f 4=vi 0/\Sl gq (is 0) w t_v t.2.1/\Sl gq (is 0) w t_v1 t.2.2/\Bx gq (is 1) w b3 [vi t.1,t_v,t_v1]/\Ow gq (is 4) (is 4) w v25 (List.replicate (Int.toNat (t.1+2)) (0:Int))/\Ow gq (is 5) (is 5) w v26 (List.replicate (Int.toNat (t.1+2)) (0:Int))/\Ow gq (is 6) (is 6) w v27 (List.replicate (Int.toNat (t.1+2)) (0:Int))/\Ow gq (is 11) (is 11) w v302 (W2_c1++([((j_c1:Int),(gI t.2.2 ↑j_c1),0)]:List bq))/\Bx gq (is 7) w b30 [v302,v24,v25,v26,v27,vi t.1,vi (t.1+1),vi ak_c1,vi 0]/\bN gq 3 w v24 (List.set (List.set O2_c1 (Int.toNat t.1) (gI O2_c1 t.1++([(W2_c1.length:Int)]:List Int))) (Int.toNat ↑j_c1) (gI (List.set O2_c1 (Int.toNat t.1) (gI O2_c1 t.1++([(W2_c1.length:Int)]:List Int))) (j_c1:Int)++([(List.length (W2_c1++([((j_c1:Int),(gI t.2.2 ↑j_c1),0)]:List bq)):Int)]:List Int)))) g300 [0,1,2,4,5,6,7,8,9,10,11,12,13,14,15,16,19] dp ?_ ?_
      ·
       intro mid
       intro w309 ch308
       refine xp (v:=vp b30 0) 0 rfl (λw=>ah zs0_c3) (xp (v:=vp b30 0) 1 rfl (λw=>ad rfl) (xp 2 rfl (λw=>a7 bB rfl rfl rfl rfl) (xp (v:=vi ↑j_c1) 4 rfl (λw=>ah zs2_c3) (xp (v:=vp b30 0) 5 rfl (λw=>ah zs0_c3) (xp (v:=vp b30 0) 6 rfl (λw=>ad rfl) (xp 7 rfl (λw=>a7 bB rfl rfl rfl rfl) ?_))))))
       replace bx307:=bx307.cn ch308
       refine xh 8 [7,6,5,4,2,1,0,3,9,12,13,14,15,16,17] rfl (λw' hw'=>a8 bv rfl (bx307.bel hw') rfl) (xp (v:=vi ↑j_c1) 9 rfl (λw=>ah zs2_c3) ?_)
       have C310:=cg [7,11] (ch298.n.seq ((ch303.l rfl).seq ((ch306.l rfl).seq ch308.n)))
       replace o248:=o248.ca C310
       refine xh 10 [9,8,7,6,5,4,2,1,0,3,12,13,14,15,16,17] rfl (λw' hw'=>aa (v:=v24) (i:=↑j_c1) c5 rfl rfl (o248.sl.bel hw') rfl (by omega) (by(simp only[List.length_set,List.length_append,List.length_cons,List.length_nil,List.length_replicate,List.length_map,List.length_take,List.length_drop];omega))) ?_
       obtain⟨v311,cel312,r313⟩:=bC (r:=(j_c1:Int)) o248 (by omega) (by(simp only[List.length_set,List.length_append,List.length_cons,List.length_nil,List.length_replicate,List.length_map,List.length_take,List.length_drop];omega))
       refine xh 11 [10,9,8,7,6,5,4,2,1,0,3,12,13,14,15,16,17] rfl (λw' hw'=>bb ao rfl (bW cel312 hw')) (xp (v:=vp b30 0) 12 rfl (λw=>ah zs0_c3) (xp (v:=vp b30 0) 13 rfl (λw=>ad rfl) (xp 14 rfl (λw=>a7 bB rfl rfl rfl rfl) (xh 15 [14,13,12,11,10,9,8,7,6,5,4,2,1,0,3] rfl (λw' hw'=>a8 aY rfl (bx307.bel hw') rfl) ?_))))
       replace o304:=(o304.ce ch306).cn ch308
       have len314:=(o304.flat).small
       refine xp 16 rfl (λw=>ba cZ rfl o304.flat) ?_
       refine cq 3 17 rfl rfl (by kernel_rfl) rfl rfl ?_ ?_
       ·
        refine aV (v:=v24) (a8 bv rfl bx307 rfl) (aD 17 rfl (by kernel_rfl) rfl (aw (α:=Int) g300 (is 16) (is 16) (16,0) rfl ([(List.length (W2_c1++([((j_c1:Int),(gI t.2.2 ↑j_c1),0)]:List bq)):Int)]:List Int) aW ae (by decide) (by decide) (vs:=[(0,vi (List.length (W2_c1++([((j_c1:Int),(gI t.2.2 ↑j_c1),0)]:List bq)):Int))]) rfl rfl (.cons rfl .nil) ?_))
        intro g315 w316 v317 ch318 o319
        refine aD 18 rfl (by kernel_rfl) rfl ?_
        replace o248:=o248.cn ch318
        replace r313:=r313.cn ch318
        refine aA (α:=Int) (xs:=(gI (List.set O2_c1 (Int.toNat t.1) (gI O2_c1 t.1++([(W2_c1.length:Int)]:List Int))) (j_c1:Int))) (ys:=([(List.length (W2_c1++([((j_c1:Int),(gI t.2.2 ↑j_c1),0)]:List bq)):Int)]:List Int)) g315 (J:=row 3 (Int.toNat ↑j_c1+1)) (S:=row 3 (Int.toNat ↑j_c1+1)) (3,Int.toNat ↑j_c1+1) rfl aW ae (by decide) rfl rfl rfl r313 o319.flat (by decide) (by(simp;omega)) ?_
        intro g320 w321 v322 ch323 o324
        have o325:=o248.rowchg ch323
        clear o248 cel312 r313
        obtain⟨us326,hl327,r328⟩:=o325.vc
        try simp only[List.length_set,List.length_append,List.length_cons,List.length_nil] at hl327
        refine xv 19 [18,17,3,16,15,14,13,12,11,10,9,8,7,6,5,4,2,1,0] rfl (aa (v:=v24) (i:=↑j_c1) c5 rfl rfl r328 rfl (by omega) (by omega)) (aD 20 rfl (by kernel_rfl) rfl (aJ (r:=(j_c1:Int)) ao rfl rfl o325 o324 (by omega) (by(simp only[List.length_set,List.length_append,List.length_cons,List.length_nil,List.length_replicate,List.length_map,List.length_take,List.length_drop];omega)) ?_))
        intro w332 ch333 o334
        clear o325 o324
        refine bc (by kernel_rfl) ?_
        have C335:=cg [3,7,11] (ch298.n.seq ((ch303.l rfl).seq ((ch306.l rfl).seq (ch308.n.seq (ch318.n.seq ((ch323.lr rfl).seq (ch333.l rfl)))))))
        have C336:=cg [3] (ch318.n.seq ((ch323.lr rfl).seq (ch333.l rfl)))
        exact mid (g320) _ _ ⟨bH.ca C335,zs0_c3,zs1_c3,zs4_c3,Rt.ca C335,r_t_v1.ca C335,bx5.ca C335,o21.ca C335,o22.ca C335,o23.ca C335,o304.ca C336,bx307.ca C336,o334⟩
       ·
        refine aw (α:=Int) g300 (is 16) (is 16) (16,0) rfl ([(List.length (W2_c1++([((j_c1:Int),(gI t.2.2 ↑j_c1),0)]:List bq)):Int)]:List Int) aW ae (by decide) (by decide) (vs:=[(0,vi (List.length (W2_c1++([((j_c1:Int),(gI t.2.2 ↑j_c1),0)]:List bq)):Int))]) rfl rfl (.cons rfl .nil) ?_
        intro g337 w338 v339 ch340 o341
        refine cq 3 18 rfl rfl (by kernel_rfl) rfl rfl ?_ ?_
        ·
         replace bx307:=bx307.cn ch340
         refine aV (v:=v24) (a8 bv rfl bx307 rfl) (aD 18 rfl (by kernel_rfl) rfl ?_)
         replace o248:=o248.cn ch340
         replace r313:=r313.cn ch340
         refine aA (α:=Int) (xs:=(gI (List.set O2_c1 (Int.toNat t.1) (gI O2_c1 t.1++([(W2_c1.length:Int)]:List Int))) (j_c1:Int))) (ys:=([(List.length (W2_c1++([((j_c1:Int),(gI t.2.2 ↑j_c1),0)]:List bq)):Int)]:List Int)) g337 (J:=row 3 (Int.toNat ↑j_c1+1)) (S:=row 3 (Int.toNat ↑j_c1+1)) (3,Int.toNat ↑j_c1+1) rfl aW ae (by decide) rfl rfl rfl r313 o341.flat (by decide) (by(simp;omega)) ?_
         intro g342 w343 v344 ch345 o346
         have o347:=o248.rowchg ch345
         clear o248 cel312 r313
         obtain⟨us348,hl349,r350⟩:=o347.vc
         try simp only[List.length_set,List.length_append,List.length_cons,List.length_nil] at hl349
         refine xv 19 [18,3,17,16,15,14,13,12,11,10,9,8,7,6,5,4,2,1,0] rfl (aa (v:=v24) (i:=↑j_c1) c5 rfl rfl r350 rfl (by omega) (by omega)) (aD 20 rfl (by kernel_rfl) rfl (aJ (r:=(j_c1:Int)) ao rfl rfl o347 o346 (by omega) (by(simp only[List.length_set,List.length_append,List.length_cons,List.length_nil,List.length_replicate,List.length_map,List.length_take,List.length_drop];omega)) ?_))
         intro w354 ch355 o356
         clear o347 o346
         refine bc (by kernel_rfl) ?_
         have C357:=cg [3,7,11] (ch298.n.seq ((ch303.l rfl).seq ((ch306.l rfl).seq (ch308.n.seq (ch340.n.seq ((ch345.lr rfl).seq (ch355.l rfl)))))))
         have C358:=cg [3] (ch340.n.seq ((ch345.lr rfl).seq (ch355.l rfl)))
         exact mid (g342) _ _ ⟨bH.ca C357,zs0_c3,zs1_c3,zs4_c3,Rt.ca C357,r_t_v1.ca C357,bx5.ca C357,o21.ca C357,o22.ca C357,o23.ca C357,o304.ca C358,(bx307.chg ch345 (br rfl)).ce ch355,o356⟩
        ·
         replace o248:=o248.cn ch340
         replace r313:=r313.cn ch340
         refine aA (α:=Int) (xs:=(gI (List.set O2_c1 (Int.toNat t.1) (gI O2_c1 t.1++([(W2_c1.length:Int)]:List Int))) (j_c1:Int))) (ys:=([(List.length (W2_c1++([((j_c1:Int),(gI t.2.2 ↑j_c1),0)]:List bq)):Int)]:List Int)) g337 (J:=row 3 (Int.toNat ↑j_c1+1)) (S:=row 3 (Int.toNat ↑j_c1+1)) (3,Int.toNat ↑j_c1+1) rfl aW ae (by decide) rfl rfl rfl r313 o341.flat (by decide) (by(simp;omega)) ?_
         intro g359 w360 v361 ch362 o363
         have o364:=o248.rowchg ch362
         clear o248 cel312 r313
         replace bx307:=(bx307.cn ch340).chg ch362 (br rfl)
         refine aD 3 rfl (by kernel_rfl) rfl (aV (v:=v24) (a8 bv rfl bx307 rfl) ?_)
         obtain⟨us365,hl366,r367⟩:=o364.vc
         try simp only[List.length_set,List.length_append,List.length_cons,List.length_nil] at hl366
         refine xv 19 [3,18,17,16,15,14,13,12,11,10,9,8,7,6,5,4,2,1,0] rfl (aa (v:=v24) (i:=↑j_c1) c5 rfl rfl r367 rfl (by omega) (by omega)) (aD 20 rfl (by kernel_rfl) rfl (aJ (r:=(j_c1:Int)) ao rfl rfl o364 o363 (by omega) (by(simp only[List.length_set,List.length_append,List.length_cons,List.length_nil,List.length_replicate,List.length_map,List.length_take,List.length_drop];omega)) ?_))
         intro w371 ch372 o373
         clear o364 o363
         refine bc (by kernel_rfl) ?_
         have C374:=cg [3,7,11] (ch298.n.seq ((ch303.l rfl).seq ((ch306.l rfl).seq (ch308.n.seq (ch340.n.seq ((ch362.lr rfl).seq (ch372.l rfl)))))))
         have C375:=cg [3] (ch340.n.seq ((ch362.lr rfl).seq (ch372.l rfl)))
         exact mid (g359) _ _ ⟨bH.ca C374,zs0_c3,zs1_c3,zs4_c3,Rt.ca C374,r_t_v1.ca C374,bx5.ca C374,o21.ca C374,o22.ca C374,o23.ca C374,o304.ca C375,bx307.ce ch372,o373⟩
      clear Rt r_t_v1 bx5 o21 o22 o23 o248 o304 bx307 bH
      rintro g378 f376 w377 ⟨bH,zs0_c3,zs1_c3,zs4_c3,Rt,r_t_v1,bx5,o21,o22,o23,o304,bx307,o332⟩
      refine a6 rfl (mz zs0_c3 (mz zs0_c3 (lw (vp b30 0) (ad rfl) (lx (a7 bB rfl rfl rfl rfl) (lx (a8 aY rfl bx307 rfl) (mz zs1_c3 (mz zs4_c3 (lw (vi (-0)) (fc (m:=0) rfl (by omega)) (lw (vg [vi t.1,vi 0,vi (-0)]) (bp (vs:=[(0,vi t.1),(1,vi 0),(2,vi (-0))]) rfl (by kernel_rfl)) ?_)))))))))
      refine lo (aw (α:=bq) g378 (is 17) (is 17) (17,0) rfl ([(t.1,0,-0)]:List bq) cZ cM (by decide) (by decide) (vs:=[(0,vg [vi t.1,vi 0,vi (-0)])]) rfl rfl (.cons rfl .nil) ?_)
      intro g379 w380 v381 ch382 o383
      refine lo ?_
      replace o304:=o304.cn ch382
      refine aA (α:=bq) (xs:=(W2_c1++([((j_c1:Int),(gI t.2.2 ↑j_c1),0)]:List bq))) (ys:=([(t.1,0,-0)]:List bq)) g379 (J:=is 11) (S:=is 11) (11,0) rfl cZ cM (by decide) rfl rfl rfl o304 o383.flat (by decide) (by(simp;omega)) ?_
      intro g384 w385 v386 ch387 o388
      clear o304
      refine lw (vp b30 0) (ad rfl) (lx (a7 bB rfl rfl rfl rfl) (lo ?_))
      replace bx307:=(bx307.cn ch382).ce ch387
      refine bj (cs':=[v386,v24,v25,v26,v27,vi t.1,vi (t.1+1),vi ak_c1,vi 0]) aY rfl rfl bx307 (bf o388.flat) nq (aZ o388.flat) rfl ?_
      intro w389 ch390 bx391
      clear bx307
      refine af (bU (vs:=[]) Try.func29 .nil ?_)
      have C392:=cg [7,11] (ch382.n.seq ((ch387.l rfl).seq (ch390.l rfl)))
      replace bH:=bH.ca C392
      replace Rt:=Rt.ca C392
      replace r_t_v1:=r_t_v1.ca C392
      replace bx5:=bx5.ca C392
      replace o332:=o332.ca C392
      replace o21:=o21.ca C392
      replace o22:=o22.ca C392
      replace o23:=o23.ca C392
      replace o388:=o388.ce ch390
      refine⟨(v386,((W2_c1++([((j_c1:Int),(gI t.2.2 ↑j_c1),0)]:List bq))++([(t.1,0,-0)]:List bq)),(List.set (List.set O2_c1 (Int.toNat t.1) (gI O2_c1 t.1++([(W2_c1.length:Int)]:List Int))) (Int.toNat ↑j_c1) (gI (List.set O2_c1 (Int.toNat t.1) (gI O2_c1 t.1++([(W2_c1.length:Int)]:List Int))) (j_c1:Int)++([(List.length (W2_c1++([((j_c1:Int),(gI t.2.2 ↑j_c1),0)]:List bq)):Int)]:List Int))),g384),rfl,bH,Rt,r_t_v1,bx5,o332,o21,o22,o23,bx391,o388,?_⟩
      show(((W2_c1++([((j_c1:Int),(gI t.2.2 ↑j_c1),0)]:List bq))++([(t.1,0,-0)]:List bq)),(List.set (List.set O2_c1 (Int.toNat t.1) (gI O2_c1 t.1++([(W2_c1.length:Int)]:List Int))) (Int.toNat ↑j_c1) (gI (List.set O2_c1 (Int.toNat t.1) (gI O2_c1 t.1++([(W2_c1.length:Int)]:List Int))) (j_c1:Int)++([(List.length (W2_c1++([((j_c1:Int),(gI t.2.2 ↑j_c1),0)]:List bq)):Int)]:List Int))))=de (W2_c1,O2_c1) t.1 (j_c1:Int) (gI t.2.2 ↑j_c1) 0
      (unfold de;simp)
     clear Rt r_t_v1 bx5 o20 o21 o22 o23 bx32 o_W2_c1 bH
     rintro⟨Wj_c3_v,Wj_c3,Oj_c3,g394⟩ w393 ⟨bH,Rt,r_t_v1,bx5,o20,o21,o22,o23,bx32,o_Wj_c3,hja_c3⟩
     have hjw_c3:Wj_c3.length=(W2_c1).length+2:=by have h:=congrArg (λz=>z.1.length) hja_c3;simpa[de] using h
     refine af (a6 rfl (mz zs4_c1 (lw (vp b30 0) (ad rfl) (lx (a7 bB rfl rfl rfl rfl) (lx (a8 ae rfl bx32 rfl) (mi (gI t.2.2 ↑j_c1) (lx (aP (m:=ak_c1) (n:=(gI t.2.2 ↑j_c1)) rfl rfl (by omega)) (lw (vp b30 0) (ad rfl) (lx (a7 bB rfl rfl rfl rfl) (lo ?_))))))))))
     refine aR (cs':=[Wj_c3_v,v24,v25,v26,v27,vi t.1,vi (t.1+1),vi (ak_c1+(gI t.2.2 ↑j_c1)),vi 0]) ae rfl rfl bx32 rfl nq (AllOne.all (.cons rfl .nil)) rfl ?_
     intro w395 ch396 bx397
     clear bx32
     refine af (a9 (a6 rfl (mi (gI t.2.2 ↑j_c1) (lx (bo (m:=(gI t.2.2 ↑j_c1)) (n:=0) rfl rfl) (af ?_)))))
     by_cases p14_c1:(gI t.2.2 ↑j_c1)<0
     ·
      refine aj rfl (dt p14_c1) (a6 rfl (mz zs4_c1 (mi ↑j_c1 (mz zs4_c1 (lw (vp b30 0) (ad rfl) (lx (a7 bB rfl rfl rfl rfl) (lx (a8 ae rfl bx397 rfl) (mi (gI t.2.2 ↑j_c1) (lw (vi (-(gI t.2.2 ↑j_c1))) (fc (m:=(gI t.2.2 ↑j_c1)) rfl (by omega)) ?_)))))))))
      refine lo ?_
      refine bF (σ:=Value×(List bq)×eZ×aG) (V:=λ⟨Wj_c4_v,Wj_c4,Oj_c4,gq⟩=>vt []) (S:=λ⟨Wj_c4_v,Wj_c4,Oj_c4,gq⟩ w=>b9 w0 gq w/\Sl gq (is 0) w t_v t.2.1/\Sl gq (is 0) w t_v1 t.2.2/\Bx gq (is 1) w b3 [vi t.1,t_v,t_v1]/\bN gq 3 w v24 Oj_c4/\Ow gq (is 4) (is 4) w v25 (List.replicate (Int.toNat (t.1+2)) (0:Int))/\Ow gq (is 5) (is 5) w v26 (List.replicate (Int.toNat (t.1+2)) (0:Int))/\Ow gq (is 6) (is 6) w v27 (List.replicate (Int.toNat (t.1+2)) (0:Int))/\Bx gq (is 7) w b30 [Wj_c4_v,v24,v25,v26,v27,vi t.1,vi (t.1+1),vi (ak_c1+(gI t.2.2 ↑j_c1)),vi 0]/\Ow gq (is 11) (is 11) w Wj_c4_v Wj_c4/\((Wj_c4,Oj_c4)=de (Wj_c3,Oj_c3) (j_c1:Int) (t.1+1) (-(gI t.2.2 ↑j_c1)) 0)) (aU (vals:=[vp b30 0,vi ↑j_c1,vi (t.1+1),vi (-(gI t.2.2 ↑j_c1)),vi 0]) Try.func29 iB iQ rfl) ?_ ?_
      ·
       refine aC Try.func29 rfl nq ?_
       replace o_Wj_c3:=o_Wj_c3.ce ch396
       replace o20:=o20.ce ch396
       replace o21:=o21.ce ch396
       replace o22:=o22.ce ch396
       replace o23:=o23.ce ch396
       have hrs_c4:=cS (O:=Oj_c3) (a:=(j_c1:Int)) (b:=(t.1+1)) (x:=(Wj_c3.length:Int)) (by omega) (by omega) (by omega)
       have hrt_c4:=hrs_c4
       try simp only[Int.toNat_natCast] at hrt_c4
       refine a9 ?_
       refine bS (σ:=aG) (λgq f w=>b9 w0 gq w/\f 0=vp b30 0/\f 1=vi ↑j_c1/\f 2=vi (t.1+1)/\f 3=vi (-(gI t.2.2 ↑j_c1))/\f 4=vi 0/\Sl gq (is 0) w t_v t.2.1/\Sl gq (is 0) w t_v1 t.2.2/\Bx gq (is 1) w b3 [vi t.1,t_v,t_v1]/\Ow gq (is 4) (is 4) w v25 (List.replicate (Int.toNat (t.1+2)) (0:Int))/\Ow gq (is 5) (is 5) w v26 (List.replicate (Int.toNat (t.1+2)) (0:Int))/\Ow gq (is 6) (is 6) w v27 (List.replicate (Int.toNat (t.1+2)) (0:Int))/\Ow gq (is 11) (is 11) w Wj_c3_v Wj_c3/\Bx gq (is 7) w b30 [Wj_c3_v,v24,v25,v26,v27,vi t.1,vi (t.1+1),vi (ak_c1+(gI t.2.2 ↑j_c1)),vi 0]/\bN gq 3 w v24 (List.set Oj_c3 (Int.toNat ↑j_c1) (gI Oj_c3 ↑j_c1++([(Wj_c3.length:Int)]:List Int)))) g394 [0,1,2,4,5,6,7,8,9,10,11,12,13,14,15,16,19] dp ?_ ?_
       ·
        intro mid
        intro w399 ch398
        refine xp (v:=vp b30 0) 0 rfl (λw=>ah rfl) (xp (v:=vp b30 0) 1 rfl (λw=>ad rfl) (xp 2 rfl (λw=>a7 bB rfl rfl rfl rfl) (xp (v:=vi ↑j_c1) 4 rfl (λw=>ah rfl) (xp (v:=vp b30 0) 5 rfl (λw=>ah rfl) (xp (v:=vp b30 0) 6 rfl (λw=>ad rfl) (xp 7 rfl (λw=>a7 bB rfl rfl rfl rfl) ?_))))))
        replace bx397:=bx397.cn ch398
        refine xh 8 [7,6,5,4,2,1,0,3,9,12,13,14,15,16,17] rfl (λw' hw'=>a8 bv rfl (bx397.bel hw') rfl) (xp (v:=vi ↑j_c1) 9 rfl (λw=>ah rfl) ?_)
        replace o20:=o20.cn ch398
        refine xh 10 [9,8,7,6,5,4,2,1,0,3,12,13,14,15,16,17] rfl (λw' hw'=>aa (v:=v24) (i:=↑j_c1) c5 rfl rfl (o20.sl.bel hw') rfl (by omega) (by omega)) ?_
        obtain⟨v400,cel401,r402⟩:=bC (r:=(j_c1:Int)) o20 (by omega) (by omega)
        refine xh 11 [10,9,8,7,6,5,4,2,1,0,3,12,13,14,15,16,17] rfl (λw' hw'=>bb ao rfl (bW cel401 hw')) (xp (v:=vp b30 0) 12 rfl (λw=>ah rfl) (xp (v:=vp b30 0) 13 rfl (λw=>ad rfl) (xp 14 rfl (λw=>a7 bB rfl rfl rfl rfl) (xh 15 [14,13,12,11,10,9,8,7,6,5,4,2,1,0,3] rfl (λw' hw'=>a8 aY rfl (bx397.bel hw') rfl) ?_))))
        replace o_Wj_c3:=o_Wj_c3.cn ch398
        have len403:=(o_Wj_c3.flat).small
        refine xp 16 rfl (λw=>ba cZ rfl o_Wj_c3.flat) ?_
        refine cq 3 17 rfl rfl (by kernel_rfl) rfl rfl ?_ ?_
        ·
         refine aV (v:=v24) (a8 bv rfl bx397 rfl) (aD 17 rfl (by kernel_rfl) rfl (aw (α:=Int) g394 (is 18) (is 18) (18,0) rfl ([(Wj_c3.length:Int)]:List Int) aW ae (by decide) (by decide) (vs:=[(0,vi (Wj_c3.length:Int))]) rfl rfl (.cons rfl .nil) ?_))
         intro g404 w405 v406 ch407 o408
         refine aD 18 rfl (by kernel_rfl) rfl ?_
         replace o20:=o20.cn ch407
         replace r402:=r402.cn ch407
         refine aA (α:=Int) (xs:=(gI Oj_c3 ↑j_c1)) (ys:=([(Wj_c3.length:Int)]:List Int)) g404 (J:=row 3 (Int.toNat ↑j_c1+1)) (S:=row 3 (Int.toNat ↑j_c1+1)) (3,Int.toNat ↑j_c1+1) rfl aW ae (by decide) rfl rfl rfl r402 o408.flat (by decide) (by omega) ?_
         intro g409 w410 v411 ch412 o413
         have o414:=o20.rowchg ch412
         clear o20 cel401 r402
         obtain⟨us415,hl416,r417⟩:=o414.vc
         try simp only[List.length_set,List.length_append,List.length_cons,List.length_nil] at hl416
         refine xv 19 [18,17,3,16,15,14,13,12,11,10,9,8,7,6,5,4,2,1,0] rfl (aa (v:=v24) (i:=↑j_c1) c5 rfl rfl r417 rfl (by omega) (by omega)) (aD 20 rfl (by kernel_rfl) rfl (aJ (r:=(j_c1:Int)) ao rfl rfl o414 o413 (by omega) (by omega) ?_))
         intro w421 ch422 o423
         clear o414 o413
         refine bc (by kernel_rfl) ?_
         have C424:=cg [3,7] ((ch396.l rfl).seq (ch398.n.seq (ch407.n.seq ((ch412.lr rfl).seq (ch422.l rfl)))))
         have C426:=cg [3] (ch407.n.seq ((ch412.lr rfl).seq (ch422.l rfl)))
         have C425:=ch398.n.seq C426
         exact mid (g409) _ _ ⟨bH.ca C424,rfl,rfl,rfl,rfl,rfl,Rt.ca C424,r_t_v1.ca C424,bx5.ca C424,o21.ca C425,o22.ca C425,o23.ca C425,o_Wj_c3.ca C426,bx397.ca C426,o423⟩
        ·
         refine aw (α:=Int) g394 (is 18) (is 18) (18,0) rfl ([(Wj_c3.length:Int)]:List Int) aW ae (by decide) (by decide) (vs:=[(0,vi (Wj_c3.length:Int))]) rfl rfl (.cons rfl .nil) ?_
         intro g427 w428 v429 ch430 o431
         refine cq 3 18 rfl rfl (by kernel_rfl) rfl rfl ?_ ?_
         ·
          replace bx397:=bx397.cn ch430
          refine aV (v:=v24) (a8 bv rfl bx397 rfl) (aD 18 rfl (by kernel_rfl) rfl ?_)
          replace o20:=o20.cn ch430
          replace r402:=r402.cn ch430
          refine aA (α:=Int) (xs:=(gI Oj_c3 ↑j_c1)) (ys:=([(Wj_c3.length:Int)]:List Int)) g427 (J:=row 3 (Int.toNat ↑j_c1+1)) (S:=row 3 (Int.toNat ↑j_c1+1)) (3,Int.toNat ↑j_c1+1) rfl aW ae (by decide) rfl rfl rfl r402 o431.flat (by decide) (by omega) ?_
          intro g432 w433 v434 ch435 o436
          have o437:=o20.rowchg ch435
          clear o20 cel401 r402
          obtain⟨us438,hl439,r440⟩:=o437.vc
          try simp only[List.length_set,List.length_append,List.length_cons,List.length_nil] at hl439
          refine xv 19 [18,3,17,16,15,14,13,12,11,10,9,8,7,6,5,4,2,1,0] rfl (aa (v:=v24) (i:=↑j_c1) c5 rfl rfl r440 rfl (by omega) (by omega)) (aD 20 rfl (by kernel_rfl) rfl (aJ (r:=(j_c1:Int)) ao rfl rfl o437 o436 (by omega) (by omega) ?_))
          intro w444 ch445 o446
          clear o437 o436
          refine bc (by kernel_rfl) ?_
          have C447:=cg [3,7] ((ch396.l rfl).seq (ch398.n.seq (ch430.n.seq ((ch435.lr rfl).seq (ch445.l rfl)))))
          have C449:=cg [3] (ch430.n.seq ((ch435.lr rfl).seq (ch445.l rfl)))
          have C448:=ch398.n.seq C449
          exact mid (g432) _ _ ⟨bH.ca C447,rfl,rfl,rfl,rfl,rfl,Rt.ca C447,r_t_v1.ca C447,bx5.ca C447,o21.ca C448,o22.ca C448,o23.ca C448,o_Wj_c3.ca C449,(bx397.chg ch435 (br rfl)).ce ch445,o446⟩
         ·
          replace o20:=o20.cn ch430
          replace r402:=r402.cn ch430
          refine aA (α:=Int) (xs:=(gI Oj_c3 ↑j_c1)) (ys:=([(Wj_c3.length:Int)]:List Int)) g427 (J:=row 3 (Int.toNat ↑j_c1+1)) (S:=row 3 (Int.toNat ↑j_c1+1)) (3,Int.toNat ↑j_c1+1) rfl aW ae (by decide) rfl rfl rfl r402 o431.flat (by decide) (by omega) ?_
          intro g450 w451 v452 ch453 o454
          have o455:=o20.rowchg ch453
          clear o20 cel401 r402
          replace bx397:=(bx397.cn ch430).chg ch453 (br rfl)
          refine aD 3 rfl (by kernel_rfl) rfl (aV (v:=v24) (a8 bv rfl bx397 rfl) ?_)
          obtain⟨us456,hl457,r458⟩:=o455.vc
          try simp only[List.length_set,List.length_append,List.length_cons,List.length_nil] at hl457
          refine xv 19 [3,18,17,16,15,14,13,12,11,10,9,8,7,6,5,4,2,1,0] rfl (aa (v:=v24) (i:=↑j_c1) c5 rfl rfl r458 rfl (by omega) (by omega)) (aD 20 rfl (by kernel_rfl) rfl (aJ (r:=(j_c1:Int)) ao rfl rfl o455 o454 (by omega) (by omega) ?_))
          intro w462 ch463 o464
          clear o455 o454
          refine bc (by kernel_rfl) ?_
          have C465:=cg [3,7] ((ch396.l rfl).seq (ch398.n.seq (ch430.n.seq ((ch453.lr rfl).seq (ch463.l rfl)))))
          have C467:=cg [3] (ch430.n.seq ((ch453.lr rfl).seq (ch463.l rfl)))
          have C466:=ch398.n.seq C467
          exact mid (g450) _ _ ⟨bH.ca C465,rfl,rfl,rfl,rfl,rfl,Rt.ca C465,r_t_v1.ca C465,bx5.ca C465,o21.ca C466,o22.ca C466,o23.ca C466,o_Wj_c3.ca C467,bx397.ce ch463,o464⟩
       clear Rt r_t_v1 bx5 o20 o21 o22 o23 o_Wj_c3 bx397 bH
       rintro g470 f468 w469 ⟨bH,zs0_c4,zs1_c4,zs2_c4,zs3_c4,zs4_c4,Rt,r_t_v1,bx5,o21,o22,o23,o_Wj_c3,bx397,o421⟩
       refine a9 (a6 rfl (mz zs0_c4 (mz zs0_c4 (lw (vp b30 0) (ad rfl) (lx (a7 bB rfl rfl rfl rfl) (lx (a8 aY rfl bx397 rfl) (mz zs2_c4 (mz zs3_c4 (mz zs4_c4 (lw (vg [vi (t.1+1),vi (-(gI t.2.2 ↑j_c1)),vi 0]) (bp (vs:=[(0,vi (t.1+1)),(1,vi (-(gI t.2.2 ↑j_c1))),(2,vi 0)]) rfl (by kernel_rfl)) ?_))))))))))
       refine lo (aw (α:=bq) g470 (is 19) (is 19) (19,0) rfl ([(t.1+1,-(gI t.2.2 ↑j_c1),0)]:List bq) cZ cM (by decide) (by decide) (vs:=[(0,vg [vi (t.1+1),vi (-(gI t.2.2 ↑j_c1)),vi 0])]) rfl rfl (.cons rfl .nil) ?_)
       intro g471 w472 v473 ch474 o475
       refine lo ?_
       replace o_Wj_c3:=o_Wj_c3.cn ch474
       refine aA (α:=bq) (xs:=Wj_c3) (ys:=([(t.1+1,-(gI t.2.2 ↑j_c1),0)]:List bq)) g471 (J:=is 11) (S:=is 11) (11,0) rfl cZ cM (by decide) rfl rfl rfl o_Wj_c3 o475.flat (by decide) (by omega) ?_
       intro g476 w477 v478 ch479 o480
       clear o_Wj_c3
       refine lw (vp b30 0) (ad rfl) (lx (a7 bB rfl rfl rfl rfl) (lo ?_))
       replace bx397:=(bx397.cn ch474).ce ch479
       refine bj (cs':=[v478,v24,v25,v26,v27,vi t.1,vi (t.1+1),vi (ak_c1+(gI t.2.2 ↑j_c1)),vi 0]) aY rfl rfl bx397 (bf o480.flat) nq (aZ o480.flat) rfl ?_
       intro w481 ch482 bx483
       clear bx397
       refine af (a9 ?_)
       clear o475
       refine bS (σ:=aG) (λgq f w=>b9 w0 gq w/\f 0=vp b30 0/\f 1=vi ↑j_c1/\f 4=vi 0/\Sl gq (is 0) w t_v t.2.1/\Sl gq (is 0) w t_v1 t.2.2/\Bx gq (is 1) w b3 [vi t.1,t_v,t_v1]/\Ow gq (is 4) (is 4) w v25 (List.replicate (Int.toNat (t.1+2)) (0:Int))/\Ow gq (is 5) (is 5) w v26 (List.replicate (Int.toNat (t.1+2)) (0:Int))/\Ow gq (is 6) (is 6) w v27 (List.replicate (Int.toNat (t.1+2)) (0:Int))/\Ow gq (is 11) (is 11) w v478 (Wj_c3++([(t.1+1,-(gI t.2.2 ↑j_c1),0)]:List bq))/\Bx gq (is 7) w b30 [v478,v24,v25,v26,v27,vi t.1,vi (t.1+1),vi (ak_c1+(gI t.2.2 ↑j_c1)),vi 0]/\bN gq 3 w v24 (List.set (List.set Oj_c3 (Int.toNat ↑j_c1) (gI Oj_c3 ↑j_c1++([(Wj_c3.length:Int)]:List Int))) (Int.toNat (t.1+1)) (gI (List.set Oj_c3 (Int.toNat ↑j_c1) (gI Oj_c3 ↑j_c1++([(Wj_c3.length:Int)]:List Int))) (t.1+1)++([(List.length (Wj_c3++([(t.1+1,-(gI t.2.2 ↑j_c1),0)]:List bq)):Int)]:List Int)))) g476 [0,1,2,4,5,6,7,8,9,10,11,12,13,14,15,16,19] dp ?_ ?_
       ·
        intro mid
        intro w485 ch484
        refine xp (v:=vp b30 0) 0 rfl (λw=>ah zs0_c4) (xp (v:=vp b30 0) 1 rfl (λw=>ad rfl) (xp 2 rfl (λw=>a7 bB rfl rfl rfl rfl) (xp (v:=vi (t.1+1)) 4 rfl (λw=>ah zs2_c4) (xp (v:=vp b30 0) 5 rfl (λw=>ah zs0_c4) (xp (v:=vp b30 0) 6 rfl (λw=>ad rfl) (xp 7 rfl (λw=>a7 bB rfl rfl rfl rfl) ?_))))))
        replace bx483:=bx483.cn ch484
        refine xh 8 [7,6,5,4,2,1,0,3,9,12,13,14,15,16,17] rfl (λw' hw'=>a8 bv rfl (bx483.bel hw') rfl) (xp (v:=vi (t.1+1)) 9 rfl (λw=>ah zs2_c4) ?_)
        have C486:=cg [7,11] (ch474.n.seq ((ch479.l rfl).seq ((ch482.l rfl).seq ch484.n)))
        replace o421:=o421.ca C486
        refine xh 10 [9,8,7,6,5,4,2,1,0,3,12,13,14,15,16,17] rfl (λw' hw'=>aa (v:=v24) (i:=t.1+1) c5 rfl rfl (o421.sl.bel hw') rfl (by omega) (by omega)) ?_
        obtain⟨v487,cel488,r489⟩:=bC (r:=t.1+1) o421 (by omega) (by omega)
        refine xh 11 [10,9,8,7,6,5,4,2,1,0,3,12,13,14,15,16,17] rfl (λw' hw'=>bb ao rfl (bW cel488 hw')) (xp (v:=vp b30 0) 12 rfl (λw=>ah zs0_c4) (xp (v:=vp b30 0) 13 rfl (λw=>ad rfl) (xp 14 rfl (λw=>a7 bB rfl rfl rfl rfl) (xh 15 [14,13,12,11,10,9,8,7,6,5,4,2,1,0,3] rfl (λw' hw'=>a8 aY rfl (bx483.bel hw') rfl) ?_))))
        replace o480:=(o480.ce ch482).cn ch484
        have len490:=(o480.flat).small
        refine xp 16 rfl (λw=>ba cZ rfl o480.flat) ?_
        refine cq 3 17 rfl rfl (by kernel_rfl) rfl rfl ?_ ?_
        ·
         refine aV (v:=v24) (a8 bv rfl bx483 rfl) (aD 17 rfl (by kernel_rfl) rfl (aw (α:=Int) g476 (is 20) (is 20) (20,0) rfl ([(List.length (Wj_c3++([(t.1+1,-(gI t.2.2 ↑j_c1),0)]:List bq)):Int)]:List Int) aW ae (by decide) (by decide) (vs:=[(0,vi (List.length (Wj_c3++([(t.1+1,-(gI t.2.2 ↑j_c1),0)]:List bq)):Int))]) rfl rfl (.cons rfl .nil) ?_))
         intro g491 w492 v493 ch494 o495
         refine aD 18 rfl (by kernel_rfl) rfl ?_
         replace o421:=o421.cn ch494
         replace r489:=r489.cn ch494
         refine aA (α:=Int) (xs:=(gI (List.set Oj_c3 (Int.toNat ↑j_c1) (gI Oj_c3 ↑j_c1++([(Wj_c3.length:Int)]:List Int))) (t.1+1))) (ys:=([(List.length (Wj_c3++([(t.1+1,-(gI t.2.2 ↑j_c1),0)]:List bq)):Int)]:List Int)) g491 (J:=row 3 (Int.toNat (t.1+1)+1)) (S:=row 3 (Int.toNat (t.1+1)+1)) (3,Int.toNat (t.1+1)+1) rfl aW ae (by decide) rfl rfl rfl r489 o495.flat (by decide) (by omega) ?_
         intro g496 w497 v498 ch499 o500
         have o501:=o421.rowchg ch499
         clear o421 cel488 r489
         obtain⟨us502,hl503,r504⟩:=o501.vc
         try simp only[List.length_set,List.length_append,List.length_cons,List.length_nil] at hl503
         refine xv 19 [18,17,3,16,15,14,13,12,11,10,9,8,7,6,5,4,2,1,0] rfl (aa (v:=v24) (i:=t.1+1) c5 rfl rfl r504 rfl (by omega) (by omega)) (aD 20 rfl (by kernel_rfl) rfl (aJ (r:=t.1+1) ao rfl rfl o501 o500 (by omega) (by omega) ?_))
         intro w508 ch509 o510
         clear o501 o500
         refine bc (by kernel_rfl) ?_
         have C511:=cg [3,7,11] (ch474.n.seq ((ch479.l rfl).seq ((ch482.l rfl).seq (ch484.n.seq (ch494.n.seq ((ch499.lr rfl).seq (ch509.l rfl)))))))
         have C512:=cg [3] (ch494.n.seq ((ch499.lr rfl).seq (ch509.l rfl)))
         exact mid (g496) _ _ ⟨bH.ca C511,zs0_c4,zs1_c4,zs4_c4,Rt.ca C511,r_t_v1.ca C511,bx5.ca C511,o21.ca C511,o22.ca C511,o23.ca C511,o480.ca C512,bx483.ca C512,o510⟩
        ·
         refine aw (α:=Int) g476 (is 20) (is 20) (20,0) rfl ([(List.length (Wj_c3++([(t.1+1,-(gI t.2.2 ↑j_c1),0)]:List bq)):Int)]:List Int) aW ae (by decide) (by decide) (vs:=[(0,vi (List.length (Wj_c3++([(t.1+1,-(gI t.2.2 ↑j_c1),0)]:List bq)):Int))]) rfl rfl (.cons rfl .nil) ?_
         intro g513 w514 v515 ch516 o517
         refine cq 3 18 rfl rfl (by kernel_rfl) rfl rfl ?_ ?_
         ·
          replace bx483:=bx483.cn ch516
          refine aV (v:=v24) (a8 bv rfl bx483 rfl) (aD 18 rfl (by kernel_rfl) rfl ?_)
          replace o421:=o421.cn ch516
          replace r489:=r489.cn ch516
          refine aA (α:=Int) (xs:=(gI (List.set Oj_c3 (Int.toNat ↑j_c1) (gI Oj_c3 ↑j_c1++([(Wj_c3.length:Int)]:List Int))) (t.1+1))) (ys:=([(List.length (Wj_c3++([(t.1+1,-(gI t.2.2 ↑j_c1),0)]:List bq)):Int)]:List Int)) g513 (J:=row 3 (Int.toNat (t.1+1)+1)) (S:=row 3 (Int.toNat (t.1+1)+1)) (3,Int.toNat (t.1+1)+1) rfl aW ae (by decide) rfl rfl rfl r489 o517.flat (by decide) (by omega) ?_
          intro g518 w519 v520 ch521 o522
          have o523:=o421.rowchg ch521
          clear o421 cel488 r489
          obtain⟨us524,hl525,r526⟩:=o523.vc
          try simp only[List.length_set,List.length_append,List.length_cons,List.length_nil] at hl525
          refine xv 19 [18,3,17,16,15,14,13,12,11,10,9,8,7,6,5,4,2,1,0] rfl (aa (v:=v24) (i:=t.1+1) c5 rfl rfl r526 rfl (by omega) (by omega)) (aD 20 rfl (by kernel_rfl) rfl (aJ (r:=t.1+1) ao rfl rfl o523 o522 (by omega) (by omega) ?_))
          intro w530 ch531 o532
          clear o523 o522
          refine bc (by kernel_rfl) ?_
          have C533:=cg [3,7,11] (ch474.n.seq ((ch479.l rfl).seq ((ch482.l rfl).seq (ch484.n.seq (ch516.n.seq ((ch521.lr rfl).seq (ch531.l rfl)))))))
          have C534:=cg [3] (ch516.n.seq ((ch521.lr rfl).seq (ch531.l rfl)))
          exact mid (g518) _ _ ⟨bH.ca C533,zs0_c4,zs1_c4,zs4_c4,Rt.ca C533,r_t_v1.ca C533,bx5.ca C533,o21.ca C533,o22.ca C533,o23.ca C533,o480.ca C534,(bx483.chg ch521 (br rfl)).ce ch531,o532⟩
         ·
          replace o421:=o421.cn ch516
          replace r489:=r489.cn ch516
          refine aA (α:=Int) (xs:=(gI (List.set Oj_c3 (Int.toNat ↑j_c1) (gI Oj_c3 ↑j_c1++([(Wj_c3.length:Int)]:List Int))) (t.1+1))) (ys:=([(List.length (Wj_c3++([(t.1+1,-(gI t.2.2 ↑j_c1),0)]:List bq)):Int)]:List Int)) g513 (J:=row 3 (Int.toNat (t.1+1)+1)) (S:=row 3 (Int.toNat (t.1+1)+1)) (3,Int.toNat (t.1+1)+1) rfl aW ae (by decide) rfl rfl rfl r489 o517.flat (by decide) (by omega) ?_
          intro g535 w536 v537 ch538 o539
          have o540:=o421.rowchg ch538
          clear o421 cel488 r489
          replace bx483:=(bx483.cn ch516).chg ch538 (br rfl)
          refine aD 3 rfl (by kernel_rfl) rfl (aV (v:=v24) (a8 bv rfl bx483 rfl) ?_)
          obtain⟨us541,hl542,r543⟩:=o540.vc
          try simp only[List.length_set,List.length_append,List.length_cons,List.length_nil] at hl542
          refine xv 19 [3,18,17,16,15,14,13,12,11,10,9,8,7,6,5,4,2,1,0] rfl (aa (v:=v24) (i:=t.1+1) c5 rfl rfl r543 rfl (by omega) (by omega)) (aD 20 rfl (by kernel_rfl) rfl (aJ (r:=t.1+1) ao rfl rfl o540 o539 (by omega) (by omega) ?_))
          intro w547 ch548 o549
          clear o540 o539
          refine bc (by kernel_rfl) ?_
          have C550:=cg [3,7,11] (ch474.n.seq ((ch479.l rfl).seq ((ch482.l rfl).seq (ch484.n.seq (ch516.n.seq ((ch538.lr rfl).seq (ch548.l rfl)))))))
          have C551:=cg [3] (ch516.n.seq ((ch538.lr rfl).seq (ch548.l rfl)))
          exact mid (g535) _ _ ⟨bH.ca C550,zs0_c4,zs1_c4,zs4_c4,Rt.ca C550,r_t_v1.ca C550,bx5.ca C550,o21.ca C550,o22.ca C550,o23.ca C550,o480.ca C551,bx483.ce ch548,o549⟩
       clear Rt r_t_v1 bx5 o21 o22 o23 o421 o480 bx483 bH
       rintro g554 f552 w553 ⟨bH,zs0_c4,zs1_c4,zs4_c4,Rt,r_t_v1,bx5,o21,o22,o23,o480,bx483,o508⟩
       refine a6 rfl (mz zs0_c4 (mz zs0_c4 (lw (vp b30 0) (ad rfl) (lx (a7 bB rfl rfl rfl rfl) (lx (a8 aY rfl bx483 rfl) (mz zs1_c4 (mz zs4_c4 (lw (vi (-0)) (fc (m:=0) rfl (by omega)) (lw (vg [vi ↑j_c1,vi 0,vi (-0)]) (bp (vs:=[(0,vi ↑j_c1),(1,vi 0),(2,vi (-0))]) rfl (by kernel_rfl)) ?_)))))))))
       refine lo (aw (α:=bq) g554 (is 21) (is 21) (21,0) rfl ([((j_c1:Int),0,-0)]:List bq) cZ cM (by decide) (by decide) (vs:=[(0,vg [vi ↑j_c1,vi 0,vi (-0)])]) rfl rfl (.cons rfl .nil) ?_)
       intro g555 w556 v557 ch558 o559
       refine lo ?_
       replace o480:=o480.cn ch558
       refine aA (α:=bq) (xs:=(Wj_c3++([(t.1+1,-(gI t.2.2 ↑j_c1),0)]:List bq))) (ys:=([((j_c1:Int),0,-0)]:List bq)) g555 (J:=is 11) (S:=is 11) (11,0) rfl cZ cM (by decide) rfl rfl rfl o480 o559.flat (by decide) (by omega) ?_
       intro g560 w561 v562 ch563 o564
       clear o480
       refine lw (vp b30 0) (ad rfl) (lx (a7 bB rfl rfl rfl rfl) (lo ?_))
       replace bx483:=(bx483.cn ch558).ce ch563
       refine bj (cs':=[v562,v24,v25,v26,v27,vi t.1,vi (t.1+1),vi (ak_c1+(gI t.2.2 ↑j_c1)),vi 0]) aY rfl rfl bx483 (bf o564.flat) nq (aZ o564.flat) rfl ?_
       intro w565 ch566 bx567
       clear bx483
       refine af (bU (vs:=[]) Try.func29 .nil ?_)
       have C568:=cg [7,11] (ch558.n.seq ((ch563.l rfl).seq (ch566.l rfl)))
       replace bH:=bH.ca C568
       replace Rt:=Rt.ca C568
       replace r_t_v1:=r_t_v1.ca C568
       replace bx5:=bx5.ca C568
       replace o508:=o508.ca C568
       replace o21:=o21.ca C568
       replace o22:=o22.ca C568
       replace o23:=o23.ca C568
       replace o564:=o564.ce ch566
       refine⟨(v562,((Wj_c3++([(t.1+1,-(gI t.2.2 ↑j_c1),0)]:List bq))++([((j_c1:Int),0,-0)]:List bq)),(List.set (List.set Oj_c3 (Int.toNat ↑j_c1) (gI Oj_c3 ↑j_c1++([(Wj_c3.length:Int)]:List Int))) (Int.toNat (t.1+1)) (gI (List.set Oj_c3 (Int.toNat ↑j_c1) (gI Oj_c3 ↑j_c1++([(Wj_c3.length:Int)]:List Int))) (t.1+1)++([(List.length (Wj_c3++([(t.1+1,-(gI t.2.2 ↑j_c1),0)]:List bq)):Int)]:List Int))),g560),rfl,bH,Rt,r_t_v1,bx5,o508,o21,o22,o23,bx567,o564,?_⟩
       show(((Wj_c3++([(t.1+1,-(gI t.2.2 ↑j_c1),0)]:List bq))++([((j_c1:Int),0,-0)]:List bq)),(List.set (List.set Oj_c3 (Int.toNat ↑j_c1) (gI Oj_c3 ↑j_c1++([(Wj_c3.length:Int)]:List Int))) (Int.toNat (t.1+1)) (gI (List.set Oj_c3 (Int.toNat ↑j_c1) (gI Oj_c3 ↑j_c1++([(Wj_c3.length:Int)]:List Int))) (t.1+1)++([(List.length (Wj_c3++([(t.1+1,-(gI t.2.2 ↑j_c1),0)]:List bq)):Int)]:List Int))))=de (Wj_c3,Oj_c3) (j_c1:Int) (t.1+1) (-(gI t.2.2 ↑j_c1)) 0
       (unfold de;simp)
      clear Rt r_t_v1 bx5 o20 o21 o22 o23 o_Wj_c3 bx397 bH
      rintro⟨Wj_c4_v,Wj_c4,Oj_c4,g570⟩ w569 ⟨bH,Rt,r_t_v1,bx5,o20,o21,o22,o23,bx397,o_Wj_c4,hja_c4⟩
      have hjw_c4:Wj_c4.length=(Wj_c3).length+2:=by have h:=congrArg (λz=>z.1.length) hja_c4;simpa[de] using h
      refine af (aq (a6 rfl (lx (aP (m:=↑j_c1) (n:=1) zs48_c1 rfl (by omega)) (mi ((j_c1:Int)+1) (af ?_)))))
      refine back9_c1 (Wj_c4_v,Wj_c4,ak_c1+(gI t.2.2 ↑j_c1),j_c1+1,Oj_c4,g570) _ _ ⟨bH,zs4_c1,zs46_c1,zs47_c1,rfl,Rt,r_t_v1,bx5,o20,o21,o22,o23,bx397,o_Wj_c4,by omega,?_⟩ ?_
      · show gv t (j_c1+1) Wj_c4 Oj_c4 (ak_c1+(gI t.2.2 ↑j_c1))
        (exfalso;omega)
      · show Int.toNat (((t.2.2.length:Int):Int)-((j_c1+1):Int))<Int.toNat (((t.2.2.length:Int):Int)-(j_c1:Int))
        omega
     refine am rfl (df p14_c1) (au (aq (a6 rfl (lx (aP (m:=↑j_c1) (n:=1) zs48_c1 rfl (by omega)) (mi ((j_c1:Int)+1) (af ?_))))))
     refine back9_c1 (Wj_c3_v,Wj_c3,ak_c1+(gI t.2.2 ↑j_c1),j_c1+1,Oj_c3,g394) _ _ ⟨bH.ce ch396,zs4_c1,zs46_c1,zs47_c1,rfl,Rt.ce ch396,r_t_v1.ce ch396,bx5.ce ch396,o20.ce ch396,o21.ce ch396,o22.ce ch396,o23.ce ch396,bx397,o_Wj_c3.ce ch396,by omega,?_⟩ ?_
     · show gv t (j_c1+1) Wj_c3 Oj_c3 (ak_c1+(gI t.2.2 ↑j_c1))
       exact hln_c1.plus hm ‹_› ‹_› ‹_›
     · show Int.toNat (((t.2.2.length:Int):Int)-((j_c1+1):Int))<Int.toNat (((t.2.2.length:Int):Int)-(j_c1:Int))
       omega
    refine am rfl (df p11_c1) (au (a9 (a6 rfl (mi (gI t.2.2 ↑j_c1) (lx (bo (m:=(gI t.2.2 ↑j_c1)) (n:=0) rfl rfl) (af ?_))))))
    by_cases p14_c1:(gI t.2.2 ↑j_c1)<0
    ·
     refine aj rfl (dt p14_c1) (a6 rfl (mz zs4_c1 (mi ↑j_c1 (mz zs4_c1 (lw (vp b30 0) (ad rfl) (lx (a7 bB rfl rfl rfl rfl) (lx (a8 ae rfl bx32 rfl) (mi (gI t.2.2 ↑j_c1) (lw (vi (-(gI t.2.2 ↑j_c1))) (fc (m:=(gI t.2.2 ↑j_c1)) rfl (by omega)) ?_)))))))))
     refine lo ?_
     refine bF (σ:=Value×(List bq)×eZ×aG) (V:=λ⟨Wj_c5_v,Wj_c5,Oj_c5,gq⟩=>vt []) (S:=λ⟨Wj_c5_v,Wj_c5,Oj_c5,gq⟩ w=>b9 w0 gq w/\Sl gq (is 0) w t_v t.2.1/\Sl gq (is 0) w t_v1 t.2.2/\Bx gq (is 1) w b3 [vi t.1,t_v,t_v1]/\bN gq 3 w v24 Oj_c5/\Ow gq (is 4) (is 4) w v25 (List.replicate (Int.toNat (t.1+2)) (0:Int))/\Ow gq (is 5) (is 5) w v26 (List.replicate (Int.toNat (t.1+2)) (0:Int))/\Ow gq (is 6) (is 6) w v27 (List.replicate (Int.toNat (t.1+2)) (0:Int))/\Bx gq (is 7) w b30 [Wj_c5_v,v24,v25,v26,v27,vi t.1,vi (t.1+1),vi ak_c1,vi 0]/\Ow gq (is 11) (is 11) w Wj_c5_v Wj_c5/\((Wj_c5,Oj_c5)=de (W2_c1,O2_c1) (j_c1:Int) (t.1+1) (-(gI t.2.2 ↑j_c1)) 0)) (aU (vals:=[vp b30 0,vi ↑j_c1,vi (t.1+1),vi (-(gI t.2.2 ↑j_c1)),vi 0]) Try.func29 iB iQ rfl) ?_ ?_
     ·
      refine aC Try.func29 rfl nq ?_
      have hrs_c5:=cS (O:=O2_c1) (a:=(j_c1:Int)) (b:=(t.1+1)) (x:=(W2_c1.length:Int)) (by omega) (by omega) (by omega)
      have hrt_c5:=hrs_c5
      try simp only[Int.toNat_natCast] at hrt_c5
      refine a9 ?_
      refine bS (σ:=aG) (λgq f w=>b9 w0 gq w/\f 0=vp b30 0/\f 1=vi ↑j_c1/\f 2=vi (t.1+1)/\f 3=vi (-(gI t.2.2 ↑j_c1))/\f 4=vi 0/\Sl gq (is 0) w t_v t.2.1/\Sl gq (is 0) w t_v1 t.2.2/\Bx gq (is 1) w b3 [vi t.1,t_v,t_v1]/\Ow gq (is 4) (is 4) w v25 (List.replicate (Int.toNat (t.1+2)) (0:Int))/\Ow gq (is 5) (is 5) w v26 (List.replicate (Int.toNat (t.1+2)) (0:Int))/\Ow gq (is 6) (is 6) w v27 (List.replicate (Int.toNat (t.1+2)) (0:Int))/\Bx gq (is 7) w b30 [W2_c1_v,v24,v25,v26,v27,vi t.1,vi (t.1+1),vi ak_c1,vi 0]/\Ow gq (is 11) (is 11) w W2_c1_v W2_c1/\bN gq 3 w v24 (List.set O2_c1 (Int.toNat ↑j_c1) (gI O2_c1 ↑j_c1++([(W2_c1.length:Int)]:List Int)))) g224 [0,1,2,4,5,6,7,8,9,10,11,12,13,14,15,16,19] dp ?_ ?_
      ·
       intro mid
       intro w572 ch571
       refine xp (v:=vp b30 0) 0 rfl (λw=>ah rfl) (xp (v:=vp b30 0) 1 rfl (λw=>ad rfl) (xp 2 rfl (λw=>a7 bB rfl rfl rfl rfl) (xp (v:=vi ↑j_c1) 4 rfl (λw=>ah rfl) (xp (v:=vp b30 0) 5 rfl (λw=>ah rfl) (xp (v:=vp b30 0) 6 rfl (λw=>ad rfl) (xp 7 rfl (λw=>a7 bB rfl rfl rfl rfl) ?_))))))
       replace bx32:=bx32.cn ch571
       refine xh 8 [7,6,5,4,2,1,0,3,9,12,13,14,15,16,17] rfl (λw' hw'=>a8 bv rfl (bx32.bel hw') rfl) (xp (v:=vi ↑j_c1) 9 rfl (λw=>ah rfl) ?_)
       replace o20:=o20.cn ch571
       refine xh 10 [9,8,7,6,5,4,2,1,0,3,12,13,14,15,16,17] rfl (λw' hw'=>aa (v:=v24) (i:=↑j_c1) c5 rfl rfl (o20.sl.bel hw') rfl (by omega) (by omega)) ?_
       obtain⟨v573,cel574,r575⟩:=bC (r:=(j_c1:Int)) o20 (by omega) (by omega)
       refine xh 11 [10,9,8,7,6,5,4,2,1,0,3,12,13,14,15,16,17] rfl (λw' hw'=>bb ao rfl (bW cel574 hw')) (xp (v:=vp b30 0) 12 rfl (λw=>ah rfl) (xp (v:=vp b30 0) 13 rfl (λw=>ad rfl) (xp 14 rfl (λw=>a7 bB rfl rfl rfl rfl) (xh 15 [14,13,12,11,10,9,8,7,6,5,4,2,1,0,3] rfl (λw' hw'=>a8 aY rfl (bx32.bel hw') rfl) ?_))))
       replace o_W2_c1:=o_W2_c1.cn ch571
       have len576:=(o_W2_c1.flat).small
       refine xp 16 rfl (λw=>ba cZ rfl o_W2_c1.flat) ?_
       refine cq 3 17 rfl rfl (by kernel_rfl) rfl rfl ?_ ?_
       ·
        refine aV (v:=v24) (a8 bv rfl bx32 rfl) (aD 17 rfl (by kernel_rfl) rfl (aw (α:=Int) g224 (is 22) (is 22) (22,0) rfl ([(W2_c1.length:Int)]:List Int) aW ae (by decide) (by decide) (vs:=[(0,vi (W2_c1.length:Int))]) rfl rfl (.cons rfl .nil) ?_))
        intro g577 w578 v579 ch580 o581
        refine aD 18 rfl (by kernel_rfl) rfl ?_
        replace o20:=o20.cn ch580
        replace r575:=r575.cn ch580
        refine aA (α:=Int) (xs:=(gI O2_c1 ↑j_c1)) (ys:=([(W2_c1.length:Int)]:List Int)) g577 (J:=row 3 (Int.toNat ↑j_c1+1)) (S:=row 3 (Int.toNat ↑j_c1+1)) (3,Int.toNat ↑j_c1+1) rfl aW ae (by decide) rfl rfl rfl r575 o581.flat (by decide) (by(simp;omega)) ?_
        intro g582 w583 v584 ch585 o586
        have o587:=o20.rowchg ch585
        clear o20 cel574 r575
        obtain⟨us588,hl589,r590⟩:=o587.vc
        try simp only[List.length_set,List.length_append,List.length_cons,List.length_nil] at hl589
        refine xv 19 [18,17,3,16,15,14,13,12,11,10,9,8,7,6,5,4,2,1,0] rfl (aa (v:=v24) (i:=↑j_c1) c5 rfl rfl r590 rfl (by omega) (by omega)) (aD 20 rfl (by kernel_rfl) rfl (aJ (r:=(j_c1:Int)) ao rfl rfl o587 o586 (by omega) (by omega) ?_))
        intro w594 ch595 o596
        clear o587 o586
        refine bc (by kernel_rfl) ?_
        have C598:=cg [3] (ch580.n.seq ((ch585.lr rfl).seq (ch595.l rfl)))
        have C597:=ch571.n.seq C598
        exact mid (g582) _ _ ⟨bH.ca C597,rfl,rfl,rfl,rfl,rfl,Rt.ca C597,r_t_v1.ca C597,bx5.ca C597,o21.ca C597,o22.ca C597,o23.ca C597,bx32.ca C598,o_W2_c1.ca C598,o596⟩
       ·
        refine aw (α:=Int) g224 (is 22) (is 22) (22,0) rfl ([(W2_c1.length:Int)]:List Int) aW ae (by decide) (by decide) (vs:=[(0,vi (W2_c1.length:Int))]) rfl rfl (.cons rfl .nil) ?_
        intro g599 w600 v601 ch602 o603
        refine cq 3 18 rfl rfl (by kernel_rfl) rfl rfl ?_ ?_
        ·
         replace bx32:=bx32.cn ch602
         refine aV (v:=v24) (a8 bv rfl bx32 rfl) (aD 18 rfl (by kernel_rfl) rfl ?_)
         replace o20:=o20.cn ch602
         replace r575:=r575.cn ch602
         refine aA (α:=Int) (xs:=(gI O2_c1 ↑j_c1)) (ys:=([(W2_c1.length:Int)]:List Int)) g599 (J:=row 3 (Int.toNat ↑j_c1+1)) (S:=row 3 (Int.toNat ↑j_c1+1)) (3,Int.toNat ↑j_c1+1) rfl aW ae (by decide) rfl rfl rfl r575 o603.flat (by decide) (by(simp;omega)) ?_
         intro g604 w605 v606 ch607 o608
         have o609:=o20.rowchg ch607
         clear o20 cel574 r575
         obtain⟨us610,hl611,r612⟩:=o609.vc
         try simp only[List.length_set,List.length_append,List.length_cons,List.length_nil] at hl611
         refine xv 19 [18,3,17,16,15,14,13,12,11,10,9,8,7,6,5,4,2,1,0] rfl (aa (v:=v24) (i:=↑j_c1) c5 rfl rfl r612 rfl (by omega) (by omega)) (aD 20 rfl (by kernel_rfl) rfl (aJ (r:=(j_c1:Int)) ao rfl rfl o609 o608 (by omega) (by omega) ?_))
         intro w616 ch617 o618
         clear o609 o608
         refine bc (by kernel_rfl) ?_
         have C620:=cg [3] (ch602.n.seq ((ch607.lr rfl).seq (ch617.l rfl)))
         have C619:=ch571.n.seq C620
         exact mid (g604) _ _ ⟨bH.ca C619,rfl,rfl,rfl,rfl,rfl,Rt.ca C619,r_t_v1.ca C619,bx5.ca C619,o21.ca C619,o22.ca C619,o23.ca C619,(bx32.chg ch607 (br rfl)).ce ch617,o_W2_c1.ca C620,o618⟩
        ·
         replace o20:=o20.cn ch602
         replace r575:=r575.cn ch602
         refine aA (α:=Int) (xs:=(gI O2_c1 ↑j_c1)) (ys:=([(W2_c1.length:Int)]:List Int)) g599 (J:=row 3 (Int.toNat ↑j_c1+1)) (S:=row 3 (Int.toNat ↑j_c1+1)) (3,Int.toNat ↑j_c1+1) rfl aW ae (by decide) rfl rfl rfl r575 o603.flat (by decide) (by(simp;omega)) ?_
         intro g621 w622 v623 ch624 o625
         have o626:=o20.rowchg ch624
         clear o20 cel574 r575
         replace bx32:=(bx32.cn ch602).chg ch624 (br rfl)
         refine aD 3 rfl (by kernel_rfl) rfl (aV (v:=v24) (a8 bv rfl bx32 rfl) ?_)
         obtain⟨us627,hl628,r629⟩:=o626.vc
         try simp only[List.length_set,List.length_append,List.length_cons,List.length_nil] at hl628
         refine xv 19 [3,18,17,16,15,14,13,12,11,10,9,8,7,6,5,4,2,1,0] rfl (aa (v:=v24) (i:=↑j_c1) c5 rfl rfl r629 rfl (by omega) (by omega)) (aD 20 rfl (by kernel_rfl) rfl (aJ (r:=(j_c1:Int)) ao rfl rfl o626 o625 (by omega) (by omega) ?_))
         intro w633 ch634 o635
         clear o626 o625
         refine bc (by kernel_rfl) ?_
         have C637:=cg [3] (ch602.n.seq ((ch624.lr rfl).seq (ch634.l rfl)))
         have C636:=ch571.n.seq C637
         exact mid (g621) _ _ ⟨bH.ca C636,rfl,rfl,rfl,rfl,rfl,Rt.ca C636,r_t_v1.ca C636,bx5.ca C636,o21.ca C636,o22.ca C636,o23.ca C636,bx32.ce ch634,o_W2_c1.ca C637,o635⟩
      clear Rt r_t_v1 bx5 o20 o21 o22 o23 bx32 o_W2_c1 bH
      rintro g640 f638 w639 ⟨bH,zs0_c5,zs1_c5,zs2_c5,zs3_c5,zs4_c5,Rt,r_t_v1,bx5,o21,o22,o23,bx32,o_W2_c1,o594⟩
      refine a9 (a6 rfl (mz zs0_c5 (mz zs0_c5 (lw (vp b30 0) (ad rfl) (lx (a7 bB rfl rfl rfl rfl) (lx (a8 aY rfl bx32 rfl) (mz zs2_c5 (mz zs3_c5 (mz zs4_c5 (lw (vg [vi (t.1+1),vi (-(gI t.2.2 ↑j_c1)),vi 0]) (bp (vs:=[(0,vi (t.1+1)),(1,vi (-(gI t.2.2 ↑j_c1))),(2,vi 0)]) rfl (by kernel_rfl)) ?_))))))))))
      refine lo (aw (α:=bq) g640 (is 23) (is 23) (23,0) rfl ([(t.1+1,-(gI t.2.2 ↑j_c1),0)]:List bq) cZ cM (by decide) (by decide) (vs:=[(0,vg [vi (t.1+1),vi (-(gI t.2.2 ↑j_c1)),vi 0])]) rfl rfl (.cons rfl .nil) ?_)
      intro g641 w642 v643 ch644 o645
      refine lo ?_
      replace o_W2_c1:=o_W2_c1.cn ch644
      refine aA (α:=bq) (xs:=W2_c1) (ys:=([(t.1+1,-(gI t.2.2 ↑j_c1),0)]:List bq)) g641 (J:=is 11) (S:=is 11) (11,0) rfl cZ cM (by decide) rfl rfl rfl o_W2_c1 o645.flat (by decide) (by(simp;omega)) ?_
      intro g646 w647 v648 ch649 o650
      clear o_W2_c1
      refine lw (vp b30 0) (ad rfl) (lx (a7 bB rfl rfl rfl rfl) (lo ?_))
      replace bx32:=(bx32.cn ch644).ce ch649
      refine bj (cs':=[v648,v24,v25,v26,v27,vi t.1,vi (t.1+1),vi ak_c1,vi 0]) aY rfl rfl bx32 (bf o650.flat) nq (aZ o650.flat) rfl ?_
      intro w651 ch652 bx653
      clear bx32
      refine af (a9 ?_)
      clear o645
      refine bS (σ:=aG) (λgq f w=>b9 w0 gq w/\f 0=vp b30 0/\f 1=vi ↑j_c1/\f 4=vi 0/\Sl gq (is 0) w t_v t.2.1/\Sl gq (is 0) w t_v1 t.2.2/\Bx gq (is 1) w b3 [vi t.1,t_v,t_v1]/\Ow gq (is 4) (is 4) w v25 (List.replicate (Int.toNat (t.1+2)) (0:Int))/\Ow gq (is 5) (is 5) w v26 (List.replicate (Int.toNat (t.1+2)) (0:Int))/\Ow gq (is 6) (is 6) w v27 (List.replicate (Int.toNat (t.1+2)) (0:Int))/\Ow gq (is 11) (is 11) w v648 (W2_c1++([(t.1+1,-(gI t.2.2 ↑j_c1),0)]:List bq))/\Bx gq (is 7) w b30 [v648,v24,v25,v26,v27,vi t.1,vi (t.1+1),vi ak_c1,vi 0]/\bN gq 3 w v24 (List.set (List.set O2_c1 (Int.toNat ↑j_c1) (gI O2_c1 ↑j_c1++([(W2_c1.length:Int)]:List Int))) (Int.toNat (t.1+1)) (gI (List.set O2_c1 (Int.toNat ↑j_c1) (gI O2_c1 ↑j_c1++([(W2_c1.length:Int)]:List Int))) (t.1+1)++([(List.length (W2_c1++([(t.1+1,-(gI t.2.2 ↑j_c1),0)]:List bq)):Int)]:List Int)))) g646 [0,1,2,4,5,6,7,8,9,10,11,12,13,14,15,16,19] dp ?_ ?_
      ·
       intro mid
       intro w655 ch654
       refine xp (v:=vp b30 0) 0 rfl (λw=>ah zs0_c5) (xp (v:=vp b30 0) 1 rfl (λw=>ad rfl) (xp 2 rfl (λw=>a7 bB rfl rfl rfl rfl) (xp (v:=vi (t.1+1)) 4 rfl (λw=>ah zs2_c5) (xp (v:=vp b30 0) 5 rfl (λw=>ah zs0_c5) (xp (v:=vp b30 0) 6 rfl (λw=>ad rfl) (xp 7 rfl (λw=>a7 bB rfl rfl rfl rfl) ?_))))))
       replace bx653:=bx653.cn ch654
       refine xh 8 [7,6,5,4,2,1,0,3,9,12,13,14,15,16,17] rfl (λw' hw'=>a8 bv rfl (bx653.bel hw') rfl) (xp (v:=vi (t.1+1)) 9 rfl (λw=>ah zs2_c5) ?_)
       have C656:=cg [7,11] (ch644.n.seq ((ch649.l rfl).seq ((ch652.l rfl).seq ch654.n)))
       replace o594:=o594.ca C656
       refine xh 10 [9,8,7,6,5,4,2,1,0,3,12,13,14,15,16,17] rfl (λw' hw'=>aa (v:=v24) (i:=t.1+1) c5 rfl rfl (o594.sl.bel hw') rfl (by omega) (by(simp only[List.length_set,List.length_append,List.length_cons,List.length_nil,List.length_replicate,List.length_map,List.length_take,List.length_drop];omega))) ?_
       obtain⟨v657,cel658,r659⟩:=bC (r:=t.1+1) o594 (by omega) (by(simp only[List.length_set,List.length_append,List.length_cons,List.length_nil,List.length_replicate,List.length_map,List.length_take,List.length_drop];omega))
       refine xh 11 [10,9,8,7,6,5,4,2,1,0,3,12,13,14,15,16,17] rfl (λw' hw'=>bb ao rfl (bW cel658 hw')) (xp (v:=vp b30 0) 12 rfl (λw=>ah zs0_c5) (xp (v:=vp b30 0) 13 rfl (λw=>ad rfl) (xp 14 rfl (λw=>a7 bB rfl rfl rfl rfl) (xh 15 [14,13,12,11,10,9,8,7,6,5,4,2,1,0,3] rfl (λw' hw'=>a8 aY rfl (bx653.bel hw') rfl) ?_))))
       replace o650:=(o650.ce ch652).cn ch654
       have len660:=(o650.flat).small
       refine xp 16 rfl (λw=>ba cZ rfl o650.flat) ?_
       refine cq 3 17 rfl rfl (by kernel_rfl) rfl rfl ?_ ?_
       ·
        refine aV (v:=v24) (a8 bv rfl bx653 rfl) (aD 17 rfl (by kernel_rfl) rfl (aw (α:=Int) g646 (is 24) (is 24) (24,0) rfl ([(List.length (W2_c1++([(t.1+1,-(gI t.2.2 ↑j_c1),0)]:List bq)):Int)]:List Int) aW ae (by decide) (by decide) (vs:=[(0,vi (List.length (W2_c1++([(t.1+1,-(gI t.2.2 ↑j_c1),0)]:List bq)):Int))]) rfl rfl (.cons rfl .nil) ?_))
        intro g661 w662 v663 ch664 o665
        refine aD 18 rfl (by kernel_rfl) rfl ?_
        replace o594:=o594.cn ch664
        replace r659:=r659.cn ch664
        refine aA (α:=Int) (xs:=(gI (List.set O2_c1 (Int.toNat ↑j_c1) (gI O2_c1 ↑j_c1++([(W2_c1.length:Int)]:List Int))) (t.1+1))) (ys:=([(List.length (W2_c1++([(t.1+1,-(gI t.2.2 ↑j_c1),0)]:List bq)):Int)]:List Int)) g661 (J:=row 3 (Int.toNat (t.1+1)+1)) (S:=row 3 (Int.toNat (t.1+1)+1)) (3,Int.toNat (t.1+1)+1) rfl aW ae (by decide) rfl rfl rfl r659 o665.flat (by decide) (by(simp;omega)) ?_
        intro g666 w667 v668 ch669 o670
        have o671:=o594.rowchg ch669
        clear o594 cel658 r659
        obtain⟨us672,hl673,r674⟩:=o671.vc
        try simp only[List.length_set,List.length_append,List.length_cons,List.length_nil] at hl673
        refine xv 19 [18,17,3,16,15,14,13,12,11,10,9,8,7,6,5,4,2,1,0] rfl (aa (v:=v24) (i:=t.1+1) c5 rfl rfl r674 rfl (by omega) (by omega)) (aD 20 rfl (by kernel_rfl) rfl (aJ (r:=t.1+1) ao rfl rfl o671 o670 (by omega) (by(simp only[List.length_set,List.length_append,List.length_cons,List.length_nil,List.length_replicate,List.length_map,List.length_take,List.length_drop];omega)) ?_))
        intro w678 ch679 o680
        clear o671 o670
        refine bc (by kernel_rfl) ?_
        have C681:=cg [3,7,11] (ch644.n.seq ((ch649.l rfl).seq ((ch652.l rfl).seq (ch654.n.seq (ch664.n.seq ((ch669.lr rfl).seq (ch679.l rfl)))))))
        have C682:=cg [3] (ch664.n.seq ((ch669.lr rfl).seq (ch679.l rfl)))
        exact mid (g666) _ _ ⟨bH.ca C681,zs0_c5,zs1_c5,zs4_c5,Rt.ca C681,r_t_v1.ca C681,bx5.ca C681,o21.ca C681,o22.ca C681,o23.ca C681,o650.ca C682,bx653.ca C682,o680⟩
       ·
        refine aw (α:=Int) g646 (is 24) (is 24) (24,0) rfl ([(List.length (W2_c1++([(t.1+1,-(gI t.2.2 ↑j_c1),0)]:List bq)):Int)]:List Int) aW ae (by decide) (by decide) (vs:=[(0,vi (List.length (W2_c1++([(t.1+1,-(gI t.2.2 ↑j_c1),0)]:List bq)):Int))]) rfl rfl (.cons rfl .nil) ?_
        intro g683 w684 v685 ch686 o687
        refine cq 3 18 rfl rfl (by kernel_rfl) rfl rfl ?_ ?_
        ·
         replace bx653:=bx653.cn ch686
         refine aV (v:=v24) (a8 bv rfl bx653 rfl) (aD 18 rfl (by kernel_rfl) rfl ?_)
         replace o594:=o594.cn ch686
         replace r659:=r659.cn ch686
         refine aA (α:=Int) (xs:=(gI (List.set O2_c1 (Int.toNat ↑j_c1) (gI O2_c1 ↑j_c1++([(W2_c1.length:Int)]:List Int))) (t.1+1))) (ys:=([(List.length (W2_c1++([(t.1+1,-(gI t.2.2 ↑j_c1),0)]:List bq)):Int)]:List Int)) g683 (J:=row 3 (Int.toNat (t.1+1)+1)) (S:=row 3 (Int.toNat (t.1+1)+1)) (3,Int.toNat (t.1+1)+1) rfl aW ae (by decide) rfl rfl rfl r659 o687.flat (by decide) (by(simp;omega)) ?_
         intro g688 w689 v690 ch691 o692
         have o693:=o594.rowchg ch691
         clear o594 cel658 r659
         obtain⟨us694,hl695,r696⟩:=o693.vc
         try simp only[List.length_set,List.length_append,List.length_cons,List.length_nil] at hl695
         refine xv 19 [18,3,17,16,15,14,13,12,11,10,9,8,7,6,5,4,2,1,0] rfl (aa (v:=v24) (i:=t.1+1) c5 rfl rfl r696 rfl (by omega) (by omega)) (aD 20 rfl (by kernel_rfl) rfl (aJ (r:=t.1+1) ao rfl rfl o693 o692 (by omega) (by(simp only[List.length_set,List.length_append,List.length_cons,List.length_nil,List.length_replicate,List.length_map,List.length_take,List.length_drop];omega)) ?_))
         intro w700 ch701 o702
         clear o693 o692
         refine bc (by kernel_rfl) ?_
         have C703:=cg [3,7,11] (ch644.n.seq ((ch649.l rfl).seq ((ch652.l rfl).seq (ch654.n.seq (ch686.n.seq ((ch691.lr rfl).seq (ch701.l rfl)))))))
         have C704:=cg [3] (ch686.n.seq ((ch691.lr rfl).seq (ch701.l rfl)))
         exact mid (g688) _ _ ⟨bH.ca C703,zs0_c5,zs1_c5,zs4_c5,Rt.ca C703,r_t_v1.ca C703,bx5.ca C703,o21.ca C703,o22.ca C703,o23.ca C703,o650.ca C704,(bx653.chg ch691 (br rfl)).ce ch701,o702⟩
        ·
         replace o594:=o594.cn ch686
         replace r659:=r659.cn ch686
         refine aA (α:=Int) (xs:=(gI (List.set O2_c1 (Int.toNat ↑j_c1) (gI O2_c1 ↑j_c1++([(W2_c1.length:Int)]:List Int))) (t.1+1))) (ys:=([(List.length (W2_c1++([(t.1+1,-(gI t.2.2 ↑j_c1),0)]:List bq)):Int)]:List Int)) g683 (J:=row 3 (Int.toNat (t.1+1)+1)) (S:=row 3 (Int.toNat (t.1+1)+1)) (3,Int.toNat (t.1+1)+1) rfl aW ae (by decide) rfl rfl rfl r659 o687.flat (by decide) (by(simp;omega)) ?_
         intro g705 w706 v707 ch708 o709
         have o710:=o594.rowchg ch708
         clear o594 cel658 r659
         replace bx653:=(bx653.cn ch686).chg ch708 (br rfl)
         refine aD 3 rfl (by kernel_rfl) rfl (aV (v:=v24) (a8 bv rfl bx653 rfl) ?_)
         obtain⟨us711,hl712,r713⟩:=o710.vc
         try simp only[List.length_set,List.length_append,List.length_cons,List.length_nil] at hl712
         refine xv 19 [3,18,17,16,15,14,13,12,11,10,9,8,7,6,5,4,2,1,0] rfl (aa (v:=v24) (i:=t.1+1) c5 rfl rfl r713 rfl (by omega) (by omega)) (aD 20 rfl (by kernel_rfl) rfl (aJ (r:=t.1+1) ao rfl rfl o710 o709 (by omega) (by(simp only[List.length_set,List.length_append,List.length_cons,List.length_nil,List.length_replicate,List.length_map,List.length_take,List.length_drop];omega)) ?_))
         intro w717 ch718 o719
         clear o710 o709
         refine bc (by kernel_rfl) ?_
         have C720:=cg [3,7,11] (ch644.n.seq ((ch649.l rfl).seq ((ch652.l rfl).seq (ch654.n.seq (ch686.n.seq ((ch708.lr rfl).seq (ch718.l rfl)))))))
         have C721:=cg [3] (ch686.n.seq ((ch708.lr rfl).seq (ch718.l rfl)))
         exact mid (g705) _ _ ⟨bH.ca C720,zs0_c5,zs1_c5,zs4_c5,Rt.ca C720,r_t_v1.ca C720,bx5.ca C720,o21.ca C720,o22.ca C720,o23.ca C720,o650.ca C721,bx653.ce ch718,o719⟩
      clear Rt r_t_v1 bx5 o21 o22 o23 o594 o650 bx653 bH
      rintro g724 f722 w723 ⟨bH,zs0_c5,zs1_c5,zs4_c5,Rt,r_t_v1,bx5,o21,o22,o23,o650,bx653,o678⟩
      refine a6 rfl (mz zs0_c5 (mz zs0_c5 (lw (vp b30 0) (ad rfl) (lx (a7 bB rfl rfl rfl rfl) (lx (a8 aY rfl bx653 rfl) (mz zs1_c5 (mz zs4_c5 (lw (vi (-0)) (fc (m:=0) rfl (by omega)) (lw (vg [vi ↑j_c1,vi 0,vi (-0)]) (bp (vs:=[(0,vi ↑j_c1),(1,vi 0),(2,vi (-0))]) rfl (by kernel_rfl)) ?_)))))))))
      refine lo (aw (α:=bq) g724 (is 25) (is 25) (25,0) rfl ([((j_c1:Int),0,-0)]:List bq) cZ cM (by decide) (by decide) (vs:=[(0,vg [vi ↑j_c1,vi 0,vi (-0)])]) rfl rfl (.cons rfl .nil) ?_)
      intro g725 w726 v727 ch728 o729
      refine lo ?_
      replace o650:=o650.cn ch728
      refine aA (α:=bq) (xs:=(W2_c1++([(t.1+1,-(gI t.2.2 ↑j_c1),0)]:List bq))) (ys:=([((j_c1:Int),0,-0)]:List bq)) g725 (J:=is 11) (S:=is 11) (11,0) rfl cZ cM (by decide) rfl rfl rfl o650 o729.flat (by decide) (by(simp;omega)) ?_
      intro g730 w731 v732 ch733 o734
      clear o650
      refine lw (vp b30 0) (ad rfl) (lx (a7 bB rfl rfl rfl rfl) (lo ?_))
      replace bx653:=(bx653.cn ch728).ce ch733
      refine bj (cs':=[v732,v24,v25,v26,v27,vi t.1,vi (t.1+1),vi ak_c1,vi 0]) aY rfl rfl bx653 (bf o734.flat) nq (aZ o734.flat) rfl ?_
      intro w735 ch736 bx737
      clear bx653
      refine af (bU (vs:=[]) Try.func29 .nil ?_)
      have C738:=cg [7,11] (ch728.n.seq ((ch733.l rfl).seq (ch736.l rfl)))
      replace bH:=bH.ca C738
      replace Rt:=Rt.ca C738
      replace r_t_v1:=r_t_v1.ca C738
      replace bx5:=bx5.ca C738
      replace o678:=o678.ca C738
      replace o21:=o21.ca C738
      replace o22:=o22.ca C738
      replace o23:=o23.ca C738
      replace o734:=o734.ce ch736
      refine⟨(v732,((W2_c1++([(t.1+1,-(gI t.2.2 ↑j_c1),0)]:List bq))++([((j_c1:Int),0,-0)]:List bq)),(List.set (List.set O2_c1 (Int.toNat ↑j_c1) (gI O2_c1 ↑j_c1++([(W2_c1.length:Int)]:List Int))) (Int.toNat (t.1+1)) (gI (List.set O2_c1 (Int.toNat ↑j_c1) (gI O2_c1 ↑j_c1++([(W2_c1.length:Int)]:List Int))) (t.1+1)++([(List.length (W2_c1++([(t.1+1,-(gI t.2.2 ↑j_c1),0)]:List bq)):Int)]:List Int))),g730),rfl,bH,Rt,r_t_v1,bx5,o678,o21,o22,o23,bx737,o734,?_⟩
      show(((W2_c1++([(t.1+1,-(gI t.2.2 ↑j_c1),0)]:List bq))++([((j_c1:Int),0,-0)]:List bq)),(List.set (List.set O2_c1 (Int.toNat ↑j_c1) (gI O2_c1 ↑j_c1++([(W2_c1.length:Int)]:List Int))) (Int.toNat (t.1+1)) (gI (List.set O2_c1 (Int.toNat ↑j_c1) (gI O2_c1 ↑j_c1++([(W2_c1.length:Int)]:List Int))) (t.1+1)++([(List.length (W2_c1++([(t.1+1,-(gI t.2.2 ↑j_c1),0)]:List bq)):Int)]:List Int))))=de (W2_c1,O2_c1) (j_c1:Int) (t.1+1) (-(gI t.2.2 ↑j_c1)) 0
      (unfold de;simp)
     clear Rt r_t_v1 bx5 o20 o21 o22 o23 bx32 o_W2_c1 bH
     rintro⟨Wj_c5_v,Wj_c5,Oj_c5,g740⟩ w739 ⟨bH,Rt,r_t_v1,bx5,o20,o21,o22,o23,bx32,o_Wj_c5,hja_c5⟩
     have hjw_c5:Wj_c5.length=(W2_c1).length+2:=by have h:=congrArg (λz=>z.1.length) hja_c5;simpa[de] using h
     refine af (aq (a6 rfl (lx (aP (m:=↑j_c1) (n:=1) zs48_c1 rfl (by omega)) (mi ((j_c1:Int)+1) (af ?_)))))
     refine back9_c1 (Wj_c5_v,Wj_c5,ak_c1,j_c1+1,Oj_c5,g740) _ _ ⟨bH,zs4_c1,zs46_c1,zs47_c1,rfl,Rt,r_t_v1,bx5,o20,o21,o22,o23,bx32,o_Wj_c5,by omega,?_⟩ ?_
     · show gv t (j_c1+1) Wj_c5 Oj_c5 ak_c1
       exact hln_c1.minus hm ‹_› ‹_› ‹_› ‹_›
     · show Int.toNat (((t.2.2.length:Int):Int)-((j_c1+1):Int))<Int.toNat (((t.2.2.length:Int):Int)-(j_c1:Int))
       omega
    refine am rfl (df p14_c1) (au (aq (a6 rfl (lx (aP (m:=↑j_c1) (n:=1) zs48_c1 rfl (by omega)) (mi ((j_c1:Int)+1) (af ?_))))))
    refine back9_c1 (W2_c1_v,W2_c1,ak_c1,j_c1+1,O2_c1,g224) _ _ ⟨bH,zs4_c1,zs46_c1,zs47_c1,rfl,Rt,r_t_v1,bx5,o20,o21,o22,o23,bx32,o_W2_c1,by omega,?_⟩ ?_
    · show gv t (j_c1+1) W2_c1 O2_c1 ak_c1
      exact hln_c1.none hm ‹_› ‹_› ‹_›
    · show Int.toNat (((t.2.2.length:Int):Int)-((j_c1+1):Int))<Int.toNat (((t.2.2.length:Int):Int)-(j_c1:Int))
      omega
   refine am rfl (df p9_c1) (aM rfl (a9 (a6 rfl (mz zs4_c1 (ma (vp b30 0) (af (aF (vs:=[vp b30 0]) Try.func24 (.tmp rfl .nil) ?_)))))))
   refine⟨vp b30 0,rfl,?_⟩
   refine ma (vp b30 0) (af (a9 ?_))
   have hWO:=hln_c1.done hm (by omega) (by omega)
   refine a6 rfl (mv (vp b30 0) (lo ?_))
   refine bF (σ:=Int×(List bq)×(List Int)×(List Int)×(List Int)×aG) (V:=λ⟨fz_c6,Wz_c6,Pz_c6,Fz_c6,Nz_c6,gq⟩=>vt []) (S:=λ⟨fz_c6,Wz_c6,Pz_c6,Fz_c6,Nz_c6,gq⟩ w=>b9 w0 gq w/\Sl gq (is 0) w t_v t.2.1/\Sl gq (is 0) w t_v1 t.2.2/\Bx gq (is 1) w b3 [vi t.1,t_v,t_v1]/\bN gq 3 w v24 O2_c1/\Ow gq (is 4) (is 4) w v25 Pz_c6/\Ow gq (is 5) (is 5) w v26 Fz_c6/\Ow gq (is 6) (is 6) w v27 Nz_c6/\Bx gq (is 7) w b30 [W2_c1_v,v24,v25,v26,v27,vi t.1,vi (t.1+1),vi ak_c1,vi fz_c6]/\Ow gq (is 11) (is 11) w W2_c1_v Wz_c6/\(dx t.1 t.2.1 t.2.2=(Wz_c6,Pz_c6,Fz_c6,Nz_c6,fz_c6))) (aU (vals:=[vp b30 0]) Try.func25 qQ qL rfl) (kG bH Rt r_t_v1 bx5 o20 o21 o22 o23 bx32 o_W2_c1 hm hN60 (hln_c1.done hm (by omega) (by omega))) ?_
   clear Rt r_t_v1 bx5 o20 o21 o22 o23 bx32 o_W2_c1 bH
   rintro⟨fz_c6,Wz_c6,Pz_c6,Fz_c6,Nz_c6,g1076⟩ w1075 ⟨bH,Rt,r_t_v1,bx5,o20,o21,o22,o23,bx32,o_W2_c1,hfz_c6⟩
   obtain⟨hfzp_c6,hfzf_c6,hfzw_c6,hfz0_c6,hfz1_c6⟩:=o8 hm hfz_c6
   refine af (a9 (a9 (bt g1076 rfl dp (by kernel_rfl) ?_)))
   intro w1078 ch1077
   refine qm (vp b30 0) (qv (vp b30 0) (λw' hw'=>ad rfl) (qx (λw' hw'=>a7 bB rfl rfl rfl rfl) ?_))
   replace bx32:=bx32.cn ch1077
   refine qx (λw' hw'=>a8 ae rfl (bx32.bel hw') rfl) (qm (vp b30 0) (qv (vp b30 0) (λw' hw'=>ad rfl) (qx (λw' hw'=>a7 bB rfl rfl rfl rfl) (qx (λw' hw'=>a8 ae rfl (bx32.bel hw') rfl) (qx (λw' hw'=>cw (m:=fz_c6) (n:=ak_c1) rfl rfl) (bX ?_))))))
   intro w1079 hc1080
   replace hc1080:=aB hc1080 g1076
   by_cases p7:fz_c6=ak_c1
   ·
    refine aj rfl (dt p7) (a9 ?_)
    clear bx5 o20 o21 o22 o23 bx32 o_W2_c1
    refine a6 rfl (ma vn (ai 14 (af (aF (vs:=[vn,vi 14]) Try.func13 (.tmp rfl (.tmp rfl .nil)) ?_))))
    replace bH:=bH.cn ch1077
    replace bH:=bH.cn hc1080
    have e0:([]:List Int)=((aS t).1):=by
      rw[lI hm hfz_c6 hWO (of_decide_eq_true ‹_›) ‹_›]
    have e1:(14:Int)=((aS t).2):=by
      rw[lI hm hfz_c6 hWO (of_decide_eq_true ‹_›) ‹_›]
    exact⟨(fin w0 g1076 (λn=>0),vn),(fz (a:=[]) (b:=14) (λ(z0:List Int) (z1:Int)=>Ending.returned (vt [vn,vi z1])) e0 e1),bH.fresh _,(e0▸Ow.nil)⟩
   refine am rfl (df p7) (au (a9 (a6 rfl (ma vn (af (a9 (a9 (a6 rfl (lx (a7 cP rfl rfl rfl rfl) ?_)))))))))
   replace bx5:=(bx5.cn ch1077).cn hc1080
   refine lx (a8 ae rfl bx5 rfl) (mi 0 (af (av ?_)))
   clear bx5
   refine aX (σ:=Value×(List Int)×Nat×aG) (λ⟨l_v,l,k,gq⟩ f w=>b9 w0 gq w/\f 4=vp b30 0/\f 5=l_v/\f 29=vi t.1/\f 30=vi ↑k/\Sl gq (is 0) w t_v t.2.1/\Sl gq (is 0) w t_v1 t.2.2/\bN gq 3 w v24 O2_c1/\Ow gq (is 4) (is 4) w v25 Pz_c6/\Ow gq (is 5) (is 5) w v26 Fz_c6/\Ow gq (is 6) (is 6) w v27 Nz_c6/\Bx gq (is 7) w b30 [W2_c1_v,v24,v25,v26,v27,vi t.1,vi (t.1+1),vi ak_c1,vi fz_c6]/\Ow gq (is 11) (is 11) w W2_c1_v Wz_c6/\Ow gq (is 38) (is 38) w l_v l/\(k:Int)<=(t.1:Int)/\(l=ki Fz_c6 k)) (λ⟨l_v,l,k,gq⟩=>Int.toNat ((t.1:Int)-(k:Int))) (vn,[],0,g1076) ?_ ?_
   replace bH:=bH.cn ch1077
   · exact⟨bH.cn hc1080,rfl,rfl,rfl,rfl,(Rt.cn ch1077).cn hc1080,(r_t_v1.cn ch1077).cn hc1080,(o20.cn ch1077).cn hc1080,(o21.cn ch1077).cn hc1080,(o22.cn ch1077).cn hc1080,(o23.cn ch1077).cn hc1080,bx32.cn hc1080,(o_W2_c1.cn ch1077).cn hc1080,Ow.nil,by omega,by rfl⟩
   clear Rt r_t_v1 o20 o21 o22 o23 bx32 o_W2_c1 bH
   rintro⟨l_v,l,k,g1083⟩ f1081 w1082 ⟨bH,zs4,zs5,zs29,zs30,Rt,r_t_v1,o20,o21,o22,o23,bx32,o_W2_c1,o_l,hle_k,hwh⟩ back11
   have hwll:l.length<=k:=by rw[hwh];exact n4
   refine a9 (a6 rfl (lx (bo (m:=↑k) (n:=t.1) zs30 zs29) (af (a9 ?_))))
   by_cases p11:(k:Int)<t.1
   ·
    refine aj rfl (dt p11) (au (a9 (av (a9 (a6 rfl (mz zs30 (ai (k:Int) (af (a9 (a6 rfl (mz zs4 (lw (vp b30 0) (ad rfl) ?_))))))))))))
    refine lx (a7 bB rfl rfl rfl rfl) (lx (a8 ao rfl bx32 rfl) (mi ↑k (lx (aa (v:=v26) (i:=↑k) aW rfl rfl o22.flat rfl (by omega) (by omega)) (lx (ay (v:=v26) (i:=↑k) ae rfl o22.flat (by omega) (by omega) (by decide) rfl) (lx (bo (m:=(gI Fz_c6 ↑k)) (n:=1152921504606846976) rfl rfl) (af ?_))))))
    by_cases p13:(gI Fz_c6 ↑k)<1152921504606846976
    ·
     refine aj rfl (dt p13) (a6 rfl (mz zs5 (mi ↑k (lo (aw (α:=Int) g1083 (is 37) (is 37) (37,0) rfl ([(k:Int)]:List Int) aW ae (by decide) (by decide) (vs:=[(0,vi ↑k)]) rfl rfl (.cons rfl .nil) ?_)))))
     intro g1084 w1085 v1086 ch1087 o1088
     refine lo ?_
     replace o_l:=o_l.cn ch1087
     refine aA (α:=Int) (xs:=l) (ys:=([(k:Int)]:List Int)) g1084 (J:=is 38) (S:=is 38) (38,0) rfl aW ae (by decide) rfl rfl rfl o_l o1088.flat (by decide) (by(simp;omega)) ?_
     intro g1089 w1090 v1091 ch1092 o1093
     clear o_l
     refine ma v1091 (af (aq ?_))
     clear o1088
     refine a6 rfl (lx (aP (m:=↑k) (n:=1) zs30 rfl (by omega)) (mi ((k:Int)+1) (af ?_)))
     replace bH:=bH.cn ch1087
     refine back11 (v1091,(l++([(k:Int)]:List Int)),k+1,g1089) _ _ ⟨bH.ce ch1092,zs4,rfl,zs29,rfl,(Rt.cn ch1087).ce ch1092,(r_t_v1.cn ch1087).ce ch1092,(o20.cn ch1087).ce ch1092,(o21.cn ch1087).ce ch1092,(o22.cn ch1087).ce ch1092,(o23.cn ch1087).ce ch1092,(bx32.cn ch1087).ce ch1092,(o_W2_c1.cn ch1087).ce ch1092,o1093,by omega,?_⟩ ?_
     · show(l++([(k:Int)]:List Int))=ki Fz_c6 (k+1)
       (rw[hwh];exact mU ‹_›)
     · show Int.toNat ((t.1:Int)-((k+1):Int))<Int.toNat ((t.1:Int)-(k:Int))
       omega
    refine am rfl (df p13) (au (aq (a6 rfl (lx (aP (m:=↑k) (n:=1) zs30 rfl (by omega)) (mi ((k:Int)+1) (af ?_))))))
    refine back11 (l_v,l,k+1,g1083) _ _ ⟨bH,zs4,zs5,zs29,rfl,Rt,r_t_v1,o20,o21,o22,o23,bx32,o_W2_c1,o_l,by omega,?_⟩ ?_
    · show l=ki Fz_c6 (k+1)
      (rw[hwh];exact nU ‹_›)
    · show Int.toNat ((t.1:Int)-((k+1):Int))<Int.toNat ((t.1:Int)-(k:Int))
      omega
   refine am rfl (df p11) (aM rfl (a9 ?_))
   clear o20 o21 o22 o23 bx32 o_W2_c1
   refine a6 rfl (mz zs5 (ma l_v (ai 0 (af (aF (vs:=[l_v,vi 0]) Try.func13 (.tmp rfl (.tmp rfl .nil)) ?_)))))
   have e0:(l:List Int)=((aS t).1):=by
     (rw[lY hm hfz_c6 hWO (of_decide_eq_true ‹_›) ‹_› (k:=k) (by omega) ‹_›,<-hwh];(done))
   have e1:(0:Int)=((aS t).2):=by
     (rw[lY hm hfz_c6 hWO (of_decide_eq_true ‹_›) ‹_› (k:=k) (by omega) ‹_›,<-hwh];(done))
   exact⟨(fin w0 g1083 (λn=>if n=38 then 1 else 0),l_v),(fz (a:=l) (b:=0) (λ(z0:List Int) (z1:Int)=>Ending.returned (vt [l_v,vi z1])) e0 e1),bH.fresh _,(e0▸(o_l.glue (γ:=c0) (ren:=(λn=>if n=38 then 1 else 0)) (k:=1) bH.col rfl rfl))⟩
  refine aj rfl (congrArg Bool.not (Bool.eq_false_iff.2 p3)) (a9 ?_)
  clear bx5
  refine a6 rfl (ma vn (ai 0 (af (aF (vs:=[vn,vi 0]) Try.func13 (.tmp rfl (.tmp rfl .nil)) ?_))))
  have C1094:=cg [] (ch2.n.seq (hb7.n.seq hb9.n))
  replace bH:=bH.ca C1094
  have e0:([]:List Int)=((aS t).1):=by
    rw[iJ hm (λh=>absurd (dt h) ‹_›)]
  have e1:(0:Int)=((aS t).2):=by
    rw[iJ hm (λh=>absurd (dt h) ‹_›)]
  exact⟨(fin w0 g4 (λn=>0),vn),(fz (a:=[]) (b:=0) (λ(z0:List Int) (z1:Int)=>Ending.returned (vt [vn,vi z1])) e0 e1),bH.fresh _,(e0▸Ow.nil)⟩
 refine aj rfl (congrArg Bool.not (Bool.eq_false_iff.2 p1)) (a9 ?_)
 clear bx5
 refine a6 rfl (ma vn (ai 1 (af (aF (vs:=[vn,vi 1]) Try.func13 (.tmp rfl (.tmp rfl .nil)) ?_))))
 replace bH:=bH.cn ch2
 replace bH:=bH.cn hb7
 have e0:([]:List Int)=((aS t).1):=by
   rw[kI (λh=>absurd (dI h) ‹_›)]
 have e1:(1:Int)=((aS t).2):=by
   rw[kI (λh=>absurd (dI h) ‹_›)]
 exact⟨(fin w0 g4 (λn=>0),vn),(fz (a:=[]) (b:=1) (λ(z0:List Int) (z1:Int)=>Ending.returned (vt [vn,vi z1])) e0 e1),bH.fresh _,(e0▸Ow.nil)⟩
end TL
