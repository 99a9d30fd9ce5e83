import Derived.Test.YtmaclbnodbcniaaFlTlP3
import Derived.Test.YtmaclbnodbcniaaFlTlFwG
import Derived.Test.YtmaclbnodbcniaaFlTlFwQ
import Derived.Test.YtmaclbnodbcniaaProg
import Derived.Test.YtmaclbnodbcniaaFlTlAli
set_option linter.all false
set_option maxRecDepth 20000
namespace TL
open Go Go.Proofs
theorem fP:Try.prog.follows .mixedOrders=true:=by kernel_rfl
theorem qE:Try.f8.body.isNone=false:=rfl
theorem qK:(Try.f8.name== "runtime.NumGoroutine")=false:=by decide+kernel
theorem qN:Try.f9.body.isNone=false:=rfl
theorem qp:(Try.f9.name== "runtime.NumGoroutine")=false:=by decide+kernel
theorem pa:Try.f17.body.isNone=false:=rfl
theorem oZ:(Try.f17.name== "runtime.NumGoroutine")=false:=by decide+kernel
set_option maxHeartbeats 8000000 in
theorem jx(w0:World)(t:(Int)×(List ((Int)×(Int)×(Int)×(Int)))×(List Int))(t_v t_v1:Value)(ht_v:Ro w0 t_v t.2.1)(ht_v1:Ro w0 t_v1 t.2.2)(on:List Int)(on_v:Value)(hon_v:Ro w0 on_v on):
    Calls Try.prog 5 #[vg [vi t.1,t_v,t_v1],on_v] w0 (λee w=>ee= .returned (vb true)/\dk w0.heap.size w0 w):=by
 refine az Try.func5 rfl nq ?_
 have bH:=aS.start w0
 have Rt:=ht_v.sl
 have r_t_v1:=ht_v1.sl
 have Ron:=hon_v.sl
 refine a9 (a6 rfl (d8 rfl (dy c0 (is 1) (1,0) rfl rfl ?_)))
 intro g4 w1 b3 ch2 bx5
 replace bx5:Bx g4 (is 1) w1 b3 [vi t.1,t_v,t_v1]:=bx5
 refine ma (vb false) (ag (a9 (a9 (a6 rfl (d8 rfl (bA (v:=vb true) (aU (vals:=[]) Try.func8 qE qK rfl) (m8 w1) ?_))))))
 intro w6 hb7
 replace hb7:=aD hb7 g4
 refine lx (cB (b:=true) rfl) (ag (am rfl rfl (au (a9 (a9 (a6 rfl ?_))))))
 replace bx5:=bx5.cn hb7
 refine lx (bx (ds:=[vi t.1,t_v,t_v1]) cD rfl bx5 rfl rfl) ?_
 replace Rt:=(Rt.cn ch2).cn hb7
 replace r_t_v1:=(r_t_v1.cn ch2).cn hb7
 refine lo (bA (v:=vb (decide (t.2.1.length<=200/\t.2.2.length<=1000/\(t.1<=60\/¬cz t)))) (aU (vals:=[vg [vi t.1,t_v,t_v1]]) Try.func9 qN qp rfl) (mh w6 t t_v t_v1 (Rt).ro (r_t_v1).ro) ?_)
 intro w8 hb9
 replace hb9:=aD hb9 g4
 refine lx (cB (b:=(decide (t.2.1.length<=200/\t.2.2.length<=1000/\(t.1<=60\/¬cz t)))) rfl) (mv (vb (!(decide (t.2.1.length<=200/\t.2.2.length<=1000/\(t.1<=60\/¬cz t))))) ?_)
 by_cases q18:(decide (t.2.1.length<=200/\t.2.2.length<=1000/\(t.1<=60\/¬cz t)))=true
 ·
  replace bx5:=bx5.cn hb9
  refine lv (vg [vi t.1,t_v,t_v1]) (wy (congrArg Bool.not q18)) (bx (ds:=[vi t.1,t_v,t_v1]) cD rfl bx5 rfl rfl) ?_
  replace Rt:=Rt.cn hb9
  replace r_t_v1:=r_t_v1.cn hb9
  refine d8 (wy (congrArg Bool.not q18)) (bA (v:=vb (bJ t)) (aU (vals:=[vg [vi t.1,t_v,t_v1]]) Try.func10 k7 jS rfl) (iy w8 t t_v t_v1 (Rt).ro (r_t_v1).ro) ?_)
  intro w10 hb11
  replace hb11:=aD hb11 g4
  refine lv (vb (!(bJ t))) (wy (congrArg Bool.not q18)) (cB (b:=(bJ t)) rfl) (lw (vb (!(bJ t))) (aI rfl (congrArg Bool.not q18) rfl) (mv (vb (!(bJ t))) ?_))
  by_cases q23:(bJ t)=true
  ·
   refine lv (on_v) (wy (congrArg Bool.not q23)) (ah rfl) ?_
   have C12:=cg [] (ch2.n.seq (hb7.n.seq (hb9.n.seq hb11.n)))
   replace Ron:=Ron.ca C12
   have len13:=(Ron).small
   refine lv (vi (on.length:Int)) (wy (congrArg Bool.not q23)) (bi aW rfl Ron) (lv (vp b3 1) (wy (congrArg Bool.not q23)) (a7 dh rfl rfl rfl rfl) ?_)
   replace bx5:=bx5.cn hb11
   refine lv (t_v) (wy (congrArg Bool.not q23)) (a8 ci rfl bx5 rfl) ?_
   replace Rt:=Rt.cn hb11
   have len14:=(Rt).small
   refine lv (vi (t.2.1.length:Int)) (wy (congrArg Bool.not q23)) (bi i8 rfl Rt) (lv (vb (!(decide ((on.length:Int)=(t.2.1.length:Int))))) (wy (congrArg Bool.not q23)) (dW (m:=(on.length:Int)) (n:=(t.2.1.length:Int)) rfl rfl) (lw (vb (!(decide ((on.length:Int)=(t.2.1.length:Int))))) (aI rfl (congrArg Bool.not q23) rfl) (ag ?_)))
   by_cases p3:(on.length:Int)=(t.2.1.length:Int)
   ·
    refine am rfl (congrArg Bool.not (dt p3)) (au (a9 ?_))
    have hm:cz t:=of_decide_eq_true ‹_›
    have hli:t.2.1.length<=200/\t.2.2.length<=1000/\(t.1<=60\/¬cz t):=of_decide_eq_true ‹_›
    have hN60:t.1<=60:=hli.2.2.resolve_right (λh=>h hm)
    have hl200:t.2.1.length<=200:=hli.1
    have hm0:=hm
    obtain⟨⟨hm1,hm2⟩,hm3,hm4,hm5,hm6⟩:=hm0
    refine a6 rfl (lx (a7 dh rfl rfl rfl rfl) (lx (a8 ae rfl bx5 rfl) (lo (d4 (α:=Int) (l:=t.1) (cp:=t.1) g4 (is 2) (is 2) (2,0) rfl (0:Int) aW ae rfl rfl rfl (by omega) (by omega) (by omega) (by omega) ?_))))
    intro g15 w16 v17 ch18 o19 _
    refine ma v17 (ag (a9 (a6 rfl (ai 0 (ag (a9 (a9 (a6 rfl (ai 0 (ag (aw ?_)))))))))))
    refine aR (σ:=Int×Nat×(List Int)×aE) (λ⟨co,k,ov,gq⟩ f w=>aS w0 gq w/\f 1=on_v/\f 2=vp b3 0/\f 5=v17/\f 6=vi co/\f 7=vi ↑k/\Sl gq (is 0) w t_v t.2.1/\Sl gq (is 0) w t_v1 t.2.2/\Sl gq (is 0) w on_v on/\Bx gq (is 1) w b3 [vi t.1,t_v,t_v1]/\Ow gq (is 2) (is 2) w v17 ov/\(k:Int)<=((on.length:Int):Int)/\(mV t (on,([]:List Int),(0:Int)) k ov co)) (λ⟨co,k,ov,gq⟩=>Int.toNat (((on.length:Int):Int)-(k:Int))) (0,0,(List.replicate (Int.toNat t.1) (0:Int)),g15) ?_ ?_
    have C20:=cg [] (ch2.n.seq (hb7.n.seq (hb9.n.seq (hb11.n.seq ch18.n))))
    · exact⟨bH.ca C20,rfl,rfl,rfl,rfl,rfl,Rt.cn ch18,(r_t_v1.cn hb11).cn ch18,Ron.cn ch18,bx5.cn ch18,o19,by omega,by exact mV.start hm⟩
    clear Rt r_t_v1 Ron bx5 o19 bH
    rintro⟨co,k,ov,g23⟩ f21 w22 ⟨bH,zs1,zs2,zs5,zs6,zs7,Rt,r_t_v1,Ron,bx5,o19,hle_k,hfo⟩ back8
    have hovl:=hfo.ln
    obtain⟨hovb,hco0,hco1⟩:=hfo.bd hm (by omega)
    refine a9 (a9 (a6 rfl (mz zs7 (mz zs1 (lx (bi aW rfl Ron) (lx (bj (m:=↑k) (n:=(on.length:Int)) rfl rfl) (ag ?_)))))))
    by_cases p8:(k:Int)<(on.length:Int)
    ·
     refine aj rfl (dt p8) ?_
     obtain⟨⟨ha0,ha1⟩,⟨ha2,ha3⟩,⟨ha4,ha5⟩,ha6,ha7⟩:=hm5 _ (bk (xs:=t.2.1) (i:=↑k) (by omega) (by omega))
     obtain⟨hoa0,hoa1⟩:=hovb _ ha0 ha1
     obtain⟨hob0,hob1⟩:=hovb _ ha2 ha3
     refine au (a9 (aw (a9 (a6 rfl (lx (a7 dh rfl rfl zs2 rfl) (lx (a8 ci rfl bx5 rfl) (mz zs7 (lx (aa (v:=t_v) (i:=↑k) i8 rfl rfl Rt rfl (by omega) (by omega)) (lw (vg [vi ((gI t.2.1 ↑k).1),vi (((gI t.2.1 ↑k).2).1),vi ((((gI t.2.1 ↑k).2).2).1),vi ((((gI t.2.1 ↑k).2).2).2)]) (b7 (v:=t_v) (i:=↑k) bP rfl Rt (by omega) (by omega) rfl) (lo ?_))))))))))
     refine bX g23 (is 3) (3,0) rfl bP ?_
     intro g27 w24 b26 ch25 bx28
     replace bx28:Bx g27 (is 3) w24 b26 [vi 0,vi 0,vi 0,vi 0]:=bx28
     refine lo (aT (cs':=[vi ((gI t.2.1 ↑k).1),vi (((gI t.2.1 ↑k).2).1),vi ((((gI t.2.1 ↑k).2).2).1),vi ((((gI t.2.1 ↑k).2).2).2)]) bP rfl rfl bx28 rfl nq (AllOne.all (.cons rfl (.cons rfl (.cons rfl (.cons rfl .nil))))) rfl ?_)
     intro w29 ch30 bx31
     clear bx28
     refine ag (a9 (a9 (bB g27 rfl fP (by kernel_rfl) ?_)))
     intro w33 ch32
     refine qz zs1 (qz zs7 ?_)
     have C34:=cg [3] (ch25.n.seq ((ch30.l rfl).seq ch32.n))
     replace Ron:=Ron.ca C34
     refine qx (λw' hw'=>aa (v:=on_v) (i:=↑k) aW rfl rfl (Ron.bel hw') rfl (by omega) (by omega)) (qx (λw' hw'=>aq (v:=on_v) (i:=↑k) ae rfl (Ron.bel hw') (by omega) (by omega) (by decide) rfl) (qx (λw' hw'=>bj (m:=(gI on ↑k)) (n:=0) rfl rfl) (qm (vb (decide ((gI on ↑k)<0))) ?_)))
     by_cases q50:(gI on ↑k)<0
     ·
      refine aK (wn (dt q50)) (aK (wn (dt q50)) (aK (wn (dt q50)) (aK (wn (dt q50)) (aK (wn (dt q50)) (aK (wn (dt q50)) (aK (wn (dt q50)) (qv (vb true) (λw' hw'=>ax rfl (dt q50) rfl) (cd ?_))))))))
      intro w35 hc36
      replace hc36:=aD hc36 g27
      refine aj rfl rfl (a9 ?_)
      clear bx5 o19 bx31
      refine a6 rfl (ma (vb true) (ag (aB (vs:=[vb true]) Try.func5 (.tmp rfl .nil) ?_)))
      have e0:(true:Bool)=(true):=by
        rfl
      have C37:=cg [3] (ch25.n.seq ((ch30.l rfl).seq (ch32.n.seq hc36.n)))
      replace bH:=bH.ca C37
      exact⟨rb e0,bH.below⟩
     refine aY (v:=on_v) (wy (df q50)) (λw' hw'=>ah zs1) (aY (v:=vi ↑k) (wy (df q50)) (λw' hw'=>ah zs7) (aY (v:=Value.pointer (some (aO on_v 1 (Int.toNat ↑k)))) (wy (df q50)) (λw' hw'=>aa (α:=Int) (xs:=on) (v:=on_v) (i:=↑k) aW rfl rfl (Ron.bel hw') rfl (by omega) (by omega)) (aY (v:=vi (gI on ↑k)) (wy (df q50)) (λw' hw'=>aq (α:=Int) (xs:=on) (v:=on_v) (i:=↑k) ae rfl (Ron.bel hw') (by omega) (by omega) (by decide) rfl) (aY (v:=vp b26 2) (wy (df q50)) (λw' hw'=>a7 d9 rfl rfl rfl rfl) ?_))))
     replace bx31:=bx31.cn ch32
     refine aY (v:=vi ((((gI t.2.1 ↑k).2).2).1)) (wy (df q50)) (λw' hw'=>a8 ae rfl (bx31.bel hw') rfl) (aY (v:=vb (decide (((((gI t.2.1 ↑k).2).2).1)<(gI on ↑k)))) (wy (df q50)) (λw' hw'=>bR (m:=(gI on ↑k)) (n:=(((gI t.2.1 ↑k).2).2).1) rfl rfl) (qv (vb (decide (((((gI t.2.1 ↑k).2).2).1)<(gI on ↑k)))) (λw' hw'=>aI rfl (df q50) rfl) (cd ?_)))
     intro w38 hc39
     replace hc39:=aD hc39 g27
     by_cases p11:((((gI t.2.1 ↑k).2).2).1)<(gI on ↑k)
     ·
      refine aj rfl (dt p11) (a9 ?_)
      clear bx5 o19 bx31
      refine a6 rfl (ma (vb true) (ag (aB (vs:=[vb true]) Try.func5 (.tmp rfl .nil) ?_)))
      have e0:(true:Bool)=(true):=by
        rfl
      have C40:=cg [3] (ch25.n.seq ((ch30.l rfl).seq (ch32.n.seq hc39.n)))
      replace bH:=bH.ca C40
      exact⟨rb e0,bH.below⟩
     refine am rfl (df p11) (au (a9 ?_))
     obtain⟨hx0,hx1⟩:0<=gI on ↑k/\gI on ↑k<=(gI t.2.1 ↑k).2.2.1:=by omega
     obtain⟨⟨hx2,hx3⟩,hx4,hx5⟩:(0<=gI on ↑k/\gI on ↑k<=1048576)/\0<=gI on ↑k*(gI t.2.1 ↑k).2.2.2/\gI on ↑k*(gI t.2.1 ↑k).2.2.2<=1099511627776:=gB (f:=(on,([]:List Int),(0:Int))) (k:=k) hm hx0 hx1 (by omega)
     obtain⟨hx6,hx7⟩:=jd (k:=k) hm hovl hovb hx2 hx3 (by omega)
     refine aJ g27 [0,1,2,3,4,5,6,7,8,9,10,11,12,13] fP ?_
     intro w42 ch41
     refine xp (v:=v17) 0 rfl (λw=>ah zs5) (xp 1 rfl (λw=>a7 d9 rfl rfl rfl rfl) ?_)
     replace bx31:=(bx31.cn hc39).cn ch41
     refine xv 2 [1,0,3,4,8,9,5,10,6,11,7,12] rfl (a8 ae rfl bx31 rfl) (xp (v:=v17) 3 rfl (λw=>ah zs5) (xp 4 rfl (λw=>a7 d9 rfl rfl rfl rfl) (xv 5 [4,3,2,1,0,8,9,10,11] rfl (a8 ae rfl bx31 rfl) ?_)))
     have C43:=cg [3] (ch25.n.seq ((ch30.l rfl).seq (ch32.n.seq (hc39.n.seq ch41.n))))
     replace o19:=o19.ca C43
     refine xv 6 [5,4,3,2,1,0,8,9,10,11] rfl (aa (v:=v17) (i:=(gI t.2.1 ↑k).1) aW rfl rfl o19.flat rfl (by omega) (by omega)) (xv 7 [6,5,4,3,2,1,0,8,9,10,11] rfl (aq (v:=v17) (i:=(gI t.2.1 ↑k).1) ae rfl o19.flat (by omega) (by omega) (by decide) rfl) (xp (v:=on_v) 8 rfl (λw=>ah zs1) (xp (v:=vi ↑k) 9 rfl (λw=>ah zs7) ?_)))
     replace Ron:=(Ron.cn hc39).cn ch41
     refine xv 10 [9,8,7,6,5,4,3,2,1,0] rfl (aa (v:=on_v) (i:=↑k) aW rfl rfl Ron rfl (by omega) (by omega)) (xv 11 [10,9,8,7,6,5,4,3,2,1,0] rfl (aq (v:=on_v) (i:=↑k) ae rfl Ron (by omega) (by omega) (by decide) rfl) (xp 12 rfl (λw=>aQ (m:=(gI ov ((gI t.2.1 ↑k).1))) (n:=(gI on ↑k)) rfl rfl (by omega)) (xv 13 [12,11,10,9,8,7,6,5,4,3,2,1,0] rfl (aa (v:=v17) (i:=(gI t.2.1 ↑k).1) aW rfl rfl o19.flat rfl (by omega) (by omega)) (aC 14 rfl (by kernel_rfl) rfl (aF (i:=(gI t.2.1 ↑k).1) ((gI ov ((gI t.2.1 ↑k).1))+(gI on ↑k)) ae rfl rfl o19 (by omega) (by omega) rfl ?_)))))
     intro w44 ch45 bx46
     clear o19
     refine aV (by kernel_rfl) (a9 (aJ g27 [0,1,2,3,4,5,6,7,8,9,10,11,12,13] fP ?_))
     intro w48 ch47
     refine xp (v:=v17) 0 rfl (λw=>ah zs5) (xp 1 rfl (λw=>a7 d9 rfl rfl rfl rfl) ?_)
     replace bx31:=(bx31.ce ch45).cn ch47
     refine xv 2 [1,0,3,4,8,9,5,10,6,11,7,12] rfl (a8 ae rfl bx31 rfl) (xp (v:=v17) 3 rfl (λw=>ah zs5) (xp 4 rfl (λw=>a7 d9 rfl rfl rfl rfl) (xv 5 [4,3,2,1,0,8,9,10,11] rfl (a8 ae rfl bx31 rfl) ?_)))
     replace bx46:=bx46.cn ch47
     refine xv 6 [5,4,3,2,1,0,8,9,10,11] rfl (aa (v:=v17) (i:=((gI t.2.1 ↑k).2).1) aW rfl rfl bx46.flat rfl (by omega) (by(simp only[List.length_set,List.length_append,List.length_cons,List.length_nil,List.length_replicate,List.length_map,List.length_take,List.length_drop];omega))) (xv 7 [6,5,4,3,2,1,0,8,9,10,11] rfl (aq (v:=v17) (i:=((gI t.2.1 ↑k).2).1) ae rfl bx46.flat (by omega) (by(simp only[List.length_set,List.length_append,List.length_cons,List.length_nil,List.length_replicate,List.length_map,List.length_take,List.length_drop];omega)) (by decide) rfl) (xp (v:=on_v) 8 rfl (λw=>ah zs1) (xp (v:=vi ↑k) 9 rfl (λw=>ah zs7) ?_)))
     replace Ron:=(Ron.ce ch45).cn ch47
     refine xv 10 [9,8,7,6,5,4,3,2,1,0] rfl (aa (v:=on_v) (i:=↑k) aW rfl rfl Ron rfl (by omega) (by omega)) (xv 11 [10,9,8,7,6,5,4,3,2,1,0] rfl (aq (v:=on_v) (i:=↑k) ae rfl Ron (by omega) (by omega) (by decide) rfl) (xp 12 rfl (λw=>cY (m:=(gI (List.set ov (Int.toNat ((gI t.2.1 ↑k).1)) ((gI ov ((gI t.2.1 ↑k).1))+(gI on ↑k))) (((gI t.2.1 ↑k).2).1))) (n:=(gI on ↑k)) rfl rfl (by omega)) (xv 13 [12,11,10,9,8,7,6,5,4,3,2,1,0] rfl (aa (v:=v17) (i:=((gI t.2.1 ↑k).2).1) aW rfl rfl bx46.flat rfl (by omega) (by(simp only[List.length_set,List.length_append,List.length_cons,List.length_nil,List.length_replicate,List.length_map,List.length_take,List.length_drop];omega))) (aC 14 rfl (by kernel_rfl) rfl ?_))))
     refine aF (i:=((gI t.2.1 ↑k).2).1) ((gI (List.set ov (Int.toNat ((gI t.2.1 ↑k).1)) ((gI ov ((gI t.2.1 ↑k).1))+(gI on ↑k))) (((gI t.2.1 ↑k).2).1))-(gI on ↑k)) ae rfl rfl bx46 (by omega) (by(simp only[List.length_set,List.length_append,List.length_cons,List.length_nil,List.length_replicate,List.length_map,List.length_take,List.length_drop];omega)) rfl ?_
     intro w49 ch50 bx51
     clear bx46
     refine aV (by kernel_rfl) (bB g27 rfl fP (by kernel_rfl) ?_)
     intro w53 ch52
     refine qz zs6 (qz zs1 (qz zs7 ?_))
     replace Ron:=(Ron.ce ch50).cn ch52
     refine qx (λw' hw'=>aa (v:=on_v) (i:=↑k) aW rfl rfl (Ron.bel hw') rfl (by omega) (by omega)) (qx (λw' hw'=>aq (v:=on_v) (i:=↑k) ae rfl (Ron.bel hw') (by omega) (by omega) (by decide) rfl) (qx (λw' hw'=>a7 d9 rfl rfl rfl rfl) ?_))
     replace bx31:=(bx31.ce ch50).cn ch52
     refine qx (λw' hw'=>a8 ae rfl (bx31.bel hw') rfl) (qx (λw' hw'=>fp (m:=(gI on ↑k)) (n:=(((gI t.2.1 ↑k).2).2).2) rfl rfl (by omega)) (qx (λw' hw'=>aQ (m:=co) (n:=(gI on ↑k)*((((gI t.2.1 ↑k).2).2).2)) rfl rfl (by omega)) (qv (vi (co+((gI on ↑k)*((((gI t.2.1 ↑k).2).2).2)))) (λw' hw'=>bD rfl) (cd ?_))))
     intro w54 hc55
     replace hc55:=aD hc55 g27
     refine av ?_
     clear bx31
     refine a6 rfl (mz zs7 (lx (aQ (m:=↑k) (n:=1) rfl rfl (by omega)) (ai ((k:Int)+1) (ag ?_))))
     have C56:=cg [2,3] (ch25.n.seq ((ch30.l rfl).seq (ch32.n.seq (hc39.n.seq (ch41.n.seq ((ch45.l rfl).seq (ch47.n.seq ((ch50.l rfl).seq (ch52.n.seq hc55.n)))))))))
     refine back8 (co+((gI on ↑k)*((((gI t.2.1 ↑k).2).2).2)),k+1,(List.set (List.set ov (Int.toNat ((gI t.2.1 ↑k).1)) ((gI ov ((gI t.2.1 ↑k).1))+(gI on ↑k))) (Int.toNat (((gI t.2.1 ↑k).2).1)) ((gI (List.set ov (Int.toNat ((gI t.2.1 ↑k).1)) ((gI ov ((gI t.2.1 ↑k).1))+(gI on ↑k))) (((gI t.2.1 ↑k).2).1))-(gI on ↑k))),g27) _ _ ⟨bH.ca C56,zs1,zs2,zs5,rfl,rfl,Rt.ca C56,r_t_v1.ca C56,Ron.cn hc55,bx5.ca C56,(bx51.cn ch52).cn hc55,by omega,?_⟩ ?_
     · show mV t (on,([]:List Int),(0:Int)) (k+1) (List.set (List.set ov (Int.toNat ((gI t.2.1 ↑k).1)) ((gI ov ((gI t.2.1 ↑k).1))+(gI on ↑k))) (Int.toNat (((gI t.2.1 ↑k).2).1)) ((gI (List.set ov (Int.toNat ((gI t.2.1 ↑k).1)) ((gI ov ((gI t.2.1 ↑k).1))+(gI on ↑k))) (((gI t.2.1 ↑k).2).1))-(gI on ↑k))) (co+((gI on ↑k)*((((gI t.2.1 ↑k).2).2).2)))
       exact hfo.next hm (by omega) ⟨hx0,hx1⟩ rfl rfl rfl
     · show Int.toNat (((on.length:Int):Int)-((k+1):Int))<Int.toNat (((on.length:Int):Int)-(k:Int))
       omega
    refine am rfl (df p8) (aM rfl (a9 (a9 (a6 rfl (ai 0 (ag (aw ?_)))))))
    refine aR (σ:=Nat×aE) (λ⟨j,gq⟩ f w=>aS w0 gq w/\f 2=vp b3 0/\f 5=v17/\f 6=vi co/\f 9=vi ↑j/\Sl gq (is 0) w t_v t.2.1/\Sl gq (is 0) w t_v1 t.2.2/\Sl gq (is 0) w on_v on/\Bx gq (is 1) w b3 [vi t.1,t_v,t_v1]/\Ow gq (is 2) (is 2) w v17 ov/\(j:Int)<=(t.1:Int)/\(∀v:Nat,v<j-> -1048576<=gI ov ↑v/\gI ov ↑v<=1048576)) (λ⟨j,gq⟩=>Int.toNat ((t.1:Int)-(j:Int))) (0,g23) ?_ ?_
    · exact⟨bH,zs2,zs5,zs6,rfl,Rt,r_t_v1,Ron,bx5,o19,by omega,by intro v hv;omega⟩
    clear Rt r_t_v1 Ron bx5 o19 bH
    rintro⟨j,g59⟩ f57 w58 ⟨bH,zs2,zs5,zs6,zs9,Rt,r_t_v1,Ron,bx5,o19,hle_j,hnb⟩ back17
    refine a9 (a9 (a6 rfl (mz zs9 (lx (a7 dh rfl rfl zs2 rfl) (lx (a8 ae rfl bx5 rfl) (lx (bj (m:=↑j) (n:=t.1) rfl rfl) (ag ?_)))))))
    by_cases p17:(j:Int)<t.1
    ·
     refine aj rfl (dt p17) (au (a9 (aw (a9 (a6 rfl (mz zs5 (mz zs9 (lx (aa (v:=v17) (i:=↑j) aW rfl rfl o19.flat rfl (by omega) (by omega)) (lx (aq (v:=v17) (i:=↑j) ae rfl o19.flat (by omega) (by omega) (by decide) rfl) (lx (bj (m:=(gI ov ↑j)) (n:= -1048576) rfl rfl) ?_))))))))))
     refine mv (vb (decide ((gI ov ↑j)<(-1048576)))) ?_
     by_cases q107:(gI ov ↑j)<(-1048576)
     ·
      refine af (wn (dt q107)) (af (wn (dt q107)) (af (wn (dt q107)) (af (wn (dt q107)) (af (wn (dt q107)) (lw (vb true) (ax rfl (dt q107) rfl) (ag (aj rfl rfl (a9 ?_))))))))
      clear bx5 o19
      refine a6 rfl (ma (vb true) (ag (aB (vs:=[vb true]) Try.func5 (.tmp rfl .nil) ?_)))
      have e0:(true:Bool)=(true):=by
        rfl
      exact⟨rb e0,bH.below⟩
     refine lv (v17) (wy (df q107)) (ah zs5) (lv (vi ↑j) (wy (df q107)) (ah zs9) (lv (Value.pointer (some (aO v17 1 (Int.toNat ↑j)))) (wy (df q107)) (aa (α:=Int) (xs:=ov) (v:=v17) (i:=↑j) aW rfl rfl o19.flat rfl (by omega) (by omega)) (lv (vi (gI ov ↑j)) (wy (df q107)) (aq (α:=Int) (xs:=ov) (v:=v17) (i:=↑j) ae rfl o19.flat (by omega) (by omega) (by decide) rfl) (lv (vb (decide (1048576<(gI ov ↑j)))) (wy (df q107)) (bR (m:=(gI ov ↑j)) (n:=1048576) rfl rfl) (lw (vb (decide (1048576<(gI ov ↑j)))) (aI rfl (df q107) rfl) (ag ?_))))))
     by_cases p19:1048576<(gI ov ↑j)
     ·
      refine aj rfl (dt p19) (a9 ?_)
      clear bx5 o19
      refine a6 rfl (ma (vb true) (ag (aB (vs:=[vb true]) Try.func5 (.tmp rfl .nil) ?_)))
      have e0:(true:Bool)=(true):=by
        rfl
      exact⟨rb e0,bH.below⟩
     refine am rfl (df p19) (au (av (a6 rfl (mz zs9 (lx (aQ (m:=↑j) (n:=1) rfl rfl (by omega)) (ai ((j:Int)+1) (ag ?_)))))))
     refine back17 (j+1,g59) _ _ ⟨bH,zs2,zs5,zs6,rfl,Rt,r_t_v1,Ron,bx5,o19,by omega,?_⟩ ?_
     · show∀v:Nat,v<(j+1)-> -1048576<=gI ov ↑v/\gI ov ↑v<=1048576
       intro v hv;by_cases q:v=j;(rw[q];omega);exact hnb v (by omega)
     · show Int.toNat ((t.1:Int)-((j+1):Int))<Int.toNat ((t.1:Int)-(j:Int))
       omega
    refine am rfl (df p17) (aM rfl (a9 ?_))
    obtain⟨hz1,hz2,hz3⟩:=og hfo hm (by omega) (by omega) (show(on.length:Int)=_ by omega) hnb (by omega)
    refine a6 rfl (lx (a7 dh rfl rfl zs2 rfl) (lx (a8 ae rfl bx5 rfl) (lx (a7 dh rfl rfl zs2 rfl) (lx (a8 ci rfl bx5 rfl) (mz zs5 (lw (vg [vi t.1,t_v,v17]) (bm (vs:=[(0,vi t.1),(1,t_v),(2,v17)]) rfl (by rw[Sl.form Rt,Sl.form o19.flat];kernel_rfl)) (lo (bX g59 (is 4) (4,0) rfl cD ?_))))))))
    intro g63 w60 b62 ch61 bx64
    replace bx64:Bx g63 (is 4) w60 b62 [vi 0,vn,vn]:=bx64
    refine lo ?_
    replace o19:=o19.cn ch61
    replace Rt:=Rt.cn ch61
    refine aT (cs':=[vi t.1,t_v,v17]) cD rfl rfl bx64 rfl nq (AllOne.all (.cons rfl (.cons (bn Rt) (.cons (bn o19.flat) .nil)))) rfl ?_
    intro w65 ch66 bx67
    clear bx64
    refine ag (a9 ?_)
    clear bx5
    refine a6 rfl (lx (bx (ds:=[vi t.1,t_v,v17]) cD rfl bx67 rfl rfl) ?_)
    replace Rt:=Rt.ce ch66
    replace o19:=o19.ce ch66
    refine lo (bz (aU (vals:=[vg [vi t.1,t_v,v17]]) Try.func12 lY lJ rfl) (ly w65 (t.1,t.2.1,ov) t_v v17 (Rt).ro (o19.flat).ro (by exact .inl hN60)) ?_)
    rintro⟨d69,v71,v73⟩ w68 ⟨fr70,o72,o74⟩
    obtain⟨g75,ch76,G75⟩:=q5 g63 fr70 (λn=>if n=1 then 5 else if n=2 then 6 else 0)
    replace o72:=o72.gl G75 5
    replace o74:=o74.gl G75 6
    refine mv (vt [vg [v71,v73,vi ((((b9 (t.1,t.2.1,ov)).1).2).2)],vi ((b9 (t.1,t.2.1,ov)).2)]) (lx (dH rfl rfl) (lx (dH rfl rfl) (lo (bX g75 (is 7) (7,0) rfl bG ?_))))
    intro g80 w77 b79 ch78 bx81
    replace bx81:Bx g80 (is 7) w77 b79 [vn,vn,vi 0]:=bx81
    refine lo ?_
    replace o74:=o74.cn ch78
    replace o72:=o72.cn ch78
    refine aT (cs':=[v71,v73,vi ((((b9 (t.1,t.2.1,ov)).1).2).2)]) bG rfl rfl bx81 rfl nq (AllOne.all (.cons (bn o72.flat) (.cons (bn o74.flat) (.cons rfl .nil)))) rfl ?_
    intro w82 ch83 bx84
    clear bx81
    refine ai ((b9 (t.1,t.2.1,ov)).2) (ag (a9 (a6 rfl (mi ((b9 (t.1,t.2.1,ov)).2) (lx (d6 (m:=(b9 (t.1,t.2.1,ov)).2) (n:=0) rfl rfl) (mv (vb (decide (((b9 (t.1,t.2.1,ov)).2)=0))) ?_))))))
    have q127:((b9 (t.1,t.2.1,ov)).2)=0:=by assumption
    refine lv (vp b79 2) (wy (dt q127)) (a7 iP rfl rfl rfl rfl) (lv (vi ((((b9 (t.1,t.2.1,ov)).1).2).2)) (wy (dt q127)) (a8 jX rfl bx84 rfl) (lv (vi co) (wy (dt q127)) (ah zs6) (lv (vb (decide (((((b9 (t.1,t.2.1,ov)).1).2).2)<=co))) (wy (dt q127)) (jl (m:=(((b9 (t.1,t.2.1,ov)).1).2).2) (n:=co) rfl rfl) (lw (vb (decide (((((b9 (t.1,t.2.1,ov)).1).2).2)<=co))) (ax rfl (dt q127) rfl) (mv (vb (decide (((((b9 (t.1,t.2.1,ov)).1).2).2)<=co))) ?_)))))
    have q133:((((b9 (t.1,t.2.1,ov)).1).2).2)<=co:=by assumption
    have C85:=cg [7] (ch76.n.seq (ch78.n.seq (ch83.l rfl)))
    replace bx67:=bx67.ca C85
    refine lv (vg [vi t.1,t_v,v17]) (wy (dt q133)) (bx (ds:=[vi t.1,t_v,v17]) cD rfl bx67 rfl rfl) (lv (vg [v71,v73,vi ((((b9 (t.1,t.2.1,ov)).1).2).2)]) (wy (dt q133)) (bx (ds:=[v71,v73,vi ((((b9 (t.1,t.2.1,ov)).1).2).2)]) bG rfl bx84 rfl rfl) ?_)
    replace Rt:=Rt.ca C85
    replace o19:=o19.ca C85
    replace o72:=o72.ce ch83
    replace o74:=o74.ce ch83
    refine d8 (wy (dt q133)) (bA (v:=vb (dL (t.1,t.2.1,ov) (((b9 (t.1,t.2.1,ov)).1).1,(((b9 (t.1,t.2.1,ov)).1).2).1,(((b9 (t.1,t.2.1,ov)).1).2).2))) (aU (vals:=[vg [vi t.1,t_v,v17],vg [v71,v73,vi ((((b9 (t.1,t.2.1,ov)).1).2).2)]]) Try.func17 pa oZ rfl) (ob w82 (t.1,t.2.1,ov) t_v v17 (Rt).ro (o19.flat).ro (((b9 (t.1,t.2.1,ov)).1).1,(((b9 (t.1,t.2.1,ov)).1).2).1,(((b9 (t.1,t.2.1,ov)).1).2).2) v71 v73 (o72.flat).ro (o74.flat).ro) ?_)
    intro w86 hb87
    replace hb87:=aD hb87 g80
    refine lw (vb (dL (t.1,t.2.1,ov) (((b9 (t.1,t.2.1,ov)).1).1,(((b9 (t.1,t.2.1,ov)).1).2).1,(((b9 (t.1,t.2.1,ov)).1).2).2))) (ax rfl (dt q133) rfl) (ma (vb (dL (t.1,t.2.1,ov) (((b9 (t.1,t.2.1,ov)).1).1,(((b9 (t.1,t.2.1,ov)).1).2).1,(((b9 (t.1,t.2.1,ov)).1).2).2))) (ag (aB (vs:=[vb (dL (t.1,t.2.1,ov) (((b9 (t.1,t.2.1,ov)).1).1,(((b9 (t.1,t.2.1,ov)).1).2).1,(((b9 (t.1,t.2.1,ov)).1).2).2))]) Try.func5 (.tmp rfl .nil) ?_)))
    have e0:((dL (t.1,t.2.1,ov) (((b9 (t.1,t.2.1,ov)).1).1,(((b9 (t.1,t.2.1,ov)).1).2).1,(((b9 (t.1,t.2.1,ov)).1).2).2)):Bool)=(true):=by
      exact hz3
    have C88:=cg [4,7] (ch61.n.seq ((ch66.l rfl).seq (ch76.n.seq (ch78.n.seq ((ch83.l rfl).seq hb87.n)))))
    replace bH:=bH.ca C88
    exact⟨(congrArg (a₁:=(dL (t.1,t.2.1,ov) (((b9 (t.1,t.2.1,ov)).1).1,(((b9 (t.1,t.2.1,ov)).1).2).1,(((b9 (t.1,t.2.1,ov)).1).2).2))) (λ(z0:Bool)=>Ending.returned (vb z0)) e0),bH.below⟩
   refine aj rfl (congrArg Bool.not (df p3)) (a9 ?_)
   clear bx5
   refine a6 rfl (ma (vb true) (ag (aB (vs:=[vb true]) Try.func5 (.tmp rfl .nil) ?_)))
   have e0:(true:Bool)=(true):=by
     rfl
   replace bH:=bH.ca C12
   exact⟨rb e0,bH.below⟩
  refine af (wn (congrArg Bool.not (Bool.eq_false_iff.2 q23))) (af (wn (congrArg Bool.not (Bool.eq_false_iff.2 q23))) (af (wn (congrArg Bool.not (Bool.eq_false_iff.2 q23))) (af (wn (congrArg Bool.not (Bool.eq_false_iff.2 q23))) (af (wn (congrArg Bool.not (Bool.eq_false_iff.2 q23))) (af (wn (congrArg Bool.not (Bool.eq_false_iff.2 q23))) (lw (vb true) (ax rfl (congrArg Bool.not (Bool.eq_false_iff.2 q23)) rfl) (ag (aj rfl rfl (a9 ?_)))))))))
  clear bx5
  refine a6 rfl (ma (vb true) (ag (aB (vs:=[vb true]) Try.func5 (.tmp rfl .nil) ?_)))
  have e0:(true:Bool)=(true):=by
    rfl
  have C89:=cg [] (ch2.n.seq (hb7.n.seq (hb9.n.seq hb11.n)))
  replace bH:=bH.ca C89
  exact⟨rb e0,bH.below⟩
 refine af (wn (congrArg Bool.not (Bool.eq_false_iff.2 q18))) (af (wn (congrArg Bool.not (Bool.eq_false_iff.2 q18))) (af (wn (congrArg Bool.not (Bool.eq_false_iff.2 q18))) (lw (vb true) (ax rfl (congrArg Bool.not (Bool.eq_false_iff.2 q18)) rfl) (mv (vb true) (af (wn rfl) (af (wn rfl) (af (wn rfl) (af (wn rfl) (af (wn rfl) (af (wn rfl) (lw (vb true) (ax rfl rfl rfl) (ag (aj rfl rfl (a9 ?_))))))))))))))
 clear bx5
 refine a6 rfl (ma (vb true) (ag (aB (vs:=[vb true]) Try.func5 (.tmp rfl .nil) ?_)))
 have e0:(true:Bool)=(true):=by
   rfl
 have C90:=cg [] (ch2.n.seq (hb7.n.seq hb9.n))
 replace bH:=bH.ca C90
 exact⟨rb e0,bH.below⟩
end TL
