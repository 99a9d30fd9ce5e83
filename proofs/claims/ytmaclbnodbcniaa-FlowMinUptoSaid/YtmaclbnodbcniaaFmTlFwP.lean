import Derived.Test.YtmaclbnodbcniaaFmTlP3
import Derived.Test.YtmaclbnodbcniaaFmTlFwA
import Derived.Test.YtmaclbnodbcniaaFmTlFwB
import Derived.Test.YtmaclbnodbcniaaProg
import Derived.Test.YtmaclbnodbcniaaFmTlAli
set_option linter.all false
set_option maxRecDepth 20000
namespace TL
open Go Go.Proofs
theorem pq:Try.prog.follows .mixedOrders=true:=by kernel_rfl
theorem sk:Tp Try.prog 2 false 1 8 (.int .i64 0):=Tp.of (by kernel_rfl)
theorem qF:Try.f14.body.isNone=false:=rfl
theorem qT:(Try.f14.name== "runtime.NumGoroutine")=false:=by decide+kernel
set_option maxHeartbeats 8000000 in
theorem mS(w0:World)(t:(Int)×(List ((Int)×(Int)×(Int)×(Int)))×(List Int))(t_v t_v1:Value)(ht_v:Ro w0 t_v t.2.1)(ht_v1:Ro w0 t_v1 t.2.2)(fw:(List Int)×(List Int)×(Int))(fw_v fw_v1:Value)(hfw_v:Ro w0 fw_v fw.1)(hfw_v1:Ro w0 fw_v1 fw.2.1):
    Calls Try.prog 18 #[vg [vi t.1,t_v,t_v1],vg [fw_v,fw_v1,vi fw.2.2]] w0 (λee w=>ee= .returned (vb (et t fw))/\dC w0.heap.size w0 w):=by
 refine aC Try.func18 rfl nq ?_
 have bH:=b9.start w0
 have Rt:=ht_v.sl
 have r_t_v1:=ht_v1.sl
 have Rfw:=hfw_v.sl
 have r_fw_v1:=hfw_v1.sl
 refine a9 (a6 rfl (cQ rfl (d4 c0 (is 1) (1,0) rfl rfl ?_)))
 intro g4 w1 b3 ch2 bx5
 replace bx5:Bx g4 (is 1) w1 b3 [vi t.1,t_v,t_v1]:=bx5
 refine lo (d4 g4 (is 2) (2,0) rfl rfl ?_)
 intro g9 w6 b8 ch7 bx10
 replace bx10:Bx g9 (is 2) w6 b8 [fw_v,fw_v1,vi fw.2.2]:=bx10
 refine ma (vb false) (af (a9 (a9 (a6 rfl ?_))))
 replace bx5:=bx5.cn ch7
 refine lx (bm (ds:=[vi t.1,t_v,t_v1]) c9 rfl bx5 rfl rfl) ?_
 replace Rt:=(Rt.cn ch2).cn ch7
 replace r_t_v1:=(r_t_v1.cn ch2).cn ch7
 refine lo (bE (v:=vb (bQ t)) (aU (vals:=[vg [vi t.1,t_v,t_v1]]) Try.func14 qF qT rfl) (gO w6 t t_v t_v1 (Rt).ro (r_t_v1).ro) ?_)
 intro w11 hb12
 replace hb12:=aB hb12 g9
 refine lx (cz (b:=(bQ t)) rfl) (mv (vb (!(bQ t))) ?_)
 by_cases q18:(bQ t)=true
 ·
  refine lv (vp b8 0) (wy (congrArg Bool.not q18)) (a7 ff rfl rfl rfl rfl) ?_
  replace bx10:=bx10.cn hb12
  refine lv (fw_v) (wy (congrArg Bool.not q18)) (a8 ao rfl bx10 rfl) ?_
  have C13:=cg [] (ch2.n.seq (ch7.n.seq hb12.n))
  replace Rfw:=Rfw.ca C13
  have len14:=(Rfw).small
  refine lv (vi (fw.1.length:Int)) (wy (congrArg Bool.not q18)) (ba aW rfl Rfw) (lv (vp b3 1) (wy (congrArg Bool.not q18)) (a7 cP rfl rfl rfl rfl) ?_)
  replace bx5:=bx5.cn hb12
  refine lv (t_v) (wy (congrArg Bool.not q18)) (a8 bT rfl bx5 rfl) ?_
  replace Rt:=Rt.cn hb12
  have len15:=(Rt).small
  refine lv (vi (t.2.1.length:Int)) (wy (congrArg Bool.not q18)) (ba dB rfl Rt) (lv (vb (!(decide ((fw.1.length:Int)=(t.2.1.length:Int))))) (wy (congrArg Bool.not q18)) (cY (m:=(fw.1.length:Int)) (n:=(t.2.1.length:Int)) rfl rfl) (lw (vb (!(decide ((fw.1.length:Int)=(t.2.1.length:Int))))) (aH rfl (congrArg Bool.not q18) rfl) (mv (vb (!(decide ((fw.1.length:Int)=(t.2.1.length:Int))))) ?_)))
  by_cases q27:(fw.1.length:Int)=(t.2.1.length:Int)
  ·
   refine lv (vp b8 1) (wy (congrArg Bool.not (dt q27))) (a7 ff rfl rfl rfl rfl) (lv (fw_v1) (wy (congrArg Bool.not (dt q27))) (a8 ao rfl bx10 rfl) ?_)
   replace r_fw_v1:=r_fw_v1.ca C13
   have len16:=(r_fw_v1).small
   refine lv (vi (fw.2.1.length:Int)) (wy (congrArg Bool.not (dt q27))) (ba aW rfl r_fw_v1) (lv (vp b3 0) (wy (congrArg Bool.not (dt q27))) (a7 cP rfl rfl rfl rfl) (lv (vi t.1) (wy (congrArg Bool.not (dt q27))) (a8 ae rfl bx5 rfl) (lv (vb (!(decide ((fw.2.1.length:Int)=t.1)))) (wy (congrArg Bool.not (dt q27))) (cY (m:=(fw.2.1.length:Int)) (n:=t.1) rfl rfl) (lw (vb (!(decide ((fw.2.1.length:Int)=t.1)))) (aH rfl (congrArg Bool.not (dt q27)) rfl) (af ?_)))))
   by_cases p1:(fw.2.1.length:Int)=t.1
   ·
    have hm:cB t:=of_decide_eq_true ‹_›
    have hm0:=hm
    obtain⟨⟨hm1,hm2⟩,hm3,hm4,hm5,hm6⟩:=hm0
    have hh:s6 t fw:=⟨hm,by omega,by omega⟩
    refine am rfl (congrArg Bool.not (dt p1)) (au (a9 (a9 (a6 rfl (lx (a7 ff rfl rfl rfl rfl) (lx (a8 ao rfl bx10 rfl) (lx (ba aW rfl r_fw_v1) (mi 0 (af (av ?_))))))))))
    refine aX (σ:=Nat×aG) (λ⟨i0,gq⟩ f w=>b9 w0 gq w/\f 2=vp b3 0/\f 3=vp b8 0/\f 36=fw_v1/\f 37=vi (fw.2.1.length:Int)/\f 38=vi ↑i0/\Sl gq (is 0) w t_v t.2.1/\Sl gq (is 0) w t_v1 t.2.2/\Sl gq (is 0) w fw_v fw.1/\Sl gq (is 0) w fw_v1 fw.2.1/\Bx gq (is 1) w b3 [vi t.1,t_v,t_v1]/\Bx gq (is 2) w b8 [fw_v,fw_v1,vi fw.2.2]/\(i0:Int)<=((fw.2.1.length:Int):Int)/\(∀p∈List.take i0 fw.2.1,kv p)) (λ⟨i0,gq⟩=>Int.toNat (((fw.2.1.length:Int):Int)-(i0:Int))) (0,g9) ?_ ?_
    · exact⟨bH.ca C13,rfl,rfl,rfl,rfl,rfl,Rt,r_t_v1.cn hb12,Rfw,r_fw_v1,bx5,bx10,by omega,by simp⟩
    clear Rt r_t_v1 Rfw r_fw_v1 bx5 bx10 bH
    rintro⟨i0,g19⟩ f17 w18 ⟨bH,zs2,zs3,zs36,zs37,zs38,Rt,r_t_v1,Rfw,r_fw_v1,bx5,bx10,hle_i0,hpb⟩ back4
    refine a9 (a6 rfl (lx (bo (m:=↑i0) (n:=(fw.2.1.length:Int)) zs38 zs37) (af (a9 ?_))))
    by_cases p4:(i0:Int)<(fw.2.1.length:Int)
    ·
     refine aj rfl (dt p4) (au (a9 (av (a9 (a6 rfl (lx (aa (v:=fw_v1) (i:=↑i0) aW rfl zs36 r_fw_v1 zs38 (by omega) (by omega)) (lx (ay (v:=fw_v1) (i:=↑i0) ae rfl r_fw_v1 (by omega) (by omega) (by decide) rfl) (ai (gI fw.2.1 ↑i0) (af (a9 (a6 rfl (mi (gI fw.2.1 ↑i0) ?_))))))))))))
     refine lo (bE (v:=vb (decide ((-1099511627776)<=(gI fw.2.1 ↑i0)/\(gI fw.2.1 ↑i0)<=1099511627776))) (aU (vals:=[vi (gI fw.2.1 ↑i0),vi (-1099511627776),vi 1099511627776]) Try.func27 eE ew rfl) (dz w18 (gI fw.2.1 ↑i0) (-1099511627776) 1099511627776) ?_)
     intro w20 hb21
     replace hb21:=aB hb21 g19
     refine lx (cz (b:=(decide ((-1099511627776)<=(gI fw.2.1 ↑i0)/\(gI fw.2.1 ↑i0)<=1099511627776))) rfl) (af ?_)
     by_cases p6:(decide ((-1099511627776)<=(gI fw.2.1 ↑i0)/\(gI fw.2.1 ↑i0)<=1099511627776))=true
     ·
      refine am rfl (congrArg Bool.not p6) (au (aq (a6 rfl (lx (aP (m:=↑i0) (n:=1) zs38 rfl (by omega)) (mi ((i0:Int)+1) (af ?_))))))
      refine back4 (i0+1,g19) _ _ ⟨bH.cn hb21,zs2,zs3,zs36,zs37,rfl,Rt.cn hb21,r_t_v1.cn hb21,Rfw.cn hb21,r_fw_v1.cn hb21,bx5.cn hb21,bx10.cn hb21,by omega,?_⟩ ?_
      · show∀p∈List.take (i0+1) fw.2.1,kv p
        try simp only[decide_eq_true_eq,decide_eq_false_iff_not] at*
        exact lX hpb ‹_› (by unfold kv;omega)
      · show Int.toNat (((fw.2.1.length:Int):Int)-((i0+1):Int))<Int.toNat (((fw.2.1.length:Int):Int)-(i0:Int))
        omega
     refine aj rfl (congrArg Bool.not (Bool.eq_false_iff.2 p6)) (a9 ?_)
     clear bx5 bx10
     refine a6 rfl (ma (vb false) (af (aF (vs:=[vb false]) Try.func18 (.tmp rfl .nil) ?_)))
     have e0:(false:Bool)=(et t fw):=by
       try simp only[decide_eq_true_eq,decide_eq_false_iff_not] at*
       exact(mf (k:=i0) (by omega) (λh=>by unfold kv at h;omega)).symm
     replace bH:=bH.cn hb21
     exact⟨rb e0,bH.below⟩
    refine am rfl (df p4) (aM rfl (a9 ?_))
    have hpt:=oK hpb (n:=t.1) (by omega) (by omega)
    refine a6 rfl (lx (a7 cP rfl rfl zs2 rfl) (lx (a8 ae rfl bx5 rfl) (lo (dw (α:=Int) (l:=t.1) (cp:=t.1) g19 (is 3) (is 3) (3,0) rfl (0:Int) aW ae rfl rfl rfl (by omega) (by omega) (by omega) (by omega) ?_))))
    intro g22 w23 v24 ch25 o26 _
    refine ma v24 (af (a9 (a6 rfl (ai 0 (af (a9 (a9 (a6 rfl (lx (a7 cP rfl rfl zs2 rfl) ?_)))))))))
    replace bx5:=bx5.cn ch25
    refine lx (a8 bT rfl bx5 rfl) ?_
    replace Rt:=Rt.cn ch25
    refine lx (ba dB rfl Rt) (mi 0 (af (av ?_)))
    refine aX (σ:=Int×Nat×(List Int)×aG) (λ⟨co,k,ov,gq⟩ f w=>b9 w0 gq w/\f 2=vp b3 0/\f 3=vp b8 0/\f 7=v24/\f 8=vi co/\f 50=t_v/\f 51=vi (t.2.1.length:Int)/\f 52=vi ↑k/\Sl gq (is 0) w t_v t.2.1/\Sl gq (is 0) w t_v1 t.2.2/\Sl gq (is 0) w fw_v fw.1/\Sl gq (is 0) w fw_v1 fw.2.1/\Bx gq (is 1) w b3 [vi t.1,t_v,t_v1]/\Bx gq (is 2) w b8 [fw_v,fw_v1,vi fw.2.2]/\Ow gq (is 3) (is 3) w v24 ov/\(k:Int)<=((t.2.1.length:Int):Int)/\(jL t fw k ov co)) (λ⟨co,k,ov,gq⟩=>Int.toNat (((t.2.1.length:Int):Int)-(k:Int))) (0,0,(List.replicate (Int.toNat t.1) (0:Int)),g22) ?_ ?_
    · exact⟨bH.cn ch25,zs2,zs3,rfl,rfl,rfl,rfl,rfl,Rt,r_t_v1.cn ch25,Rfw.cn ch25,r_fw_v1.cn ch25,bx5,bx10.cn ch25,o26,by omega,by exact jL.start hm⟩
    clear Rt r_t_v1 Rfw r_fw_v1 bx5 bx10 o26 bH
    rintro⟨co,k,ov,g29⟩ f27 w28 ⟨bH,zs2,zs3,zs7,zs8,zs50,zs51,zs52,Rt,r_t_v1,Rfw,r_fw_v1,bx5,bx10,o26,hle_k,hfv⟩ back12
    have hovl:=hfv.ln
    obtain⟨hovb,hco0,hco1⟩:=hfv.bd hm (by omega)
    refine a9 (a6 rfl (lx (bo (m:=↑k) (n:=(t.2.1.length:Int)) zs52 zs51) (af (a9 ?_))))
    by_cases p12:(k:Int)<(t.2.1.length:Int)
    ·
     refine aj rfl (dt p12) ?_
     obtain⟨⟨ha0,ha1⟩,⟨ha2,ha3⟩,⟨ha4,ha5⟩,ha6,ha7⟩:=hm5 _ (bx (xs:=t.2.1) (i:=↑k) (by omega) ‹_›)
     have hpa:=hpt _ ha0 ha1
     have hpb:=hpt _ ha2 ha3
     obtain⟨hoa0,hoa1⟩:=hovb _ ha0 ha1
     obtain⟨hob0,hob1⟩:=hovb _ ha2 ha3
     refine au (a9 (av (a9 (a6 rfl (mz zs52 (lx (aa (v:=t_v) (i:=↑k) dB rfl zs50 Rt zs52 (by omega) (by omega)) (lw (vg [vi ((gI t.2.1 ↑k).1),vi (((gI t.2.1 ↑k).2).1),vi ((((gI t.2.1 ↑k).2).2).1),vi ((((gI t.2.1 ↑k).2).2).2)]) (bh (v:=t_v) (i:=↑k) bz rfl Rt (by omega) (by omega) rfl) (lo (cd g29 (is 4) (4,0) rfl bz ?_)))))))))
     intro g33 w30 b32 ch31 bx34
     replace bx34:Bx g33 (is 4) w30 b32 [vi 0,vi 0,vi 0,vi 0]:=bx34
     refine ai (k:Int) (lo (aR (cs':=[vi ((gI t.2.1 ↑k).1),vi (((gI t.2.1 ↑k).2).1),vi ((((gI t.2.1 ↑k).2).2).1),vi ((((gI t.2.1 ↑k).2).2).2)]) bz rfl rfl bx34 rfl nq (AllOne.all (.cons rfl (.cons rfl (.cons rfl (.cons rfl .nil))))) rfl ?_))
     intro w35 ch36 bx37
     clear bx34
     refine af (a9 (a6 rfl (lx (a7 ff rfl rfl zs3 rfl) ?_)))
     replace bx10:=(bx10.cn ch31).ce ch36
     refine lx (a8 ao rfl bx10 rfl) (mi ↑k ?_)
     replace Rfw:=(Rfw.cn ch31).ce ch36
     refine lx (aa (v:=fw_v) (i:=↑k) aW rfl rfl Rfw rfl (by omega) (by omega)) (lx (ay (v:=fw_v) (i:=↑k) ae rfl Rfw (by omega) (by omega) (by decide) rfl) (ai (gI fw.1 ↑k) (af (a9 (a9 (a6 rfl (mi (gI fw.1 ↑k) (lx (a7 dK rfl rfl rfl rfl) (lx (a8 ae rfl bx37 rfl) (lo (bE (v:=vb (decide (0<=(gI fw.1 ↑k)/\(gI fw.1 ↑k)<=((((gI t.2.1 ↑k).2).2).1)))) (aU (vals:=[vi (gI fw.1 ↑k),vi 0,vi ((((gI t.2.1 ↑k).2).2).1)]) Try.func27 eE ew rfl) (dz w35 (gI fw.1 ↑k) 0 ((((gI t.2.1 ↑k).2).2).1)) ?_)))))))))))
     intro w38 hb39
     replace hb39:=aB hb39 g33
     refine lx (cz (b:=(decide (0<=(gI fw.1 ↑k)/\(gI fw.1 ↑k)<=((((gI t.2.1 ↑k).2).2).1)))) rfl) (af ?_)
     by_cases p15:(decide (0<=(gI fw.1 ↑k)/\(gI fw.1 ↑k)<=((((gI t.2.1 ↑k).2).2).1)))=true
     ·
      refine am rfl (congrArg Bool.not p15) (au (a9 ?_))
      obtain⟨hx0,hx1⟩:0<=gI fw.1 ↑k/\gI fw.1 ↑k<=(gI t.2.1 ↑k).2.2.1:=by exact of_decide_eq_true ‹_›
      obtain⟨⟨hx2,hx3⟩,hx4,hx5⟩:=lF hm hx0 hx1 ‹_›
      obtain⟨hx6,hx7⟩:=lJ hm hovl hovb hx2 hx3 ‹_›
      refine a6 rfl (mz zs7 (lx (a7 dK rfl rfl rfl rfl) ?_))
      replace bx37:=bx37.cn hb39
      refine lx (a8 ae rfl bx37 rfl) ?_
      have C40:=cg [4] (ch31.n.seq ((ch36.l rfl).seq hb39.n))
      replace o26:=o26.ca C40
      refine lx (aa (v:=v24) (i:=(gI t.2.1 ↑k).1) aW rfl rfl o26.flat rfl (by omega) (by omega)) (lx (ay (v:=v24) (i:=(gI t.2.1 ↑k).1) ae rfl o26.flat (by omega) (by omega) (by decide) rfl) (mi (gI fw.1 ↑k) (lx (aP (m:=(gI ov ((gI t.2.1 ↑k).1))) (n:=(gI fw.1 ↑k)) rfl rfl (by omega)) (lx (aa (v:=v24) (i:=(gI t.2.1 ↑k).1) aW rfl rfl o26.flat rfl (by omega) (by omega)) (lo (aK (i:=(gI t.2.1 ↑k).1) ((gI ov ((gI t.2.1 ↑k).1))+(gI fw.1 ↑k)) ae rfl rfl o26 (by omega) (by omega) rfl ?_))))))
      intro w41 ch42 bx43
      clear o26
      refine af (a9 (a6 rfl (mz zs7 (lx (a7 dK rfl rfl rfl rfl) ?_))))
      replace bx37:=bx37.ce ch42
      refine lx (a8 ae rfl bx37 rfl) (lx (aa (v:=v24) (i:=((gI t.2.1 ↑k).2).1) aW rfl rfl bx43.flat rfl (by omega) (by(simp only[List.length_set,List.length_append,List.length_cons,List.length_nil,List.length_replicate,List.length_map,List.length_take,List.length_drop];omega))) (lx (ay (v:=v24) (i:=((gI t.2.1 ↑k).2).1) ae rfl bx43.flat (by omega) (by(simp only[List.length_set,List.length_append,List.length_cons,List.length_nil,List.length_replicate,List.length_map,List.length_take,List.length_drop];omega)) (by decide) rfl) (mi (gI fw.1 ↑k) (lx (cV (m:=(gI (List.set ov (Int.toNat ((gI t.2.1 ↑k).1)) ((gI ov ((gI t.2.1 ↑k).1))+(gI fw.1 ↑k))) (((gI t.2.1 ↑k).2).1))) (n:=(gI fw.1 ↑k)) rfl rfl (by omega)) ?_))))
      refine lx (aa (v:=v24) (i:=((gI t.2.1 ↑k).2).1) aW rfl rfl bx43.flat rfl (by omega) (by(simp only[List.length_set,List.length_append,List.length_cons,List.length_nil,List.length_replicate,List.length_map,List.length_take,List.length_drop];omega))) (lo (aK (i:=((gI t.2.1 ↑k).2).1) ((gI (List.set ov (Int.toNat ((gI t.2.1 ↑k).1)) ((gI ov ((gI t.2.1 ↑k).1))+(gI fw.1 ↑k))) (((gI t.2.1 ↑k).2).1))-(gI fw.1 ↑k)) ae rfl rfl bx43 (by omega) (by(simp only[List.length_set,List.length_append,List.length_cons,List.length_nil,List.length_replicate,List.length_map,List.length_take,List.length_drop];omega)) rfl ?_))
      intro w44 ch45 bx46
      clear bx43
      refine af (a9 (a6 rfl (mz zs8 (mi (gI fw.1 ↑k) (lx (a7 dK rfl rfl rfl rfl) ?_)))))
      replace bx37:=bx37.ce ch45
      refine lx (a8 ae rfl bx37 rfl) (lx (gM (m:=(gI fw.1 ↑k)) (n:=(((gI t.2.1 ↑k).2).2).2) rfl rfl (by omega)) (lx (aP (m:=co) (n:=(gI fw.1 ↑k)*((((gI t.2.1 ↑k).2).2).2)) rfl rfl (by omega)) (ai (co+((gI fw.1 ↑k)*((((gI t.2.1 ↑k).2).2).2))) (af (a9 (bt g33 rfl pq (by kernel_rfl) ?_))))))
      intro w48 ch47
      refine qx (λw' hw'=>a7 dK rfl rfl rfl rfl) ?_
      replace bx37:=bx37.cn ch47
      refine qx (λw' hw'=>a8 ae rfl (bx37.bel hw') rfl) (qx (λw' hw'=>a7 ff rfl rfl zs3 rfl) ?_)
      have C49:=cg [3] (hb39.n.seq ((ch42.l rfl).seq ((ch45.l rfl).seq ch47.n)))
      replace bx10:=bx10.ca C49
      refine qx (λw' hw'=>a8 ao rfl (bx10.bel hw') rfl) (qx (λw' hw'=>a7 dK rfl rfl rfl rfl) (qx (λw' hw'=>a8 ae rfl (bx37.bel hw') rfl) ?_))
      have C50:=cg [3,4] (ch31.n.seq ((ch36.l rfl).seq (hb39.n.seq ((ch42.l rfl).seq ((ch45.l rfl).seq ch47.n)))))
      replace r_fw_v1:=r_fw_v1.ca C50
      refine qx (λw' hw'=>aa (v:=fw_v1) (i:=(gI t.2.1 ↑k).1) aW rfl rfl (r_fw_v1.bel hw') rfl (by omega) (by omega)) (qx (λw' hw'=>ay (v:=fw_v1) (i:=(gI t.2.1 ↑k).1) ae rfl (r_fw_v1.bel hw') (by omega) (by omega) (by decide) rfl) (qx (λw' hw'=>aP (m:=(((gI t.2.1 ↑k).2).2).2) (n:=(gI fw.2.1 ((gI t.2.1 ↑k).1))) rfl rfl (by omega)) (qx (λw' hw'=>a7 ff rfl rfl zs3 rfl) (qx (λw' hw'=>a8 ao rfl (bx10.bel hw') rfl) (qx (λw' hw'=>a7 dK rfl rfl rfl rfl) (qx (λw' hw'=>a8 ae rfl (bx37.bel hw') rfl) (qx (λw' hw'=>aa (v:=fw_v1) (i:=((gI t.2.1 ↑k).2).1) aW rfl rfl (r_fw_v1.bel hw') rfl (by omega) (by omega)) ?_)))))))
      refine qx (λw' hw'=>ay (v:=fw_v1) (i:=((gI t.2.1 ↑k).2).1) ae rfl (r_fw_v1.bel hw') (by omega) (by omega) (by decide) rfl) (qx (λw' hw'=>cV (m:=((((gI t.2.1 ↑k).2).2).2)+(gI fw.2.1 ((gI t.2.1 ↑k).1))) (n:=(gI fw.2.1 (((gI t.2.1 ↑k).2).1))) rfl rfl (by omega)) (qv (vi ((((((gI t.2.1 ↑k).2).2).2)+(gI fw.2.1 ((gI t.2.1 ↑k).1)))-(gI fw.2.1 (((gI t.2.1 ↑k).2).1)))) (λw' hw'=>bD rfl) (bX ?_)))
      intro w51 hc52
      replace hc52:=aB hc52 g33
      refine a9 (a6 rfl (mi (gI fw.1 ↑k) (lx (a7 dK rfl rfl rfl rfl) ?_)))
      replace bx37:=bx37.cn hc52
      refine lx (a8 ae rfl bx37 rfl) (lx (bo (m:=(gI fw.1 ↑k)) (n:=(((gI t.2.1 ↑k).2).2).1) rfl rfl) (mv (vb (decide ((gI fw.1 ↑k)<((((gI t.2.1 ↑k).2).2).1)))) ?_))
      by_cases q109:(gI fw.1 ↑k)<((((gI t.2.1 ↑k).2).2).1)
      ·
       refine lv (vi ((((((gI t.2.1 ↑k).2).2).2)+(gI fw.2.1 ((gI t.2.1 ↑k).1)))-(gI fw.2.1 (((gI t.2.1 ↑k).2).1)))) (wy (dt q109)) (ah rfl) (lv (vb (decide (((((((gI t.2.1 ↑k).2).2).2)+(gI fw.2.1 ((gI t.2.1 ↑k).1)))-(gI fw.2.1 (((gI t.2.1 ↑k).2).1)))<0))) (wy (dt q109)) (bo (m:=(((((gI t.2.1 ↑k).2).2).2)+(gI fw.2.1 ((gI t.2.1 ↑k).1)))-(gI fw.2.1 (((gI t.2.1 ↑k).2).1))) (n:=0) rfl rfl) (lw (vb (decide (((((((gI t.2.1 ↑k).2).2).2)+(gI fw.2.1 ((gI t.2.1 ↑k).1)))-(gI fw.2.1 (((gI t.2.1 ↑k).2).1)))<0))) (az rfl (dt q109) rfl) (mv (vb (decide (((((((gI t.2.1 ↑k).2).2).2)+(gI fw.2.1 ((gI t.2.1 ↑k).1)))-(gI fw.2.1 (((gI t.2.1 ↑k).2).1)))<0))) ?_)))
       by_cases q113:((((((gI t.2.1 ↑k).2).2).2)+(gI fw.2.1 ((gI t.2.1 ↑k).1)))-(gI fw.2.1 (((gI t.2.1 ↑k).2).1)))<0
       ·
        refine ag (wn (dt q113)) (ag (wn (dt q113)) (ag (wn (dt q113)) (ag (bA rfl rfl rfl) (ag (bA rfl rfl rfl) (ag (wn (dt q113)) (lw (vb true) (az rfl (dt q113) rfl) (af (aj rfl rfl (a9 ?_)))))))))
        clear bx5 bx10 bx37 bx46
        refine a6 rfl (ma (vb false) (af (aF (vs:=[vb false]) Try.func18 (.tmp rfl .nil) ?_)))
        have e0:(false:Bool)=(et t fw):=by
          try simp only[decide_eq_true_eq,decide_eq_false_iff_not] at*
          exact(eX (k:=k) (by omega) (λh=>by unfold iy at h;omega)).symm
        have C53:=cg [3,4] (ch31.n.seq ((ch36.l rfl).seq (hb39.n.seq ((ch42.l rfl).seq ((ch45.l rfl).seq (ch47.n.seq hc52.n))))))
        replace bH:=bH.ca C53
        exact⟨rb e0,bH.below⟩
       refine lv (vi (gI fw.1 ↑k)) (wy (df q113)) (ah rfl) (lv (vb (decide (0<(gI fw.1 ↑k)))) (wy (df q113)) (bY (m:=(gI fw.1 ↑k)) (n:=0) rfl rfl) (lv (vb (decide (0<(gI fw.1 ↑k)))) (wy (df q113)) (ah rfl) ?_))
       by_cases q116:0<(gI fw.1 ↑k)
       ·
        refine lv (vi ((((((gI t.2.1 ↑k).2).2).2)+(gI fw.2.1 ((gI t.2.1 ↑k).1)))-(gI fw.2.1 (((gI t.2.1 ↑k).2).1)))) (wy (dt q116)) (ah rfl) (lv (vb (decide (0<((((((gI t.2.1 ↑k).2).2).2)+(gI fw.2.1 ((gI t.2.1 ↑k).1)))-(gI fw.2.1 (((gI t.2.1 ↑k).2).1)))))) (wy (dt q116)) (bY (m:=(((((gI t.2.1 ↑k).2).2).2)+(gI fw.2.1 ((gI t.2.1 ↑k).1)))-(gI fw.2.1 (((gI t.2.1 ↑k).2).1))) (n:=0) rfl rfl) (lv (vb (decide (0<((((((gI t.2.1 ↑k).2).2).2)+(gI fw.2.1 ((gI t.2.1 ↑k).1)))-(gI fw.2.1 (((gI t.2.1 ↑k).2).1)))))) (wy (df q113)) (az rfl (dt q116) rfl) ?_))
        refine lw (vb (decide (0<((((((gI t.2.1 ↑k).2).2).2)+(gI fw.2.1 ((gI t.2.1 ↑k).1)))-(gI fw.2.1 (((gI t.2.1 ↑k).2).1)))))) (aH rfl (df q113) rfl) (af ?_)
        by_cases p21:0<((((((gI t.2.1 ↑k).2).2).2)+(gI fw.2.1 ((gI t.2.1 ↑k).1)))-(gI fw.2.1 (((gI t.2.1 ↑k).2).1)))
        ·
         refine aj rfl (dt p21) (a9 ?_)
         clear bx5 bx10 bx37 bx46
         refine a6 rfl (ma (vb false) (af (aF (vs:=[vb false]) Try.func18 (.tmp rfl .nil) ?_)))
         have e0:(false:Bool)=(et t fw):=by
           try simp only[decide_eq_true_eq,decide_eq_false_iff_not] at*
           exact(eX (k:=k) (by omega) (λh=>by unfold iy at h;omega)).symm
         have C54:=cg [3,4] (ch31.n.seq ((ch36.l rfl).seq (hb39.n.seq ((ch42.l rfl).seq ((ch45.l rfl).seq (ch47.n.seq hc52.n))))))
         replace bH:=bH.ca C54
         exact⟨rb e0,bH.below⟩
        refine am rfl (df p21) (au (aq ?_))
        clear bx37
        refine a6 rfl (lx (aP (m:=↑k) (n:=1) zs52 rfl (by omega)) (mi ((k:Int)+1) (af ?_)))
        have C55:=cg [3,4] (ch31.n.seq ((ch36.l rfl).seq (hb39.n.seq ((ch42.l rfl).seq ((ch45.l rfl).seq (ch47.n.seq hc52.n))))))
        have C56:=cg [3] (hb39.n.seq ((ch42.l rfl).seq ((ch45.l rfl).seq (ch47.n.seq hc52.n))))
        refine back12 (co+((gI fw.1 ↑k)*((((gI t.2.1 ↑k).2).2).2)),k+1,(List.set (List.set ov (Int.toNat ((gI t.2.1 ↑k).1)) ((gI ov ((gI t.2.1 ↑k).1))+(gI fw.1 ↑k))) (Int.toNat (((gI t.2.1 ↑k).2).1)) ((gI (List.set ov (Int.toNat ((gI t.2.1 ↑k).1)) ((gI ov ((gI t.2.1 ↑k).1))+(gI fw.1 ↑k))) (((gI t.2.1 ↑k).2).1))-(gI fw.1 ↑k))),g33) _ _ ⟨bH.ca C55,zs2,zs3,zs7,rfl,zs50,zs51,rfl,Rt.ca C55,r_t_v1.ca C55,Rfw.ca C56,r_fw_v1.cn hc52,bx5.ca C55,bx10.cn hc52,(bx46.cn ch47).cn hc52,by omega,?_⟩ ?_
        · show jL t fw (k+1) (List.set (List.set ov (Int.toNat ((gI t.2.1 ↑k).1)) ((gI ov ((gI t.2.1 ↑k).1))+(gI fw.1 ↑k))) (Int.toNat (((gI t.2.1 ↑k).2).1)) ((gI (List.set ov (Int.toNat ((gI t.2.1 ↑k).1)) ((gI ov ((gI t.2.1 ↑k).1))+(gI fw.1 ↑k))) (((gI t.2.1 ↑k).2).1))-(gI fw.1 ↑k))) (co+((gI fw.1 ↑k)*((((gI t.2.1 ↑k).2).2).2)))
          try simp only[decide_eq_true_eq,decide_eq_false_iff_not] at*
          exact hfv.next hm ‹_› (by unfold iy;omega) rfl rfl rfl
        · show Int.toNat (((t.2.1.length:Int):Int)-((k+1):Int))<Int.toNat (((t.2.1.length:Int):Int)-(k:Int))
          omega
       refine ag (wn (df q116)) (ag (wn (df q116)) (lv (vb false) (wy (df q113)) (aH rfl (df q116) rfl) (lw (vb false) (aH rfl (df q113) rfl) (af (am rfl rfl (au (aq ?_)))))))
       clear bx37
       refine a6 rfl (lx (aP (m:=↑k) (n:=1) zs52 rfl (by omega)) (mi ((k:Int)+1) (af ?_)))
       have C57:=cg [3,4] (ch31.n.seq ((ch36.l rfl).seq (hb39.n.seq ((ch42.l rfl).seq ((ch45.l rfl).seq (ch47.n.seq hc52.n))))))
       have C58:=cg [3] (hb39.n.seq ((ch42.l rfl).seq ((ch45.l rfl).seq (ch47.n.seq hc52.n))))
       refine back12 (co+((gI fw.1 ↑k)*((((gI t.2.1 ↑k).2).2).2)),k+1,(List.set (List.set ov (Int.toNat ((gI t.2.1 ↑k).1)) ((gI ov ((gI t.2.1 ↑k).1))+(gI fw.1 ↑k))) (Int.toNat (((gI t.2.1 ↑k).2).1)) ((gI (List.set ov (Int.toNat ((gI t.2.1 ↑k).1)) ((gI ov ((gI t.2.1 ↑k).1))+(gI fw.1 ↑k))) (((gI t.2.1 ↑k).2).1))-(gI fw.1 ↑k))),g33) _ _ ⟨bH.ca C57,zs2,zs3,zs7,rfl,zs50,zs51,rfl,Rt.ca C57,r_t_v1.ca C57,Rfw.ca C58,r_fw_v1.cn hc52,bx5.ca C57,bx10.cn hc52,(bx46.cn ch47).cn hc52,by omega,?_⟩ ?_
       · show jL t fw (k+1) (List.set (List.set ov (Int.toNat ((gI t.2.1 ↑k).1)) ((gI ov ((gI t.2.1 ↑k).1))+(gI fw.1 ↑k))) (Int.toNat (((gI t.2.1 ↑k).2).1)) ((gI (List.set ov (Int.toNat ((gI t.2.1 ↑k).1)) ((gI ov ((gI t.2.1 ↑k).1))+(gI fw.1 ↑k))) (((gI t.2.1 ↑k).2).1))-(gI fw.1 ↑k))) (co+((gI fw.1 ↑k)*((((gI t.2.1 ↑k).2).2).2)))
         try simp only[decide_eq_true_eq,decide_eq_false_iff_not] at*
         exact hfv.next hm ‹_› (by unfold iy;omega) rfl rfl rfl
       · show Int.toNat (((t.2.1.length:Int):Int)-((k+1):Int))<Int.toNat (((t.2.1.length:Int):Int)-(k:Int))
         omega
      refine ag (wn (df q109)) (ag (wn (df q109)) (lw (vb false) (aH rfl (df q109) rfl) (mv (vb false) (lv (vi (gI fw.1 ↑k)) (wy rfl) (ah rfl) (lv (vb (decide (0<(gI fw.1 ↑k)))) (wy rfl) (bY (m:=(gI fw.1 ↑k)) (n:=0) rfl rfl) (lv (vb (decide (0<(gI fw.1 ↑k)))) (wy rfl) (ah rfl) ?_))))))
      by_cases q116:0<(gI fw.1 ↑k)
      ·
       refine lv (vi ((((((gI t.2.1 ↑k).2).2).2)+(gI fw.2.1 ((gI t.2.1 ↑k).1)))-(gI fw.2.1 (((gI t.2.1 ↑k).2).1)))) (wy (dt q116)) (ah rfl) (lv (vb (decide (0<((((((gI t.2.1 ↑k).2).2).2)+(gI fw.2.1 ((gI t.2.1 ↑k).1)))-(gI fw.2.1 (((gI t.2.1 ↑k).2).1)))))) (wy (dt q116)) (bY (m:=(((((gI t.2.1 ↑k).2).2).2)+(gI fw.2.1 ((gI t.2.1 ↑k).1)))-(gI fw.2.1 (((gI t.2.1 ↑k).2).1))) (n:=0) rfl rfl) (lv (vb (decide (0<((((((gI t.2.1 ↑k).2).2).2)+(gI fw.2.1 ((gI t.2.1 ↑k).1)))-(gI fw.2.1 (((gI t.2.1 ↑k).2).1)))))) (wy rfl) (az rfl (dt q116) rfl) ?_))
       refine lw (vb (decide (0<((((((gI t.2.1 ↑k).2).2).2)+(gI fw.2.1 ((gI t.2.1 ↑k).1)))-(gI fw.2.1 (((gI t.2.1 ↑k).2).1)))))) (aH rfl rfl rfl) (af ?_)
       by_cases p21:0<((((((gI t.2.1 ↑k).2).2).2)+(gI fw.2.1 ((gI t.2.1 ↑k).1)))-(gI fw.2.1 (((gI t.2.1 ↑k).2).1)))
       ·
        refine aj rfl (dt p21) (a9 ?_)
        clear bx5 bx10 bx37 bx46
        refine a6 rfl (ma (vb false) (af (aF (vs:=[vb false]) Try.func18 (.tmp rfl .nil) ?_)))
        have e0:(false:Bool)=(et t fw):=by
          try simp only[decide_eq_true_eq,decide_eq_false_iff_not] at*
          exact(eX (k:=k) (by omega) (λh=>by unfold iy at h;omega)).symm
        have C59:=cg [3,4] (ch31.n.seq ((ch36.l rfl).seq (hb39.n.seq ((ch42.l rfl).seq ((ch45.l rfl).seq (ch47.n.seq hc52.n))))))
        replace bH:=bH.ca C59
        exact⟨rb e0,bH.below⟩
       refine am rfl (df p21) (au (aq ?_))
       clear bx37
       refine a6 rfl (lx (aP (m:=↑k) (n:=1) zs52 rfl (by omega)) (mi ((k:Int)+1) (af ?_)))
       have C60:=cg [3,4] (ch31.n.seq ((ch36.l rfl).seq (hb39.n.seq ((ch42.l rfl).seq ((ch45.l rfl).seq (ch47.n.seq hc52.n))))))
       have C61:=cg [3] (hb39.n.seq ((ch42.l rfl).seq ((ch45.l rfl).seq (ch47.n.seq hc52.n))))
       refine back12 (co+((gI fw.1 ↑k)*((((gI t.2.1 ↑k).2).2).2)),k+1,(List.set (List.set ov (Int.toNat ((gI t.2.1 ↑k).1)) ((gI ov ((gI t.2.1 ↑k).1))+(gI fw.1 ↑k))) (Int.toNat (((gI t.2.1 ↑k).2).1)) ((gI (List.set ov (Int.toNat ((gI t.2.1 ↑k).1)) ((gI ov ((gI t.2.1 ↑k).1))+(gI fw.1 ↑k))) (((gI t.2.1 ↑k).2).1))-(gI fw.1 ↑k))),g33) _ _ ⟨bH.ca C60,zs2,zs3,zs7,rfl,zs50,zs51,rfl,Rt.ca C60,r_t_v1.ca C60,Rfw.ca C61,r_fw_v1.cn hc52,bx5.ca C60,bx10.cn hc52,(bx46.cn ch47).cn hc52,by omega,?_⟩ ?_
       · show jL t fw (k+1) (List.set (List.set ov (Int.toNat ((gI t.2.1 ↑k).1)) ((gI ov ((gI t.2.1 ↑k).1))+(gI fw.1 ↑k))) (Int.toNat (((gI t.2.1 ↑k).2).1)) ((gI (List.set ov (Int.toNat ((gI t.2.1 ↑k).1)) ((gI ov ((gI t.2.1 ↑k).1))+(gI fw.1 ↑k))) (((gI t.2.1 ↑k).2).1))-(gI fw.1 ↑k))) (co+((gI fw.1 ↑k)*((((gI t.2.1 ↑k).2).2).2)))
         try simp only[decide_eq_true_eq,decide_eq_false_iff_not] at*
         exact hfv.next hm ‹_› (by unfold iy;omega) rfl rfl rfl
       · show Int.toNat (((t.2.1.length:Int):Int)-((k+1):Int))<Int.toNat (((t.2.1.length:Int):Int)-(k:Int))
         omega
      refine ag (wn (df q116)) (ag (wn (df q116)) (lv (vb false) (wy rfl) (aH rfl (df q116) rfl) (lw (vb false) (aH rfl rfl rfl) (af (am rfl rfl (au (aq ?_)))))))
      clear bx37
      refine a6 rfl (lx (aP (m:=↑k) (n:=1) zs52 rfl (by omega)) (mi ((k:Int)+1) (af ?_)))
      have C62:=cg [3,4] (ch31.n.seq ((ch36.l rfl).seq (hb39.n.seq ((ch42.l rfl).seq ((ch45.l rfl).seq (ch47.n.seq hc52.n))))))
      have C63:=cg [3] (hb39.n.seq ((ch42.l rfl).seq ((ch45.l rfl).seq (ch47.n.seq hc52.n))))
      refine back12 (co+((gI fw.1 ↑k)*((((gI t.2.1 ↑k).2).2).2)),k+1,(List.set (List.set ov (Int.toNat ((gI t.2.1 ↑k).1)) ((gI ov ((gI t.2.1 ↑k).1))+(gI fw.1 ↑k))) (Int.toNat (((gI t.2.1 ↑k).2).1)) ((gI (List.set ov (Int.toNat ((gI t.2.1 ↑k).1)) ((gI ov ((gI t.2.1 ↑k).1))+(gI fw.1 ↑k))) (((gI t.2.1 ↑k).2).1))-(gI fw.1 ↑k))),g33) _ _ ⟨bH.ca C62,zs2,zs3,zs7,rfl,zs50,zs51,rfl,Rt.ca C62,r_t_v1.ca C62,Rfw.ca C63,r_fw_v1.cn hc52,bx5.ca C62,bx10.cn hc52,(bx46.cn ch47).cn hc52,by omega,?_⟩ ?_
      · show jL t fw (k+1) (List.set (List.set ov (Int.toNat ((gI t.2.1 ↑k).1)) ((gI ov ((gI t.2.1 ↑k).1))+(gI fw.1 ↑k))) (Int.toNat (((gI t.2.1 ↑k).2).1)) ((gI (List.set ov (Int.toNat ((gI t.2.1 ↑k).1)) ((gI ov ((gI t.2.1 ↑k).1))+(gI fw.1 ↑k))) (((gI t.2.1 ↑k).2).1))-(gI fw.1 ↑k))) (co+((gI fw.1 ↑k)*((((gI t.2.1 ↑k).2).2).2)))
        try simp only[decide_eq_true_eq,decide_eq_false_iff_not] at*
        exact hfv.next hm ‹_› (by unfold iy;omega) rfl rfl rfl
      · show Int.toNat (((t.2.1.length:Int):Int)-((k+1):Int))<Int.toNat (((t.2.1.length:Int):Int)-(k:Int))
        omega
     refine aj rfl (congrArg Bool.not (Bool.eq_false_iff.2 p15)) (a9 ?_)
     clear bx5 bx10 o26 bx37
     refine a6 rfl (ma (vb false) (af (aF (vs:=[vb false]) Try.func18 (.tmp rfl .nil) ?_)))
     have e0:(false:Bool)=(et t fw):=by
       try simp only[decide_eq_true_eq,decide_eq_false_iff_not] at*
       exact(eX (k:=k) (by omega) (λh=>by unfold iy at h;omega)).symm
     have C64:=cg [4] (ch31.n.seq ((ch36.l rfl).seq hb39.n))
     replace bH:=bH.ca C64
     exact⟨rb e0,bH.below⟩
    refine am rfl (df p12) (aM rfl (a9 (a9 (a6 rfl (lx (a7 cP rfl rfl zs2 rfl) (lx (a8 ao rfl bx5 rfl) ?_))))))
    have len65:=(r_t_v1).small
    refine lx (ba aW rfl r_t_v1) (mi 0 (af (av ?_)))
    clear bx5
    refine aX (σ:=Nat×aG) (λ⟨j,gq⟩ f w=>b9 w0 gq w/\f 3=vp b8 0/\f 7=v24/\f 8=vi co/\f 123=t_v1/\f 124=vi (t.2.2.length:Int)/\f 125=vi ↑j/\Sl gq (is 0) w t_v t.2.1/\Sl gq (is 0) w t_v1 t.2.2/\Sl gq (is 0) w fw_v fw.1/\Sl gq (is 0) w fw_v1 fw.2.1/\Bx gq (is 2) w b8 [fw_v,fw_v1,vi fw.2.2]/\Ow gq (is 3) (is 3) w v24 ov/\(j:Int)<=((t.2.2.length:Int):Int)/\(∀v:Nat,v<j->gI ov ↑v=gI t.2.2 ↑v)) (λ⟨j,gq⟩=>Int.toNat (((t.2.2.length:Int):Int)-(j:Int))) (0,g29) ?_ ?_
    · exact⟨bH,zs3,zs7,zs8,rfl,rfl,rfl,Rt,r_t_v1,Rfw,r_fw_v1,bx10,o26,by omega,by intro v hv;omega⟩
    clear Rt r_t_v1 Rfw r_fw_v1 bx10 o26 bH
    rintro⟨j,g68⟩ f66 w67 ⟨bH,zs3,zs7,zs8,zs123,zs124,zs125,Rt,r_t_v1,Rfw,r_fw_v1,bx10,o26,hle_j,hnd⟩ back25
    refine a9 (a6 rfl (lx (bo (m:=↑j) (n:=(t.2.2.length:Int)) zs125 zs124) (af (a9 ?_))))
    by_cases p25:(j:Int)<(t.2.2.length:Int)
    ·
     refine aj rfl (dt p25) (au (a9 (av (a9 (a6 rfl (mz zs125 (lx (aa (v:=t_v1) (i:=↑j) aW rfl zs123 r_t_v1 zs125 (by omega) (by omega)) (lx (ay (v:=t_v1) (i:=↑j) ae rfl r_t_v1 (by omega) (by omega) (by decide) rfl) (ai (j:Int) (ai (gI t.2.2 ↑j) ?_))))))))))
     refine af (a9 (a6 rfl (mz zs7 (mi ↑j (lx (aa (v:=v24) (i:=↑j) aW rfl rfl o26.flat rfl (by omega) (by omega)) (lx (ay (v:=v24) (i:=↑j) ae rfl o26.flat (by omega) (by omega) (by decide) rfl) (mi (gI t.2.2 ↑j) (lx (cY (m:=(gI ov ↑j)) (n:=(gI t.2.2 ↑j)) rfl rfl) (af ?_)))))))))
     by_cases p27:(gI ov ↑j)=(gI t.2.2 ↑j)
     ·
      refine am rfl (congrArg Bool.not (dt p27)) (au (aq (a6 rfl (lx (aP (m:=↑j) (n:=1) zs125 rfl (by omega)) (mi ((j:Int)+1) (af ?_))))))
      refine back25 (j+1,g68) _ _ ⟨bH,zs3,zs7,zs8,zs123,zs124,rfl,Rt,r_t_v1,Rfw,r_fw_v1,bx10,o26,by omega,?_⟩ ?_
      · show∀v:Nat,v<(j+1)->gI ov ↑v=gI t.2.2 ↑v
        try simp only[decide_eq_true_eq,decide_eq_false_iff_not] at*
        intro v hv;by_cases q:v=j;(rw[q];omega);exact hnd v (by omega)
      · show Int.toNat (((t.2.2.length:Int):Int)-((j+1):Int))<Int.toNat (((t.2.2.length:Int):Int)-(j:Int))
        omega
     refine aj rfl (congrArg Bool.not (df p27)) (a9 ?_)
     clear bx10 o26
     refine a6 rfl (ma (vb false) (af (aF (vs:=[vb false]) Try.func18 (.tmp rfl .nil) ?_)))
     have e0:(false:Bool)=(et t fw):=by
       try simp only[decide_eq_true_eq,decide_eq_false_iff_not] at*
       exact(nf hfv hm (by omega) (by omega) (by omega) ‹_›).symm
     exact⟨rb e0,bH.below⟩
    refine am rfl (df p25) (aM rfl (a9 ?_))
    clear o26
    refine a6 rfl (mz zs8 (lx (a7 ff rfl rfl zs3 rfl) (lx (a8 sk rfl bx10 rfl) (lx (cw (m:=co) (n:=fw.2.2) rfl rfl) (ma (vb (decide (co=fw.2.2))) (af (aF (vs:=[vb (decide (co=fw.2.2))]) Try.func18 (.tmp rfl .nil) ?_)))))))
    have e0:(decide (co=fw.2.2):Bool)=(et t fw):=by
      try simp only[decide_eq_true_eq,decide_eq_false_iff_not] at*
      exact(nY hfv (by omega) (by omega) hh hpb (by omega) hnd (by omega)).symm
    exact⟨rb e0,bH.below⟩
   refine aj rfl (congrArg Bool.not (df p1)) (a9 ?_)
   clear bx5 bx10
   refine a6 rfl (ma (vb false) (af (aF (vs:=[vb false]) Try.func18 (.tmp rfl .nil) ?_)))
   have e0:(false:Bool)=(et t fw):=by
     try simp only[decide_eq_true_eq,decide_eq_false_iff_not] at*
     exact(fN (λh=>by obtain⟨h0,h1,h2⟩:=h;(omega))).symm
   replace bH:=bH.ca C13
   exact⟨rb e0,bH.below⟩
  refine ag (wn (congrArg Bool.not (df q27))) (ag (wn (congrArg Bool.not (df q27))) (ag (wn (congrArg Bool.not (df q27))) (ag (wn (congrArg Bool.not (df q27))) (ag (wn (congrArg Bool.not (df q27))) (ag (wn (congrArg Bool.not (df q27))) (lw (vb true) (az rfl (congrArg Bool.not (df q27)) rfl) (af (aj rfl rfl (a9 ?_)))))))))
  clear bx5 bx10
  refine a6 rfl (ma (vb false) (af (aF (vs:=[vb false]) Try.func18 (.tmp rfl .nil) ?_)))
  have e0:(false:Bool)=(et t fw):=by
    try simp only[decide_eq_true_eq,decide_eq_false_iff_not] at*
    exact(fN (λh=>by obtain⟨h0,h1,h2⟩:=h;(omega))).symm
  replace bH:=bH.ca C13
  exact⟨rb e0,bH.below⟩
 refine ag (wn (congrArg Bool.not (Bool.eq_false_iff.2 q18))) (ag (wn (congrArg Bool.not (Bool.eq_false_iff.2 q18))) (ag (wn (congrArg Bool.not (Bool.eq_false_iff.2 q18))) (ag (wn (congrArg Bool.not (Bool.eq_false_iff.2 q18))) (ag (wn (congrArg Bool.not (Bool.eq_false_iff.2 q18))) (ag (wn (congrArg Bool.not (Bool.eq_false_iff.2 q18))) (ag (wn (congrArg Bool.not (Bool.eq_false_iff.2 q18))) (lw (vb true) (az rfl (congrArg Bool.not (Bool.eq_false_iff.2 q18)) rfl) (mv (vb true) (ag (wn rfl) (ag (wn rfl) (ag (wn rfl) (ag (wn rfl) (ag (wn rfl) (ag (wn rfl) ?_))))))))))))))
 refine lw (vb true) (az rfl rfl rfl) (af (aj rfl rfl (a9 ?_)))
 clear bx5 bx10
 refine a6 rfl (ma (vb false) (af (aF (vs:=[vb false]) Try.func18 (.tmp rfl .nil) ?_)))
 have e0:(false:Bool)=(et t fw):=by
   try simp only[decide_eq_true_eq,decide_eq_false_iff_not] at*
   exact(fN (λh=>by obtain⟨h0,h1,h2⟩:=h;(exact absurd (dI h0) ‹_›))).symm
 have C69:=cg [] (ch2.n.seq (ch7.n.seq hb12.n))
 replace bH:=bH.ca C69
 exact⟨rb e0,bH.below⟩
end TL
