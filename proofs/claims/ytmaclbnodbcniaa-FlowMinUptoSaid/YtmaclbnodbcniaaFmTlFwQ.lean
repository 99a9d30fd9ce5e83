import Derived.Test.YtmaclbnodbcniaaFmTlP3
import Derived.Test.YtmaclbnodbcniaaFmTlFwA
import Derived.Test.YtmaclbnodbcniaaFmTlFwB
import Derived.Test.YtmaclbnodbcniaaProg
import Derived.Test.YtmaclbnodbcniaaFmTlAli
set_option linter.all false
set_option maxRecDepth 20000
namespace TL
open Go Go.Proofs
theorem dj:Try.prog.follows .mixedOrders=true:=by kernel_rfl
theorem rZ:Tp Try.prog 2 false 1 8 (.int .i64 0):=Tp.of (by kernel_rfl)
set_option maxHeartbeats 8000000 in
theorem oZ(w0:World)(t:(Int)×(List ((Int)×(Int)×(Int)×(Int)))×(List Int))(t_v t_v1:Value)(ht_v:Ro w0 t_v t.2.1)(ht_v1:Ro w0 t_v1 t.2.2)(fw:(List Int)×(List Int)×(Int))(fw_v fw_v1:Value)(hfw_v:Ro w0 fw_v fw.1)(hfw_v1:Ro w0 fw_v1 fw.2.1):
    Calls Try.prog 17 #[vg [vi t.1,t_v,t_v1],vg [fw_v,fw_v1,vi fw.2.2]] w0 (λee w=>ee= .returned (vb (et t fw))/\dC w0.heap.size w0 w):=by
 refine aC Try.func17 rfl nq ?_
 have bH:=b9.start w0
 have Rt:=ht_v.sl
 have r_t_v1:=ht_v1.sl
 have Rfw:=hfw_v.sl
 have r_fw_v1:=hfw_v1.sl
 refine a9 (a6 rfl (cQ rfl (d4 c0 (is 1) (1,0) rfl rfl ?_)))
 intro g4 w1 b3 ch2 bx5
 replace bx5:Bx g4 (is 1) w1 b3 [vi t.1,t_v,t_v1]:=bx5
 refine lo (d4 g4 (is 2) (2,0) rfl rfl ?_)
 intro g9 w6 b8 ch7 bx10
 replace bx10:Bx g9 (is 2) w6 b8 [fw_v,fw_v1,vi fw.2.2]:=bx10
 refine ma (vb false) (af (a9 (a9 (a6 rfl ?_))))
 replace bx5:=bx5.cn ch7
 refine lx (bm (ds:=[vi t.1,t_v,t_v1]) c9 rfl bx5 rfl rfl) ?_
 replace Rt:=(Rt.cn ch2).cn ch7
 replace r_t_v1:=(r_t_v1.cn ch2).cn ch7
 refine lo (bE (v:=vb (bQ t)) (aU (vals:=[vg [vi t.1,t_v,t_v1]]) Try.func10 kY kr rfl) (jA w6 t t_v t_v1 (Rt).ro (r_t_v1).ro) ?_)
 intro w11 hb12
 replace hb12:=aB hb12 g9
 refine lx (cz (b:=(bQ t)) rfl) (mv (vb (!(bQ t))) ?_)
 by_cases q16:(bQ t)=true
 ·
  refine lv (vp b8 0) (wy (congrArg Bool.not q16)) (a7 ff rfl rfl rfl rfl) ?_
  replace bx10:=bx10.cn hb12
  refine lv (fw_v) (wy (congrArg Bool.not q16)) (a8 ao rfl bx10 rfl) ?_
  have C13:=cg [] (ch2.n.seq (ch7.n.seq hb12.n))
  replace Rfw:=Rfw.ca C13
  have len14:=(Rfw).small
  refine lv (vi (fw.1.length:Int)) (wy (congrArg Bool.not q16)) (ba aW rfl Rfw) (lv (vp b3 1) (wy (congrArg Bool.not q16)) (a7 cP rfl rfl rfl rfl) ?_)
  replace bx5:=bx5.cn hb12
  refine lv (t_v) (wy (congrArg Bool.not q16)) (a8 bT rfl bx5 rfl) ?_
  replace Rt:=Rt.cn hb12
  have len15:=(Rt).small
  refine lv (vi (t.2.1.length:Int)) (wy (congrArg Bool.not q16)) (ba dB rfl Rt) (lv (vb (!(decide ((fw.1.length:Int)=(t.2.1.length:Int))))) (wy (congrArg Bool.not q16)) (cY (m:=(fw.1.length:Int)) (n:=(t.2.1.length:Int)) rfl rfl) (lw (vb (!(decide ((fw.1.length:Int)=(t.2.1.length:Int))))) (aH rfl (congrArg Bool.not q16) rfl) (mv (vb (!(decide ((fw.1.length:Int)=(t.2.1.length:Int))))) ?_)))
  by_cases q25:(fw.1.length:Int)=(t.2.1.length:Int)
  ·
   refine lv (vp b8 1) (wy (congrArg Bool.not (dt q25))) (a7 ff rfl rfl rfl rfl) (lv (fw_v1) (wy (congrArg Bool.not (dt q25))) (a8 ao rfl bx10 rfl) ?_)
   replace r_fw_v1:=r_fw_v1.ca C13
   have len16:=(r_fw_v1).small
   refine lv (vi (fw.2.1.length:Int)) (wy (congrArg Bool.not (dt q25))) (ba aW rfl r_fw_v1) (lv (vp b3 0) (wy (congrArg Bool.not (dt q25))) (a7 cP rfl rfl rfl rfl) (lv (vi t.1) (wy (congrArg Bool.not (dt q25))) (a8 ae rfl bx5 rfl) (lv (vb (!(decide ((fw.2.1.length:Int)=t.1)))) (wy (congrArg Bool.not (dt q25))) (cY (m:=(fw.2.1.length:Int)) (n:=t.1) rfl rfl) (lw (vb (!(decide ((fw.2.1.length:Int)=t.1)))) (aH rfl (congrArg Bool.not (dt q25)) rfl) (af ?_)))))
   by_cases p1:(fw.2.1.length:Int)=t.1
   ·
    have hm:cB t:=of_decide_eq_true ‹_›
    have hm0:=hm
    obtain⟨⟨hm1,hm2⟩,hm3,hm4,hm5,hm6⟩:=hm0
    have hh:s6 t fw:=⟨hm,by omega,by omega⟩
    refine am rfl (congrArg Bool.not (dt p1)) (au (a9 (a9 (a6 rfl (ai 0 (af (av ?_)))))))
    refine aX (σ:=Nat×aG) (λ⟨i0,gq⟩ f w=>b9 w0 gq w/\f 2=vp b3 0/\f 3=vp b8 0/\f 5=vi ↑i0/\Sl gq (is 0) w t_v t.2.1/\Sl gq (is 0) w t_v1 t.2.2/\Sl gq (is 0) w fw_v fw.1/\Sl gq (is 0) w fw_v1 fw.2.1/\Bx gq (is 1) w b3 [vi t.1,t_v,t_v1]/\Bx gq (is 2) w b8 [fw_v,fw_v1,vi fw.2.2]/\(i0:Int)<=(t.1:Int)/\(∀p∈List.take i0 fw.2.1,kv p)) (λ⟨i0,gq⟩=>Int.toNat ((t.1:Int)-(i0:Int))) (0,g9) ?_ ?_
    · exact⟨bH.ca C13,rfl,rfl,rfl,Rt,r_t_v1.cn hb12,Rfw,r_fw_v1,bx5,bx10,by omega,by simp⟩
    clear Rt r_t_v1 Rfw r_fw_v1 bx5 bx10 bH
    rintro⟨i0,g19⟩ f17 w18 ⟨bH,zs2,zs3,zs5,Rt,r_t_v1,Rfw,r_fw_v1,bx5,bx10,hle_i0,hpb⟩ back4
    refine a9 (a9 (a6 rfl (mz zs5 (lx (a7 cP rfl rfl zs2 rfl) (lx (a8 ae rfl bx5 rfl) (lx (bo (m:=↑i0) (n:=t.1) rfl rfl) (af ?_)))))))
    by_cases p4:(i0:Int)<t.1
    ·
     refine aj rfl (dt p4) (au (a9 (av (a9 (a6 rfl (lx (a7 ff rfl rfl zs3 rfl) (lx (a8 ao rfl bx10 rfl) (mz zs5 (lx (aa (v:=fw_v1) (i:=↑i0) aW rfl rfl r_fw_v1 rfl (by omega) (by omega)) (lx (ay (v:=fw_v1) (i:=↑i0) ae rfl r_fw_v1 (by omega) (by omega) (by decide) rfl) ?_))))))))))
     refine lx (bo (m:=(gI fw.2.1 ↑i0)) (n:= -1099511627776) rfl rfl) (mv (vb (decide ((gI fw.2.1 ↑i0)<(-1099511627776)))) ?_)
     by_cases q45:(gI fw.2.1 ↑i0)<(-1099511627776)
     ·
      refine ag (wn (dt q45)) (ag (wn (dt q45)) (ag (wn (dt q45)) (ag (wn (dt q45)) (ag (wn (dt q45)) (ag (wn (dt q45)) (lw (vb true) (az rfl (dt q45) rfl) (af (aj rfl rfl (a9 ?_)))))))))
      clear bx5 bx10
      refine a6 rfl (ma (vb false) (af (aF (vs:=[vb false]) Try.func17 (.tmp rfl .nil) ?_)))
      have e0:(false:Bool)=(et t fw):=by
        try simp only[decide_eq_true_eq,decide_eq_false_iff_not] at*
        exact(mf (k:=i0) (by omega) (λh=>by unfold kv at h;omega)).symm
      exact⟨rb e0,bH.below⟩
     refine lv (vp b8 1) (wy (df q45)) (a7 ff rfl rfl zs3 rfl) (lv (fw_v1) (wy (df q45)) (a8 ao rfl bx10 rfl) (lv (vi ↑i0) (wy (df q45)) (ah zs5) (lv (Value.pointer (some (aT fw_v1 1 (Int.toNat ↑i0)))) (wy (df q45)) (aa (α:=Int) (xs:=fw.2.1) (v:=fw_v1) (i:=↑i0) aW rfl rfl r_fw_v1 rfl (by omega) (by omega)) (lv (vi (gI fw.2.1 ↑i0)) (wy (df q45)) (ay (α:=Int) (xs:=fw.2.1) (v:=fw_v1) (i:=↑i0) ae rfl r_fw_v1 (by omega) (by omega) (by decide) rfl) ?_))))
     refine lv (vb (decide (1099511627776<(gI fw.2.1 ↑i0)))) (wy (df q45)) (bY (m:=(gI fw.2.1 ↑i0)) (n:=1099511627776) rfl rfl) (lw (vb (decide (1099511627776<(gI fw.2.1 ↑i0)))) (aH rfl (df q45) rfl) (af ?_))
     by_cases p6:1099511627776<(gI fw.2.1 ↑i0)
     ·
      refine aj rfl (dt p6) (a9 ?_)
      clear bx5 bx10
      refine a6 rfl (ma (vb false) (af (aF (vs:=[vb false]) Try.func17 (.tmp rfl .nil) ?_)))
      have e0:(false:Bool)=(et t fw):=by
        try simp only[decide_eq_true_eq,decide_eq_false_iff_not] at*
        exact(mf (k:=i0) (by omega) (λh=>by unfold kv at h;omega)).symm
      exact⟨rb e0,bH.below⟩
     refine am rfl (df p6) (au (aq (a6 rfl (mz zs5 (lx (aP (m:=↑i0) (n:=1) rfl rfl (by omega)) (ai ((i0:Int)+1) (af ?_)))))))
     refine back4 (i0+1,g19) _ _ ⟨bH,zs2,zs3,rfl,Rt,r_t_v1,Rfw,r_fw_v1,bx5,bx10,by omega,?_⟩ ?_
     · show∀p∈List.take (i0+1) fw.2.1,kv p
       try simp only[decide_eq_true_eq,decide_eq_false_iff_not] at*
       exact lX hpb (by omega) (by unfold kv;omega)
     · show Int.toNat ((t.1:Int)-((i0+1):Int))<Int.toNat ((t.1:Int)-(i0:Int))
       omega
    refine am rfl (df p4) (aM rfl (a9 ?_))
    have hpt:=oK hpb (n:=t.1) (by omega) (by omega)
    refine a6 rfl (lx (a7 cP rfl rfl zs2 rfl) (lx (a8 ae rfl bx5 rfl) (lo (dw (α:=Int) (l:=t.1) (cp:=t.1) g19 (is 3) (is 3) (3,0) rfl (0:Int) aW ae rfl rfl rfl (by omega) (by omega) (by omega) (by omega) ?_))))
    intro g20 w21 v22 ch23 o24 _
    refine ma v22 (af (a9 (a6 rfl (ai 0 (af (a9 (a9 (a6 rfl (ai 0 (af (av ?_)))))))))))
    refine aX (σ:=Int×Nat×(List Int)×aG) (λ⟨co,k,ov,gq⟩ f w=>b9 w0 gq w/\f 2=vp b3 0/\f 3=vp b8 0/\f 6=v22/\f 7=vi co/\f 8=vi ↑k/\Sl gq (is 0) w t_v t.2.1/\Sl gq (is 0) w t_v1 t.2.2/\Sl gq (is 0) w fw_v fw.1/\Sl gq (is 0) w fw_v1 fw.2.1/\Bx gq (is 1) w b3 [vi t.1,t_v,t_v1]/\Bx gq (is 2) w b8 [fw_v,fw_v1,vi fw.2.2]/\Ow gq (is 3) (is 3) w v22 ov/\(k:Int)<=((t.2.1.length:Int):Int)/\(jL t fw k ov co)) (λ⟨co,k,ov,gq⟩=>Int.toNat (((t.2.1.length:Int):Int)-(k:Int))) (0,0,(List.replicate (Int.toNat t.1) (0:Int)),g20) ?_ ?_
    · exact⟨bH.cn ch23,zs2,zs3,rfl,rfl,rfl,Rt.cn ch23,r_t_v1.cn ch23,Rfw.cn ch23,r_fw_v1.cn ch23,bx5.cn ch23,bx10.cn ch23,o24,by omega,by exact jL.start hm⟩
    clear Rt r_t_v1 Rfw r_fw_v1 bx5 bx10 o24 bH
    rintro⟨co,k,ov,g27⟩ f25 w26 ⟨bH,zs2,zs3,zs6,zs7,zs8,Rt,r_t_v1,Rfw,r_fw_v1,bx5,bx10,o24,hle_k,hfv⟩ back11
    have hovl:=hfv.ln
    obtain⟨hovb,hco0,hco1⟩:=hfv.bd hm (by omega)
    refine a9 (a9 (a6 rfl (mz zs8 (lx (a7 cP rfl rfl zs2 rfl) (lx (a8 bT rfl bx5 rfl) (lx (ba dB rfl Rt) (lx (bo (m:=↑k) (n:=(t.2.1.length:Int)) rfl rfl) (af ?_))))))))
    by_cases p11:(k:Int)<(t.2.1.length:Int)
    ·
     refine aj rfl (dt p11) ?_
     obtain⟨⟨ha0,ha1⟩,⟨ha2,ha3⟩,⟨ha4,ha5⟩,ha6,ha7⟩:=hm5 _ (bx (xs:=t.2.1) (i:=↑k) (by omega) ‹_›)
     have hpa:=hpt _ ha0 ha1
     have hpb:=hpt _ ha2 ha3
     obtain⟨hoa0,hoa1⟩:=hovb _ ha0 ha1
     obtain⟨hob0,hob1⟩:=hovb _ ha2 ha3
     refine au (a9 (av (a9 (a6 rfl (lx (a7 cP rfl rfl zs2 rfl) (lx (a8 bT rfl bx5 rfl) (mz zs8 (lx (aa (v:=t_v) (i:=↑k) dB rfl rfl Rt rfl (by omega) (by omega)) (lw (vg [vi ((gI t.2.1 ↑k).1),vi (((gI t.2.1 ↑k).2).1),vi ((((gI t.2.1 ↑k).2).2).1),vi ((((gI t.2.1 ↑k).2).2).2)]) (bh (v:=t_v) (i:=↑k) bz rfl Rt (by omega) (by omega) rfl) (lo ?_))))))))))
     refine cd g27 (is 4) (4,0) rfl bz ?_
     intro g31 w28 b30 ch29 bx32
     replace bx32:Bx g31 (is 4) w28 b30 [vi 0,vi 0,vi 0,vi 0]:=bx32
     refine lo (aR (cs':=[vi ((gI t.2.1 ↑k).1),vi (((gI t.2.1 ↑k).2).1),vi ((((gI t.2.1 ↑k).2).2).1),vi ((((gI t.2.1 ↑k).2).2).2)]) bz rfl rfl bx32 rfl nq (AllOne.all (.cons rfl (.cons rfl (.cons rfl (.cons rfl .nil))))) rfl ?_)
     intro w33 ch34 bx35
     clear bx32
     refine af (a9 (a6 rfl (lx (a7 ff rfl rfl zs3 rfl) ?_)))
     replace bx10:=(bx10.cn ch29).ce ch34
     refine lx (a8 ao rfl bx10 rfl) (mz zs8 ?_)
     replace Rfw:=(Rfw.cn ch29).ce ch34
     refine lx (aa (v:=fw_v) (i:=↑k) aW rfl rfl Rfw rfl (by omega) (by omega)) (lx (ay (v:=fw_v) (i:=↑k) ae rfl Rfw (by omega) (by omega) (by decide) rfl) (ai (gI fw.1 ↑k) (af (a9 (bt g31 rfl dj (by kernel_rfl) ?_)))))
     intro w37 ch36
     refine qx (λw' hw'=>a7 dK rfl rfl rfl rfl) ?_
     replace bx35:=bx35.cn ch36
     refine qx (λw' hw'=>a8 ae rfl (bx35.bel hw') rfl) (qx (λw' hw'=>a7 ff rfl rfl zs3 rfl) ?_)
     replace bx10:=bx10.cn ch36
     refine qx (λw' hw'=>a8 ao rfl (bx10.bel hw') rfl) (qx (λw' hw'=>a7 dK rfl rfl rfl rfl) (qx (λw' hw'=>a8 ae rfl (bx35.bel hw') rfl) ?_))
     have C38:=cg [4] (ch29.n.seq ((ch34.l rfl).seq ch36.n))
     replace r_fw_v1:=r_fw_v1.ca C38
     refine qx (λw' hw'=>aa (v:=fw_v1) (i:=(gI t.2.1 ↑k).1) aW rfl rfl (r_fw_v1.bel hw') rfl (by omega) (by omega)) (qx (λw' hw'=>ay (v:=fw_v1) (i:=(gI t.2.1 ↑k).1) ae rfl (r_fw_v1.bel hw') (by omega) (by omega) (by decide) rfl) (qx (λw' hw'=>aP (m:=(((gI t.2.1 ↑k).2).2).2) (n:=(gI fw.2.1 ((gI t.2.1 ↑k).1))) rfl rfl (by omega)) (qx (λw' hw'=>a7 ff rfl rfl zs3 rfl) (qx (λw' hw'=>a8 ao rfl (bx10.bel hw') rfl) (qx (λw' hw'=>a7 dK rfl rfl rfl rfl) (qx (λw' hw'=>a8 ae rfl (bx35.bel hw') rfl) (qx (λw' hw'=>aa (v:=fw_v1) (i:=((gI t.2.1 ↑k).2).1) aW rfl rfl (r_fw_v1.bel hw') rfl (by omega) (by omega)) ?_)))))))
     refine qx (λw' hw'=>ay (v:=fw_v1) (i:=((gI t.2.1 ↑k).2).1) ae rfl (r_fw_v1.bel hw') (by omega) (by omega) (by decide) rfl) (qx (λw' hw'=>cV (m:=((((gI t.2.1 ↑k).2).2).2)+(gI fw.2.1 ((gI t.2.1 ↑k).1))) (n:=(gI fw.2.1 (((gI t.2.1 ↑k).2).1))) rfl rfl (by omega)) (qv (vi ((((((gI t.2.1 ↑k).2).2).2)+(gI fw.2.1 ((gI t.2.1 ↑k).1)))-(gI fw.2.1 (((gI t.2.1 ↑k).2).1)))) (λw' hw'=>bD rfl) (bX ?_)))
     intro w39 hc40
     replace hc40:=aB hc40 g31
     refine a9 (a9 (a6 rfl (mi (gI fw.1 ↑k) (lx (bo (m:=(gI fw.1 ↑k)) (n:=0) rfl rfl) (mv (vb (decide ((gI fw.1 ↑k)<0))) ?_)))))
     by_cases q91:(gI fw.1 ↑k)<0
     ·
      refine ag (wn (dt q91)) (ag (wn (dt q91)) (ag (wn (dt q91)) (ag (wn (dt q91)) (lw (vb true) (az rfl (dt q91) rfl) (mv (vb true) (ag (wn rfl) (ag (wn rfl) (ag (wn rfl) (ag (wn rfl) (ag (wn rfl) (ag (bA rfl rfl rfl) (ag (bA rfl rfl rfl) (ag (wn rfl) ?_)))))))))))))
      refine lw (vb true) (az rfl rfl rfl) (mv (vb true) (ag (wn rfl) (ag (wn rfl) (ag (wn rfl) (ag (bA rfl rfl rfl) (ag (bA rfl rfl rfl) (ag (wn rfl) (lw (vb true) (az rfl rfl rfl) (af (aj rfl rfl (a9 ?_)))))))))))
      clear bx5 bx10 o24 bx35
      refine a6 rfl (ma (vb false) (af (aF (vs:=[vb false]) Try.func17 (.tmp rfl .nil) ?_)))
      have e0:(false:Bool)=(et t fw):=by
        try simp only[decide_eq_true_eq,decide_eq_false_iff_not] at*
        exact(eX (k:=k) (by omega) (λh=>by unfold iy at h;omega)).symm
      have C41:=cg [4] (ch29.n.seq ((ch34.l rfl).seq (ch36.n.seq hc40.n)))
      replace bH:=bH.ca C41
      exact⟨rb e0,bH.below⟩
     refine lv (vi (gI fw.1 ↑k)) (wy (df q91)) (ah rfl) (lv (vp b30 2) (wy (df q91)) (a7 dK rfl rfl rfl rfl) ?_)
     replace bx35:=bx35.cn hc40
     refine lv (vi ((((gI t.2.1 ↑k).2).2).1)) (wy (df q91)) (a8 ae rfl bx35 rfl) (lv (vb (decide (((((gI t.2.1 ↑k).2).2).1)<(gI fw.1 ↑k)))) (wy (df q91)) (bY (m:=(gI fw.1 ↑k)) (n:=(((gI t.2.1 ↑k).2).2).1) rfl rfl) (lw (vb (decide (((((gI t.2.1 ↑k).2).2).1)<(gI fw.1 ↑k)))) (aH rfl (df q91) rfl) (mv (vb (decide (((((gI t.2.1 ↑k).2).2).1)<(gI fw.1 ↑k)))) ?_)))
     by_cases q97:((((gI t.2.1 ↑k).2).2).1)<(gI fw.1 ↑k)
     ·
      refine ag (wn (dt q97)) (ag (wn (dt q97)) (ag (wn (dt q97)) (ag (wn (dt q97)) (ag (wn (dt q97)) (ag (bA rfl rfl rfl) (ag (bA rfl rfl rfl) (ag (wn (dt q97)) (lw (vb true) (az rfl (dt q97) rfl) (mv (vb true) ?_)))))))))
      refine ag (wn rfl) (ag (wn rfl) (ag (wn rfl) (ag (bA rfl rfl rfl) (ag (bA rfl rfl rfl) (ag (wn rfl) (lw (vb true) (az rfl rfl rfl) (af (aj rfl rfl (a9 ?_)))))))))
      clear bx5 bx10 o24 bx35
      refine a6 rfl (ma (vb false) (af (aF (vs:=[vb false]) Try.func17 (.tmp rfl .nil) ?_)))
      have e0:(false:Bool)=(et t fw):=by
        try simp only[decide_eq_true_eq,decide_eq_false_iff_not] at*
        exact(eX (k:=k) (by omega) (λh=>by unfold iy at h;omega)).symm
      have C42:=cg [4] (ch29.n.seq ((ch34.l rfl).seq (ch36.n.seq hc40.n)))
      replace bH:=bH.ca C42
      exact⟨rb e0,bH.below⟩
     refine lv (vi (gI fw.1 ↑k)) (wy (df q97)) (ah rfl) (lv (vp b30 2) (wy (df q97)) (a7 dK rfl rfl rfl rfl) (lv (vi ((((gI t.2.1 ↑k).2).2).1)) (wy (df q97)) (a8 ae rfl bx35 rfl) (lv (vb (decide ((gI fw.1 ↑k)<((((gI t.2.1 ↑k).2).2).1)))) (wy (df q97)) (bo (m:=(gI fw.1 ↑k)) (n:=(((gI t.2.1 ↑k).2).2).1) rfl rfl) (lv (vb (decide ((gI fw.1 ↑k)<((((gI t.2.1 ↑k).2).2).1)))) (wy (df q97)) (ah rfl) ?_))))
     by_cases q102:(gI fw.1 ↑k)<((((gI t.2.1 ↑k).2).2).1)
     ·
      refine lv (vi ((((((gI t.2.1 ↑k).2).2).2)+(gI fw.2.1 ((gI t.2.1 ↑k).1)))-(gI fw.2.1 (((gI t.2.1 ↑k).2).1)))) (wy (dt q102)) (ah rfl) (lv (vb (decide (((((((gI t.2.1 ↑k).2).2).2)+(gI fw.2.1 ((gI t.2.1 ↑k).1)))-(gI fw.2.1 (((gI t.2.1 ↑k).2).1)))<0))) (wy (dt q102)) (bo (m:=(((((gI t.2.1 ↑k).2).2).2)+(gI fw.2.1 ((gI t.2.1 ↑k).1)))-(gI fw.2.1 (((gI t.2.1 ↑k).2).1))) (n:=0) rfl rfl) (lv (vb (decide (((((((gI t.2.1 ↑k).2).2).2)+(gI fw.2.1 ((gI t.2.1 ↑k).1)))-(gI fw.2.1 (((gI t.2.1 ↑k).2).1)))<0))) (wy (df q97)) (az rfl (dt q102) rfl) ?_))
      refine lw (vb (decide (((((((gI t.2.1 ↑k).2).2).2)+(gI fw.2.1 ((gI t.2.1 ↑k).1)))-(gI fw.2.1 (((gI t.2.1 ↑k).2).1)))<0))) (aH rfl (df q97) rfl) (mv (vb (decide (((((((gI t.2.1 ↑k).2).2).2)+(gI fw.2.1 ((gI t.2.1 ↑k).1)))-(gI fw.2.1 (((gI t.2.1 ↑k).2).1)))<0))) ?_)
      by_cases q107:((((((gI t.2.1 ↑k).2).2).2)+(gI fw.2.1 ((gI t.2.1 ↑k).1)))-(gI fw.2.1 (((gI t.2.1 ↑k).2).1)))<0
      ·
       refine ag (wn (dt q107)) (ag (wn (dt q107)) (ag (wn (dt q107)) (ag (bA rfl rfl rfl) (ag (bA rfl rfl rfl) (ag (wn (dt q107)) (lw (vb true) (az rfl (dt q107) rfl) (af (aj rfl rfl (a9 ?_)))))))))
       clear bx5 bx10 o24 bx35
       refine a6 rfl (ma (vb false) (af (aF (vs:=[vb false]) Try.func17 (.tmp rfl .nil) ?_)))
       have e0:(false:Bool)=(et t fw):=by
         try simp only[decide_eq_true_eq,decide_eq_false_iff_not] at*
         exact(eX (k:=k) (by omega) (λh=>by unfold iy at h;omega)).symm
       have C43:=cg [4] (ch29.n.seq ((ch34.l rfl).seq (ch36.n.seq hc40.n)))
       replace bH:=bH.ca C43
       exact⟨rb e0,bH.below⟩
      refine lv (vi (gI fw.1 ↑k)) (wy (df q107)) (ah rfl) (lv (vb (decide (0<(gI fw.1 ↑k)))) (wy (df q107)) (bY (m:=(gI fw.1 ↑k)) (n:=0) rfl rfl) (lv (vb (decide (0<(gI fw.1 ↑k)))) (wy (df q107)) (ah rfl) ?_))
      by_cases q110:0<(gI fw.1 ↑k)
      ·
       refine lv (vi ((((((gI t.2.1 ↑k).2).2).2)+(gI fw.2.1 ((gI t.2.1 ↑k).1)))-(gI fw.2.1 (((gI t.2.1 ↑k).2).1)))) (wy (dt q110)) (ah rfl) (lv (vb (decide (0<((((((gI t.2.1 ↑k).2).2).2)+(gI fw.2.1 ((gI t.2.1 ↑k).1)))-(gI fw.2.1 (((gI t.2.1 ↑k).2).1)))))) (wy (dt q110)) (bY (m:=(((((gI t.2.1 ↑k).2).2).2)+(gI fw.2.1 ((gI t.2.1 ↑k).1)))-(gI fw.2.1 (((gI t.2.1 ↑k).2).1))) (n:=0) rfl rfl) (lv (vb (decide (0<((((((gI t.2.1 ↑k).2).2).2)+(gI fw.2.1 ((gI t.2.1 ↑k).1)))-(gI fw.2.1 (((gI t.2.1 ↑k).2).1)))))) (wy (df q107)) (az rfl (dt q110) rfl) ?_))
       refine lw (vb (decide (0<((((((gI t.2.1 ↑k).2).2).2)+(gI fw.2.1 ((gI t.2.1 ↑k).1)))-(gI fw.2.1 (((gI t.2.1 ↑k).2).1)))))) (aH rfl (df q107) rfl) (af ?_)
       by_cases p16:0<((((((gI t.2.1 ↑k).2).2).2)+(gI fw.2.1 ((gI t.2.1 ↑k).1)))-(gI fw.2.1 (((gI t.2.1 ↑k).2).1)))
       ·
        refine aj rfl (dt p16) (a9 ?_)
        clear bx5 bx10 o24 bx35
        refine a6 rfl (ma (vb false) (af (aF (vs:=[vb false]) Try.func17 (.tmp rfl .nil) ?_)))
        have e0:(false:Bool)=(et t fw):=by
          try simp only[decide_eq_true_eq,decide_eq_false_iff_not] at*
          exact(eX (k:=k) (by omega) (λh=>by unfold iy at h;omega)).symm
        have C44:=cg [4] (ch29.n.seq ((ch34.l rfl).seq (ch36.n.seq hc40.n)))
        replace bH:=bH.ca C44
        exact⟨rb e0,bH.below⟩
       refine am rfl (df p16) (au (a9 ?_))
       obtain⟨hx0,hx1⟩:0<=gI fw.1 ↑k/\gI fw.1 ↑k<=(gI t.2.1 ↑k).2.2.1:=by omega
       obtain⟨⟨hx2,hx3⟩,hx4,hx5⟩:=lF hm hx0 hx1 ‹_›
       obtain⟨hx6,hx7⟩:=lJ hm hovl hovb hx2 hx3 ‹_›
       refine aL g31 [0,1,2,3,4,5,6,7,8,9,10] dj ?_
       intro w46 ch45
       refine xp (v:=v22) 0 rfl (λw=>ah zs6) (xp 1 rfl (λw=>a7 dK rfl rfl rfl rfl) ?_)
       replace bx35:=bx35.cn ch45
       refine xv 2 [1,0,3,4,8,5,6,7,9] rfl (a8 ae rfl bx35 rfl) (xp (v:=v22) 3 rfl (λw=>ah zs6) (xp 4 rfl (λw=>a7 dK rfl rfl rfl rfl) (xv 5 [4,3,2,1,0,8] rfl (a8 ae rfl bx35 rfl) ?_)))
       have C47:=cg [4] (ch29.n.seq ((ch34.l rfl).seq (ch36.n.seq (hc40.n.seq ch45.n))))
       replace o24:=o24.ca C47
       refine xv 6 [5,4,3,2,1,0,8] rfl (aa (v:=v22) (i:=(gI t.2.1 ↑k).1) aW rfl rfl o24.flat rfl (by omega) (by omega)) (xv 7 [6,5,4,3,2,1,0,8] rfl (ay (v:=v22) (i:=(gI t.2.1 ↑k).1) ae rfl o24.flat (by omega) (by omega) (by decide) rfl) (xp (v:=vi (gI fw.1 ↑k)) 8 rfl (λw=>ah rfl) (xp 9 rfl (λw=>aP (m:=(gI ov ((gI t.2.1 ↑k).1))) (n:=(gI fw.1 ↑k)) rfl rfl (by omega)) (xv 10 [9,8,7,6,5,4,3,2,1,0] rfl (aa (v:=v22) (i:=(gI t.2.1 ↑k).1) aW rfl rfl o24.flat rfl (by omega) (by omega)) (aD 11 rfl (by kernel_rfl) rfl (aK (i:=(gI t.2.1 ↑k).1) ((gI ov ((gI t.2.1 ↑k).1))+(gI fw.1 ↑k)) ae rfl rfl o24 (by omega) (by omega) rfl ?_))))))
       intro w48 ch49 bx50
       clear o24
       refine bc (by kernel_rfl) (a9 (aL g31 [0,1,2,3,4,5,6,7,8,9,10] dj ?_))
       intro w52 ch51
       refine xp (v:=v22) 0 rfl (λw=>ah zs6) (xp 1 rfl (λw=>a7 dK rfl rfl rfl rfl) ?_)
       replace bx35:=(bx35.ce ch49).cn ch51
       refine xv 2 [1,0,3,4,8,5,6,7,9] rfl (a8 ae rfl bx35 rfl) (xp (v:=v22) 3 rfl (λw=>ah zs6) (xp 4 rfl (λw=>a7 dK rfl rfl rfl rfl) (xv 5 [4,3,2,1,0,8] rfl (a8 ae rfl bx35 rfl) ?_)))
       replace bx50:=bx50.cn ch51
       refine xv 6 [5,4,3,2,1,0,8] rfl (aa (v:=v22) (i:=((gI t.2.1 ↑k).2).1) aW rfl rfl bx50.flat rfl (by omega) (by(simp only[List.length_set,List.length_append,List.length_cons,List.length_nil,List.length_replicate,List.length_map,List.length_take,List.length_drop];omega))) (xv 7 [6,5,4,3,2,1,0,8] rfl (ay (v:=v22) (i:=((gI t.2.1 ↑k).2).1) ae rfl bx50.flat (by omega) (by(simp only[List.length_set,List.length_append,List.length_cons,List.length_nil,List.length_replicate,List.length_map,List.length_take,List.length_drop];omega)) (by decide) rfl) (xp (v:=vi (gI fw.1 ↑k)) 8 rfl (λw=>ah rfl) ?_))
       refine xp 9 rfl (λw=>cV (m:=(gI (List.set ov (Int.toNat ((gI t.2.1 ↑k).1)) ((gI ov ((gI t.2.1 ↑k).1))+(gI fw.1 ↑k))) (((gI t.2.1 ↑k).2).1))) (n:=(gI fw.1 ↑k)) rfl rfl (by omega)) (xv 10 [9,8,7,6,5,4,3,2,1,0] rfl (aa (v:=v22) (i:=((gI t.2.1 ↑k).2).1) aW rfl rfl bx50.flat rfl (by omega) (by(simp only[List.length_set,List.length_append,List.length_cons,List.length_nil,List.length_replicate,List.length_map,List.length_take,List.length_drop];omega))) (aD 11 rfl (by kernel_rfl) rfl ?_))
       refine aK (i:=((gI t.2.1 ↑k).2).1) ((gI (List.set ov (Int.toNat ((gI t.2.1 ↑k).1)) ((gI ov ((gI t.2.1 ↑k).1))+(gI fw.1 ↑k))) (((gI t.2.1 ↑k).2).1))-(gI fw.1 ↑k)) ae rfl rfl bx50 (by omega) (by(simp only[List.length_set,List.length_append,List.length_cons,List.length_nil,List.length_replicate,List.length_map,List.length_take,List.length_drop];omega)) rfl ?_
       intro w53 ch54 bx55
       clear bx50
       refine bc (by kernel_rfl) (a6 rfl (mz zs7 (mi (gI fw.1 ↑k) (lx (a7 dK rfl rfl rfl rfl) ?_))))
       replace bx35:=bx35.ce ch54
       refine lx (a8 ae rfl bx35 rfl) (lx (gM (m:=(gI fw.1 ↑k)) (n:=(((gI t.2.1 ↑k).2).2).2) rfl rfl (by omega)) (lx (aP (m:=co) (n:=(gI fw.1 ↑k)*((((gI t.2.1 ↑k).2).2).2)) rfl rfl (by omega)) (ai (co+((gI fw.1 ↑k)*((((gI t.2.1 ↑k).2).2).2))) (af (aq ?_)))))
       clear bx35
       refine a6 rfl (mz zs8 (lx (aP (m:=↑k) (n:=1) rfl rfl (by omega)) (ai ((k:Int)+1) (af ?_))))
       have C56:=cg [3,4] (ch29.n.seq ((ch34.l rfl).seq (ch36.n.seq (hc40.n.seq (ch45.n.seq ((ch49.l rfl).seq (ch51.n.seq (ch54.l rfl))))))))
       have C58:=cg [3] (hc40.n.seq (ch45.n.seq ((ch49.l rfl).seq (ch51.n.seq (ch54.l rfl)))))
       have C57:=ch36.n.seq C58
       refine back11 (co+((gI fw.1 ↑k)*((((gI t.2.1 ↑k).2).2).2)),k+1,(List.set (List.set ov (Int.toNat ((gI t.2.1 ↑k).1)) ((gI ov ((gI t.2.1 ↑k).1))+(gI fw.1 ↑k))) (Int.toNat (((gI t.2.1 ↑k).2).1)) ((gI (List.set ov (Int.toNat ((gI t.2.1 ↑k).1)) ((gI ov ((gI t.2.1 ↑k).1))+(gI fw.1 ↑k))) (((gI t.2.1 ↑k).2).1))-(gI fw.1 ↑k))),g31) _ _ ⟨bH.ca C56,zs2,zs3,zs6,rfl,rfl,Rt.ca C56,r_t_v1.ca C56,Rfw.ca C57,r_fw_v1.ca C58,bx5.ca C56,bx10.ca C58,bx55,by omega,?_⟩ ?_
       · show jL t fw (k+1) (List.set (List.set ov (Int.toNat ((gI t.2.1 ↑k).1)) ((gI ov ((gI t.2.1 ↑k).1))+(gI fw.1 ↑k))) (Int.toNat (((gI t.2.1 ↑k).2).1)) ((gI (List.set ov (Int.toNat ((gI t.2.1 ↑k).1)) ((gI ov ((gI t.2.1 ↑k).1))+(gI fw.1 ↑k))) (((gI t.2.1 ↑k).2).1))-(gI fw.1 ↑k))) (co+((gI fw.1 ↑k)*((((gI t.2.1 ↑k).2).2).2)))
         try simp only[decide_eq_true_eq,decide_eq_false_iff_not] at*
         exact hfv.next hm ‹_› (by unfold iy;omega) rfl rfl rfl
       · show Int.toNat (((t.2.1.length:Int):Int)-((k+1):Int))<Int.toNat (((t.2.1.length:Int):Int)-(k:Int))
         omega
      refine ag (wn (df q110)) (ag (wn (df q110)) (lv (vb false) (wy (df q107)) (aH rfl (df q110) rfl) (lw (vb false) (aH rfl (df q107) rfl) (af (am rfl rfl (au (a9 ?_)))))))
      obtain⟨hx0,hx1⟩:0<=gI fw.1 ↑k/\gI fw.1 ↑k<=(gI t.2.1 ↑k).2.2.1:=by omega
      obtain⟨⟨hx2,hx3⟩,hx4,hx5⟩:=lF hm hx0 hx1 ‹_›
      obtain⟨hx6,hx7⟩:=lJ hm hovl hovb hx2 hx3 ‹_›
      refine aL g31 [0,1,2,3,4,5,6,7,8,9,10] dj ?_
      intro w60 ch59
      refine xp (v:=v22) 0 rfl (λw=>ah zs6) (xp 1 rfl (λw=>a7 dK rfl rfl rfl rfl) ?_)
      replace bx35:=bx35.cn ch59
      refine xv 2 [1,0,3,4,8,5,6,7,9] rfl (a8 ae rfl bx35 rfl) (xp (v:=v22) 3 rfl (λw=>ah zs6) (xp 4 rfl (λw=>a7 dK rfl rfl rfl rfl) (xv 5 [4,3,2,1,0,8] rfl (a8 ae rfl bx35 rfl) ?_)))
      have C61:=cg [4] (ch29.n.seq ((ch34.l rfl).seq (ch36.n.seq (hc40.n.seq ch59.n))))
      replace o24:=o24.ca C61
      refine xv 6 [5,4,3,2,1,0,8] rfl (aa (v:=v22) (i:=(gI t.2.1 ↑k).1) aW rfl rfl o24.flat rfl (by omega) (by omega)) (xv 7 [6,5,4,3,2,1,0,8] rfl (ay (v:=v22) (i:=(gI t.2.1 ↑k).1) ae rfl o24.flat (by omega) (by omega) (by decide) rfl) (xp (v:=vi (gI fw.1 ↑k)) 8 rfl (λw=>ah rfl) (xp 9 rfl (λw=>aP (m:=(gI ov ((gI t.2.1 ↑k).1))) (n:=(gI fw.1 ↑k)) rfl rfl (by omega)) (xv 10 [9,8,7,6,5,4,3,2,1,0] rfl (aa (v:=v22) (i:=(gI t.2.1 ↑k).1) aW rfl rfl o24.flat rfl (by omega) (by omega)) (aD 11 rfl (by kernel_rfl) rfl (aK (i:=(gI t.2.1 ↑k).1) ((gI ov ((gI t.2.1 ↑k).1))+(gI fw.1 ↑k)) ae rfl rfl o24 (by omega) (by omega) rfl ?_))))))
      intro w62 ch63 bx64
      clear o24
      refine bc (by kernel_rfl) (a9 (aL g31 [0,1,2,3,4,5,6,7,8,9,10] dj ?_))
      intro w66 ch65
      refine xp (v:=v22) 0 rfl (λw=>ah zs6) (xp 1 rfl (λw=>a7 dK rfl rfl rfl rfl) ?_)
      replace bx35:=(bx35.ce ch63).cn ch65
      refine xv 2 [1,0,3,4,8,5,6,7,9] rfl (a8 ae rfl bx35 rfl) (xp (v:=v22) 3 rfl (λw=>ah zs6) (xp 4 rfl (λw=>a7 dK rfl rfl rfl rfl) (xv 5 [4,3,2,1,0,8] rfl (a8 ae rfl bx35 rfl) ?_)))
      replace bx64:=bx64.cn ch65
      refine xv 6 [5,4,3,2,1,0,8] rfl (aa (v:=v22) (i:=((gI t.2.1 ↑k).2).1) aW rfl rfl bx64.flat rfl (by omega) (by(simp only[List.length_set,List.length_append,List.length_cons,List.length_nil,List.length_replicate,List.length_map,List.length_take,List.length_drop];omega))) (xv 7 [6,5,4,3,2,1,0,8] rfl (ay (v:=v22) (i:=((gI t.2.1 ↑k).2).1) ae rfl bx64.flat (by omega) (by(simp only[List.length_set,List.length_append,List.length_cons,List.length_nil,List.length_replicate,List.length_map,List.length_take,List.length_drop];omega)) (by decide) rfl) (xp (v:=vi (gI fw.1 ↑k)) 8 rfl (λw=>ah rfl) ?_))
      refine xp 9 rfl (λw=>cV (m:=(gI (List.set ov (Int.toNat ((gI t.2.1 ↑k).1)) ((gI ov ((gI t.2.1 ↑k).1))+(gI fw.1 ↑k))) (((gI t.2.1 ↑k).2).1))) (n:=(gI fw.1 ↑k)) rfl rfl (by omega)) (xv 10 [9,8,7,6,5,4,3,2,1,0] rfl (aa (v:=v22) (i:=((gI t.2.1 ↑k).2).1) aW rfl rfl bx64.flat rfl (by omega) (by(simp only[List.length_set,List.length_append,List.length_cons,List.length_nil,List.length_replicate,List.length_map,List.length_take,List.length_drop];omega))) (aD 11 rfl (by kernel_rfl) rfl ?_))
      refine aK (i:=((gI t.2.1 ↑k).2).1) ((gI (List.set ov (Int.toNat ((gI t.2.1 ↑k).1)) ((gI ov ((gI t.2.1 ↑k).1))+(gI fw.1 ↑k))) (((gI t.2.1 ↑k).2).1))-(gI fw.1 ↑k)) ae rfl rfl bx64 (by omega) (by(simp only[List.length_set,List.length_append,List.length_cons,List.length_nil,List.length_replicate,List.length_map,List.length_take,List.length_drop];omega)) rfl ?_
      intro w67 ch68 bx69
      clear bx64
      refine bc (by kernel_rfl) (a6 rfl (mz zs7 (mi (gI fw.1 ↑k) (lx (a7 dK rfl rfl rfl rfl) ?_))))
      replace bx35:=bx35.ce ch68
      refine lx (a8 ae rfl bx35 rfl) (lx (gM (m:=(gI fw.1 ↑k)) (n:=(((gI t.2.1 ↑k).2).2).2) rfl rfl (by omega)) (lx (aP (m:=co) (n:=(gI fw.1 ↑k)*((((gI t.2.1 ↑k).2).2).2)) rfl rfl (by omega)) (ai (co+((gI fw.1 ↑k)*((((gI t.2.1 ↑k).2).2).2))) (af (aq ?_)))))
      clear bx35
      refine a6 rfl (mz zs8 (lx (aP (m:=↑k) (n:=1) rfl rfl (by omega)) (ai ((k:Int)+1) (af ?_))))
      have C70:=cg [3,4] (ch29.n.seq ((ch34.l rfl).seq (ch36.n.seq (hc40.n.seq (ch59.n.seq ((ch63.l rfl).seq (ch65.n.seq (ch68.l rfl))))))))
      have C72:=cg [3] (hc40.n.seq (ch59.n.seq ((ch63.l rfl).seq (ch65.n.seq (ch68.l rfl)))))
      have C71:=ch36.n.seq C72
      refine back11 (co+((gI fw.1 ↑k)*((((gI t.2.1 ↑k).2).2).2)),k+1,(List.set (List.set ov (Int.toNat ((gI t.2.1 ↑k).1)) ((gI ov ((gI t.2.1 ↑k).1))+(gI fw.1 ↑k))) (Int.toNat (((gI t.2.1 ↑k).2).1)) ((gI (List.set ov (Int.toNat ((gI t.2.1 ↑k).1)) ((gI ov ((gI t.2.1 ↑k).1))+(gI fw.1 ↑k))) (((gI t.2.1 ↑k).2).1))-(gI fw.1 ↑k))),g31) _ _ ⟨bH.ca C70,zs2,zs3,zs6,rfl,rfl,Rt.ca C70,r_t_v1.ca C70,Rfw.ca C71,r_fw_v1.ca C72,bx5.ca C70,bx10.ca C72,bx69,by omega,?_⟩ ?_
      · show jL t fw (k+1) (List.set (List.set ov (Int.toNat ((gI t.2.1 ↑k).1)) ((gI ov ((gI t.2.1 ↑k).1))+(gI fw.1 ↑k))) (Int.toNat (((gI t.2.1 ↑k).2).1)) ((gI (List.set ov (Int.toNat ((gI t.2.1 ↑k).1)) ((gI ov ((gI t.2.1 ↑k).1))+(gI fw.1 ↑k))) (((gI t.2.1 ↑k).2).1))-(gI fw.1 ↑k))) (co+((gI fw.1 ↑k)*((((gI t.2.1 ↑k).2).2).2)))
        try simp only[decide_eq_true_eq,decide_eq_false_iff_not] at*
        exact hfv.next hm ‹_› (by unfold iy;omega) rfl rfl rfl
      · show Int.toNat (((t.2.1.length:Int):Int)-((k+1):Int))<Int.toNat (((t.2.1.length:Int):Int)-(k:Int))
        omega
     refine ag (wn (df q102)) (ag (wn (df q102)) (lv (vb false) (wy (df q97)) (aH rfl (df q102) rfl) (lw (vb false) (aH rfl (df q97) rfl) (mv (vb false) (lv (vi (gI fw.1 ↑k)) (wy rfl) (ah rfl) (lv (vb (decide (0<(gI fw.1 ↑k)))) (wy rfl) (bY (m:=(gI fw.1 ↑k)) (n:=0) rfl rfl) (lv (vb (decide (0<(gI fw.1 ↑k)))) (wy rfl) (ah rfl) ?_)))))))
     by_cases q110:0<(gI fw.1 ↑k)
     ·
      refine lv (vi ((((((gI t.2.1 ↑k).2).2).2)+(gI fw.2.1 ((gI t.2.1 ↑k).1)))-(gI fw.2.1 (((gI t.2.1 ↑k).2).1)))) (wy (dt q110)) (ah rfl) (lv (vb (decide (0<((((((gI t.2.1 ↑k).2).2).2)+(gI fw.2.1 ((gI t.2.1 ↑k).1)))-(gI fw.2.1 (((gI t.2.1 ↑k).2).1)))))) (wy (dt q110)) (bY (m:=(((((gI t.2.1 ↑k).2).2).2)+(gI fw.2.1 ((gI t.2.1 ↑k).1)))-(gI fw.2.1 (((gI t.2.1 ↑k).2).1))) (n:=0) rfl rfl) (lv (vb (decide (0<((((((gI t.2.1 ↑k).2).2).2)+(gI fw.2.1 ((gI t.2.1 ↑k).1)))-(gI fw.2.1 (((gI t.2.1 ↑k).2).1)))))) (wy rfl) (az rfl (dt q110) rfl) ?_))
      refine lw (vb (decide (0<((((((gI t.2.1 ↑k).2).2).2)+(gI fw.2.1 ((gI t.2.1 ↑k).1)))-(gI fw.2.1 (((gI t.2.1 ↑k).2).1)))))) (aH rfl rfl rfl) (af ?_)
      by_cases p16:0<((((((gI t.2.1 ↑k).2).2).2)+(gI fw.2.1 ((gI t.2.1 ↑k).1)))-(gI fw.2.1 (((gI t.2.1 ↑k).2).1)))
      ·
       refine aj rfl (dt p16) (a9 ?_)
       clear bx5 bx10 o24 bx35
       refine a6 rfl (ma (vb false) (af (aF (vs:=[vb false]) Try.func17 (.tmp rfl .nil) ?_)))
       have e0:(false:Bool)=(et t fw):=by
         try simp only[decide_eq_true_eq,decide_eq_false_iff_not] at*
         exact(eX (k:=k) (by omega) (λh=>by unfold iy at h;omega)).symm
       have C73:=cg [4] (ch29.n.seq ((ch34.l rfl).seq (ch36.n.seq hc40.n)))
       replace bH:=bH.ca C73
       exact⟨rb e0,bH.below⟩
      refine am rfl (df p16) (au (a9 ?_))
      obtain⟨hx0,hx1⟩:0<=gI fw.1 ↑k/\gI fw.1 ↑k<=(gI t.2.1 ↑k).2.2.1:=by omega
      obtain⟨⟨hx2,hx3⟩,hx4,hx5⟩:=lF hm hx0 hx1 ‹_›
      obtain⟨hx6,hx7⟩:=lJ hm hovl hovb hx2 hx3 ‹_›
      refine aL g31 [0,1,2,3,4,5,6,7,8,9,10] dj ?_
      intro w75 ch74
      refine xp (v:=v22) 0 rfl (λw=>ah zs6) (xp 1 rfl (λw=>a7 dK rfl rfl rfl rfl) ?_)
      replace bx35:=bx35.cn ch74
      refine xv 2 [1,0,3,4,8,5,6,7,9] rfl (a8 ae rfl bx35 rfl) (xp (v:=v22) 3 rfl (λw=>ah zs6) (xp 4 rfl (λw=>a7 dK rfl rfl rfl rfl) (xv 5 [4,3,2,1,0,8] rfl (a8 ae rfl bx35 rfl) ?_)))
      have C76:=cg [4] (ch29.n.seq ((ch34.l rfl).seq (ch36.n.seq (hc40.n.seq ch74.n))))
      replace o24:=o24.ca C76
      refine xv 6 [5,4,3,2,1,0,8] rfl (aa (v:=v22) (i:=(gI t.2.1 ↑k).1) aW rfl rfl o24.flat rfl (by omega) (by omega)) (xv 7 [6,5,4,3,2,1,0,8] rfl (ay (v:=v22) (i:=(gI t.2.1 ↑k).1) ae rfl o24.flat (by omega) (by omega) (by decide) rfl) (xp (v:=vi (gI fw.1 ↑k)) 8 rfl (λw=>ah rfl) (xp 9 rfl (λw=>aP (m:=(gI ov ((gI t.2.1 ↑k).1))) (n:=(gI fw.1 ↑k)) rfl rfl (by omega)) (xv 10 [9,8,7,6,5,4,3,2,1,0] rfl (aa (v:=v22) (i:=(gI t.2.1 ↑k).1) aW rfl rfl o24.flat rfl (by omega) (by omega)) (aD 11 rfl (by kernel_rfl) rfl (aK (i:=(gI t.2.1 ↑k).1) ((gI ov ((gI t.2.1 ↑k).1))+(gI fw.1 ↑k)) ae rfl rfl o24 (by omega) (by omega) rfl ?_))))))
      intro w77 ch78 bx79
      clear o24
      refine bc (by kernel_rfl) (a9 (aL g31 [0,1,2,3,4,5,6,7,8,9,10] dj ?_))
      intro w81 ch80
      refine xp (v:=v22) 0 rfl (λw=>ah zs6) (xp 1 rfl (λw=>a7 dK rfl rfl rfl rfl) ?_)
      replace bx35:=(bx35.ce ch78).cn ch80
      refine xv 2 [1,0,3,4,8,5,6,7,9] rfl (a8 ae rfl bx35 rfl) (xp (v:=v22) 3 rfl (λw=>ah zs6) (xp 4 rfl (λw=>a7 dK rfl rfl rfl rfl) (xv 5 [4,3,2,1,0,8] rfl (a8 ae rfl bx35 rfl) ?_)))
      replace bx79:=bx79.cn ch80
      refine xv 6 [5,4,3,2,1,0,8] rfl (aa (v:=v22) (i:=((gI t.2.1 ↑k).2).1) aW rfl rfl bx79.flat rfl (by omega) (by(simp only[List.length_set,List.length_append,List.length_cons,List.length_nil,List.length_replicate,List.length_map,List.length_take,List.length_drop];omega))) (xv 7 [6,5,4,3,2,1,0,8] rfl (ay (v:=v22) (i:=((gI t.2.1 ↑k).2).1) ae rfl bx79.flat (by omega) (by(simp only[List.length_set,List.length_append,List.length_cons,List.length_nil,List.length_replicate,List.length_map,List.length_take,List.length_drop];omega)) (by decide) rfl) (xp (v:=vi (gI fw.1 ↑k)) 8 rfl (λw=>ah rfl) ?_))
      refine xp 9 rfl (λw=>cV (m:=(gI (List.set ov (Int.toNat ((gI t.2.1 ↑k).1)) ((gI ov ((gI t.2.1 ↑k).1))+(gI fw.1 ↑k))) (((gI t.2.1 ↑k).2).1))) (n:=(gI fw.1 ↑k)) rfl rfl (by omega)) (xv 10 [9,8,7,6,5,4,3,2,1,0] rfl (aa (v:=v22) (i:=((gI t.2.1 ↑k).2).1) aW rfl rfl bx79.flat rfl (by omega) (by(simp only[List.length_set,List.length_append,List.length_cons,List.length_nil,List.length_replicate,List.length_map,List.length_take,List.length_drop];omega))) (aD 11 rfl (by kernel_rfl) rfl ?_))
      refine aK (i:=((gI t.2.1 ↑k).2).1) ((gI (List.set ov (Int.toNat ((gI t.2.1 ↑k).1)) ((gI ov ((gI t.2.1 ↑k).1))+(gI fw.1 ↑k))) (((gI t.2.1 ↑k).2).1))-(gI fw.1 ↑k)) ae rfl rfl bx79 (by omega) (by(simp only[List.length_set,List.length_append,List.length_cons,List.length_nil,List.length_replicate,List.length_map,List.length_take,List.length_drop];omega)) rfl ?_
      intro w82 ch83 bx84
      clear bx79
      refine bc (by kernel_rfl) (a6 rfl (mz zs7 (mi (gI fw.1 ↑k) (lx (a7 dK rfl rfl rfl rfl) ?_))))
      replace bx35:=bx35.ce ch83
      refine lx (a8 ae rfl bx35 rfl) (lx (gM (m:=(gI fw.1 ↑k)) (n:=(((gI t.2.1 ↑k).2).2).2) rfl rfl (by omega)) (lx (aP (m:=co) (n:=(gI fw.1 ↑k)*((((gI t.2.1 ↑k).2).2).2)) rfl rfl (by omega)) (ai (co+((gI fw.1 ↑k)*((((gI t.2.1 ↑k).2).2).2))) (af (aq ?_)))))
      clear bx35
      refine a6 rfl (mz zs8 (lx (aP (m:=↑k) (n:=1) rfl rfl (by omega)) (ai ((k:Int)+1) (af ?_))))
      have C85:=cg [3,4] (ch29.n.seq ((ch34.l rfl).seq (ch36.n.seq (hc40.n.seq (ch74.n.seq ((ch78.l rfl).seq (ch80.n.seq (ch83.l rfl))))))))
      have C87:=cg [3] (hc40.n.seq (ch74.n.seq ((ch78.l rfl).seq (ch80.n.seq (ch83.l rfl)))))
      have C86:=ch36.n.seq C87
      refine back11 (co+((gI fw.1 ↑k)*((((gI t.2.1 ↑k).2).2).2)),k+1,(List.set (List.set ov (Int.toNat ((gI t.2.1 ↑k).1)) ((gI ov ((gI t.2.1 ↑k).1))+(gI fw.1 ↑k))) (Int.toNat (((gI t.2.1 ↑k).2).1)) ((gI (List.set ov (Int.toNat ((gI t.2.1 ↑k).1)) ((gI ov ((gI t.2.1 ↑k).1))+(gI fw.1 ↑k))) (((gI t.2.1 ↑k).2).1))-(gI fw.1 ↑k))),g31) _ _ ⟨bH.ca C85,zs2,zs3,zs6,rfl,rfl,Rt.ca C85,r_t_v1.ca C85,Rfw.ca C86,r_fw_v1.ca C87,bx5.ca C85,bx10.ca C87,bx84,by omega,?_⟩ ?_
      · show jL t fw (k+1) (List.set (List.set ov (Int.toNat ((gI t.2.1 ↑k).1)) ((gI ov ((gI t.2.1 ↑k).1))+(gI fw.1 ↑k))) (Int.toNat (((gI t.2.1 ↑k).2).1)) ((gI (List.set ov (Int.toNat ((gI t.2.1 ↑k).1)) ((gI ov ((gI t.2.1 ↑k).1))+(gI fw.1 ↑k))) (((gI t.2.1 ↑k).2).1))-(gI fw.1 ↑k))) (co+((gI fw.1 ↑k)*((((gI t.2.1 ↑k).2).2).2)))
        try simp only[decide_eq_true_eq,decide_eq_false_iff_not] at*
        exact hfv.next hm ‹_› (by unfold iy;omega) rfl rfl rfl
      · show Int.toNat (((t.2.1.length:Int):Int)-((k+1):Int))<Int.toNat (((t.2.1.length:Int):Int)-(k:Int))
        omega
     refine ag (wn (df q110)) (ag (wn (df q110)) (lv (vb false) (wy rfl) (aH rfl (df q110) rfl) (lw (vb false) (aH rfl rfl rfl) (af (am rfl rfl (au (a9 ?_)))))))
     obtain⟨hx0,hx1⟩:0<=gI fw.1 ↑k/\gI fw.1 ↑k<=(gI t.2.1 ↑k).2.2.1:=by omega
     obtain⟨⟨hx2,hx3⟩,hx4,hx5⟩:=lF hm hx0 hx1 ‹_›
     obtain⟨hx6,hx7⟩:=lJ hm hovl hovb hx2 hx3 ‹_›
     refine aL g31 [0,1,2,3,4,5,6,7,8,9,10] dj ?_
     intro w89 ch88
     refine xp (v:=v22) 0 rfl (λw=>ah zs6) (xp 1 rfl (λw=>a7 dK rfl rfl rfl rfl) ?_)
     replace bx35:=bx35.cn ch88
     refine xv 2 [1,0,3,4,8,5,6,7,9] rfl (a8 ae rfl bx35 rfl) (xp (v:=v22) 3 rfl (λw=>ah zs6) (xp 4 rfl (λw=>a7 dK rfl rfl rfl rfl) (xv 5 [4,3,2,1,0,8] rfl (a8 ae rfl bx35 rfl) ?_)))
     have C90:=cg [4] (ch29.n.seq ((ch34.l rfl).seq (ch36.n.seq (hc40.n.seq ch88.n))))
     replace o24:=o24.ca C90
     refine xv 6 [5,4,3,2,1,0,8] rfl (aa (v:=v22) (i:=(gI t.2.1 ↑k).1) aW rfl rfl o24.flat rfl (by omega) (by omega)) (xv 7 [6,5,4,3,2,1,0,8] rfl (ay (v:=v22) (i:=(gI t.2.1 ↑k).1) ae rfl o24.flat (by omega) (by omega) (by decide) rfl) (xp (v:=vi (gI fw.1 ↑k)) 8 rfl (λw=>ah rfl) (xp 9 rfl (λw=>aP (m:=(gI ov ((gI t.2.1 ↑k).1))) (n:=(gI fw.1 ↑k)) rfl rfl (by omega)) (xv 10 [9,8,7,6,5,4,3,2,1,0] rfl (aa (v:=v22) (i:=(gI t.2.1 ↑k).1) aW rfl rfl o24.flat rfl (by omega) (by omega)) (aD 11 rfl (by kernel_rfl) rfl (aK (i:=(gI t.2.1 ↑k).1) ((gI ov ((gI t.2.1 ↑k).1))+(gI fw.1 ↑k)) ae rfl rfl o24 (by omega) (by omega) rfl ?_))))))
     intro w91 ch92 bx93
     clear o24
     refine bc (by kernel_rfl) (a9 (aL g31 [0,1,2,3,4,5,6,7,8,9,10] dj ?_))
     intro w95 ch94
     refine xp (v:=v22) 0 rfl (λw=>ah zs6) (xp 1 rfl (λw=>a7 dK rfl rfl rfl rfl) ?_)
     replace bx35:=(bx35.ce ch92).cn ch94
     refine xv 2 [1,0,3,4,8,5,6,7,9] rfl (a8 ae rfl bx35 rfl) (xp (v:=v22) 3 rfl (λw=>ah zs6) (xp 4 rfl (λw=>a7 dK rfl rfl rfl rfl) (xv 5 [4,3,2,1,0,8] rfl (a8 ae rfl bx35 rfl) ?_)))
     replace bx93:=bx93.cn ch94
     refine xv 6 [5,4,3,2,1,0,8] rfl (aa (v:=v22) (i:=((gI t.2.1 ↑k).2).1) aW rfl rfl bx93.flat rfl (by omega) (by(simp only[List.length_set,List.length_append,List.length_cons,List.length_nil,List.length_replicate,List.length_map,List.length_take,List.length_drop];omega))) (xv 7 [6,5,4,3,2,1,0,8] rfl (ay (v:=v22) (i:=((gI t.2.1 ↑k).2).1) ae rfl bx93.flat (by omega) (by(simp only[List.length_set,List.length_append,List.length_cons,List.length_nil,List.length_replicate,List.length_map,List.length_take,List.length_drop];omega)) (by decide) rfl) (xp (v:=vi (gI fw.1 ↑k)) 8 rfl (λw=>ah rfl) ?_))
     refine xp 9 rfl (λw=>cV (m:=(gI (List.set ov (Int.toNat ((gI t.2.1 ↑k).1)) ((gI ov ((gI t.2.1 ↑k).1))+(gI fw.1 ↑k))) (((gI t.2.1 ↑k).2).1))) (n:=(gI fw.1 ↑k)) rfl rfl (by omega)) (xv 10 [9,8,7,6,5,4,3,2,1,0] rfl (aa (v:=v22) (i:=((gI t.2.1 ↑k).2).1) aW rfl rfl bx93.flat rfl (by omega) (by(simp only[List.length_set,List.length_append,List.length_cons,List.length_nil,List.length_replicate,List.length_map,List.length_take,List.length_drop];omega))) (aD 11 rfl (by kernel_rfl) rfl ?_))
     refine aK (i:=((gI t.2.1 ↑k).2).1) ((gI (List.set ov (Int.toNat ((gI t.2.1 ↑k).1)) ((gI ov ((gI t.2.1 ↑k).1))+(gI fw.1 ↑k))) (((gI t.2.1 ↑k).2).1))-(gI fw.1 ↑k)) ae rfl rfl bx93 (by omega) (by(simp only[List.length_set,List.length_append,List.length_cons,List.length_nil,List.length_replicate,List.length_map,List.length_take,List.length_drop];omega)) rfl ?_
     intro w96 ch97 bx98
     clear bx93
     refine bc (by kernel_rfl) (a6 rfl (mz zs7 (mi (gI fw.1 ↑k) (lx (a7 dK rfl rfl rfl rfl) ?_))))
     replace bx35:=bx35.ce ch97
     refine lx (a8 ae rfl bx35 rfl) (lx (gM (m:=(gI fw.1 ↑k)) (n:=(((gI t.2.1 ↑k).2).2).2) rfl rfl (by omega)) (lx (aP (m:=co) (n:=(gI fw.1 ↑k)*((((gI t.2.1 ↑k).2).2).2)) rfl rfl (by omega)) (ai (co+((gI fw.1 ↑k)*((((gI t.2.1 ↑k).2).2).2))) (af (aq ?_)))))
     clear bx35
     refine a6 rfl (mz zs8 (lx (aP (m:=↑k) (n:=1) rfl rfl (by omega)) (ai ((k:Int)+1) (af ?_))))
     have C99:=cg [3,4] (ch29.n.seq ((ch34.l rfl).seq (ch36.n.seq (hc40.n.seq (ch88.n.seq ((ch92.l rfl).seq (ch94.n.seq (ch97.l rfl))))))))
     have C101:=cg [3] (hc40.n.seq (ch88.n.seq ((ch92.l rfl).seq (ch94.n.seq (ch97.l rfl)))))
     have C100:=ch36.n.seq C101
     refine back11 (co+((gI fw.1 ↑k)*((((gI t.2.1 ↑k).2).2).2)),k+1,(List.set (List.set ov (Int.toNat ((gI t.2.1 ↑k).1)) ((gI ov ((gI t.2.1 ↑k).1))+(gI fw.1 ↑k))) (Int.toNat (((gI t.2.1 ↑k).2).1)) ((gI (List.set ov (Int.toNat ((gI t.2.1 ↑k).1)) ((gI ov ((gI t.2.1 ↑k).1))+(gI fw.1 ↑k))) (((gI t.2.1 ↑k).2).1))-(gI fw.1 ↑k))),g31) _ _ ⟨bH.ca C99,zs2,zs3,zs6,rfl,rfl,Rt.ca C99,r_t_v1.ca C99,Rfw.ca C100,r_fw_v1.ca C101,bx5.ca C99,bx10.ca C101,bx98,by omega,?_⟩ ?_
     · show jL t fw (k+1) (List.set (List.set ov (Int.toNat ((gI t.2.1 ↑k).1)) ((gI ov ((gI t.2.1 ↑k).1))+(gI fw.1 ↑k))) (Int.toNat (((gI t.2.1 ↑k).2).1)) ((gI (List.set ov (Int.toNat ((gI t.2.1 ↑k).1)) ((gI ov ((gI t.2.1 ↑k).1))+(gI fw.1 ↑k))) (((gI t.2.1 ↑k).2).1))-(gI fw.1 ↑k))) (co+((gI fw.1 ↑k)*((((gI t.2.1 ↑k).2).2).2)))
       try simp only[decide_eq_true_eq,decide_eq_false_iff_not] at*
       exact hfv.next hm ‹_› (by unfold iy;omega) rfl rfl rfl
     · show Int.toNat (((t.2.1.length:Int):Int)-((k+1):Int))<Int.toNat (((t.2.1.length:Int):Int)-(k:Int))
       omega
    refine am rfl (df p11) (aM rfl (a9 (a9 (a6 rfl (ai 0 (af (av ?_)))))))
    refine aX (σ:=Nat×aG) (λ⟨j,gq⟩ f w=>b9 w0 gq w/\f 2=vp b3 0/\f 3=vp b8 0/\f 6=v22/\f 7=vi co/\f 12=vi ↑j/\Sl gq (is 0) w t_v t.2.1/\Sl gq (is 0) w t_v1 t.2.2/\Sl gq (is 0) w fw_v fw.1/\Sl gq (is 0) w fw_v1 fw.2.1/\Bx gq (is 1) w b3 [vi t.1,t_v,t_v1]/\Bx gq (is 2) w b8 [fw_v,fw_v1,vi fw.2.2]/\Ow gq (is 3) (is 3) w v22 ov/\(j:Int)<=(t.1:Int)/\(∀v:Nat,v<j->gI ov ↑v=gI t.2.2 ↑v)) (λ⟨j,gq⟩=>Int.toNat ((t.1:Int)-(j:Int))) (0,g27) ?_ ?_
    · exact⟨bH,zs2,zs3,zs6,zs7,rfl,Rt,r_t_v1,Rfw,r_fw_v1,bx5,bx10,o24,by omega,by intro v hv;omega⟩
    clear Rt r_t_v1 Rfw r_fw_v1 bx5 bx10 o24 bH
    rintro⟨j,g104⟩ f102 w103 ⟨bH,zs2,zs3,zs6,zs7,zs12,Rt,r_t_v1,Rfw,r_fw_v1,bx5,bx10,o24,hle_j,hnd⟩ back22
    refine a9 (a9 (a6 rfl (mz zs12 (lx (a7 cP rfl rfl zs2 rfl) (lx (a8 ae rfl bx5 rfl) (lx (bo (m:=↑j) (n:=t.1) rfl rfl) (af ?_)))))))
    by_cases p22:(j:Int)<t.1
    ·
     refine aj rfl (dt p22) (au (a9 (av (a9 (bt g104 rfl dj (by kernel_rfl) ?_)))))
     intro w106 ch105
     refine qz zs6 (qz zs12 ?_)
     replace o24:=o24.cn ch105
     refine qx (λw' hw'=>aa (v:=v22) (i:=↑j) aW rfl rfl (o24.flat.bel hw') rfl (by omega) (by omega)) (qx (λw' hw'=>ay (v:=v22) (i:=↑j) ae rfl (o24.flat.bel hw') (by omega) (by omega) (by decide) rfl) (qx (λw' hw'=>a7 cP rfl rfl zs2 rfl) ?_))
     replace bx5:=bx5.cn ch105
     refine qx (λw' hw'=>a8 ao rfl (bx5.bel hw') rfl) (qz zs12 ?_)
     replace r_t_v1:=r_t_v1.cn ch105
     refine qx (λw' hw'=>aa (v:=t_v1) (i:=↑j) aW rfl rfl (r_t_v1.bel hw') rfl (by omega) (by omega)) (qx (λw' hw'=>ay (v:=t_v1) (i:=↑j) ae rfl (r_t_v1.bel hw') (by omega) (by omega) (by decide) rfl) (qx (λw' hw'=>cY (m:=(gI ov ↑j)) (n:=(gI t.2.2 ↑j)) rfl rfl) (bX ?_)))
     intro w107 hc108
     replace hc108:=aB hc108 g104
     by_cases p24:(gI ov ↑j)=(gI t.2.2 ↑j)
     ·
      refine am rfl (congrArg Bool.not (dt p24)) (au (aq (a6 rfl (mz zs12 (lx (aP (m:=↑j) (n:=1) rfl rfl (by omega)) (ai ((j:Int)+1) (af ?_)))))))
      replace bH:=bH.cn ch105
      refine back22 (j+1,g104) _ _ ⟨bH.cn hc108,zs2,zs3,zs6,zs7,rfl,(Rt.cn ch105).cn hc108,r_t_v1.cn hc108,(Rfw.cn ch105).cn hc108,(r_fw_v1.cn ch105).cn hc108,bx5.cn hc108,(bx10.cn ch105).cn hc108,o24.cn hc108,by omega,?_⟩ ?_
      · show∀v:Nat,v<(j+1)->gI ov ↑v=gI t.2.2 ↑v
        try simp only[decide_eq_true_eq,decide_eq_false_iff_not] at*
        intro v hv;by_cases q:v=j;(rw[q];omega);exact hnd v (by omega)
      · show Int.toNat ((t.1:Int)-((j+1):Int))<Int.toNat ((t.1:Int)-(j:Int))
        omega
     refine aj rfl (congrArg Bool.not (df p24)) (a9 ?_)
     clear bx5 bx10 o24
     refine a6 rfl (ma (vb false) (af (aF (vs:=[vb false]) Try.func17 (.tmp rfl .nil) ?_)))
     have e0:(false:Bool)=(et t fw):=by
       try simp only[decide_eq_true_eq,decide_eq_false_iff_not] at*
       exact(nf (j:=j) hfv hm (by omega) (by omega) (by omega) ‹_›).symm
     replace bH:=bH.cn ch105
     replace bH:=bH.cn hc108
     exact⟨rb e0,bH.below⟩
    refine am rfl (df p22) (aM rfl (a9 ?_))
    clear bx5 o24
    refine a6 rfl (mz zs7 (lx (a7 ff rfl rfl zs3 rfl) (lx (a8 rZ rfl bx10 rfl) (lx (cw (m:=co) (n:=fw.2.2) rfl rfl) (ma (vb (decide (co=fw.2.2))) (af (aF (vs:=[vb (decide (co=fw.2.2))]) Try.func17 (.tmp rfl .nil) ?_)))))))
    have e0:(decide (co=fw.2.2):Bool)=(et t fw):=by
      try simp only[decide_eq_true_eq,decide_eq_false_iff_not] at*
      exact(nY hfv (by omega) (by omega) hh hpb (by omega) hnd (by omega)).symm
    exact⟨rb e0,bH.below⟩
   refine aj rfl (congrArg Bool.not (df p1)) (a9 ?_)
   clear bx5 bx10
   refine a6 rfl (ma (vb false) (af (aF (vs:=[vb false]) Try.func17 (.tmp rfl .nil) ?_)))
   have e0:(false:Bool)=(et t fw):=by
     try simp only[decide_eq_true_eq,decide_eq_false_iff_not] at*
     exact(fN (λh=>by obtain⟨h0,h1,h2⟩:=h;(omega))).symm
   replace bH:=bH.ca C13
   exact⟨rb e0,bH.below⟩
  refine ag (wn (congrArg Bool.not (df q25))) (ag (wn (congrArg Bool.not (df q25))) (ag (wn (congrArg Bool.not (df q25))) (ag (wn (congrArg Bool.not (df q25))) (ag (wn (congrArg Bool.not (df q25))) (ag (wn (congrArg Bool.not (df q25))) (lw (vb true) (az rfl (congrArg Bool.not (df q25)) rfl) (af (aj rfl rfl (a9 ?_)))))))))
  clear bx5 bx10
  refine a6 rfl (ma (vb false) (af (aF (vs:=[vb false]) Try.func17 (.tmp rfl .nil) ?_)))
  have e0:(false:Bool)=(et t fw):=by
    try simp only[decide_eq_true_eq,decide_eq_false_iff_not] at*
    exact(fN (λh=>by obtain⟨h0,h1,h2⟩:=h;(omega))).symm
  replace bH:=bH.ca C13
  exact⟨rb e0,bH.below⟩
 refine ag (wn (congrArg Bool.not (Bool.eq_false_iff.2 q16))) (ag (wn (congrArg Bool.not (Bool.eq_false_iff.2 q16))) (ag (wn (congrArg Bool.not (Bool.eq_false_iff.2 q16))) (ag (wn (congrArg Bool.not (Bool.eq_false_iff.2 q16))) (ag (wn (congrArg Bool.not (Bool.eq_false_iff.2 q16))) (ag (wn (congrArg Bool.not (Bool.eq_false_iff.2 q16))) (ag (wn (congrArg Bool.not (Bool.eq_false_iff.2 q16))) (lw (vb true) (az rfl (congrArg Bool.not (Bool.eq_false_iff.2 q16)) rfl) (mv (vb true) (ag (wn rfl) (ag (wn rfl) (ag (wn rfl) (ag (wn rfl) (ag (wn rfl) (ag (wn rfl) ?_))))))))))))))
 refine lw (vb true) (az rfl rfl rfl) (af (aj rfl rfl (a9 ?_)))
 clear bx5 bx10
 refine a6 rfl (ma (vb false) (af (aF (vs:=[vb false]) Try.func17 (.tmp rfl .nil) ?_)))
 have e0:(false:Bool)=(et t fw):=by
   try simp only[decide_eq_true_eq,decide_eq_false_iff_not] at*
   exact(fN (λh=>by obtain⟨h0,h1,h2⟩:=h;(exact absurd (dI h0) ‹_›))).symm
 have C109:=cg [] (ch2.n.seq (ch7.n.seq hb12.n))
 replace bH:=bH.ca C109
 exact⟨rb e0,bH.below⟩
end TL
