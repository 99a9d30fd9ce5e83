import Derived.Test.YtmaclbnodbcniaaFmTlP3
import Derived.Test.YtmaclbnodbcniaaFmTlFwA
import Derived.Test.YtmaclbnodbcniaaFmTlFwB
import Derived.Test.YtmaclbnodbcniaaProg
import Derived.Test.YtmaclbnodbcniaaFmTlAli
set_option linter.all false
set_option maxRecDepth 20000
namespace TL
open Go Go.Proofs
theorem jo:Try.prog.follows .mixedOrders=true:=by kernel_rfl
theorem j6:Tp Try.prog 4 false 1 1 (.bool false):=Tp.of (by kernel_rfl)
set_option maxHeartbeats 8000000 in
theorem qf(w0:World)(t:(Int)×(List ((Int)×(Int)×(Int)×(Int)))×(List Int))(t_v t_v1:Value)(ht_v:Ro w0 t_v t.2.1)(ht_v1:Ro w0 t_v1 t.2.2)(l:List Int)(l_v:Value)(hl_v:Ro w0 l_v l)(hm:cB t)(hr:sH t.1 l)(hL:(l.length:Int)<=t.1):
    Calls Try.prog 20 #[vg [vi t.1,t_v,t_v1],l_v] w0 (λee w=>ee= .returned (vb (decide (gY t l t.2.1.length<kH t l l.length)))/\dC w0.heap.size w0 w):=by
 refine aC Try.func20 rfl nq ?_
 have bH:=b9.start w0
 have Rt:=ht_v.sl
 have r_t_v1:=ht_v1.sl
 have Rl:=hl_v.sl
 have hm0:=hm
 obtain⟨⟨hm1,hm2⟩,hm3,hm4,hm5,hm6⟩:=hm0
 refine a9 (a6 rfl (cQ rfl (d4 c0 (is 1) (1,0) rfl rfl ?_)))
 intro g4 w1 b3 ch2 bx5
 replace bx5:Bx g4 (is 1) w1 b3 [vi t.1,t_v,t_v1]:=bx5
 refine ma (vb false) (af (a9 (a6 rfl (lx (a7 cP rfl rfl rfl rfl) (lx (a8 ae rfl bx5 rfl) (lo (dw (α:=Bool) (l:=t.1) (cp:=t.1) g4 (is 2) (is 2) (2,0) rfl false sQ j6 rfl rfl rfl (by omega) (by omega) (by omega) (by omega) ?_)))))))
 intro g6 w7 v8 ch9 o10 _
 refine ma v8 (af (a9 (a6 rfl (ai 0 (af (a9 (a9 (a6 rfl (ai 0 (af (av ?_)))))))))))
 refine aX (σ:=Int×Nat×(List Bool)×aG) (λ⟨nd,i,bs,gq⟩ f w=>b9 w0 gq w/\f 1=l_v/\f 2=vp b3 0/\f 5=v8/\f 6=vi nd/\f 7=vi ↑i/\Sl gq (is 0) w t_v t.2.1/\Sl gq (is 0) w t_v1 t.2.2/\Sl gq (is 0) w l_v l/\Bx gq (is 1) w b3 [vi t.1,t_v,t_v1]/\Ow gq (is 2) (is 2) w v8 bs/\(i:Int)<=((l.length:Int):Int)/\(mc t l i bs nd)) (λ⟨nd,i,bs,gq⟩=>Int.toNat (((l.length:Int):Int)-(i:Int))) (0,0,(List.replicate (Int.toNat t.1) false),g6) ?_ ?_
 replace bH:=bH.cn ch2
 · exact⟨bH.cn ch9,rfl,rfl,rfl,rfl,rfl,(Rt.cn ch2).cn ch9,(r_t_v1.cn ch2).cn ch9,(Rl.cn ch2).cn ch9,bx5.cn ch9,o10,by omega,by exact mc.start hm⟩
 clear Rt r_t_v1 Rl bx5 o10 bH
 rintro⟨nd,i,bs,g13⟩ f11 w12 ⟨bH,zs1,zs2,zs5,zs6,zs7,Rt,r_t_v1,Rl,bx5,o10,hle_i,hcu⟩ back4
 have hcul:=hcu.ln
 obtain⟨hcn0,hcn1⟩:=hcu.bd hm hr (by omega)
 refine a9 (a9 (a6 rfl (mz zs7 (mz zs1 ?_))))
 have len14:=(Rl).small
 refine lx (ba aW rfl Rl) (lx (bo (m:=↑i) (n:=(l.length:Int)) rfl rfl) (af ?_))
 by_cases p4:(i:Int)<(l.length:Int)
 ·
  refine aj rfl (dt p4) ?_
  obtain⟨⟨ha0,ha1⟩,ha2⟩:=hr i (by omega)
  have ha3:i=0\/gI l ((i:Int)-1)<gI l ↑i:=by rcases Nat.eq_zero_or_pos i with q|q;exact .inl q;exact .inr (ha2 q)
  obtain⟨ha4,ha5⟩:=hm6 _ (bx (xs:=t.2.2) (i:=gI l ↑i) (by omega) (by omega))
  refine au (a9 (av (a9 (a9 (bt g13 rfl jo (by kernel_rfl) ?_)))))
  intro w16 ch15
  refine qz zs1 (qz zs7 ?_)
  replace Rl:=Rl.cn ch15
  refine qx (λw' hw'=>aa (v:=l_v) (i:=↑i) aW rfl rfl (Rl.bel hw') rfl (by omega) (by omega)) (qx (λw' hw'=>ay (v:=l_v) (i:=↑i) ae rfl (Rl.bel hw') (by omega) (by omega) (by decide) rfl) (qx (λw' hw'=>bo (m:=(gI l ↑i)) (n:=0) rfl rfl) (qm (vb (decide ((gI l ↑i)<0))) ?_)))
  by_cases q24:(gI l ↑i)<0
  ·
   refine aE (wn (dt q24)) (aE (wn (dt q24)) (aE (wn (dt q24)) (aE (wn (dt q24)) (aE (wn (dt q24)) (aE (wn (dt q24)) (aE (wn (dt q24)) (qv (vb true) (λw' hw'=>az rfl (dt q24) rfl) (qm (vb true) (aE (wn rfl) ?_)))))))))
   refine aE (wn rfl) (aE (wn rfl) (aE (bA rfl rfl rfl) (aE (bA rfl rfl rfl) (aE (bA rfl rfl rfl) (aE (bA rfl rfl rfl) (aE (bA rfl rfl rfl) (aE (bA rfl rfl rfl) (aE (bA rfl rfl rfl) (aE (bA rfl rfl rfl) ?_)))))))))
   refine aE (bA rfl rfl rfl) (aE (bA rfl rfl rfl) (aE (wn rfl) (qv (vb true) (λw' hw'=>az rfl rfl rfl) (bX ?_))))
   intro w17 hc18
   replace hc18:=aB hc18 g13
   refine aj rfl rfl (a9 ?_)
   clear bx5 o10
   refine a6 rfl (ma (vb false) (af (aF (vs:=[vb false]) Try.func20 (.tmp rfl .nil) ?_)))
   have e0:(false:Bool)=(decide (gY t l t.2.1.length<kH t l l.length)):=by
     (exfalso;omega)
   replace bH:=bH.cn ch15
   replace bH:=bH.cn hc18
   exact⟨rb e0,bH.below⟩
  refine aQ (v:=l_v) (wy (df q24)) (λw' hw'=>ah zs1) (aQ (v:=vi ↑i) (wy (df q24)) (λw' hw'=>ah zs7) (aQ (v:=Value.pointer (some (aT l_v 1 (Int.toNat ↑i)))) (wy (df q24)) (λw' hw'=>aa (α:=Int) (xs:=l) (v:=l_v) (i:=↑i) aW rfl rfl (Rl.bel hw') rfl (by omega) (by omega)) (aQ (v:=vi (gI l ↑i)) (wy (df q24)) (λw' hw'=>ay (α:=Int) (xs:=l) (v:=l_v) (i:=↑i) ae rfl (Rl.bel hw') (by omega) (by omega) (by decide) rfl) (aQ (v:=vp b3 0) (wy (df q24)) (λw' hw'=>a7 cP rfl rfl zs2 rfl) ?_))))
  replace bx5:=bx5.cn ch15
  refine aQ (v:=vi t.1) (wy (df q24)) (λw' hw'=>a8 ae rfl (bx5.bel hw') rfl) (aQ (v:=vb (decide (t.1<=(gI l ↑i)))) (wy (df q24)) (λw' hw'=>ib (m:=(gI l ↑i)) (n:=t.1) rfl rfl) (qv (vb (decide (t.1<=(gI l ↑i)))) (λw' hw'=>aH rfl (df q24) rfl) (qm (vb (decide (t.1<=(gI l ↑i)))) ?_)))
  by_cases q33:t.1<=(gI l ↑i)
  ·
   refine aE (wn (dt q33)) (aE (wn (dt q33)) (aE (wn (dt q33)) (aE (bA rfl rfl rfl) (aE (bA rfl rfl rfl) (aE (bA rfl rfl rfl) (aE (bA rfl rfl rfl) (aE (bA rfl rfl rfl) (aE (bA rfl rfl rfl) (aE (bA rfl rfl rfl) ?_)))))))))
   refine aE (bA rfl rfl rfl) (aE (bA rfl rfl rfl) (aE (bA rfl rfl rfl) (aE (wn (dt q33)) (qv (vb true) (λw' hw'=>az rfl (dt q33) rfl) (bX ?_)))))
   intro w19 hc20
   replace hc20:=aB hc20 g13
   refine aj rfl rfl (a9 ?_)
   clear bx5 o10
   refine a6 rfl (ma (vb false) (af (aF (vs:=[vb false]) Try.func20 (.tmp rfl .nil) ?_)))
   have e0:(false:Bool)=(decide (gY t l t.2.1.length<kH t l l.length)):=by
     (exfalso;omega)
   replace bH:=bH.cn ch15
   replace bH:=bH.cn hc20
   exact⟨rb e0,bH.below⟩
  refine aQ (v:=vi ↑i) (wy (df q33)) (λw' hw'=>ah zs7) (aQ (v:=vb (decide (0<(i:Int)))) (wy (df q33)) (λw' hw'=>bY (m:=↑i) (n:=0) rfl rfl) (aQ (v:=vb (decide (0<(i:Int)))) (wy (df q33)) (λw' hw'=>ah rfl) ?_))
  by_cases q36:0<(i:Int)
  ·
   refine aQ (v:=l_v) (wy (dt q36)) (λw' hw'=>ah zs1) (aQ (v:=vi ↑i) (wy (dt q36)) (λw' hw'=>ah zs7) (aQ (v:=vi ((i:Int)-1)) (wy (dt q36)) (λw' hw'=>cV (m:=↑i) (n:=1) rfl rfl (by omega)) (aQ (v:=Value.pointer (some (aT l_v 1 (Int.toNat ((i:Int)-1))))) (wy (dt q36)) (λw' hw'=>aa (α:=Int) (xs:=l) (v:=l_v) (i:=(i:Int)-1) aW rfl rfl (Rl.bel hw') rfl (by omega) (by omega)) (aQ (v:=vi (gI l ((i:Int)-1))) (wy (dt q36)) (λw' hw'=>ay (α:=Int) (xs:=l) (v:=l_v) (i:=(i:Int)-1) ae rfl (Rl.bel hw') (by omega) (by omega) (by decide) rfl) ?_))))
   refine aQ (v:=l_v) (wy (dt q36)) (λw' hw'=>ah zs1) (aQ (v:=vi ↑i) (wy (dt q36)) (λw' hw'=>ah zs7) (aQ (v:=Value.pointer (some (aT l_v 1 (Int.toNat ↑i)))) (wy (dt q36)) (λw' hw'=>aa (α:=Int) (xs:=l) (v:=l_v) (i:=↑i) aW rfl rfl (Rl.bel hw') rfl (by omega) (by omega)) (aQ (v:=vi (gI l ↑i)) (wy (dt q36)) (λw' hw'=>ay (α:=Int) (xs:=l) (v:=l_v) (i:=↑i) ae rfl (Rl.bel hw') (by omega) (by omega) (by decide) rfl) ?_)))
   refine aQ (v:=vb (decide ((gI l ↑i)<=(gI l ((i:Int)-1))))) (wy (dt q36)) (λw' hw'=>ib (m:=(gI l ((i:Int)-1))) (n:=(gI l ↑i)) rfl rfl) (aQ (v:=vb (decide ((gI l ↑i)<=(gI l ((i:Int)-1))))) (wy (df q33)) (λw' hw'=>az rfl (dt q36) rfl) (qv (vb (decide ((gI l ↑i)<=(gI l ((i:Int)-1))))) (λw' hw'=>aH rfl (df q33) rfl) (bX ?_)))
   intro w21 hc22
   replace hc22:=aB hc22 g13
   by_cases p6:(gI l ↑i)<=(gI l ((i:Int)-1))
   ·
    refine aj rfl (dt p6) (a9 ?_)
    clear bx5 o10
    refine a6 rfl (ma (vb false) (af (aF (vs:=[vb false]) Try.func20 (.tmp rfl .nil) ?_)))
    have e0:(false:Bool)=(decide (gY t l t.2.1.length<kH t l l.length)):=by
      (exfalso;omega)
    replace bH:=bH.cn ch15
    replace bH:=bH.cn hc22
    exact⟨rb e0,bH.below⟩
   refine am rfl (df p6) (au (a9 (a6 rfl (mz zs5 (mz zs1 (mz zs7 ?_))))))
   replace Rl:=Rl.cn hc22
   refine lx (aa (v:=l_v) (i:=↑i) aW rfl rfl Rl rfl (by omega) (by omega)) (lx (ay (v:=l_v) (i:=↑i) ae rfl Rl (by omega) (by omega) (by decide) rfl) ?_)
   replace o10:=(o10.cn ch15).cn hc22
   refine lx (aa (v:=v8) (i:=(gI l ↑i)) sQ rfl rfl o10.flat rfl (by omega) (by omega)) (lo (aK (i:=(gI l ↑i)) true j6 rfl rfl o10 (by omega) (by omega) rfl ?_))
   intro w23 ch24 bx25
   clear o10
   refine af (bt g13 rfl jo (by kernel_rfl) ?_)
   intro w27 ch26
   refine qz zs6 (qx (λw' hw'=>a7 cP rfl rfl zs2 rfl) ?_)
   have C28:=cg [2] (hc22.n.seq ((ch24.l rfl).seq ch26.n))
   replace bx5:=bx5.ca C28
   refine qx (λw' hw'=>a8 ao rfl (bx5.bel hw') rfl) (qz zs1 (qz zs7 ?_))
   replace Rl:=(Rl.ce ch24).cn ch26
   refine qx (λw' hw'=>aa (v:=l_v) (i:=↑i) aW rfl rfl (Rl.bel hw') rfl (by omega) (by omega)) (qx (λw' hw'=>ay (v:=l_v) (i:=↑i) ae rfl (Rl.bel hw') (by omega) (by omega) (by decide) rfl) ?_)
   have C29:=cg [2] (ch15.n.seq (hc22.n.seq ((ch24.l rfl).seq ch26.n)))
   replace r_t_v1:=r_t_v1.ca C29
   refine qx (λw' hw'=>aa (v:=t_v1) (i:=(gI l ↑i)) aW rfl rfl (r_t_v1.bel hw') rfl (by omega) (by omega)) (qx (λw' hw'=>ay (v:=t_v1) (i:=(gI l ↑i)) ae rfl (r_t_v1.bel hw') (by omega) (by omega) (by decide) rfl) (qx (λw' hw'=>aP (m:=nd) (n:=(gI t.2.2 (gI l ↑i))) rfl rfl (by omega)) (qv (vi (nd+(gI t.2.2 (gI l ↑i)))) (λw' hw'=>bD rfl) (bX ?_))))
   intro w30 hc31
   replace hc31:=aB hc31 g13
   refine aq (a6 rfl (mz zs7 (lx (aP (m:=↑i) (n:=1) rfl rfl (by omega)) (ai ((i:Int)+1) (af ?_)))))
   have C32:=cg [2] (ch15.n.seq (hc22.n.seq ((ch24.l rfl).seq (ch26.n.seq hc31.n))))
   refine back4 (nd+(gI t.2.2 (gI l ↑i)),i+1,(List.set bs (Int.toNat (gI l ↑i)) true),g13) _ _ ⟨bH.ca C32,zs1,zs2,zs5,rfl,rfl,Rt.ca C32,r_t_v1.cn hc31,Rl.cn hc31,bx5.cn hc31,(bx25.cn ch26).cn hc31,by omega,?_⟩ ?_
   · show mc t l (i+1) (List.set bs (Int.toNat (gI l ↑i)) true) (nd+(gI t.2.2 (gI l ↑i)))
     exact hcu.next ‹_› hr rfl
   · show Int.toNat (((l.length:Int):Int)-((i+1):Int))<Int.toNat (((l.length:Int):Int)-(i:Int))
     omega
  refine aE (wn (df q36)) (aE (wn (df q36)) (aE (wn (df q36)) (aE (wn (df q36)) (aE (wn (df q36)) (aE (wn (df q36)) (aE (wn (df q36)) (aE (wn (df q36)) (aE (wn (df q36)) (aE (wn (df q36)) ?_)))))))))
  refine aQ (v:=vb false) (wy (df q33)) (λw' hw'=>aH rfl (df q36) rfl) (qv (vb false) (λw' hw'=>aH rfl (df q33) rfl) (bX ?_))
  intro w33 hc34
  replace hc34:=aB hc34 g13
  refine am rfl rfl (au (a9 (a6 rfl (mz zs5 (mz zs1 (mz zs7 ?_))))))
  replace Rl:=Rl.cn hc34
  refine lx (aa (v:=l_v) (i:=↑i) aW rfl rfl Rl rfl (by omega) (by omega)) (lx (ay (v:=l_v) (i:=↑i) ae rfl Rl (by omega) (by omega) (by decide) rfl) ?_)
  replace o10:=(o10.cn ch15).cn hc34
  refine lx (aa (v:=v8) (i:=(gI l ↑i)) sQ rfl rfl o10.flat rfl (by omega) (by omega)) (lo (aK (i:=(gI l ↑i)) true j6 rfl rfl o10 (by omega) (by omega) rfl ?_))
  intro w35 ch36 bx37
  clear o10
  refine af (bt g13 rfl jo (by kernel_rfl) ?_)
  intro w39 ch38
  refine qz zs6 (qx (λw' hw'=>a7 cP rfl rfl zs2 rfl) ?_)
  have C40:=cg [2] (hc34.n.seq ((ch36.l rfl).seq ch38.n))
  replace bx5:=bx5.ca C40
  refine qx (λw' hw'=>a8 ao rfl (bx5.bel hw') rfl) (qz zs1 (qz zs7 ?_))
  replace Rl:=(Rl.ce ch36).cn ch38
  refine qx (λw' hw'=>aa (v:=l_v) (i:=↑i) aW rfl rfl (Rl.bel hw') rfl (by omega) (by omega)) (qx (λw' hw'=>ay (v:=l_v) (i:=↑i) ae rfl (Rl.bel hw') (by omega) (by omega) (by decide) rfl) ?_)
  have C41:=cg [2] (ch15.n.seq (hc34.n.seq ((ch36.l rfl).seq ch38.n)))
  replace r_t_v1:=r_t_v1.ca C41
  refine qx (λw' hw'=>aa (v:=t_v1) (i:=(gI l ↑i)) aW rfl rfl (r_t_v1.bel hw') rfl (by omega) (by omega)) (qx (λw' hw'=>ay (v:=t_v1) (i:=(gI l ↑i)) ae rfl (r_t_v1.bel hw') (by omega) (by omega) (by decide) rfl) (qx (λw' hw'=>aP (m:=nd) (n:=(gI t.2.2 (gI l ↑i))) rfl rfl (by omega)) (qv (vi (nd+(gI t.2.2 (gI l ↑i)))) (λw' hw'=>bD rfl) (bX ?_))))
  intro w42 hc43
  replace hc43:=aB hc43 g13
  refine aq (a6 rfl (mz zs7 (lx (aP (m:=↑i) (n:=1) rfl rfl (by omega)) (ai ((i:Int)+1) (af ?_)))))
  have C44:=cg [2] (ch15.n.seq (hc34.n.seq ((ch36.l rfl).seq (ch38.n.seq hc43.n))))
  refine back4 (nd+(gI t.2.2 (gI l ↑i)),i+1,(List.set bs (Int.toNat (gI l ↑i)) true),g13) _ _ ⟨bH.ca C44,zs1,zs2,zs5,rfl,rfl,Rt.ca C44,r_t_v1.cn hc43,Rl.cn hc43,bx5.cn hc43,(bx37.cn ch38).cn hc43,by omega,?_⟩ ?_
  · show mc t l (i+1) (List.set bs (Int.toNat (gI l ↑i)) true) (nd+(gI t.2.2 (gI l ↑i)))
    exact hcu.next ‹_› hr rfl
  · show Int.toNat (((l.length:Int):Int)-((i+1):Int))<Int.toNat (((l.length:Int):Int)-(i:Int))
    omega
 refine am rfl (df p4) (aM rfl (a9 (a6 rfl (ai 0 (af (a9 (a9 (a6 rfl (ai 0 (af (av ?_)))))))))))
 refine aX (σ:=Nat×Int×aG) (λ⟨j,rm,gq⟩ f w=>b9 w0 gq w/\f 2=vp b3 0/\f 5=v8/\f 6=vi nd/\f 8=vi rm/\f 9=vi ↑j/\Sl gq (is 0) w t_v t.2.1/\Sl gq (is 0) w t_v1 t.2.2/\Sl gq (is 0) w l_v l/\Bx gq (is 1) w b3 [vi t.1,t_v,t_v1]/\Ow gq (is 2) (is 2) w v8 bs/\(j:Int)<=((t.2.1.length:Int):Int)/\(rm=gY t l j)) (λ⟨j,rm,gq⟩=>Int.toNat (((t.2.1.length:Int):Int)-(j:Int))) (0,0,g13) ?_ ?_
 · exact⟨bH,zs2,zs5,zs6,rfl,rfl,Rt,r_t_v1,Rl,bx5,o10,by omega,by rfl⟩
 clear Rt r_t_v1 Rl bx5 o10 bH
 rintro⟨j,rm,g47⟩ f45 w46 ⟨bH,zs2,zs5,zs6,zs8,zs9,Rt,r_t_v1,Rl,bx5,o10,hle_j,hrm⟩ back12
 obtain⟨hrm0,hrm1⟩:=sC hm hrm (by omega)
 refine a9 (a9 (a6 rfl (mz zs9 (lx (a7 cP rfl rfl zs2 rfl) (lx (a8 bT rfl bx5 rfl) ?_)))))
 have len48:=(Rt).small
 refine lx (ba dB rfl Rt) (lx (bo (m:=↑j) (n:=(t.2.1.length:Int)) rfl rfl) (af ?_))
 by_cases p12:(j:Int)<(t.2.1.length:Int)
 ·
  refine aj rfl (dt p12) ?_
  obtain⟨⟨hb0,hb1⟩,⟨hb2,hb3⟩,⟨hb4,hb5⟩,hb6,hb7⟩:=hm5 _ (bx (xs:=t.2.1) (i:=↑j) (by omega) ‹_›)
  refine au (a9 (av (a9 (a6 rfl (mz zs5 (lx (a7 cP rfl rfl zs2 rfl) (lx (a8 bT rfl bx5 rfl) (mz zs9 (lx (aa (v:=t_v) (i:=↑j) dB rfl rfl Rt rfl (by omega) (by omega)) (lw (Value.pointer (some ⟨(aT t_v 4 (Int.toNat ↑j)).block,(aT t_v 4 (Int.toNat ↑j)).off+0,none⟩)) (aO dK rfl rfl rfl rfl) ?_))))))))))
  refine lx (bi (v:=t_v) (i:=↑j) ae rfl Rt (by omega) (by omega) (by decide) rfl) (lx (aa (v:=v8) (i:=(gI t.2.1 ↑j).1) sQ rfl rfl o10.flat rfl (by omega) (by omega)) (lx (ay (v:=v8) (i:=(gI t.2.1 ↑j).1) j6 rfl o10.flat (by omega) (by omega) (by decide) rfl) (mv (vb (gI bs ((gI t.2.1 ↑j).1))) ?_)))
  by_cases q81:(gI bs ((gI t.2.1 ↑j).1))=true
  ·
   refine lv (v8) (wy q81) (ah zs5) (lv (vp b3 1) (wy q81) (a7 cP rfl rfl zs2 rfl) (lv (t_v) (wy q81) (a8 bT rfl bx5 rfl) (lv (vi ↑j) (wy q81) (ah zs9) (lv (Value.pointer (some (aT t_v 4 (Int.toNat ↑j)))) (wy q81) (aa (α:=(Int)×(Int)×(Int)×(Int)) (xs:=t.2.1) (v:=t_v) (i:=↑j) dB rfl rfl Rt rfl (by omega) (by omega)) (lv (Value.pointer (some ⟨(aT t_v 4 (Int.toNat ↑j)).block,(aT t_v 4 (Int.toNat ↑j)).off+1,none⟩)) (wy q81) (aO dK rfl rfl rfl rfl) ?_)))))
   refine lv (vi (((gI t.2.1 ↑j).2).1)) (wy q81) (bi (α:=(Int)×(Int)×(Int)×(Int)) (xs:=t.2.1) (v:=t_v) (i:=↑j) ae rfl Rt (by omega) (by omega) (by decide) rfl) (lv (Value.pointer (some (aT v8 1 (Int.toNat (((gI t.2.1 ↑j).2).1))))) (wy q81) (aa (α:=Bool) (xs:=bs) (v:=v8) (i:=((gI t.2.1 ↑j).2).1) sQ rfl rfl o10.flat rfl (by omega) (by omega)) (lv (vb (gI bs (((gI t.2.1 ↑j).2).1))) (wy q81) (ay (α:=Bool) (xs:=bs) (v:=v8) (i:=((gI t.2.1 ↑j).2).1) j6 rfl o10.flat (by omega) (by omega) (by decide) rfl) (lv (vb (!(gI bs (((gI t.2.1 ↑j).2).1)))) (wy q81) (cz (b:=(gI bs (((gI t.2.1 ↑j).2).1))) rfl) ?_)))
   refine lw (vb (!(gI bs (((gI t.2.1 ↑j).2).1)))) (az rfl q81 rfl) (af ?_)
   by_cases p14:(gI bs (((gI t.2.1 ↑j).2).1))=true
   ·
    refine am rfl (congrArg Bool.not p14) (au (aq (a6 rfl (mz zs9 (lx (aP (m:=↑j) (n:=1) rfl rfl (by omega)) (ai ((j:Int)+1) (af ?_)))))))
    refine back12 (j+1,rm,g47) _ _ ⟨bH,zs2,zs5,zs6,zs8,rfl,Rt,r_t_v1,Rl,bx5,o10,by omega,?_⟩ ?_
    · show rm=gY t l (j+1)
      try simp only[Bool.not_eq_true,Bool.not_eq_false] at*
      exact rH hcu ‹_› hm ‹_› hrm (.inr ‹_›)
    · show Int.toNat (((t.2.1.length:Int):Int)-((j+1):Int))<Int.toNat (((t.2.1.length:Int):Int)-(j:Int))
      omega
   refine aj rfl (congrArg Bool.not (Bool.eq_false_iff.2 p14)) (a6 rfl (mz zs8 (lx (a7 cP rfl rfl zs2 rfl) (lx (a8 bT rfl bx5 rfl) (mz zs9 (lx (aa (v:=t_v) (i:=↑j) dB rfl rfl Rt rfl (by omega) (by omega)) (lw (Value.pointer (some ⟨(aT t_v 4 (Int.toNat ↑j)).block,(aT t_v 4 (Int.toNat ↑j)).off+2,none⟩)) (aO dK rfl rfl rfl rfl) (lx (bi (v:=t_v) (i:=↑j) ae rfl Rt (by omega) (by omega) (by decide) rfl) (lx (aP (m:=rm) (n:=(((gI t.2.1 ↑j).2).2).1) rfl rfl (by omega)) ?_)))))))))
   refine ai (rm+((((gI t.2.1 ↑j).2).2).1)) (af (aq (a6 rfl (mz zs9 (lx (aP (m:=↑j) (n:=1) rfl rfl (by omega)) (ai ((j:Int)+1) (af ?_)))))))
   refine back12 (j+1,rm+((((gI t.2.1 ↑j).2).2).1),g47) _ _ ⟨bH,zs2,zs5,zs6,rfl,rfl,Rt,r_t_v1,Rl,bx5,o10,by omega,?_⟩ ?_
   · show(rm+((((gI t.2.1 ↑j).2).2).1))=gY t l (j+1)
     try simp only[Bool.not_eq_true,Bool.not_eq_false] at*
     exact sr hcu ‹_› hm ‹_› hrm ‹_› ‹_›
   · show Int.toNat (((t.2.1.length:Int):Int)-((j+1):Int))<Int.toNat (((t.2.1.length:Int):Int)-(j:Int))
     omega
  refine ag (wn (Bool.eq_false_iff.2 q81)) (ag (wn (Bool.eq_false_iff.2 q81)) (ag (wn (Bool.eq_false_iff.2 q81)) (ag (wn (Bool.eq_false_iff.2 q81)) (ag (wn (Bool.eq_false_iff.2 q81)) (ag (wn (Bool.eq_false_iff.2 q81)) (ag (wn (Bool.eq_false_iff.2 q81)) (ag (wn (Bool.eq_false_iff.2 q81)) (ag (wn (Bool.eq_false_iff.2 q81)) (ag (wn (Bool.eq_false_iff.2 q81)) ?_)))))))))
  refine lw (vb false) (aH rfl (Bool.eq_false_iff.2 q81) rfl) (af (am rfl rfl (au (aq (a6 rfl (mz zs9 (lx (aP (m:=↑j) (n:=1) rfl rfl (by omega)) (ai ((j:Int)+1) (af ?_)))))))))
  refine back12 (j+1,rm,g47) _ _ ⟨bH,zs2,zs5,zs6,zs8,rfl,Rt,r_t_v1,Rl,bx5,o10,by omega,?_⟩ ?_
  · show rm=gY t l (j+1)
    try simp only[Bool.not_eq_true,Bool.not_eq_false] at*
    exact rH hcu ‹_› hm ‹_› hrm (.inl ‹_›)
  · show Int.toNat (((t.2.1.length:Int):Int)-((j+1):Int))<Int.toNat (((t.2.1.length:Int):Int)-(j:Int))
    omega
 refine am rfl (df p12) (aM rfl (a9 ?_))
 clear bx5 o10
 refine a6 rfl (mz zs6 (mz zs8 (lx (bY (m:=nd) (n:=rm) rfl rfl) (ma (vb (decide (rm<nd))) (af (aF (vs:=[vb (decide (rm<nd))]) Try.func20 (.tmp rfl .nil) ?_))))))
 have e0:(decide (rm<nd):Bool)=(decide (gY t l t.2.1.length<kH t l l.length)):=by
   rw[hrm,hcu.cs,show i=l.length by omega,show j=t.2.1.length by omega]
 exact⟨rb e0,bH.below⟩
end TL
