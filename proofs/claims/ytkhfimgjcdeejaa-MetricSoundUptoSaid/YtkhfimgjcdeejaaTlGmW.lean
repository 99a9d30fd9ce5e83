import Derived.Test.YtkhfimgjcdeejaaTlP3
import Derived.Test.YtkhfimgjcdeejaaTlGmA
import Derived.Test.YtkhfimgjcdeejaaTlGmN
import Derived.Test.YtkhfimgjcdeejaaTlGmV
import Derived.Test.YtkhfimgjcdeejaaProg
import Derived.Test.YtkhfimgjcdeejaaTlAli
set_option linter.all false
set_option maxRecDepth 20000
namespace TL
open Go Go.Proofs
theorem iW:Try.prog.follows .mixedOrders=true:=by kernel_rfl
theorem pw:Try.f55.body.isNone=false:=rfl
theorem pk:(Try.f55.name== "runtime.NumGoroutine")=false:=by decide+kernel
theorem sS:Try.f56.body.isNone=false:=rfl
theorem uA:(Try.f56.name== "runtime.NumGoroutine")=false:=by decide+kernel
set_option maxHeartbeats 8000000 in
theorem fi(w0:World)(p:List Pt)(p_v:Value)(hp_v:Ro w0 p_v p)(q:List Pt)(q_v:Value)(hq_v:Ro w0 q_v q)(but:List Pt)(but_v:Value)(hbut_v:Ro w0 but_v but)(hp:dy p)(hq:dy q)(hp0:0<p.length)(hq0:0<q.length)(hbut:∀x∈but,cV x)(hbl:but.length<=1000000):
    Calls Try.prog 44 #[p_v,q_v,but_v] w0 (λee w=>ee= .returned (vb (decide (dH p q but)))/\cW w0.heap.size w0 w):=by
 refine aI Try.func44 rfl nq ?_
 have bH:=bo.start w0
 have Rp:=hp_v.sl
 have Rq:=hq_v.sl
 have Rbut:=hbut_v.sl
 have hlp1:=hp.1
 have hlq1:=hq.1
 have hsp:=nJ (p:=p) hp0
 have hsq:=nJ (p:=q) hq0
 refine a6 (a5 rfl (ma (vb false) (a8 (a6 (a5 rfl (mv p_v (lo (d5 (az (vals:=[p_v]) Try.func55 pw pk rfl) (ii w0 p p_v (Rp).ro (by omega) (by omega)) ?_))))))))
 rintro⟨d2,v4⟩ w1 ⟨fr3,o5⟩
 obtain⟨g6,ch7,G6⟩:=ny c0 fr3 (λn=>if n=1 then 1 else 0)
 replace o5:=o5.gl G6 1
 refine mv q_v ?_
 replace Rq:=Rq.cn ch7
 refine lo (d5 (az (vals:=[q_v]) Try.func55 pw pk rfl) (ii w1 q q_v (Rq).ro (by omega) (by omega)) ?_)
 rintro⟨d9,v11⟩ w8 ⟨fr10,o12⟩
 obtain⟨g13,ch14,G13⟩:=ny g6 fr10 (λn=>if n=1 then 2 else 0)
 replace o12:=o12.gl G13 2
 refine ma v4 (ma v11 (a8 (a6 (a6 (a5 rfl (ai 0 (a8 (ao ?_))))))))
 refine bf (σ:=Nat×aW) (λ⟨i,gq⟩ f w=>bo w0 gq w/\f 2=but_v/\f 7=v4/\f 8=v11/\f 9=vi ↑i/\Sl gq (is 0) w p_v p/\Sl gq (is 0) w q_v q/\Sl gq (is 0) w but_v but/\Ow gq (is 1) (is 1) w v4 (aA p)/\Ow gq (is 2) (is 2) w v11 (aA q)/\(i:Int)<=((List.length (aA p):Int):Int)/\(∀j_:Nat,j_<i->∀t_∈aA q,¬kj but (gI (aA p) (j_:Int)) t_)) (λ⟨i,gq⟩=>Int.toNat (((List.length (aA p):Int):Int)-(i:Int))) (0,g13) ?_ ?_
 replace bH:=bH.cn ch7
 · exact⟨bH.cn ch14,rfl,rfl,rfl,rfl,(Rp.cn ch7).cn ch14,Rq.cn ch14,(Rbut.cn ch7).cn ch14,o5.cn ch14,o12,by omega,by intro j hj;omega⟩
 clear Rp Rq Rbut o5 o12 bH
 rintro⟨i,g17⟩ f15 w16 ⟨bH,zs2,zs7,zs8,zs9,Rp,Rq,Rbut,o5,o12,hle_i,hinv⟩ back3
 refine a6 (a6 (a5 rfl (mz zs9 (mz zs7 ?_))))
 have len18:=(o5.flat).small
 refine lx (bE fI rfl o5.flat) (lx (b6 (m:=↑i) (n:=(List.length (aA p):Int)) rfl rfl) (a8 ?_))
 by_cases p3:(i:Int)<(List.length (aA p):Int)
 ·
  refine ae rfl (dt p3) ?_
  obtain⟨hsb1,hsb2⟩:=se (p:=p) (i:=i) hp hp0 ‹_›
  refine am (a6 (ao (a6 (a5 rfl (ai 0 (a8 (ao ?_)))))))
  refine bf (σ:=Nat×aW) (λ⟨k,gq⟩ f w=>bo w0 gq w/\f 2=but_v/\f 7=v4/\f 8=v11/\f 9=vi ↑i/\f 10=vi ↑k/\Sl gq (is 0) w p_v p/\Sl gq (is 0) w q_v q/\Sl gq (is 0) w but_v but/\Ow gq (is 1) (is 1) w v4 (aA p)/\Ow gq (is 2) (is 2) w v11 (aA q)/\(k:Int)<=((List.length (aA q):Int):Int)/\(∀j_:Nat,j_<k->¬kj but (gI (aA p) (i:Int)) (gI (aA q) (j_:Int)))) (λ⟨k,gq⟩=>Int.toNat (((List.length (aA q):Int):Int)-(k:Int))) (0,g17) ?_ ?_
  · exact⟨bH,zs2,zs7,zs8,zs9,rfl,Rp,Rq,Rbut,o5,o12,by omega,by intro j hj;omega⟩
  clear Rp Rq Rbut o5 o12 bH
  rintro⟨k,g21⟩ f19 w20 ⟨bH,zs2,zs7,zs8,zs9,zs10,Rp,Rq,Rbut,o5,o12,hle_k,hrow⟩ back6
  refine a6 (a6 (a5 rfl (mz zs10 (mz zs8 ?_))))
  have len22:=(o12.flat).small
  refine lx (bE fI rfl o12.flat) (lx (b6 (m:=↑k) (n:=(List.length (aA q):Int)) rfl rfl) (a8 ?_))
  by_cases p6:(k:Int)<(List.length (aA q):Int)
  ·
   refine ae rfl (dt p6) ?_
   obtain⟨htb1,htb2⟩:=se (p:=q) (i:=k) hq hq0 ‹_›
   have hrm:=mG hsb1 hsb2 htb1 htb2
   refine am (a6 (ao (a6 (bv g21 rfl iW (by kernel_rfl) ?_))))
   intro w24 ch23
   refine qz zs7 (qz zs9 ?_)
   replace o5:=o5.cn ch23
   refine qx (λw' hw'=>ab (v:=v4) (i:=↑i) fI rfl rfl (o5.flat.bel hw') rfl (by omega) (by omega)) (qx (λw' hw'=>bj ig rfl rfl rfl (by decide) (by decide) rfl) (qv (vg [vi (((gI (aA p) (i:Int)).1).1),vi (((gI (aA p) (i:Int)).1).2)]) (λw' hw'=>c6 (v:=v4) (i:=↑i) (q:=0) (ds:=[vi (((gI (aA p) (i:Int)).1).1),vi (((gI (aA p) (i:Int)).1).2)]) ah rfl (o5.flat.bel hw') (by omega) (by omega) rfl (by decide) rfl) (qz zs7 (qz zs9 (qx (λw' hw'=>ab (v:=v4) (i:=↑i) fI rfl rfl (o5.flat.bel hw') rfl (by omega) (by omega)) (qx (λw' hw'=>bj ig rfl rfl rfl (by decide) (by decide) rfl) ?_))))))
   refine qv (vg [vi (((gI (aA p) (i:Int)).2).1),vi (((gI (aA p) (i:Int)).2).2)]) (λw' hw'=>c6 (v:=v4) (i:=↑i) (q:=2) (ds:=[vi (((gI (aA p) (i:Int)).2).1),vi (((gI (aA p) (i:Int)).2).2)]) ah rfl (o5.flat.bel hw') (by omega) (by omega) rfl (by decide) rfl) (qz zs8 (qz zs10 ?_))
   replace o12:=o12.cn ch23
   refine qx (λw' hw'=>ab (v:=v11) (i:=↑k) fI rfl rfl (o12.flat.bel hw') rfl (by omega) (by omega)) (qx (λw' hw'=>bj ig rfl rfl rfl (by decide) (by decide) rfl) (qv (vg [vi (((gI (aA q) (k:Int)).1).1),vi (((gI (aA q) (k:Int)).1).2)]) (λw' hw'=>c6 (v:=v11) (i:=↑k) (q:=0) (ds:=[vi (((gI (aA q) (k:Int)).1).1),vi (((gI (aA q) (k:Int)).1).2)]) ah rfl (o12.flat.bel hw') (by omega) (by omega) rfl (by decide) rfl) (qz zs8 (qz zs10 (qx (λw' hw'=>ab (v:=v11) (i:=↑k) fI rfl rfl (o12.flat.bel hw') rfl (by omega) (by omega)) (qx (λw' hw'=>bj ig rfl rfl rfl (by decide) (by decide) rfl) ?_))))))
   refine qv (vg [vi (((gI (aA q) (k:Int)).2).1),vi (((gI (aA q) (k:Int)).2).2)]) (λw' hw'=>c6 (v:=v11) (i:=↑k) (q:=2) (ds:=[vi (((gI (aA q) (k:Int)).2).1),vi (((gI (aA q) (k:Int)).2).2)]) ah rfl (o12.flat.bel hw') (by omega) (by omega) rfl (by decide) rfl) ?_
   refine cb (v:=vi (bU ((gI (aA p) (i:Int)).1) ((gI (aA p) (i:Int)).2) ((gI (aA q) (k:Int)).1) ((gI (aA q) (k:Int)).2))) rfl (λw' hw'=>az (vals:=[vg [vi (((gI (aA p) (i:Int)).1).1),vi (((gI (aA p) (i:Int)).1).2)],vg [vi (((gI (aA p) (i:Int)).2).1),vi (((gI (aA p) (i:Int)).2).2)],vg [vi (((gI (aA q) (k:Int)).1).1),vi (((gI (aA q) (k:Int)).1).2)],vg [vi (((gI (aA q) (k:Int)).2).1),vi (((gI (aA q) (k:Int)).2).2)]]) Try.func42 pc po rfl) (λw' hw'=>(ll w' ((gI (aA p) (i:Int)).1) ((gI (aA p) (i:Int)).2) ((gI (aA q) (k:Int)).1) ((gI (aA q) (k:Int)).2) ‹_› ‹_› ‹_› ‹_›).mono λe w2 h2=>⟨h2.1,hw'.trans (h2.2.mono hw'.size)⟩) ?_
   refine qv (vi (bU ((gI (aA p) (i:Int)).1) ((gI (aA p) (i:Int)).2) ((gI (aA q) (k:Int)).1) ((gI (aA q) (k:Int)).2))) (λw' hw'=>bi rfl) (bM ?_)
   intro w25 hc26
   replace hc26:=aj hc26 g21
   refine a6 (a6 (a5 rfl (mi (bU ((gI (aA p) (i:Int)).1) ((gI (aA p) (i:Int)).2) ((gI (aA q) (k:Int)).1) ((gI (aA q) (k:Int)).2)) (lx (cu (m:=bU ((gI (aA p) (i:Int)).1) ((gI (aA p) (i:Int)).2) ((gI (aA q) (k:Int)).1) ((gI (aA q) (k:Int)).2)) (n:=3) rfl rfl) (a8 ?_)))))
   by_cases p9:(bU ((gI (aA p) (i:Int)).1) ((gI (aA p) (i:Int)).2) ((gI (aA q) (k:Int)).1) ((gI (aA q) (k:Int)).2))=3
   ·
    refine ae rfl (dt p9) (a6 ?_)
    clear o5 o12
    refine a5 rfl (ma (vb true) (a8 (av (vs:=[vb true]) Try.func44 (.tmp rfl .nil) ?_)))
    have e0:(true:Bool)=(decide (dH p q but)):=by
      exact lz (i:=i) (k:=k) ‹_› ‹_› (by exact xY (by rw[<-hrm];assumption))
    replace bH:=bH.cn ch23
    replace bH:=bH.cn hc26
    exact⟨rb e0,bH.below⟩
   refine af rfl (df p9) (am (a6 (a6 (a5 rfl (mi (bU ((gI (aA p) (i:Int)).1) ((gI (aA p) (i:Int)).2) ((gI (aA q) (k:Int)).1) ((gI (aA q) (k:Int)).2)) (lx (cu (m:=bU ((gI (aA p) (i:Int)).1) ((gI (aA p) (i:Int)).2) ((gI (aA q) (k:Int)).1) ((gI (aA q) (k:Int)).2)) (n:=0) rfl rfl) (a8 ?_)))))))
   by_cases p11:(bU ((gI (aA p) (i:Int)).1) ((gI (aA p) (i:Int)).2) ((gI (aA q) (k:Int)).1) ((gI (aA q) (k:Int)).2))=0
   ·
    refine ae rfl (dt p11) (aO rfl (a5 rfl (mz zs10 (lx (aQ (m:=↑k) (n:=1) rfl rfl (by omega)) (ai ((k:Int)+1) (a8 ?_))))))
    replace bH:=bH.cn ch23
    refine back6 (k+1,g21) _ _ ⟨bH.cn hc26,zs2,zs7,zs8,zs9,rfl,(Rp.cn ch23).cn hc26,(Rq.cn ch23).cn hc26,(Rbut.cn ch23).cn hc26,o5.cn hc26,o12.cn hc26,by omega,?_⟩ ?_
    · show∀j_:Nat,j_<(k+1)->¬kj but (gI (aA p) (i:Int)) (gI (aA q) (j_:Int))
      intro j hj
      by_cases e0:j=k
      · subst e0
        exact xT (by rw[<-hrm];assumption)
      · exact hrow j (by omega)
    · show Int.toNat (((List.length (aA q):Int):Int)-((k+1):Int))<Int.toNat (((List.length (aA q):Int):Int)-(k:Int))
      omega
   refine af rfl (df p11) (am (a6 (a6 (a5 rfl (mi (bU ((gI (aA p) (i:Int)).1) ((gI (aA p) (i:Int)).2) ((gI (aA q) (k:Int)).1) ((gI (aA q) (k:Int)).2)) (lx (cu (m:=bU ((gI (aA p) (i:Int)).1) ((gI (aA p) (i:Int)).2) ((gI (aA q) (k:Int)).1) ((gI (aA q) (k:Int)).2)) (n:=1) rfl rfl) (a8 ?_)))))))
   by_cases p12:(bU ((gI (aA p) (i:Int)).1) ((gI (aA p) (i:Int)).2) ((gI (aA q) (k:Int)).1) ((gI (aA q) (k:Int)).2))=1
   ·
    refine ae rfl (dt p12) (a6 (a5 rfl (ma (vb false) (a8 (a6 (a6 (a5 rfl (ai 0 (a8 (ao ?_))))))))))
    refine bf (σ:=Bool×Nat×aW) (λ⟨one,j,gq⟩ f w=>bo w0 gq w/\f 2=but_v/\f 7=v4/\f 8=v11/\f 9=vi ↑i/\f 10=vi ↑k/\f 12=vb one/\f 13=vi ↑j/\Sl gq (is 0) w p_v p/\Sl gq (is 0) w q_v q/\Sl gq (is 0) w but_v but/\Ow gq (is 1) (is 1) w v4 (aA p)/\Ow gq (is 2) (is 2) w v11 (aA q)/\(j:Int)<=((but.length:Int):Int)/\(one=gS (gI (aA p) (i:Int)) (gI (aA q) (k:Int)) but j/\j<=but.length)) (λ⟨one,j,gq⟩=>Int.toNat (((but.length:Int):Int)-(j:Int))) (false,0,g21) ?_ ?_
    replace bH:=bH.cn ch23
    · exact⟨bH.cn hc26,zs2,zs7,zs8,zs9,zs10,rfl,rfl,(Rp.cn ch23).cn hc26,(Rq.cn ch23).cn hc26,(Rbut.cn ch23).cn hc26,o5.cn hc26,o12.cn hc26,by omega,by exact⟨rfl,by omega⟩⟩
    clear Rp Rq Rbut o5 o12 bH
    rintro⟨one,j,g29⟩ f27 w28 ⟨bH,zs2,zs7,zs8,zs9,zs10,zs12,zs13,Rp,Rq,Rbut,o5,o12,hle_j,hone⟩ back15
    refine a6 (a6 (a5 rfl (mz zs13 (mz zs2 ?_))))
    have len30:=(Rbut).small
    refine lx (bE bZ rfl Rbut) (lx (b6 (m:=↑j) (n:=(but.length:Int)) rfl rfl) (a8 ?_))
    by_cases p15:(j:Int)<(but.length:Int)
    ·
     refine ae rfl (dt p15) ?_
     have hbx:=hbut _ (ba (xs:=but) (i:=↑j) (by omega) ‹_›)
     refine am (a6 (ao (bv g29 rfl iW (by kernel_rfl) ?_)))
     intro w32 ch31
     refine qz zs12 (qm (vb one) ?_)
     by_cases q66:one=true
     ·
      refine aq (wn q66) (aq (wn q66) (aq (wn q66) (aq (wn q66) (aq (wn q66) (aq (wn q66) (aq (wn q66) (aq (wn q66) (aq (wn q66) (aq (wn q66) ?_)))))))))
      refine aq (wn q66) (aq (wn q66) (aq (wn q66) (aq (wn q66) (aq (wn q66) (aq (wn q66) (aq (bg rfl rfl rfl) (aq (bg rfl rfl rfl) (aq (bg rfl rfl rfl) (aq (bg rfl rfl rfl) ?_)))))))))
      refine aq (bg rfl rfl rfl) (aq (bg rfl rfl rfl) (aq (bg rfl rfl rfl) (aq (bg rfl rfl rfl) (aq (bg rfl rfl rfl) (aq (bg rfl rfl rfl) (aq (bg rfl rfl rfl) (aq (bg rfl rfl rfl) (aq (bg rfl rfl rfl) (aq (bg rfl rfl rfl) ?_)))))))))
      refine aq (bg rfl rfl rfl) (aq (wn q66) (qv (vb true) (λw' hw'=>aD rfl q66 rfl) (qv (vb true) (λw' hw'=>bi rfl) (bM ?_))))
      intro w33 hc34
      replace hc34:=aj hc34 g29
      refine ak (a5 rfl (mz zs13 (lx (aQ (m:=↑j) (n:=1) rfl rfl (by omega)) (ai ((j:Int)+1) (a8 ?_)))))
      replace bH:=bH.cn ch31
      refine back15 (true,j+1,g29) _ _ ⟨bH.cn hc34,zs2,zs7,zs8,zs9,zs10,rfl,rfl,(Rp.cn ch31).cn hc34,(Rq.cn ch31).cn hc34,(Rbut.cn ch31).cn hc34,(o5.cn ch31).cn hc34,(o12.cn ch31).cn hc34,by omega,?_⟩ ?_
      · show true=gS (gI (aA p) (i:Int)) (gI (aA q) (k:Int)) but (j+1)/\(j+1)<=but.length
        refine⟨?_,by omega⟩
        exact wS hone.1 ‹_›
      · show Int.toNat (((but.length:Int):Int)-((j+1):Int))<Int.toNat (((but.length:Int):Int)-(j:Int))
        omega
     refine aR (v:=v4) (wy (Bool.eq_false_iff.2 q66)) (λw' hw'=>aw zs7) (aR (v:=vi ↑i) (wy (Bool.eq_false_iff.2 q66)) (λw' hw'=>aw zs9) ?_)
     replace o5:=o5.cn ch31
     refine aR (v:=Value.pointer (some (aU v4 4 (Int.toNat ↑i)))) (wy (Bool.eq_false_iff.2 q66)) (λw' hw'=>ab (α:=Pt×Pt) (xs:=aA p) (v:=v4) (i:=↑i) fI rfl rfl (o5.flat.bel hw') rfl (by omega) (by omega)) (aR (v:=Value.pointer (some ⟨(aU v4 4 (Int.toNat ↑i)).block,(aU v4 4 (Int.toNat ↑i)).off+0,none⟩)) (wy (Bool.eq_false_iff.2 q66)) (λw' hw'=>bj ig rfl rfl rfl (by decide) (by decide) rfl) ?_)
     refine aR (v:=vg [vi (((gI (aA p) (i:Int)).1).1),vi (((gI (aA p) (i:Int)).1).2)]) (wy (Bool.eq_false_iff.2 q66)) (λw' hw'=>c6 (α:=Pt×Pt) (xs:=aA p) (v:=v4) (i:=↑i) (q:=0) (ds:=[vi (((gI (aA p) (i:Int)).1).1),vi (((gI (aA p) (i:Int)).1).2)]) ah rfl (o5.flat.bel hw') (by omega) (by omega) rfl (by decide) rfl) (aR (v:=v4) (wy (Bool.eq_false_iff.2 q66)) (λw' hw'=>aw zs7) (aR (v:=vi ↑i) (wy (Bool.eq_false_iff.2 q66)) (λw' hw'=>aw zs9) ?_))
     refine aR (v:=Value.pointer (some (aU v4 4 (Int.toNat ↑i)))) (wy (Bool.eq_false_iff.2 q66)) (λw' hw'=>ab (α:=Pt×Pt) (xs:=aA p) (v:=v4) (i:=↑i) fI rfl rfl (o5.flat.bel hw') rfl (by omega) (by omega)) (aR (v:=Value.pointer (some ⟨(aU v4 4 (Int.toNat ↑i)).block,(aU v4 4 (Int.toNat ↑i)).off+2,none⟩)) (wy (Bool.eq_false_iff.2 q66)) (λw' hw'=>bj ig rfl rfl rfl (by decide) (by decide) rfl) ?_)
     refine aR (v:=vg [vi (((gI (aA p) (i:Int)).2).1),vi (((gI (aA p) (i:Int)).2).2)]) (wy (Bool.eq_false_iff.2 q66)) (λw' hw'=>c6 (α:=Pt×Pt) (xs:=aA p) (v:=v4) (i:=↑i) (q:=2) (ds:=[vi (((gI (aA p) (i:Int)).2).1),vi (((gI (aA p) (i:Int)).2).2)]) ah rfl (o5.flat.bel hw') (by omega) (by omega) rfl (by decide) rfl) (aR (v:=but_v) (wy (Bool.eq_false_iff.2 q66)) (λw' hw'=>aw zs2) (aR (v:=vi ↑j) (wy (Bool.eq_false_iff.2 q66)) (λw' hw'=>aw zs13) ?_))
     replace Rbut:=Rbut.cn ch31
     refine aR (v:=Value.pointer (some (aU but_v 2 (Int.toNat ↑j)))) (wy (Bool.eq_false_iff.2 q66)) (λw' hw'=>ab (α:=Pt) (xs:=but) (v:=but_v) (i:=↑j) bZ rfl rfl (Rbut.bel hw') rfl (by omega) (by omega)) (aR (v:=vg [vi ((gI but ↑j).1),vi ((gI but ↑j).2)]) (wy (Bool.eq_false_iff.2 q66)) (λw' hw'=>aM (α:=Pt) (xs:=but) (v:=but_v) (i:=↑j) ah rfl (Rbut.bel hw') (by omega) (by omega) rfl) ?_)
     refine cb (v:=vb (decide (cA ((gI (aA p) (i:Int)).1) ((gI (aA p) (i:Int)).2) (gI but ↑j)))) (wy (Bool.eq_false_iff.2 q66)) (λw' hw'=>az (vals:=[vg [vi (((gI (aA p) (i:Int)).1).1),vi (((gI (aA p) (i:Int)).1).2)],vg [vi (((gI (aA p) (i:Int)).2).1),vi (((gI (aA p) (i:Int)).2).2)],vg [vi ((gI but ↑j).1),vi ((gI but ↑j).2)]]) Try.func43 gj gp rfl) (λw' hw'=>(gc w' ((gI (aA p) (i:Int)).1) ((gI (aA p) (i:Int)).2) (gI but ↑j) ‹_› ‹_› ‹_›).mono λe w2 h2=>⟨h2.1,hw'.trans (h2.2.mono hw'.size)⟩) ?_
     refine aR (v:=vb (decide (cA ((gI (aA p) (i:Int)).1) ((gI (aA p) (i:Int)).2) (gI but ↑j)))) (wy (Bool.eq_false_iff.2 q66)) (λw' hw'=>aw rfl) ?_
     by_cases q82:(decide (cA ((gI (aA p) (i:Int)).1) ((gI (aA p) (i:Int)).2) (gI but ↑j)))=true
     ·
      refine aR (v:=v11) (wy q82) (λw' hw'=>aw zs8) (aR (v:=vi ↑k) (wy q82) (λw' hw'=>aw zs10) ?_)
      replace o12:=o12.cn ch31
      refine aR (v:=Value.pointer (some (aU v11 4 (Int.toNat ↑k)))) (wy q82) (λw' hw'=>ab (α:=Pt×Pt) (xs:=aA q) (v:=v11) (i:=↑k) fI rfl rfl (o12.flat.bel hw') rfl (by omega) (by omega)) (aR (v:=Value.pointer (some ⟨(aU v11 4 (Int.toNat ↑k)).block,(aU v11 4 (Int.toNat ↑k)).off+0,none⟩)) (wy q82) (λw' hw'=>bj ig rfl rfl rfl (by decide) (by decide) rfl) ?_)
      refine aR (v:=vg [vi (((gI (aA q) (k:Int)).1).1),vi (((gI (aA q) (k:Int)).1).2)]) (wy q82) (λw' hw'=>c6 (α:=Pt×Pt) (xs:=aA q) (v:=v11) (i:=↑k) (q:=0) (ds:=[vi (((gI (aA q) (k:Int)).1).1),vi (((gI (aA q) (k:Int)).1).2)]) ah rfl (o12.flat.bel hw') (by omega) (by omega) rfl (by decide) rfl) (aR (v:=v11) (wy q82) (λw' hw'=>aw zs8) (aR (v:=vi ↑k) (wy q82) (λw' hw'=>aw zs10) ?_))
      refine aR (v:=Value.pointer (some (aU v11 4 (Int.toNat ↑k)))) (wy q82) (λw' hw'=>ab (α:=Pt×Pt) (xs:=aA q) (v:=v11) (i:=↑k) fI rfl rfl (o12.flat.bel hw') rfl (by omega) (by omega)) (aR (v:=Value.pointer (some ⟨(aU v11 4 (Int.toNat ↑k)).block,(aU v11 4 (Int.toNat ↑k)).off+2,none⟩)) (wy q82) (λw' hw'=>bj ig rfl rfl rfl (by decide) (by decide) rfl) ?_)
      refine aR (v:=vg [vi (((gI (aA q) (k:Int)).2).1),vi (((gI (aA q) (k:Int)).2).2)]) (wy q82) (λw' hw'=>c6 (α:=Pt×Pt) (xs:=aA q) (v:=v11) (i:=↑k) (q:=2) (ds:=[vi (((gI (aA q) (k:Int)).2).1),vi (((gI (aA q) (k:Int)).2).2)]) ah rfl (o12.flat.bel hw') (by omega) (by omega) rfl (by decide) rfl) (aR (v:=but_v) (wy q82) (λw' hw'=>aw zs2) (aR (v:=vi ↑j) (wy q82) (λw' hw'=>aw zs13) ?_))
      refine aR (v:=Value.pointer (some (aU but_v 2 (Int.toNat ↑j)))) (wy q82) (λw' hw'=>ab (α:=Pt) (xs:=but) (v:=but_v) (i:=↑j) bZ rfl rfl (Rbut.bel hw') rfl (by omega) (by omega)) (aR (v:=vg [vi ((gI but ↑j).1),vi ((gI but ↑j).2)]) (wy q82) (λw' hw'=>aM (α:=Pt) (xs:=but) (v:=but_v) (i:=↑j) ah rfl (Rbut.bel hw') (by omega) (by omega) rfl) ?_)
      refine cb (v:=vb (decide (cA ((gI (aA q) (k:Int)).1) ((gI (aA q) (k:Int)).2) (gI but ↑j)))) (wy q82) (λw' hw'=>az (vals:=[vg [vi (((gI (aA q) (k:Int)).1).1),vi (((gI (aA q) (k:Int)).1).2)],vg [vi (((gI (aA q) (k:Int)).2).1),vi (((gI (aA q) (k:Int)).2).2)],vg [vi ((gI but ↑j).1),vi ((gI but ↑j).2)]]) Try.func43 gj gp rfl) (λw' hw'=>(gc w' ((gI (aA q) (k:Int)).1) ((gI (aA q) (k:Int)).2) (gI but ↑j) ‹_› ‹_› ‹_›).mono λe w2 h2=>⟨h2.1,hw'.trans (h2.2.mono hw'.size)⟩) ?_
      refine aR (v:=vb (decide (cA ((gI (aA q) (k:Int)).1) ((gI (aA q) (k:Int)).2) (gI but ↑j)))) (wy (Bool.eq_false_iff.2 q66)) (λw' hw'=>aD rfl q82 rfl) (qv (vb (decide (cA ((gI (aA q) (k:Int)).1) ((gI (aA q) (k:Int)).2) (gI but ↑j)))) (λw' hw'=>aB rfl (Bool.eq_false_iff.2 q66) rfl) (qv (vb (decide (cA ((gI (aA q) (k:Int)).1) ((gI (aA q) (k:Int)).2) (gI but ↑j)))) (λw' hw'=>bi rfl) (bM ?_)))
      intro w35 hc36
      replace hc36:=aj hc36 g29
      refine ak (a5 rfl (mz zs13 (lx (aQ (m:=↑j) (n:=1) rfl rfl (by omega)) (ai ((j:Int)+1) (a8 ?_)))))
      replace bH:=bH.cn ch31
      refine back15 ((decide (cA ((gI (aA q) (k:Int)).1) ((gI (aA q) (k:Int)).2) (gI but ↑j))),j+1,g29) _ _ ⟨bH.cn hc36,zs2,zs7,zs8,zs9,zs10,rfl,rfl,(Rp.cn ch31).cn hc36,(Rq.cn ch31).cn hc36,Rbut.cn hc36,o5.cn hc36,o12.cn hc36,by omega,?_⟩ ?_
      · show(decide (cA ((gI (aA q) (k:Int)).1) ((gI (aA q) (k:Int)).2) (gI but ↑j)))=gS (gI (aA p) (i:Int)) (gI (aA q) (k:Int)) but (j+1)/\(j+1)<=but.length
        refine⟨?_,by omega⟩
        exact wM hone.1 ‹_› ‹_›
      · show Int.toNat (((but.length:Int):Int)-((j+1):Int))<Int.toNat (((but.length:Int):Int)-(j:Int))
        omega
     refine aq (wn (Bool.eq_false_iff.2 q82)) (aq (wn (Bool.eq_false_iff.2 q82)) (aq (wn (Bool.eq_false_iff.2 q82)) (aq (wn (Bool.eq_false_iff.2 q82)) (aq (wn (Bool.eq_false_iff.2 q82)) (aq (wn (Bool.eq_false_iff.2 q82)) (aq (wn (Bool.eq_false_iff.2 q82)) (aq (wn (Bool.eq_false_iff.2 q82)) (aq (wn (Bool.eq_false_iff.2 q82)) (aq (wn (Bool.eq_false_iff.2 q82)) ?_)))))))))
     refine aq (wn (Bool.eq_false_iff.2 q82)) (aq (wn (Bool.eq_false_iff.2 q82)) (aq (wn (Bool.eq_false_iff.2 q82)) (aq (wn (Bool.eq_false_iff.2 q82)) (aq (wn (Bool.eq_false_iff.2 q82)) (aR (v:=vb false) (wy (Bool.eq_false_iff.2 q66)) (λw' hw'=>aB rfl (Bool.eq_false_iff.2 q82) rfl) (qv (vb false) (λw' hw'=>aB rfl (Bool.eq_false_iff.2 q66) rfl) (qv (vb false) (λw' hw'=>bi rfl) (bM ?_))))))))
     intro w37 hc38
     replace hc38:=aj hc38 g29
     refine ak (a5 rfl (mz zs13 (lx (aQ (m:=↑j) (n:=1) rfl rfl (by omega)) (ai ((j:Int)+1) (a8 ?_)))))
     replace bH:=bH.cn ch31
     refine back15 (false,j+1,g29) _ _ ⟨bH.cn hc38,zs2,zs7,zs8,zs9,zs10,rfl,rfl,(Rp.cn ch31).cn hc38,(Rq.cn ch31).cn hc38,Rbut.cn hc38,o5.cn hc38,(o12.cn ch31).cn hc38,by omega,?_⟩ ?_
     · show false=gS (gI (aA p) (i:Int)) (gI (aA q) (k:Int)) but (j+1)/\(j+1)<=but.length
       refine⟨?_,by omega⟩
       exact wE hone.1 ‹_› ‹_›
     · show Int.toNat (((but.length:Int):Int)-((j+1):Int))<Int.toNat (((but.length:Int):Int)-(j:Int))
       omega
    refine af rfl (df p15) (aO rfl (a6 (a6 (a5 rfl (mz zs12 (lx (cm (b:=one) rfl) (a8 ?_)))))))
    by_cases p18:one=true
    ·
     refine af rfl (congrArg Bool.not p18) (am (aO rfl (a5 rfl (mz zs10 (lx (aQ (m:=↑k) (n:=1) rfl rfl (by omega)) (ai ((k:Int)+1) (a8 ?_)))))))
     refine back6 (k+1,g29) _ _ ⟨bH,zs2,zs7,zs8,zs9,rfl,Rp,Rq,Rbut,o5,o12,by omega,?_⟩ ?_
     · show∀j_:Nat,j_<(k+1)->¬kj but (gI (aA p) (i:Int)) (gI (aA q) (j_:Int))
       intro j hj
       by_cases e0:j=k
       · subst e0
         exact xn (by rw[<-hrm];assumption) ‹_› hone.2 hone.1 ‹_›
       · exact hrow j (by omega)
     · show Int.toNat (((List.length (aA q):Int):Int)-((k+1):Int))<Int.toNat (((List.length (aA q):Int):Int)-(k:Int))
       omega
    refine ae rfl (congrArg Bool.not (Bool.eq_false_iff.2 p18)) (a6 ?_)
    clear o5 o12
    refine a5 rfl (ma (vb true) (a8 (av (vs:=[vb true]) Try.func44 (.tmp rfl .nil) ?_)))
    have e0:(true:Bool)=(decide (dH p q but)):=by
      exact lz (i:=i) (k:=k) ‹_› ‹_› (by exact xR (by rw[<-hrm];assumption) ‹_› hone.2 hone.1 ‹_›)
    exact⟨rb e0,bH.below⟩
   refine af rfl (df p12) (am (a6 (dc g21 [0,1,2,3,4,5,6,7,8,9,10,11,12,13,14,15,16,17,18,19,21] iW ?_)))
   intro w40 ch39
   refine xp (v:=v4) 0 rfl (λw=>aw zs7) (xp (v:=vi ↑i) 1 rfl (λw=>aw zs9) ?_)
   replace o5:=(o5.cn hc26).cn ch39
   refine xv 2 [1,0,5,6,10,11,15,16,7,12,17,8,13,18,9,14,19] rfl (ab (v:=v4) (i:=↑i) fI rfl rfl o5.flat rfl (by omega) (by omega)) (xv 3 [2,1,0,5,6,10,11,15,16,7,12,17,8,13,18,9,14,19] rfl (bj ig rfl rfl rfl (by decide) (by decide) rfl) (xv (v:=vg [vi (((gI (aA p) (i:Int)).1).1),vi (((gI (aA p) (i:Int)).1).2)]) 4 [3,2,1,0,5,6,10,11,15,16,7,12,17,8,13,18,9,14,19] rfl (c6 (v:=v4) (i:=↑i) (q:=0) (ds:=[vi (((gI (aA p) (i:Int)).1).1),vi (((gI (aA p) (i:Int)).1).2)]) ah rfl o5.flat (by omega) (by omega) rfl (by decide) rfl) (xp (v:=v4) 5 rfl (λw=>aw zs7) (xp (v:=vi ↑i) 6 rfl (λw=>aw zs9) ?_))))
   refine xv 7 [6,5,4,3,2,1,0,10,11,15,16,12,17,13,18,14,19] rfl (ab (v:=v4) (i:=↑i) fI rfl rfl o5.flat rfl (by omega) (by omega)) (xv 8 [7,6,5,4,3,2,1,0,10,11,15,16,12,17,13,18,14,19] rfl (bj ig rfl rfl rfl (by decide) (by decide) rfl) (xv (v:=vg [vi (((gI (aA p) (i:Int)).2).1),vi (((gI (aA p) (i:Int)).2).2)]) 9 [8,7,6,5,4,3,2,1,0,10,11,15,16,12,17,13,18,14,19] rfl (c6 (v:=v4) (i:=↑i) (q:=2) (ds:=[vi (((gI (aA p) (i:Int)).2).1),vi (((gI (aA p) (i:Int)).2).2)]) ah rfl o5.flat (by omega) (by omega) rfl (by decide) rfl) (xp (v:=v11) 10 rfl (λw=>aw zs8) (xp (v:=vi ↑k) 11 rfl (λw=>aw zs10) ?_))))
   replace o12:=(o12.cn hc26).cn ch39
   refine xv 12 [11,10,9,8,7,6,5,4,3,2,1,0,15,16,17,18,19] rfl (ab (v:=v11) (i:=↑k) fI rfl rfl o12.flat rfl (by omega) (by omega)) (xv 13 [12,11,10,9,8,7,6,5,4,3,2,1,0,15,16,17,18,19] rfl (bj ig rfl rfl rfl (by decide) (by decide) rfl) (xv (v:=vg [vi (((gI (aA q) (k:Int)).1).1),vi (((gI (aA q) (k:Int)).1).2)]) 14 [13,12,11,10,9,8,7,6,5,4,3,2,1,0,15,16,17,18,19] rfl (c6 (v:=v11) (i:=↑k) (q:=0) (ds:=[vi (((gI (aA q) (k:Int)).1).1),vi (((gI (aA q) (k:Int)).1).2)]) ah rfl o12.flat (by omega) (by omega) rfl (by decide) rfl) (xp (v:=v11) 15 rfl (λw=>aw zs8) (xp (v:=vi ↑k) 16 rfl (λw=>aw zs10) ?_))))
   refine xv 17 [16,15,14,13,12,11,10,9,8,7,6,5,4,3,2,1,0] rfl (ab (v:=v11) (i:=↑k) fI rfl rfl o12.flat rfl (by omega) (by omega)) (xv 18 [17,16,15,14,13,12,11,10,9,8,7,6,5,4,3,2,1,0] rfl (bj ig rfl rfl rfl (by decide) (by decide) rfl) (xv (v:=vg [vi (((gI (aA q) (k:Int)).2).1),vi (((gI (aA q) (k:Int)).2).2)]) 19 [18,17,16,15,14,13,12,11,10,9,8,7,6,5,4,3,2,1,0] rfl (c6 (v:=v11) (i:=↑k) (q:=2) (ds:=[vi (((gI (aA q) (k:Int)).2).1),vi (((gI (aA q) (k:Int)).2).2)]) ah rfl o12.flat (by omega) (by omega) rfl (by decide) rfl) (cf 20 rfl (by kernel_rfl) rfl ?_)))
   refine aC (α:=Pt) g21 (is 3) (is 3) (3,0) rfl ([((gI (aA p) (i:Int)).1),((gI (aA p) (i:Int)).2),((gI (aA q) (k:Int)).1),((gI (aA q) (k:Int)).2)]:List Pt) bZ ah (by decide) (by decide) (vs:=[(0,vg [vi (((gI (aA p) (i:Int)).1).1),vi (((gI (aA p) (i:Int)).1).2)]),(1,vg [vi (((gI (aA p) (i:Int)).2).1),vi (((gI (aA p) (i:Int)).2).2)]),(2,vg [vi (((gI (aA q) (k:Int)).1).1),vi (((gI (aA q) (k:Int)).1).2)]),(3,vg [vi (((gI (aA q) (k:Int)).2).1),vi (((gI (aA q) (k:Int)).2).2)])]) rfl rfl (.cons rfl (.cons rfl (.cons rfl (.cons rfl .nil)))) ?_
   intro g41 w42 v43 ch44 o45
   refine xp (v:=v43) 21 rfl (λw=>bi rfl) (eQ (by kernel_rfl) (a6 (a5 rfl (ai 0 (a8 (ao ?_))))))
   refine bf (σ:=Nat×aW) (λ⟨w_,gq⟩ f w=>bo w0 gq w/\f 2=but_v/\f 7=v4/\f 8=v11/\f 9=vi ↑i/\f 10=vi ↑k/\f 14=v43/\f 15=vi ↑w_/\Sl gq (is 0) w p_v p/\Sl gq (is 0) w q_v q/\Sl gq (is 0) w but_v but/\Ow gq (is 1) (is 1) w v4 (aA p)/\Ow gq (is 2) (is 2) w v11 (aA q)/\Ow gq (is 3) (is 3) w v43 ([((gI (aA p) (i:Int)).1),((gI (aA p) (i:Int)).2),((gI (aA q) (k:Int)).1),((gI (aA q) (k:Int)).2)]:List Pt)/\(w_:Int)<=(4:Int)/\(fC but (gI (aA p) (i:Int)) (gI (aA q) (k:Int)) w_)) (λ⟨w_,gq⟩=>4-w_) (0,g41) ?_ ?_
   have C46:=cg [] (ch23.n.seq (hc26.n.seq (ch39.n.seq ch44.n)))
   · exact⟨bH.ca C46,zs2,zs7,zs8,zs9,zs10,rfl,rfl,Rp.ca C46,Rq.ca C46,Rbut.ca C46,o5.cn ch44,o12.cn ch44,o45,by omega,by intro j hj;omega⟩
   clear Rp Rq Rbut o5 o12 o45 bH
   rintro⟨w_,g49⟩ f47 w48 ⟨bH,zs2,zs7,zs8,zs9,zs10,zs14,zs15,Rp,Rq,Rbut,o5,o12,o45,hle_w_,hge⟩ back22
   refine a6 (a6 (a5 rfl (mz zs15 (lx (b6 (m:=↑w_) (n:=4) rfl rfl) (a8 ?_)))))
   by_cases p22:(w_:Int)<4
   ·
    refine ae rfl (dt p22) ?_
    have hbe:=qh hsb1 hsb2 htb1 htb2 (i:=w_) ‹_›
    refine am (a6 (ao (a6 (bv g49 rfl iW (by kernel_rfl) ?_))))
    intro w51 ch50
    refine qz zs7 (qz zs9 ?_)
    replace o5:=o5.cn ch50
    refine qx (λw' hw'=>ab (v:=v4) (i:=↑i) fI rfl rfl (o5.flat.bel hw') rfl (by omega) (by omega)) (qx (λw' hw'=>bj ig rfl rfl rfl (by decide) (by decide) rfl) (qv (vg [vi (((gI (aA p) (i:Int)).1).1),vi (((gI (aA p) (i:Int)).1).2)]) (λw' hw'=>c6 (v:=v4) (i:=↑i) (q:=0) (ds:=[vi (((gI (aA p) (i:Int)).1).1),vi (((gI (aA p) (i:Int)).1).2)]) ah rfl (o5.flat.bel hw') (by omega) (by omega) rfl (by decide) rfl) (qz zs7 (qz zs9 (qx (λw' hw'=>ab (v:=v4) (i:=↑i) fI rfl rfl (o5.flat.bel hw') rfl (by omega) (by omega)) (qx (λw' hw'=>bj ig rfl rfl rfl (by decide) (by decide) rfl) ?_))))))
    refine qv (vg [vi (((gI (aA p) (i:Int)).2).1),vi (((gI (aA p) (i:Int)).2).2)]) (λw' hw'=>c6 (v:=v4) (i:=↑i) (q:=2) (ds:=[vi (((gI (aA p) (i:Int)).2).1),vi (((gI (aA p) (i:Int)).2).2)]) ah rfl (o5.flat.bel hw') (by omega) (by omega) rfl (by decide) rfl) (qz zs14 (qz zs15 ?_))
    replace o45:=o45.cn ch50
    refine qx (λw' hw'=>ab (v:=v43) (i:=↑w_) bZ rfl rfl (o45.flat.bel hw') rfl (by omega) (by omega)) (qv (vg [vi ((gI ([((gI (aA p) (i:Int)).1),((gI (aA p) (i:Int)).2),((gI (aA q) (k:Int)).1),((gI (aA q) (k:Int)).2)]:List Pt) (w_:Int)).1),vi ((gI ([((gI (aA p) (i:Int)).1),((gI (aA p) (i:Int)).2),((gI (aA q) (k:Int)).1),((gI (aA q) (k:Int)).2)]:List Pt) (w_:Int)).2)]) (λw' hw'=>aM (v:=v43) (i:=↑w_) ah rfl (o45.flat.bel hw') (by omega) (by omega) rfl) ?_)
    refine cb (v:=vb (decide (cA ((gI (aA p) (i:Int)).1) ((gI (aA p) (i:Int)).2) (gI ([((gI (aA p) (i:Int)).1),((gI (aA p) (i:Int)).2),((gI (aA q) (k:Int)).1),((gI (aA q) (k:Int)).2)]:List Pt) (w_:Int))))) rfl (λw' hw'=>az (vals:=[vg [vi (((gI (aA p) (i:Int)).1).1),vi (((gI (aA p) (i:Int)).1).2)],vg [vi (((gI (aA p) (i:Int)).2).1),vi (((gI (aA p) (i:Int)).2).2)],vg [vi ((gI ([((gI (aA p) (i:Int)).1),((gI (aA p) (i:Int)).2),((gI (aA q) (k:Int)).1),((gI (aA q) (k:Int)).2)]:List Pt) (w_:Int)).1),vi ((gI ([((gI (aA p) (i:Int)).1),((gI (aA p) (i:Int)).2),((gI (aA q) (k:Int)).1),((gI (aA q) (k:Int)).2)]:List Pt) (w_:Int)).2)]]) Try.func43 gj gp rfl) (λw' hw'=>(gc w' ((gI (aA p) (i:Int)).1) ((gI (aA p) (i:Int)).2) (gI ([((gI (aA p) (i:Int)).1),((gI (aA p) (i:Int)).2),((gI (aA q) (k:Int)).1),((gI (aA q) (k:Int)).2)]:List Pt) (w_:Int)) ‹_› ‹_› ‹_›).mono λe w2 h2=>⟨h2.1,hw'.trans (h2.2.mono hw'.size)⟩) ?_
    refine qm (vb (decide (cA ((gI (aA p) (i:Int)).1) ((gI (aA p) (i:Int)).2) (gI ([((gI (aA p) (i:Int)).1),((gI (aA p) (i:Int)).2),((gI (aA q) (k:Int)).1),((gI (aA q) (k:Int)).2)]:List Pt) (w_:Int))))) ?_
    by_cases q142:(decide (cA ((gI (aA p) (i:Int)).1) ((gI (aA p) (i:Int)).2) (gI ([((gI (aA p) (i:Int)).1),((gI (aA p) (i:Int)).2),((gI (aA q) (k:Int)).1),((gI (aA q) (k:Int)).2)]:List Pt) (w_:Int))))=true
    ·
     refine aR (v:=v11) (wy q142) (λw' hw'=>aw zs8) (aR (v:=vi ↑k) (wy q142) (λw' hw'=>aw zs10) ?_)
     replace o12:=o12.cn ch50
     refine aR (v:=Value.pointer (some (aU v11 4 (Int.toNat ↑k)))) (wy q142) (λw' hw'=>ab (α:=Pt×Pt) (xs:=aA q) (v:=v11) (i:=↑k) fI rfl rfl (o12.flat.bel hw') rfl (by omega) (by omega)) (aR (v:=Value.pointer (some ⟨(aU v11 4 (Int.toNat ↑k)).block,(aU v11 4 (Int.toNat ↑k)).off+0,none⟩)) (wy q142) (λw' hw'=>bj ig rfl rfl rfl (by decide) (by decide) rfl) ?_)
     refine aR (v:=vg [vi (((gI (aA q) (k:Int)).1).1),vi (((gI (aA q) (k:Int)).1).2)]) (wy q142) (λw' hw'=>c6 (α:=Pt×Pt) (xs:=aA q) (v:=v11) (i:=↑k) (q:=0) (ds:=[vi (((gI (aA q) (k:Int)).1).1),vi (((gI (aA q) (k:Int)).1).2)]) ah rfl (o12.flat.bel hw') (by omega) (by omega) rfl (by decide) rfl) (aR (v:=v11) (wy q142) (λw' hw'=>aw zs8) (aR (v:=vi ↑k) (wy q142) (λw' hw'=>aw zs10) ?_))
     refine aR (v:=Value.pointer (some (aU v11 4 (Int.toNat ↑k)))) (wy q142) (λw' hw'=>ab (α:=Pt×Pt) (xs:=aA q) (v:=v11) (i:=↑k) fI rfl rfl (o12.flat.bel hw') rfl (by omega) (by omega)) (aR (v:=Value.pointer (some ⟨(aU v11 4 (Int.toNat ↑k)).block,(aU v11 4 (Int.toNat ↑k)).off+2,none⟩)) (wy q142) (λw' hw'=>bj ig rfl rfl rfl (by decide) (by decide) rfl) ?_)
     refine aR (v:=vg [vi (((gI (aA q) (k:Int)).2).1),vi (((gI (aA q) (k:Int)).2).2)]) (wy q142) (λw' hw'=>c6 (α:=Pt×Pt) (xs:=aA q) (v:=v11) (i:=↑k) (q:=2) (ds:=[vi (((gI (aA q) (k:Int)).2).1),vi (((gI (aA q) (k:Int)).2).2)]) ah rfl (o12.flat.bel hw') (by omega) (by omega) rfl (by decide) rfl) (aR (v:=v43) (wy q142) (λw' hw'=>aw zs14) (aR (v:=vi ↑w_) (wy q142) (λw' hw'=>aw zs15) ?_))
     refine aR (v:=Value.pointer (some (aU v43 2 (Int.toNat ↑w_)))) (wy q142) (λw' hw'=>ab (α:=Pt) (xs:=([((gI (aA p) (i:Int)).1),((gI (aA p) (i:Int)).2),((gI (aA q) (k:Int)).1),((gI (aA q) (k:Int)).2)]:List Pt)) (v:=v43) (i:=↑w_) bZ rfl rfl (o45.flat.bel hw') rfl (by omega) (by omega)) ?_
     refine aR (v:=vg [vi ((gI ([((gI (aA p) (i:Int)).1),((gI (aA p) (i:Int)).2),((gI (aA q) (k:Int)).1),((gI (aA q) (k:Int)).2)]:List Pt) (w_:Int)).1),vi ((gI ([((gI (aA p) (i:Int)).1),((gI (aA p) (i:Int)).2),((gI (aA q) (k:Int)).1),((gI (aA q) (k:Int)).2)]:List Pt) (w_:Int)).2)]) (wy q142) (λw' hw'=>aM (α:=Pt) (xs:=([((gI (aA p) (i:Int)).1),((gI (aA p) (i:Int)).2),((gI (aA q) (k:Int)).1),((gI (aA q) (k:Int)).2)]:List Pt)) (v:=v43) (i:=↑w_) ah rfl (o45.flat.bel hw') (by omega) (by omega) rfl) ?_
     refine cb (v:=vb (decide (cA ((gI (aA q) (k:Int)).1) ((gI (aA q) (k:Int)).2) (gI ([((gI (aA p) (i:Int)).1),((gI (aA p) (i:Int)).2),((gI (aA q) (k:Int)).1),((gI (aA q) (k:Int)).2)]:List Pt) (w_:Int))))) (wy q142) (λw' hw'=>az (vals:=[vg [vi (((gI (aA q) (k:Int)).1).1),vi (((gI (aA q) (k:Int)).1).2)],vg [vi (((gI (aA q) (k:Int)).2).1),vi (((gI (aA q) (k:Int)).2).2)],vg [vi ((gI ([((gI (aA p) (i:Int)).1),((gI (aA p) (i:Int)).2),((gI (aA q) (k:Int)).1),((gI (aA q) (k:Int)).2)]:List Pt) (w_:Int)).1),vi ((gI ([((gI (aA p) (i:Int)).1),((gI (aA p) (i:Int)).2),((gI (aA q) (k:Int)).1),((gI (aA q) (k:Int)).2)]:List Pt) (w_:Int)).2)]]) Try.func43 gj gp rfl) (λw' hw'=>(gc w' ((gI (aA q) (k:Int)).1) ((gI (aA q) (k:Int)).2) (gI ([((gI (aA p) (i:Int)).1),((gI (aA p) (i:Int)).2),((gI (aA q) (k:Int)).1),((gI (aA q) (k:Int)).2)]:List Pt) (w_:Int)) ‹_› ‹_› ‹_›).mono λe w2 h2=>⟨h2.1,hw'.trans (h2.2.mono hw'.size)⟩) ?_
     refine qv (vb (decide (cA ((gI (aA q) (k:Int)).1) ((gI (aA q) (k:Int)).2) (gI ([((gI (aA p) (i:Int)).1),((gI (aA p) (i:Int)).2),((gI (aA q) (k:Int)).1),((gI (aA q) (k:Int)).2)]:List Pt) (w_:Int))))) (λw' hw'=>aD rfl q142 rfl) (qm (vb (decide (cA ((gI (aA q) (k:Int)).1) ((gI (aA q) (k:Int)).2) (gI ([((gI (aA p) (i:Int)).1),((gI (aA p) (i:Int)).2),((gI (aA q) (k:Int)).1),((gI (aA q) (k:Int)).2)]:List Pt) (w_:Int))))) ?_)
     by_cases q159:(decide (cA ((gI (aA q) (k:Int)).1) ((gI (aA q) (k:Int)).2) (gI ([((gI (aA p) (i:Int)).1),((gI (aA p) (i:Int)).2),((gI (aA q) (k:Int)).1),((gI (aA q) (k:Int)).2)]:List Pt) (w_:Int))))=true
     ·
      refine aR (v:=but_v) (wy q159) (λw' hw'=>aw zs2) (aR (v:=v43) (wy q159) (λw' hw'=>aw zs14) (aR (v:=vi ↑w_) (wy q159) (λw' hw'=>aw zs15) (aR (v:=Value.pointer (some (aU v43 2 (Int.toNat ↑w_)))) (wy q159) (λw' hw'=>ab (α:=Pt) (xs:=([((gI (aA p) (i:Int)).1),((gI (aA p) (i:Int)).2),((gI (aA q) (k:Int)).1),((gI (aA q) (k:Int)).2)]:List Pt)) (v:=v43) (i:=↑w_) bZ rfl rfl (o45.flat.bel hw') rfl (by omega) (by omega)) ?_)))
      refine aR (v:=vg [vi ((gI ([((gI (aA p) (i:Int)).1),((gI (aA p) (i:Int)).2),((gI (aA q) (k:Int)).1),((gI (aA q) (k:Int)).2)]:List Pt) (w_:Int)).1),vi ((gI ([((gI (aA p) (i:Int)).1),((gI (aA p) (i:Int)).2),((gI (aA q) (k:Int)).1),((gI (aA q) (k:Int)).2)]:List Pt) (w_:Int)).2)]) (wy q159) (λw' hw'=>aM (α:=Pt) (xs:=([((gI (aA p) (i:Int)).1),((gI (aA p) (i:Int)).2),((gI (aA q) (k:Int)).1),((gI (aA q) (k:Int)).2)]:List Pt)) (v:=v43) (i:=↑w_) ah rfl (o45.flat.bel hw') (by omega) (by omega) rfl) ?_
      replace Rbut:=Rbut.cn ch50
      refine cb (v:=vb (decide ((gI ([((gI (aA p) (i:Int)).1),((gI (aA p) (i:Int)).2),((gI (aA q) (k:Int)).1),((gI (aA q) (k:Int)).2)]:List Pt) (w_:Int))∈but))) (wy q159) (λw' hw'=>az (vals:=[but_v,vg [vi ((gI ([((gI (aA p) (i:Int)).1),((gI (aA p) (i:Int)).2),((gI (aA q) (k:Int)).1),((gI (aA q) (k:Int)).2)]:List Pt) (w_:Int)).1),vi ((gI ([((gI (aA p) (i:Int)).1),((gI (aA p) (i:Int)).2),((gI (aA q) (k:Int)).1),((gI (aA q) (k:Int)).2)]:List Pt) (w_:Int)).2)]]) Try.func56 sS uA rfl) (λw' hw'=>(vB w' but but_v ((Rbut.bel hw')).ro (gI ([((gI (aA p) (i:Int)).1),((gI (aA p) (i:Int)).2),((gI (aA q) (k:Int)).1),((gI (aA q) (k:Int)).2)]:List Pt) (w_:Int))).mono λe w2 h2=>⟨h2.1,hw'.trans (h2.2.mono hw'.size)⟩) ?_
      refine aR (v:=vb (!(decide ((gI ([((gI (aA p) (i:Int)).1),((gI (aA p) (i:Int)).2),((gI (aA q) (k:Int)).1),((gI (aA q) (k:Int)).2)]:List Pt) (w_:Int))∈but)))) (wy q159) (λw' hw'=>cm (b:=(decide ((gI ([((gI (aA p) (i:Int)).1),((gI (aA p) (i:Int)).2),((gI (aA q) (k:Int)).1),((gI (aA q) (k:Int)).2)]:List Pt) (w_:Int))∈but))) rfl) (qv (vb (!(decide ((gI ([((gI (aA p) (i:Int)).1),((gI (aA p) (i:Int)).2),((gI (aA q) (k:Int)).1),((gI (aA q) (k:Int)).2)]:List Pt) (w_:Int))∈but)))) (λw' hw'=>aD rfl q159 rfl) (bM ?_))
      intro w52 hc53
      replace hc53:=aj hc53 g49
      by_cases p24:(decide ((gI ([((gI (aA p) (i:Int)).1),((gI (aA p) (i:Int)).2),((gI (aA q) (k:Int)).1),((gI (aA q) (k:Int)).2)]:List Pt) (w_:Int))∈but))=true
      ·
       refine af rfl (congrArg Bool.not p24) (am (ak (a5 rfl (mz zs15 (lx (aQ (m:=↑w_) (n:=1) rfl rfl (by omega)) (ai ((w_:Int)+1) (a8 ?_)))))))
       replace bH:=bH.cn ch50
       refine back22 (w_+1,g49) _ _ ⟨bH.cn hc53,zs2,zs7,zs8,zs9,zs10,zs14,rfl,(Rp.cn ch50).cn hc53,(Rq.cn ch50).cn hc53,Rbut.cn hc53,o5.cn hc53,o12.cn hc53,o45.cn hc53,by omega,?_⟩ ?_
       · show fC but (gI (aA p) (i:Int)) (gI (aA q) (k:Int)) (w_+1)
         exact hge.c ‹_›
       · show 4-(w_+1)<4-w_
         omega
      refine ae rfl (congrArg Bool.not (Bool.eq_false_iff.2 p24)) (a6 ?_)
      clear o5 o12 o45
      refine a5 rfl (ma (vb true) (a8 (av (vs:=[vb true]) Try.func44 (.tmp rfl .nil) ?_)))
      have e0:(true:Bool)=(decide (dH p q but)):=by
        exact lz (i:=i) (k:=k) ‹_› ‹_› (by exact xU (by rw[<-hrm];assumption) (by rw[<-hrm];assumption) ‹_› ‹_› ‹_› ‹_›)
      replace bH:=bH.cn ch50
      replace bH:=bH.cn hc53
      exact⟨rb e0,bH.below⟩
     refine aq (wn (Bool.eq_false_iff.2 q159)) (aq (wn (Bool.eq_false_iff.2 q159)) (aq (wn (Bool.eq_false_iff.2 q159)) (aq (wn (Bool.eq_false_iff.2 q159)) (aq (wn (Bool.eq_false_iff.2 q159)) (aq (wn (Bool.eq_false_iff.2 q159)) (aq (wn (Bool.eq_false_iff.2 q159)) (qv (vb false) (λw' hw'=>aB rfl (Bool.eq_false_iff.2 q159) rfl) (bM ?_))))))))
     intro w54 hc55
     replace hc55:=aj hc55 g49
     refine af rfl rfl (am (ak (a5 rfl (mz zs15 (lx (aQ (m:=↑w_) (n:=1) rfl rfl (by omega)) (ai ((w_:Int)+1) (a8 ?_)))))))
     replace bH:=bH.cn ch50
     refine back22 (w_+1,g49) _ _ ⟨bH.cn hc55,zs2,zs7,zs8,zs9,zs10,zs14,rfl,(Rp.cn ch50).cn hc55,(Rq.cn ch50).cn hc55,(Rbut.cn ch50).cn hc55,o5.cn hc55,o12.cn hc55,o45.cn hc55,by omega,?_⟩ ?_
     · show fC but (gI (aA p) (i:Int)) (gI (aA q) (k:Int)) (w_+1)
       exact hge.b ‹_›
     · show 4-(w_+1)<4-w_
       omega
    refine aq (wn (Bool.eq_false_iff.2 q142)) (aq (wn (Bool.eq_false_iff.2 q142)) (aq (wn (Bool.eq_false_iff.2 q142)) (aq (wn (Bool.eq_false_iff.2 q142)) (aq (wn (Bool.eq_false_iff.2 q142)) (aq (wn (Bool.eq_false_iff.2 q142)) (aq (wn (Bool.eq_false_iff.2 q142)) (aq (wn (Bool.eq_false_iff.2 q142)) (aq (wn (Bool.eq_false_iff.2 q142)) (aq (wn (Bool.eq_false_iff.2 q142)) ?_)))))))))
    refine aq (wn (Bool.eq_false_iff.2 q142)) (aq (wn (Bool.eq_false_iff.2 q142)) (aq (wn (Bool.eq_false_iff.2 q142)) (aq (wn (Bool.eq_false_iff.2 q142)) (aq (wn (Bool.eq_false_iff.2 q142)) (qv (vb false) (λw' hw'=>aB rfl (Bool.eq_false_iff.2 q142) rfl) (qm (vb false) (aq (wn rfl) (aq (wn rfl) (aq (wn rfl) ?_)))))))))
    refine aq (wn rfl) (aq (wn rfl) (aq (wn rfl) (aq (wn rfl) (qv (vb false) (λw' hw'=>aB rfl rfl rfl) (bM ?_)))))
    intro w56 hc57
    replace hc57:=aj hc57 g49
    refine af rfl rfl (am (ak (a5 rfl (mz zs15 (lx (aQ (m:=↑w_) (n:=1) rfl rfl (by omega)) (ai ((w_:Int)+1) (a8 ?_)))))))
    replace bH:=bH.cn ch50
    refine back22 (w_+1,g49) _ _ ⟨bH.cn hc57,zs2,zs7,zs8,zs9,zs10,zs14,rfl,(Rp.cn ch50).cn hc57,(Rq.cn ch50).cn hc57,(Rbut.cn ch50).cn hc57,o5.cn hc57,(o12.cn ch50).cn hc57,o45.cn hc57,by omega,?_⟩ ?_
    · show fC but (gI (aA p) (i:Int)) (gI (aA q) (k:Int)) (w_+1)
      exact hge.a ‹_›
    · show 4-(w_+1)<4-w_
      omega
   refine af rfl (df p22) (aO rfl (ak ?_))
   clear o45
   refine a5 rfl (mz zs10 (lx (aQ (m:=↑k) (n:=1) rfl rfl (by omega)) (ai ((k:Int)+1) (a8 ?_))))
   refine back6 (k+1,g49) _ _ ⟨bH,zs2,zs7,zs8,zs9,rfl,Rp,Rq,Rbut,o5,o12,by omega,?_⟩ ?_
   · show∀j_:Nat,j_<(k+1)->¬kj but (gI (aA p) (i:Int)) (gI (aA q) (j_:Int))
     intro j hj
     by_cases e0:j=k
     · subst e0
       exact xt (by rw[<-hrm];assumption) (by rw[<-hrm];assumption) (by omega) hge
     · exact hrow j (by omega)
   · show Int.toNat (((List.length (aA q):Int):Int)-((k+1):Int))<Int.toNat (((List.length (aA q):Int):Int)-(k:Int))
     omega
  refine af rfl (df p6) (aO rfl (ak (a5 rfl (mz zs9 (lx (aQ (m:=↑i) (n:=1) rfl rfl (by omega)) (ai ((i:Int)+1) (a8 ?_)))))))
  refine back3 (i+1,g21) _ _ ⟨bH,zs2,zs7,zs8,rfl,Rp,Rq,Rbut,o5,o12,by omega,?_⟩ ?_
  · show∀j_:Nat,j_<(i+1)->∀t_∈aA q,¬kj but (gI (aA p) (j_:Int)) t_
    intro j hj
    by_cases e0:j=i
    · subst e0;exact tJ hrow ‹_›
    · exact hinv j (by omega)
  · show Int.toNat (((List.length (aA p):Int):Int)-((i+1):Int))<Int.toNat (((List.length (aA p):Int):Int)-(i:Int))
    omega
 refine af rfl (df p3) (aO rfl (a6 ?_))
 clear o5 o12
 refine a5 rfl (ma (vb false) (a8 (av (vs:=[vb false]) Try.func44 (.tmp rfl .nil) ?_)))
 have e0:(false:Bool)=(decide (dH p q but)):=by
   exact vY hinv ‹_›
 exact⟨rb e0,bH.below⟩
end TL
