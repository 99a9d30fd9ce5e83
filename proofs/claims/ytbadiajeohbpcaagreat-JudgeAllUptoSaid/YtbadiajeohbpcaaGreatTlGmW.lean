import Derived.Test.YtbadiajeohbpcaaGreatTlP3
import Derived.Test.YtbadiajeohbpcaaGreatTlGmA
import Derived.Test.YtbadiajeohbpcaaGreatTlGmN
import Derived.Test.YtbadiajeohbpcaaGreatTlGmV
import Derived.Test.YtbadiajeohbpcaaGreatProg
import Derived.Test.YtbadiajeohbpcaaGreatTlAli
set_option linter.all false
set_option maxRecDepth 20000
namespace TL
open Go Go.Proofs
theorem kg:Tryz.prog.follows .mixedOrders=true:=by kernel_rfl
theorem r3:Tryz.f96.body.isNone=false:=rfl
theorem rE:(Tryz.f96.name== "runtime.NumGoroutine")=false:=by decide+kernel
theorem ya:Tryz.f97.body.isNone=false:=rfl
theorem yf:(Tryz.f97.name== "runtime.NumGoroutine")=false:=by decide+kernel
set_option maxHeartbeats 8000000 in
theorem fZ(w0:World)(p:List Pt)(p_v:Value)(hp_v:Ro w0 p_v p)(q:List Pt)(q_v:Value)(hq_v:Ro w0 q_v q)(but:List Pt)(but_v:Value)(hbut_v:Ro w0 but_v but)(hp:dy p)(hq:dy q)(hp0:0<p.length)(hq0:0<q.length)(hbut:∀x∈but,dH x)(hbl:but.length<=1000000):
    Calls Tryz.prog 81 #[p_v,q_v,but_v] w0 (λee w=>ee= .returned (vb (decide (eG p q but)))/\cE w0.heap.size w0 w):=by
 refine au Tryz.func81 rfl nq ?_
 have bH:=aT.start w0
 have Rp:=hp_v.sl
 have Rq:=hq_v.sl
 have Rbut:=hbut_v.sl
 have hlp1:=hp.1
 have hlq1:=hq.1
 have hsp:=oc (p:=p) hp0
 have hsq:=oc (p:=q) hq0
 refine a7 (a6 rfl (ma (vb false) (aa (a7 (a6 rfl (mv p_v (lo (bi (aA (vals:=[p_v]) Tryz.func96 r3 rE rfl) (ji w0 p p_v (Rp).ro (by omega) (by omega)) ?_))))))))
 rintro⟨d2,v4⟩ w1 ⟨fr3,o5⟩
 obtain⟨g6,ch7,G6⟩:=fC c0 fr3 (λn=>if n=1 then 1 else 0)
 replace o5:=o5.gl G6 1
 refine mv q_v ?_
 replace Rq:=Rq.cn ch7
 refine lo (bi (aA (vals:=[q_v]) Tryz.func96 r3 rE rfl) (ji w1 q q_v (Rq).ro (by omega) (by omega)) ?_)
 rintro⟨d9,v11⟩ w8 ⟨fr10,o12⟩
 obtain⟨g13,ch14,G13⟩:=fC g6 fr10 (λn=>if n=1 then 2 else 0)
 replace o12:=o12.gl G13 2
 refine ma v4 (ma v11 (aa (a7 (a7 (a6 rfl (ai 0 (aa (am ?_))))))))
 refine aN (σ:=Nat×aK) (λ⟨i,gq⟩ f w=>aT w0 gq w/\f 2=but_v/\f 7=v4/\f 8=v11/\f 9=vi ↑i/\Sl gq (is 0) w p_v p/\Sl gq (is 0) w q_v q/\Sl gq (is 0) w but_v but/\Ow gq (is 1) (is 1) w v4 (aE p)/\Ow gq (is 2) (is 2) w v11 (aE q)/\(i:Int)<=((List.length (aE p):Int):Int)/\(∀j_:Nat,j_<i->∀t_∈aE q,¬lI but (gI (aE p) (j_:Int)) t_)) (λ⟨i,gq⟩=>Int.toNat (((List.length (aE p):Int):Int)-(i:Int))) (0,g13) ?_ ?_
 replace bH:=bH.cn ch7
 · exact⟨bH.cn ch14,rfl,rfl,rfl,rfl,(Rp.cn ch7).cn ch14,Rq.cn ch14,(Rbut.cn ch7).cn ch14,o5.cn ch14,o12,by omega,by intro j hj;omega⟩
 clear Rp Rq Rbut o5 o12 bH
 rintro⟨i,g17⟩ f15 w16 ⟨bH,zs2,zs7,zs8,zs9,Rp,Rq,Rbut,o5,o12,hle_i,hinv⟩ back3
 refine a7 (a7 (a6 rfl (mz zs9 (mz zs7 ?_))))
 have len18:=(o5.flat).small
 refine lx (aQ gK rfl o5.flat) (lx (aZ (m:=↑i) (n:=(List.length (aE p):Int)) rfl rfl) (aa ?_))
 by_cases p3:(i:Int)<(List.length (aE p):Int)
 ·
  refine af rfl (dt p3) ?_
  obtain⟨hsb1,hsb2⟩:=ua (p:=p) (i:=i) hp hp0 ‹_›
  refine ak (a7 (am (a7 (a6 rfl (ai 0 (aa (am ?_)))))))
  refine aN (σ:=Nat×aK) (λ⟨k,gq⟩ f w=>aT w0 gq w/\f 2=but_v/\f 7=v4/\f 8=v11/\f 9=vi ↑i/\f 10=vi ↑k/\Sl gq (is 0) w p_v p/\Sl gq (is 0) w q_v q/\Sl gq (is 0) w but_v but/\Ow gq (is 1) (is 1) w v4 (aE p)/\Ow gq (is 2) (is 2) w v11 (aE q)/\(k:Int)<=((List.length (aE q):Int):Int)/\(∀j_:Nat,j_<k->¬lI but (gI (aE p) (i:Int)) (gI (aE q) (j_:Int)))) (λ⟨k,gq⟩=>Int.toNat (((List.length (aE q):Int):Int)-(k:Int))) (0,g17) ?_ ?_
  · exact⟨bH,zs2,zs7,zs8,zs9,rfl,Rp,Rq,Rbut,o5,o12,by omega,by intro j hj;omega⟩
  clear Rp Rq Rbut o5 o12 bH
  rintro⟨k,g21⟩ f19 w20 ⟨bH,zs2,zs7,zs8,zs9,zs10,Rp,Rq,Rbut,o5,o12,hle_k,hrow⟩ back6
  refine a7 (a7 (a6 rfl (mz zs10 (mz zs8 ?_))))
  have len22:=(o12.flat).small
  refine lx (aQ gK rfl o12.flat) (lx (aZ (m:=↑k) (n:=(List.length (aE q):Int)) rfl rfl) (aa ?_))
  by_cases p6:(k:Int)<(List.length (aE q):Int)
  ·
   refine af rfl (dt p6) ?_
   obtain⟨htb1,htb2⟩:=ua (p:=q) (i:=k) hq hq0 ‹_›
   have hrm:=pD hsb1 hsb2 htb1 htb2
   refine ak (a7 (am (a7 (bz g21 rfl kg (by kernel_rfl) ?_))))
   intro w24 ch23
   refine qz zs7 (qz zs9 ?_)
   replace o5:=o5.cn ch23
   refine qx (λw' hw'=>ad (v:=v4) (i:=↑i) gK rfl rfl (o5.flat.bel hw') rfl (by omega) (by omega)) (qx (λw' hw'=>b5 jg rfl rfl rfl (by decide) (by decide) rfl) (qv (vg [vi (((gI (aE p) (i:Int)).1).1),vi (((gI (aE p) (i:Int)).1).2)]) (λw' hw'=>ck (v:=v4) (i:=↑i) (q:=0) (ds:=[vi (((gI (aE p) (i:Int)).1).1),vi (((gI (aE p) (i:Int)).1).2)]) ah rfl (o5.flat.bel hw') (by omega) (by omega) rfl (by decide) rfl) (qz zs7 (qz zs9 (qx (λw' hw'=>ad (v:=v4) (i:=↑i) gK rfl rfl (o5.flat.bel hw') rfl (by omega) (by omega)) (qx (λw' hw'=>b5 jg rfl rfl rfl (by decide) (by decide) rfl) ?_))))))
   refine qv (vg [vi (((gI (aE p) (i:Int)).2).1),vi (((gI (aE p) (i:Int)).2).2)]) (λw' hw'=>ck (v:=v4) (i:=↑i) (q:=2) (ds:=[vi (((gI (aE p) (i:Int)).2).1),vi (((gI (aE p) (i:Int)).2).2)]) ah rfl (o5.flat.bel hw') (by omega) (by omega) rfl (by decide) rfl) (qz zs8 (qz zs10 ?_))
   replace o12:=o12.cn ch23
   refine qx (λw' hw'=>ad (v:=v11) (i:=↑k) gK rfl rfl (o12.flat.bel hw') rfl (by omega) (by omega)) (qx (λw' hw'=>b5 jg rfl rfl rfl (by decide) (by decide) rfl) (qv (vg [vi (((gI (aE q) (k:Int)).1).1),vi (((gI (aE q) (k:Int)).1).2)]) (λw' hw'=>ck (v:=v11) (i:=↑k) (q:=0) (ds:=[vi (((gI (aE q) (k:Int)).1).1),vi (((gI (aE q) (k:Int)).1).2)]) ah rfl (o12.flat.bel hw') (by omega) (by omega) rfl (by decide) rfl) (qz zs8 (qz zs10 (qx (λw' hw'=>ad (v:=v11) (i:=↑k) gK rfl rfl (o12.flat.bel hw') rfl (by omega) (by omega)) (qx (λw' hw'=>b5 jg rfl rfl rfl (by decide) (by decide) rfl) ?_))))))
   refine qv (vg [vi (((gI (aE q) (k:Int)).2).1),vi (((gI (aE q) (k:Int)).2).2)]) (λw' hw'=>ck (v:=v11) (i:=↑k) (q:=2) (ds:=[vi (((gI (aE q) (k:Int)).2).1),vi (((gI (aE q) (k:Int)).2).2)]) ah rfl (o12.flat.bel hw') (by omega) (by omega) rfl (by decide) rfl) ?_
   refine cl (v:=vi (cd ((gI (aE p) (i:Int)).1) ((gI (aE p) (i:Int)).2) ((gI (aE q) (k:Int)).1) ((gI (aE q) (k:Int)).2))) rfl (λw' hw'=>aA (vals:=[vg [vi (((gI (aE p) (i:Int)).1).1),vi (((gI (aE p) (i:Int)).1).2)],vg [vi (((gI (aE p) (i:Int)).2).1),vi (((gI (aE p) (i:Int)).2).2)],vg [vi (((gI (aE q) (k:Int)).1).1),vi (((gI (aE q) (k:Int)).1).2)],vg [vi (((gI (aE q) (k:Int)).2).1),vi (((gI (aE q) (k:Int)).2).2)]]) Tryz.func79 qV rf rfl) (λw' hw'=>(mG w' ((gI (aE p) (i:Int)).1) ((gI (aE p) (i:Int)).2) ((gI (aE q) (k:Int)).1) ((gI (aE q) (k:Int)).2) ‹_› ‹_› ‹_› ‹_›).mono λe w2 h2=>⟨h2.1,hw'.trans (h2.2.mono hw'.size)⟩) ?_
   refine qv (vi (cd ((gI (aE p) (i:Int)).1) ((gI (aE p) (i:Int)).2) ((gI (aE q) (k:Int)).1) ((gI (aE q) (k:Int)).2))) (λw' hw'=>br rfl) (bN ?_)
   intro w25 hc26
   replace hc26:=ao hc26 g21
   refine a7 (a7 (a6 rfl (mi (cd ((gI (aE p) (i:Int)).1) ((gI (aE p) (i:Int)).2) ((gI (aE q) (k:Int)).1) ((gI (aE q) (k:Int)).2)) (lx (c7 (m:=cd ((gI (aE p) (i:Int)).1) ((gI (aE p) (i:Int)).2) ((gI (aE q) (k:Int)).1) ((gI (aE q) (k:Int)).2)) (n:=3) rfl rfl) (aa ?_)))))
   by_cases p9:(cd ((gI (aE p) (i:Int)).1) ((gI (aE p) (i:Int)).2) ((gI (aE q) (k:Int)).1) ((gI (aE q) (k:Int)).2))=3
   ·
    refine af rfl (dt p9) (a7 ?_)
    clear o5 o12
    refine a6 rfl (ma (vb true) (aa (ar (vs:=[vb true]) Tryz.func81 (.tmp rfl .nil) ?_)))
    have e0:(true:Bool)=(decide (eG p q but)):=by
      exact np (i:=i) (k:=k) ‹_› ‹_› (by exact vZ (by rw[<-hrm];assumption))
    replace bH:=bH.cn ch23
    replace bH:=bH.cn hc26
    exact⟨rb e0,bH.below⟩
   refine ag rfl (df p9) (ak (a7 (a7 (a6 rfl (mi (cd ((gI (aE p) (i:Int)).1) ((gI (aE p) (i:Int)).2) ((gI (aE q) (k:Int)).1) ((gI (aE q) (k:Int)).2)) (lx (c7 (m:=cd ((gI (aE p) (i:Int)).1) ((gI (aE p) (i:Int)).2) ((gI (aE q) (k:Int)).1) ((gI (aE q) (k:Int)).2)) (n:=0) rfl rfl) (aa ?_)))))))
   by_cases p11:(cd ((gI (aE p) (i:Int)).1) ((gI (aE p) (i:Int)).2) ((gI (aE q) (k:Int)).1) ((gI (aE q) (k:Int)).2))=0
   ·
    refine af rfl (dt p11) (aJ rfl (a6 rfl (mz zs10 (lx (aM (m:=↑k) (n:=1) rfl rfl (by omega)) (ai ((k:Int)+1) (aa ?_))))))
    replace bH:=bH.cn ch23
    refine back6 (k+1,g21) _ _ ⟨bH.cn hc26,zs2,zs7,zs8,zs9,rfl,(Rp.cn ch23).cn hc26,(Rq.cn ch23).cn hc26,(Rbut.cn ch23).cn hc26,o5.cn hc26,o12.cn hc26,by omega,?_⟩ ?_
    · show∀j_:Nat,j_<(k+1)->¬lI but (gI (aE p) (i:Int)) (gI (aE q) (j_:Int))
      intro j hj
      by_cases e0:j=k
      · subst e0
        exact Bd (by rw[<-hrm];assumption)
      · exact hrow j (by omega)
    · show Int.toNat (((List.length (aE q):Int):Int)-((k+1):Int))<Int.toNat (((List.length (aE q):Int):Int)-(k:Int))
      omega
   refine ag rfl (df p11) (ak (a7 (a7 (a6 rfl (mi (cd ((gI (aE p) (i:Int)).1) ((gI (aE p) (i:Int)).2) ((gI (aE q) (k:Int)).1) ((gI (aE q) (k:Int)).2)) (lx (c7 (m:=cd ((gI (aE p) (i:Int)).1) ((gI (aE p) (i:Int)).2) ((gI (aE q) (k:Int)).1) ((gI (aE q) (k:Int)).2)) (n:=1) rfl rfl) (aa ?_)))))))
   by_cases p12:(cd ((gI (aE p) (i:Int)).1) ((gI (aE p) (i:Int)).2) ((gI (aE q) (k:Int)).1) ((gI (aE q) (k:Int)).2))=1
   ·
    refine af rfl (dt p12) (a7 (a6 rfl (ma (vb false) (aa (a7 (a7 (a6 rfl (ai 0 (aa (am ?_))))))))))
    refine aN (σ:=Bool×Nat×aK) (λ⟨one,j,gq⟩ f w=>aT w0 gq w/\f 2=but_v/\f 7=v4/\f 8=v11/\f 9=vi ↑i/\f 10=vi ↑k/\f 12=vb one/\f 13=vi ↑j/\Sl gq (is 0) w p_v p/\Sl gq (is 0) w q_v q/\Sl gq (is 0) w but_v but/\Ow gq (is 1) (is 1) w v4 (aE p)/\Ow gq (is 2) (is 2) w v11 (aE q)/\(j:Int)<=((but.length:Int):Int)/\(one=il (gI (aE p) (i:Int)) (gI (aE q) (k:Int)) but j/\j<=but.length)) (λ⟨one,j,gq⟩=>Int.toNat (((but.length:Int):Int)-(j:Int))) (false,0,g21) ?_ ?_
    replace bH:=bH.cn ch23
    · exact⟨bH.cn hc26,zs2,zs7,zs8,zs9,zs10,rfl,rfl,(Rp.cn ch23).cn hc26,(Rq.cn ch23).cn hc26,(Rbut.cn ch23).cn hc26,o5.cn hc26,o12.cn hc26,by omega,by exact⟨rfl,by omega⟩⟩
    clear Rp Rq Rbut o5 o12 bH
    rintro⟨one,j,g29⟩ f27 w28 ⟨bH,zs2,zs7,zs8,zs9,zs10,zs12,zs13,Rp,Rq,Rbut,o5,o12,hle_j,hone⟩ back15
    refine a7 (a7 (a6 rfl (mz zs13 (mz zs2 ?_))))
    have len30:=(Rbut).small
    refine lx (aQ bS rfl Rbut) (lx (aZ (m:=↑j) (n:=(but.length:Int)) rfl rfl) (aa ?_))
    by_cases p15:(j:Int)<(but.length:Int)
    ·
     refine af rfl (dt p15) ?_
     have hbx:=hbut _ (bk (xs:=but) (i:=↑j) (by omega) ‹_›)
     refine ak (a7 (am (bz g29 rfl kg (by kernel_rfl) ?_)))
     intro w32 ch31
     refine qz zs12 (qm (vb one) ?_)
     by_cases q66:one=true
     ·
      refine av (wn q66) (av (wn q66) (av (wn q66) (av (wn q66) (av (wn q66) (av (wn q66) (av (wn q66) (av (wn q66) (av (wn q66) (av (wn q66) ?_)))))))))
      refine av (wn q66) (av (wn q66) (av (wn q66) (av (wn q66) (av (wn q66) (av (wn q66) (av (aW rfl rfl rfl) (av (aW rfl rfl rfl) (av (aW rfl rfl rfl) (av (aW rfl rfl rfl) ?_)))))))))
      refine av (aW rfl rfl rfl) (av (aW rfl rfl rfl) (av (aW rfl rfl rfl) (av (aW rfl rfl rfl) (av (aW rfl rfl rfl) (av (aW rfl rfl rfl) (av (aW rfl rfl rfl) (av (aW rfl rfl rfl) (av (aW rfl rfl rfl) (av (aW rfl rfl rfl) ?_)))))))))
      refine av (aW rfl rfl rfl) (av (wn q66) (qv (vb true) (λw' hw'=>aD rfl q66 rfl) (qv (vb true) (λw' hw'=>br rfl) (bN ?_))))
      intro w33 hc34
      replace hc34:=ao hc34 g29
      refine al (a6 rfl (mz zs13 (lx (aM (m:=↑j) (n:=1) rfl rfl (by omega)) (ai ((j:Int)+1) (aa ?_)))))
      replace bH:=bH.cn ch31
      refine back15 (true,j+1,g29) _ _ ⟨bH.cn hc34,zs2,zs7,zs8,zs9,zs10,rfl,rfl,(Rp.cn ch31).cn hc34,(Rq.cn ch31).cn hc34,(Rbut.cn ch31).cn hc34,(o5.cn ch31).cn hc34,(o12.cn ch31).cn hc34,by omega,?_⟩ ?_
      · show true=il (gI (aE p) (i:Int)) (gI (aE q) (k:Int)) but (j+1)/\(j+1)<=but.length
        refine⟨?_,by omega⟩
        exact AC hone.1 ‹_›
      · show Int.toNat (((but.length:Int):Int)-((j+1):Int))<Int.toNat (((but.length:Int):Int)-(j:Int))
        omega
     refine aH (v:=v4) (wy (Bool.eq_false_iff.2 q66)) (λw' hw'=>aq zs7) (aH (v:=vi ↑i) (wy (Bool.eq_false_iff.2 q66)) (λw' hw'=>aq zs9) ?_)
     replace o5:=o5.cn ch31
     refine aH (v:=Value.pointer (some (aR v4 4 (Int.toNat ↑i)))) (wy (Bool.eq_false_iff.2 q66)) (λw' hw'=>ad (α:=Pt×Pt) (xs:=aE p) (v:=v4) (i:=↑i) gK rfl rfl (o5.flat.bel hw') rfl (by omega) (by omega)) (aH (v:=Value.pointer (some ⟨(aR v4 4 (Int.toNat ↑i)).block,(aR v4 4 (Int.toNat ↑i)).off+0,none⟩)) (wy (Bool.eq_false_iff.2 q66)) (λw' hw'=>b5 jg rfl rfl rfl (by decide) (by decide) rfl) ?_)
     refine aH (v:=vg [vi (((gI (aE p) (i:Int)).1).1),vi (((gI (aE p) (i:Int)).1).2)]) (wy (Bool.eq_false_iff.2 q66)) (λw' hw'=>ck (α:=Pt×Pt) (xs:=aE p) (v:=v4) (i:=↑i) (q:=0) (ds:=[vi (((gI (aE p) (i:Int)).1).1),vi (((gI (aE p) (i:Int)).1).2)]) ah rfl (o5.flat.bel hw') (by omega) (by omega) rfl (by decide) rfl) (aH (v:=v4) (wy (Bool.eq_false_iff.2 q66)) (λw' hw'=>aq zs7) (aH (v:=vi ↑i) (wy (Bool.eq_false_iff.2 q66)) (λw' hw'=>aq zs9) ?_))
     refine aH (v:=Value.pointer (some (aR v4 4 (Int.toNat ↑i)))) (wy (Bool.eq_false_iff.2 q66)) (λw' hw'=>ad (α:=Pt×Pt) (xs:=aE p) (v:=v4) (i:=↑i) gK rfl rfl (o5.flat.bel hw') rfl (by omega) (by omega)) (aH (v:=Value.pointer (some ⟨(aR v4 4 (Int.toNat ↑i)).block,(aR v4 4 (Int.toNat ↑i)).off+2,none⟩)) (wy (Bool.eq_false_iff.2 q66)) (λw' hw'=>b5 jg rfl rfl rfl (by decide) (by decide) rfl) ?_)
     refine aH (v:=vg [vi (((gI (aE p) (i:Int)).2).1),vi (((gI (aE p) (i:Int)).2).2)]) (wy (Bool.eq_false_iff.2 q66)) (λw' hw'=>ck (α:=Pt×Pt) (xs:=aE p) (v:=v4) (i:=↑i) (q:=2) (ds:=[vi (((gI (aE p) (i:Int)).2).1),vi (((gI (aE p) (i:Int)).2).2)]) ah rfl (o5.flat.bel hw') (by omega) (by omega) rfl (by decide) rfl) (aH (v:=but_v) (wy (Bool.eq_false_iff.2 q66)) (λw' hw'=>aq zs2) (aH (v:=vi ↑j) (wy (Bool.eq_false_iff.2 q66)) (λw' hw'=>aq zs13) ?_))
     replace Rbut:=Rbut.cn ch31
     refine aH (v:=Value.pointer (some (aR but_v 2 (Int.toNat ↑j)))) (wy (Bool.eq_false_iff.2 q66)) (λw' hw'=>ad (α:=Pt) (xs:=but) (v:=but_v) (i:=↑j) bS rfl rfl (Rbut.bel hw') rfl (by omega) (by omega)) (aH (v:=vg [vi ((gI but ↑j).1),vi ((gI but ↑j).2)]) (wy (Bool.eq_false_iff.2 q66)) (λw' hw'=>aF (α:=Pt) (xs:=but) (v:=but_v) (i:=↑j) ah rfl (Rbut.bel hw') (by omega) (by omega) rfl) ?_)
     refine cl (v:=vb (decide (cF ((gI (aE p) (i:Int)).1) ((gI (aE p) (i:Int)).2) (gI but ↑j)))) (wy (Bool.eq_false_iff.2 q66)) (λw' hw'=>aA (vals:=[vg [vi (((gI (aE p) (i:Int)).1).1),vi (((gI (aE p) (i:Int)).1).2)],vg [vi (((gI (aE p) (i:Int)).2).1),vi (((gI (aE p) (i:Int)).2).2)],vg [vi ((gI but ↑j).1),vi ((gI but ↑j).2)]]) Tryz.func80 ic ib rfl) (λw' hw'=>(ie w' ((gI (aE p) (i:Int)).1) ((gI (aE p) (i:Int)).2) (gI but ↑j) ‹_› ‹_› ‹_›).mono λe w2 h2=>⟨h2.1,hw'.trans (h2.2.mono hw'.size)⟩) ?_
     refine aH (v:=vb (decide (cF ((gI (aE p) (i:Int)).1) ((gI (aE p) (i:Int)).2) (gI but ↑j)))) (wy (Bool.eq_false_iff.2 q66)) (λw' hw'=>aq rfl) ?_
     by_cases q82:(decide (cF ((gI (aE p) (i:Int)).1) ((gI (aE p) (i:Int)).2) (gI but ↑j)))=true
     ·
      refine aH (v:=v11) (wy q82) (λw' hw'=>aq zs8) (aH (v:=vi ↑k) (wy q82) (λw' hw'=>aq zs10) ?_)
      replace o12:=o12.cn ch31
      refine aH (v:=Value.pointer (some (aR v11 4 (Int.toNat ↑k)))) (wy q82) (λw' hw'=>ad (α:=Pt×Pt) (xs:=aE q) (v:=v11) (i:=↑k) gK rfl rfl (o12.flat.bel hw') rfl (by omega) (by omega)) (aH (v:=Value.pointer (some ⟨(aR v11 4 (Int.toNat ↑k)).block,(aR v11 4 (Int.toNat ↑k)).off+0,none⟩)) (wy q82) (λw' hw'=>b5 jg rfl rfl rfl (by decide) (by decide) rfl) ?_)
      refine aH (v:=vg [vi (((gI (aE q) (k:Int)).1).1),vi (((gI (aE q) (k:Int)).1).2)]) (wy q82) (λw' hw'=>ck (α:=Pt×Pt) (xs:=aE q) (v:=v11) (i:=↑k) (q:=0) (ds:=[vi (((gI (aE q) (k:Int)).1).1),vi (((gI (aE q) (k:Int)).1).2)]) ah rfl (o12.flat.bel hw') (by omega) (by omega) rfl (by decide) rfl) (aH (v:=v11) (wy q82) (λw' hw'=>aq zs8) (aH (v:=vi ↑k) (wy q82) (λw' hw'=>aq zs10) ?_))
      refine aH (v:=Value.pointer (some (aR v11 4 (Int.toNat ↑k)))) (wy q82) (λw' hw'=>ad (α:=Pt×Pt) (xs:=aE q) (v:=v11) (i:=↑k) gK rfl rfl (o12.flat.bel hw') rfl (by omega) (by omega)) (aH (v:=Value.pointer (some ⟨(aR v11 4 (Int.toNat ↑k)).block,(aR v11 4 (Int.toNat ↑k)).off+2,none⟩)) (wy q82) (λw' hw'=>b5 jg rfl rfl rfl (by decide) (by decide) rfl) ?_)
      refine aH (v:=vg [vi (((gI (aE q) (k:Int)).2).1),vi (((gI (aE q) (k:Int)).2).2)]) (wy q82) (λw' hw'=>ck (α:=Pt×Pt) (xs:=aE q) (v:=v11) (i:=↑k) (q:=2) (ds:=[vi (((gI (aE q) (k:Int)).2).1),vi (((gI (aE q) (k:Int)).2).2)]) ah rfl (o12.flat.bel hw') (by omega) (by omega) rfl (by decide) rfl) (aH (v:=but_v) (wy q82) (λw' hw'=>aq zs2) (aH (v:=vi ↑j) (wy q82) (λw' hw'=>aq zs13) ?_))
      refine aH (v:=Value.pointer (some (aR but_v 2 (Int.toNat ↑j)))) (wy q82) (λw' hw'=>ad (α:=Pt) (xs:=but) (v:=but_v) (i:=↑j) bS rfl rfl (Rbut.bel hw') rfl (by omega) (by omega)) (aH (v:=vg [vi ((gI but ↑j).1),vi ((gI but ↑j).2)]) (wy q82) (λw' hw'=>aF (α:=Pt) (xs:=but) (v:=but_v) (i:=↑j) ah rfl (Rbut.bel hw') (by omega) (by omega) rfl) ?_)
      refine cl (v:=vb (decide (cF ((gI (aE q) (k:Int)).1) ((gI (aE q) (k:Int)).2) (gI but ↑j)))) (wy q82) (λw' hw'=>aA (vals:=[vg [vi (((gI (aE q) (k:Int)).1).1),vi (((gI (aE q) (k:Int)).1).2)],vg [vi (((gI (aE q) (k:Int)).2).1),vi (((gI (aE q) (k:Int)).2).2)],vg [vi ((gI but ↑j).1),vi ((gI but ↑j).2)]]) Tryz.func80 ic ib rfl) (λw' hw'=>(ie w' ((gI (aE q) (k:Int)).1) ((gI (aE q) (k:Int)).2) (gI but ↑j) ‹_› ‹_› ‹_›).mono λe w2 h2=>⟨h2.1,hw'.trans (h2.2.mono hw'.size)⟩) ?_
      refine aH (v:=vb (decide (cF ((gI (aE q) (k:Int)).1) ((gI (aE q) (k:Int)).2) (gI but ↑j)))) (wy (Bool.eq_false_iff.2 q66)) (λw' hw'=>aD rfl q82 rfl) (qv (vb (decide (cF ((gI (aE q) (k:Int)).1) ((gI (aE q) (k:Int)).2) (gI but ↑j)))) (λw' hw'=>aB rfl (Bool.eq_false_iff.2 q66) rfl) (qv (vb (decide (cF ((gI (aE q) (k:Int)).1) ((gI (aE q) (k:Int)).2) (gI but ↑j)))) (λw' hw'=>br rfl) (bN ?_)))
      intro w35 hc36
      replace hc36:=ao hc36 g29
      refine al (a6 rfl (mz zs13 (lx (aM (m:=↑j) (n:=1) rfl rfl (by omega)) (ai ((j:Int)+1) (aa ?_)))))
      replace bH:=bH.cn ch31
      refine back15 ((decide (cF ((gI (aE q) (k:Int)).1) ((gI (aE q) (k:Int)).2) (gI but ↑j))),j+1,g29) _ _ ⟨bH.cn hc36,zs2,zs7,zs8,zs9,zs10,rfl,rfl,(Rp.cn ch31).cn hc36,(Rq.cn ch31).cn hc36,Rbut.cn hc36,o5.cn hc36,o12.cn hc36,by omega,?_⟩ ?_
      · show(decide (cF ((gI (aE q) (k:Int)).1) ((gI (aE q) (k:Int)).2) (gI but ↑j)))=il (gI (aE p) (i:Int)) (gI (aE q) (k:Int)) but (j+1)/\(j+1)<=but.length
        refine⟨?_,by omega⟩
        exact As hone.1 ‹_› ‹_›
      · show Int.toNat (((but.length:Int):Int)-((j+1):Int))<Int.toNat (((but.length:Int):Int)-(j:Int))
        omega
     refine av (wn (Bool.eq_false_iff.2 q82)) (av (wn (Bool.eq_false_iff.2 q82)) (av (wn (Bool.eq_false_iff.2 q82)) (av (wn (Bool.eq_false_iff.2 q82)) (av (wn (Bool.eq_false_iff.2 q82)) (av (wn (Bool.eq_false_iff.2 q82)) (av (wn (Bool.eq_false_iff.2 q82)) (av (wn (Bool.eq_false_iff.2 q82)) (av (wn (Bool.eq_false_iff.2 q82)) (av (wn (Bool.eq_false_iff.2 q82)) ?_)))))))))
     refine av (wn (Bool.eq_false_iff.2 q82)) (av (wn (Bool.eq_false_iff.2 q82)) (av (wn (Bool.eq_false_iff.2 q82)) (av (wn (Bool.eq_false_iff.2 q82)) (av (wn (Bool.eq_false_iff.2 q82)) (aH (v:=vb false) (wy (Bool.eq_false_iff.2 q66)) (λw' hw'=>aB rfl (Bool.eq_false_iff.2 q82) rfl) (qv (vb false) (λw' hw'=>aB rfl (Bool.eq_false_iff.2 q66) rfl) (qv (vb false) (λw' hw'=>br rfl) (bN ?_))))))))
     intro w37 hc38
     replace hc38:=ao hc38 g29
     refine al (a6 rfl (mz zs13 (lx (aM (m:=↑j) (n:=1) rfl rfl (by omega)) (ai ((j:Int)+1) (aa ?_)))))
     replace bH:=bH.cn ch31
     refine back15 (false,j+1,g29) _ _ ⟨bH.cn hc38,zs2,zs7,zs8,zs9,zs10,rfl,rfl,(Rp.cn ch31).cn hc38,(Rq.cn ch31).cn hc38,Rbut.cn hc38,o5.cn hc38,(o12.cn ch31).cn hc38,by omega,?_⟩ ?_
     · show false=il (gI (aE p) (i:Int)) (gI (aE q) (k:Int)) but (j+1)/\(j+1)<=but.length
       refine⟨?_,by omega⟩
       exact AJ hone.1 ‹_› ‹_›
     · show Int.toNat (((but.length:Int):Int)-((j+1):Int))<Int.toNat (((but.length:Int):Int)-(j:Int))
       omega
    refine ag rfl (df p15) (aJ rfl (a7 (a7 (a6 rfl (mz zs12 (lx (bZ (b:=one) rfl) (aa ?_)))))))
    by_cases p18:one=true
    ·
     refine ag rfl (congrArg Bool.not p18) (ak (aJ rfl (a6 rfl (mz zs10 (lx (aM (m:=↑k) (n:=1) rfl rfl (by omega)) (ai ((k:Int)+1) (aa ?_)))))))
     refine back6 (k+1,g29) _ _ ⟨bH,zs2,zs7,zs8,zs9,rfl,Rp,Rq,Rbut,o5,o12,by omega,?_⟩ ?_
     · show∀j_:Nat,j_<(k+1)->¬lI but (gI (aE p) (i:Int)) (gI (aE q) (j_:Int))
       intro j hj
       by_cases e0:j=k
       · subst e0
         exact AV (by rw[<-hrm];assumption) ‹_› hone.2 hone.1 ‹_›
       · exact hrow j (by omega)
     · show Int.toNat (((List.length (aE q):Int):Int)-((k+1):Int))<Int.toNat (((List.length (aE q):Int):Int)-(k:Int))
       omega
    refine af rfl (congrArg Bool.not (Bool.eq_false_iff.2 p18)) (a7 ?_)
    clear o5 o12
    refine a6 rfl (ma (vb true) (aa (ar (vs:=[vb true]) Tryz.func81 (.tmp rfl .nil) ?_)))
    have e0:(true:Bool)=(decide (eG p q but)):=by
      exact np (i:=i) (k:=k) ‹_› ‹_› (by exact Be (by rw[<-hrm];assumption) ‹_› hone.2 hone.1 ‹_›)
    exact⟨rb e0,bH.below⟩
   refine ag rfl (df p12) (ak (a7 (c6 g21 [0,1,2,3,4,5,6,7,8,9,10,11,12,13,14,15,16,17,18,19,21] kg ?_)))
   intro w40 ch39
   refine xp (v:=v4) 0 rfl (λw=>aq zs7) (xp (v:=vi ↑i) 1 rfl (λw=>aq zs9) ?_)
   replace o5:=(o5.cn hc26).cn ch39
   refine xv 2 [1,0,5,6,10,11,15,16,7,12,17,8,13,18,9,14,19] rfl (ad (v:=v4) (i:=↑i) gK rfl rfl o5.flat rfl (by omega) (by omega)) (xv 3 [2,1,0,5,6,10,11,15,16,7,12,17,8,13,18,9,14,19] rfl (b5 jg rfl rfl rfl (by decide) (by decide) rfl) (xv (v:=vg [vi (((gI (aE p) (i:Int)).1).1),vi (((gI (aE p) (i:Int)).1).2)]) 4 [3,2,1,0,5,6,10,11,15,16,7,12,17,8,13,18,9,14,19] rfl (ck (v:=v4) (i:=↑i) (q:=0) (ds:=[vi (((gI (aE p) (i:Int)).1).1),vi (((gI (aE p) (i:Int)).1).2)]) ah rfl o5.flat (by omega) (by omega) rfl (by decide) rfl) (xp (v:=v4) 5 rfl (λw=>aq zs7) (xp (v:=vi ↑i) 6 rfl (λw=>aq zs9) ?_))))
   refine xv 7 [6,5,4,3,2,1,0,10,11,15,16,12,17,13,18,14,19] rfl (ad (v:=v4) (i:=↑i) gK rfl rfl o5.flat rfl (by omega) (by omega)) (xv 8 [7,6,5,4,3,2,1,0,10,11,15,16,12,17,13,18,14,19] rfl (b5 jg rfl rfl rfl (by decide) (by decide) rfl) (xv (v:=vg [vi (((gI (aE p) (i:Int)).2).1),vi (((gI (aE p) (i:Int)).2).2)]) 9 [8,7,6,5,4,3,2,1,0,10,11,15,16,12,17,13,18,14,19] rfl (ck (v:=v4) (i:=↑i) (q:=2) (ds:=[vi (((gI (aE p) (i:Int)).2).1),vi (((gI (aE p) (i:Int)).2).2)]) ah rfl o5.flat (by omega) (by omega) rfl (by decide) rfl) (xp (v:=v11) 10 rfl (λw=>aq zs8) (xp (v:=vi ↑k) 11 rfl (λw=>aq zs10) ?_))))
   replace o12:=(o12.cn hc26).cn ch39
   refine xv 12 [11,10,9,8,7,6,5,4,3,2,1,0,15,16,17,18,19] rfl (ad (v:=v11) (i:=↑k) gK rfl rfl o12.flat rfl (by omega) (by omega)) (xv 13 [12,11,10,9,8,7,6,5,4,3,2,1,0,15,16,17,18,19] rfl (b5 jg rfl rfl rfl (by decide) (by decide) rfl) (xv (v:=vg [vi (((gI (aE q) (k:Int)).1).1),vi (((gI (aE q) (k:Int)).1).2)]) 14 [13,12,11,10,9,8,7,6,5,4,3,2,1,0,15,16,17,18,19] rfl (ck (v:=v11) (i:=↑k) (q:=0) (ds:=[vi (((gI (aE q) (k:Int)).1).1),vi (((gI (aE q) (k:Int)).1).2)]) ah rfl o12.flat (by omega) (by omega) rfl (by decide) rfl) (xp (v:=v11) 15 rfl (λw=>aq zs8) (xp (v:=vi ↑k) 16 rfl (λw=>aq zs10) ?_))))
   refine xv 17 [16,15,14,13,12,11,10,9,8,7,6,5,4,3,2,1,0] rfl (ad (v:=v11) (i:=↑k) gK rfl rfl o12.flat rfl (by omega) (by omega)) (xv 18 [17,16,15,14,13,12,11,10,9,8,7,6,5,4,3,2,1,0] rfl (b5 jg rfl rfl rfl (by decide) (by decide) rfl) (xv (v:=vg [vi (((gI (aE q) (k:Int)).2).1),vi (((gI (aE q) (k:Int)).2).2)]) 19 [18,17,16,15,14,13,12,11,10,9,8,7,6,5,4,3,2,1,0] rfl (ck (v:=v11) (i:=↑k) (q:=2) (ds:=[vi (((gI (aE q) (k:Int)).2).1),vi (((gI (aE q) (k:Int)).2).2)]) ah rfl o12.flat (by omega) (by omega) rfl (by decide) rfl) (ct 20 rfl (by kernel_rfl) rfl ?_)))
   refine aG (α:=Pt) g21 (is 3) (is 3) (3,0) rfl ([((gI (aE p) (i:Int)).1),((gI (aE p) (i:Int)).2),((gI (aE q) (k:Int)).1),((gI (aE q) (k:Int)).2)]:List Pt) bS ah (by decide) (by decide) (vs:=[(0,vg [vi (((gI (aE p) (i:Int)).1).1),vi (((gI (aE p) (i:Int)).1).2)]),(1,vg [vi (((gI (aE p) (i:Int)).2).1),vi (((gI (aE p) (i:Int)).2).2)]),(2,vg [vi (((gI (aE q) (k:Int)).1).1),vi (((gI (aE q) (k:Int)).1).2)]),(3,vg [vi (((gI (aE q) (k:Int)).2).1),vi (((gI (aE q) (k:Int)).2).2)])]) rfl rfl (.cons rfl (.cons rfl (.cons rfl (.cons rfl .nil)))) ?_
   intro g41 w42 v43 ch44 o45
   refine xp (v:=v43) 21 rfl (λw=>br rfl) (ec (by kernel_rfl) (a7 (a6 rfl (ai 0 (aa (am ?_))))))
   refine aN (σ:=Nat×aK) (λ⟨w_,gq⟩ f w=>aT w0 gq w/\f 2=but_v/\f 7=v4/\f 8=v11/\f 9=vi ↑i/\f 10=vi ↑k/\f 14=v43/\f 15=vi ↑w_/\Sl gq (is 0) w p_v p/\Sl gq (is 0) w q_v q/\Sl gq (is 0) w but_v but/\Ow gq (is 1) (is 1) w v4 (aE p)/\Ow gq (is 2) (is 2) w v11 (aE q)/\Ow gq (is 3) (is 3) w v43 ([((gI (aE p) (i:Int)).1),((gI (aE p) (i:Int)).2),((gI (aE q) (k:Int)).1),((gI (aE q) (k:Int)).2)]:List Pt)/\(w_:Int)<=(4:Int)/\(gD but (gI (aE p) (i:Int)) (gI (aE q) (k:Int)) w_)) (λ⟨w_,gq⟩=>4-w_) (0,g41) ?_ ?_
   have C46:=cg [] (ch23.n.seq (hc26.n.seq (ch39.n.seq ch44.n)))
   · exact⟨bH.ca C46,zs2,zs7,zs8,zs9,zs10,rfl,rfl,Rp.ca C46,Rq.ca C46,Rbut.ca C46,o5.cn ch44,o12.cn ch44,o45,by omega,by intro j hj;omega⟩
   clear Rp Rq Rbut o5 o12 o45 bH
   rintro⟨w_,g49⟩ f47 w48 ⟨bH,zs2,zs7,zs8,zs9,zs10,zs14,zs15,Rp,Rq,Rbut,o5,o12,o45,hle_w_,hge⟩ back22
   refine a7 (a7 (a6 rfl (mz zs15 (lx (aZ (m:=↑w_) (n:=4) rfl rfl) (aa ?_)))))
   by_cases p22:(w_:Int)<4
   ·
    refine af rfl (dt p22) ?_
    have hbe:=s7 hsb1 hsb2 htb1 htb2 (i:=w_) ‹_›
    refine ak (a7 (am (a7 (bz g49 rfl kg (by kernel_rfl) ?_))))
    intro w51 ch50
    refine qz zs7 (qz zs9 ?_)
    replace o5:=o5.cn ch50
    refine qx (λw' hw'=>ad (v:=v4) (i:=↑i) gK rfl rfl (o5.flat.bel hw') rfl (by omega) (by omega)) (qx (λw' hw'=>b5 jg rfl rfl rfl (by decide) (by decide) rfl) (qv (vg [vi (((gI (aE p) (i:Int)).1).1),vi (((gI (aE p) (i:Int)).1).2)]) (λw' hw'=>ck (v:=v4) (i:=↑i) (q:=0) (ds:=[vi (((gI (aE p) (i:Int)).1).1),vi (((gI (aE p) (i:Int)).1).2)]) ah rfl (o5.flat.bel hw') (by omega) (by omega) rfl (by decide) rfl) (qz zs7 (qz zs9 (qx (λw' hw'=>ad (v:=v4) (i:=↑i) gK rfl rfl (o5.flat.bel hw') rfl (by omega) (by omega)) (qx (λw' hw'=>b5 jg rfl rfl rfl (by decide) (by decide) rfl) ?_))))))
    refine qv (vg [vi (((gI (aE p) (i:Int)).2).1),vi (((gI (aE p) (i:Int)).2).2)]) (λw' hw'=>ck (v:=v4) (i:=↑i) (q:=2) (ds:=[vi (((gI (aE p) (i:Int)).2).1),vi (((gI (aE p) (i:Int)).2).2)]) ah rfl (o5.flat.bel hw') (by omega) (by omega) rfl (by decide) rfl) (qz zs14 (qz zs15 ?_))
    replace o45:=o45.cn ch50
    refine qx (λw' hw'=>ad (v:=v43) (i:=↑w_) bS rfl rfl (o45.flat.bel hw') rfl (by omega) (by omega)) (qv (vg [vi ((gI ([((gI (aE p) (i:Int)).1),((gI (aE p) (i:Int)).2),((gI (aE q) (k:Int)).1),((gI (aE q) (k:Int)).2)]:List Pt) (w_:Int)).1),vi ((gI ([((gI (aE p) (i:Int)).1),((gI (aE p) (i:Int)).2),((gI (aE q) (k:Int)).1),((gI (aE q) (k:Int)).2)]:List Pt) (w_:Int)).2)]) (λw' hw'=>aF (v:=v43) (i:=↑w_) ah rfl (o45.flat.bel hw') (by omega) (by omega) rfl) ?_)
    refine cl (v:=vb (decide (cF ((gI (aE p) (i:Int)).1) ((gI (aE p) (i:Int)).2) (gI ([((gI (aE p) (i:Int)).1),((gI (aE p) (i:Int)).2),((gI (aE q) (k:Int)).1),((gI (aE q) (k:Int)).2)]:List Pt) (w_:Int))))) rfl (λw' hw'=>aA (vals:=[vg [vi (((gI (aE p) (i:Int)).1).1),vi (((gI (aE p) (i:Int)).1).2)],vg [vi (((gI (aE p) (i:Int)).2).1),vi (((gI (aE p) (i:Int)).2).2)],vg [vi ((gI ([((gI (aE p) (i:Int)).1),((gI (aE p) (i:Int)).2),((gI (aE q) (k:Int)).1),((gI (aE q) (k:Int)).2)]:List Pt) (w_:Int)).1),vi ((gI ([((gI (aE p) (i:Int)).1),((gI (aE p) (i:Int)).2),((gI (aE q) (k:Int)).1),((gI (aE q) (k:Int)).2)]:List Pt) (w_:Int)).2)]]) Tryz.func80 ic ib rfl) (λw' hw'=>(ie w' ((gI (aE p) (i:Int)).1) ((gI (aE p) (i:Int)).2) (gI ([((gI (aE p) (i:Int)).1),((gI (aE p) (i:Int)).2),((gI (aE q) (k:Int)).1),((gI (aE q) (k:Int)).2)]:List Pt) (w_:Int)) ‹_› ‹_› ‹_›).mono λe w2 h2=>⟨h2.1,hw'.trans (h2.2.mono hw'.size)⟩) ?_
    refine qm (vb (decide (cF ((gI (aE p) (i:Int)).1) ((gI (aE p) (i:Int)).2) (gI ([((gI (aE p) (i:Int)).1),((gI (aE p) (i:Int)).2),((gI (aE q) (k:Int)).1),((gI (aE q) (k:Int)).2)]:List Pt) (w_:Int))))) ?_
    by_cases q142:(decide (cF ((gI (aE p) (i:Int)).1) ((gI (aE p) (i:Int)).2) (gI ([((gI (aE p) (i:Int)).1),((gI (aE p) (i:Int)).2),((gI (aE q) (k:Int)).1),((gI (aE q) (k:Int)).2)]:List Pt) (w_:Int))))=true
    ·
     refine aH (v:=v11) (wy q142) (λw' hw'=>aq zs8) (aH (v:=vi ↑k) (wy q142) (λw' hw'=>aq zs10) ?_)
     replace o12:=o12.cn ch50
     refine aH (v:=Value.pointer (some (aR v11 4 (Int.toNat ↑k)))) (wy q142) (λw' hw'=>ad (α:=Pt×Pt) (xs:=aE q) (v:=v11) (i:=↑k) gK rfl rfl (o12.flat.bel hw') rfl (by omega) (by omega)) (aH (v:=Value.pointer (some ⟨(aR v11 4 (Int.toNat ↑k)).block,(aR v11 4 (Int.toNat ↑k)).off+0,none⟩)) (wy q142) (λw' hw'=>b5 jg rfl rfl rfl (by decide) (by decide) rfl) ?_)
     refine aH (v:=vg [vi (((gI (aE q) (k:Int)).1).1),vi (((gI (aE q) (k:Int)).1).2)]) (wy q142) (λw' hw'=>ck (α:=Pt×Pt) (xs:=aE q) (v:=v11) (i:=↑k) (q:=0) (ds:=[vi (((gI (aE q) (k:Int)).1).1),vi (((gI (aE q) (k:Int)).1).2)]) ah rfl (o12.flat.bel hw') (by omega) (by omega) rfl (by decide) rfl) (aH (v:=v11) (wy q142) (λw' hw'=>aq zs8) (aH (v:=vi ↑k) (wy q142) (λw' hw'=>aq zs10) ?_))
     refine aH (v:=Value.pointer (some (aR v11 4 (Int.toNat ↑k)))) (wy q142) (λw' hw'=>ad (α:=Pt×Pt) (xs:=aE q) (v:=v11) (i:=↑k) gK rfl rfl (o12.flat.bel hw') rfl (by omega) (by omega)) (aH (v:=Value.pointer (some ⟨(aR v11 4 (Int.toNat ↑k)).block,(aR v11 4 (Int.toNat ↑k)).off+2,none⟩)) (wy q142) (λw' hw'=>b5 jg rfl rfl rfl (by decide) (by decide) rfl) ?_)
     refine aH (v:=vg [vi (((gI (aE q) (k:Int)).2).1),vi (((gI (aE q) (k:Int)).2).2)]) (wy q142) (λw' hw'=>ck (α:=Pt×Pt) (xs:=aE q) (v:=v11) (i:=↑k) (q:=2) (ds:=[vi (((gI (aE q) (k:Int)).2).1),vi (((gI (aE q) (k:Int)).2).2)]) ah rfl (o12.flat.bel hw') (by omega) (by omega) rfl (by decide) rfl) (aH (v:=v43) (wy q142) (λw' hw'=>aq zs14) (aH (v:=vi ↑w_) (wy q142) (λw' hw'=>aq zs15) ?_))
     refine aH (v:=Value.pointer (some (aR v43 2 (Int.toNat ↑w_)))) (wy q142) (λw' hw'=>ad (α:=Pt) (xs:=([((gI (aE p) (i:Int)).1),((gI (aE p) (i:Int)).2),((gI (aE q) (k:Int)).1),((gI (aE q) (k:Int)).2)]:List Pt)) (v:=v43) (i:=↑w_) bS rfl rfl (o45.flat.bel hw') rfl (by omega) (by omega)) ?_
     refine aH (v:=vg [vi ((gI ([((gI (aE p) (i:Int)).1),((gI (aE p) (i:Int)).2),((gI (aE q) (k:Int)).1),((gI (aE q) (k:Int)).2)]:List Pt) (w_:Int)).1),vi ((gI ([((gI (aE p) (i:Int)).1),((gI (aE p) (i:Int)).2),((gI (aE q) (k:Int)).1),((gI (aE q) (k:Int)).2)]:List Pt) (w_:Int)).2)]) (wy q142) (λw' hw'=>aF (α:=Pt) (xs:=([((gI (aE p) (i:Int)).1),((gI (aE p) (i:Int)).2),((gI (aE q) (k:Int)).1),((gI (aE q) (k:Int)).2)]:List Pt)) (v:=v43) (i:=↑w_) ah rfl (o45.flat.bel hw') (by omega) (by omega) rfl) ?_
     refine cl (v:=vb (decide (cF ((gI (aE q) (k:Int)).1) ((gI (aE q) (k:Int)).2) (gI ([((gI (aE p) (i:Int)).1),((gI (aE p) (i:Int)).2),((gI (aE q) (k:Int)).1),((gI (aE q) (k:Int)).2)]:List Pt) (w_:Int))))) (wy q142) (λw' hw'=>aA (vals:=[vg [vi (((gI (aE q) (k:Int)).1).1),vi (((gI (aE q) (k:Int)).1).2)],vg [vi (((gI (aE q) (k:Int)).2).1),vi (((gI (aE q) (k:Int)).2).2)],vg [vi ((gI ([((gI (aE p) (i:Int)).1),((gI (aE p) (i:Int)).2),((gI (aE q) (k:Int)).1),((gI (aE q) (k:Int)).2)]:List Pt) (w_:Int)).1),vi ((gI ([((gI (aE p) (i:Int)).1),((gI (aE p) (i:Int)).2),((gI (aE q) (k:Int)).1),((gI (aE q) (k:Int)).2)]:List Pt) (w_:Int)).2)]]) Tryz.func80 ic ib rfl) (λw' hw'=>(ie w' ((gI (aE q) (k:Int)).1) ((gI (aE q) (k:Int)).2) (gI ([((gI (aE p) (i:Int)).1),((gI (aE p) (i:Int)).2),((gI (aE q) (k:Int)).1),((gI (aE q) (k:Int)).2)]:List Pt) (w_:Int)) ‹_› ‹_› ‹_›).mono λe w2 h2=>⟨h2.1,hw'.trans (h2.2.mono hw'.size)⟩) ?_
     refine qv (vb (decide (cF ((gI (aE q) (k:Int)).1) ((gI (aE q) (k:Int)).2) (gI ([((gI (aE p) (i:Int)).1),((gI (aE p) (i:Int)).2),((gI (aE q) (k:Int)).1),((gI (aE q) (k:Int)).2)]:List Pt) (w_:Int))))) (λw' hw'=>aD rfl q142 rfl) (qm (vb (decide (cF ((gI (aE q) (k:Int)).1) ((gI (aE q) (k:Int)).2) (gI ([((gI (aE p) (i:Int)).1),((gI (aE p) (i:Int)).2),((gI (aE q) (k:Int)).1),((gI (aE q) (k:Int)).2)]:List Pt) (w_:Int))))) ?_)
     by_cases q159:(decide (cF ((gI (aE q) (k:Int)).1) ((gI (aE q) (k:Int)).2) (gI ([((gI (aE p) (i:Int)).1),((gI (aE p) (i:Int)).2),((gI (aE q) (k:Int)).1),((gI (aE q) (k:Int)).2)]:List Pt) (w_:Int))))=true
     ·
      refine aH (v:=but_v) (wy q159) (λw' hw'=>aq zs2) (aH (v:=v43) (wy q159) (λw' hw'=>aq zs14) (aH (v:=vi ↑w_) (wy q159) (λw' hw'=>aq zs15) (aH (v:=Value.pointer (some (aR v43 2 (Int.toNat ↑w_)))) (wy q159) (λw' hw'=>ad (α:=Pt) (xs:=([((gI (aE p) (i:Int)).1),((gI (aE p) (i:Int)).2),((gI (aE q) (k:Int)).1),((gI (aE q) (k:Int)).2)]:List Pt)) (v:=v43) (i:=↑w_) bS rfl rfl (o45.flat.bel hw') rfl (by omega) (by omega)) ?_)))
      refine aH (v:=vg [vi ((gI ([((gI (aE p) (i:Int)).1),((gI (aE p) (i:Int)).2),((gI (aE q) (k:Int)).1),((gI (aE q) (k:Int)).2)]:List Pt) (w_:Int)).1),vi ((gI ([((gI (aE p) (i:Int)).1),((gI (aE p) (i:Int)).2),((gI (aE q) (k:Int)).1),((gI (aE q) (k:Int)).2)]:List Pt) (w_:Int)).2)]) (wy q159) (λw' hw'=>aF (α:=Pt) (xs:=([((gI (aE p) (i:Int)).1),((gI (aE p) (i:Int)).2),((gI (aE q) (k:Int)).1),((gI (aE q) (k:Int)).2)]:List Pt)) (v:=v43) (i:=↑w_) ah rfl (o45.flat.bel hw') (by omega) (by omega) rfl) ?_
      replace Rbut:=Rbut.cn ch50
      refine cl (v:=vb (decide ((gI ([((gI (aE p) (i:Int)).1),((gI (aE p) (i:Int)).2),((gI (aE q) (k:Int)).1),((gI (aE q) (k:Int)).2)]:List Pt) (w_:Int))∈but))) (wy q159) (λw' hw'=>aA (vals:=[but_v,vg [vi ((gI ([((gI (aE p) (i:Int)).1),((gI (aE p) (i:Int)).2),((gI (aE q) (k:Int)).1),((gI (aE q) (k:Int)).2)]:List Pt) (w_:Int)).1),vi ((gI ([((gI (aE p) (i:Int)).1),((gI (aE p) (i:Int)).2),((gI (aE q) (k:Int)).1),((gI (aE q) (k:Int)).2)]:List Pt) (w_:Int)).2)]]) Tryz.func97 ya yf rfl) (λw' hw'=>(zV w' but but_v ((Rbut.bel hw')).ro (gI ([((gI (aE p) (i:Int)).1),((gI (aE p) (i:Int)).2),((gI (aE q) (k:Int)).1),((gI (aE q) (k:Int)).2)]:List Pt) (w_:Int))).mono λe w2 h2=>⟨h2.1,hw'.trans (h2.2.mono hw'.size)⟩) ?_
      refine aH (v:=vb (!(decide ((gI ([((gI (aE p) (i:Int)).1),((gI (aE p) (i:Int)).2),((gI (aE q) (k:Int)).1),((gI (aE q) (k:Int)).2)]:List Pt) (w_:Int))∈but)))) (wy q159) (λw' hw'=>bZ (b:=(decide ((gI ([((gI (aE p) (i:Int)).1),((gI (aE p) (i:Int)).2),((gI (aE q) (k:Int)).1),((gI (aE q) (k:Int)).2)]:List Pt) (w_:Int))∈but))) rfl) (qv (vb (!(decide ((gI ([((gI (aE p) (i:Int)).1),((gI (aE p) (i:Int)).2),((gI (aE q) (k:Int)).1),((gI (aE q) (k:Int)).2)]:List Pt) (w_:Int))∈but)))) (λw' hw'=>aD rfl q159 rfl) (bN ?_))
      intro w52 hc53
      replace hc53:=ao hc53 g49
      by_cases p24:(decide ((gI ([((gI (aE p) (i:Int)).1),((gI (aE p) (i:Int)).2),((gI (aE q) (k:Int)).1),((gI (aE q) (k:Int)).2)]:List Pt) (w_:Int))∈but))=true
      ·
       refine ag rfl (congrArg Bool.not p24) (ak (al (a6 rfl (mz zs15 (lx (aM (m:=↑w_) (n:=1) rfl rfl (by omega)) (ai ((w_:Int)+1) (aa ?_)))))))
       replace bH:=bH.cn ch50
       refine back22 (w_+1,g49) _ _ ⟨bH.cn hc53,zs2,zs7,zs8,zs9,zs10,zs14,rfl,(Rp.cn ch50).cn hc53,(Rq.cn ch50).cn hc53,Rbut.cn hc53,o5.cn hc53,o12.cn hc53,o45.cn hc53,by omega,?_⟩ ?_
       · show gD but (gI (aE p) (i:Int)) (gI (aE q) (k:Int)) (w_+1)
         exact hge.c ‹_›
       · show 4-(w_+1)<4-w_
         omega
      refine af rfl (congrArg Bool.not (Bool.eq_false_iff.2 p24)) (a7 ?_)
      clear o5 o12 o45
      refine a6 rfl (ma (vb true) (aa (ar (vs:=[vb true]) Tryz.func81 (.tmp rfl .nil) ?_)))
      have e0:(true:Bool)=(decide (eG p q but)):=by
        exact np (i:=i) (k:=k) ‹_› ‹_› (by exact Bf (by rw[<-hrm];assumption) (by rw[<-hrm];assumption) ‹_› ‹_› ‹_› ‹_›)
      replace bH:=bH.cn ch50
      replace bH:=bH.cn hc53
      exact⟨rb e0,bH.below⟩
     refine av (wn (Bool.eq_false_iff.2 q159)) (av (wn (Bool.eq_false_iff.2 q159)) (av (wn (Bool.eq_false_iff.2 q159)) (av (wn (Bool.eq_false_iff.2 q159)) (av (wn (Bool.eq_false_iff.2 q159)) (av (wn (Bool.eq_false_iff.2 q159)) (av (wn (Bool.eq_false_iff.2 q159)) (qv (vb false) (λw' hw'=>aB rfl (Bool.eq_false_iff.2 q159) rfl) (bN ?_))))))))
     intro w54 hc55
     replace hc55:=ao hc55 g49
     refine ag rfl rfl (ak (al (a6 rfl (mz zs15 (lx (aM (m:=↑w_) (n:=1) rfl rfl (by omega)) (ai ((w_:Int)+1) (aa ?_)))))))
     replace bH:=bH.cn ch50
     refine back22 (w_+1,g49) _ _ ⟨bH.cn hc55,zs2,zs7,zs8,zs9,zs10,zs14,rfl,(Rp.cn ch50).cn hc55,(Rq.cn ch50).cn hc55,(Rbut.cn ch50).cn hc55,o5.cn hc55,o12.cn hc55,o45.cn hc55,by omega,?_⟩ ?_
     · show gD but (gI (aE p) (i:Int)) (gI (aE q) (k:Int)) (w_+1)
       exact hge.b ‹_›
     · show 4-(w_+1)<4-w_
       omega
    refine av (wn (Bool.eq_false_iff.2 q142)) (av (wn (Bool.eq_false_iff.2 q142)) (av (wn (Bool.eq_false_iff.2 q142)) (av (wn (Bool.eq_false_iff.2 q142)) (av (wn (Bool.eq_false_iff.2 q142)) (av (wn (Bool.eq_false_iff.2 q142)) (av (wn (Bool.eq_false_iff.2 q142)) (av (wn (Bool.eq_false_iff.2 q142)) (av (wn (Bool.eq_false_iff.2 q142)) (av (wn (Bool.eq_false_iff.2 q142)) ?_)))))))))
    refine av (wn (Bool.eq_false_iff.2 q142)) (av (wn (Bool.eq_false_iff.2 q142)) (av (wn (Bool.eq_false_iff.2 q142)) (av (wn (Bool.eq_false_iff.2 q142)) (av (wn (Bool.eq_false_iff.2 q142)) (qv (vb false) (λw' hw'=>aB rfl (Bool.eq_false_iff.2 q142) rfl) (qm (vb false) (av (wn rfl) (av (wn rfl) (av (wn rfl) ?_)))))))))
    refine av (wn rfl) (av (wn rfl) (av (wn rfl) (av (wn rfl) (qv (vb false) (λw' hw'=>aB rfl rfl rfl) (bN ?_)))))
    intro w56 hc57
    replace hc57:=ao hc57 g49
    refine ag rfl rfl (ak (al (a6 rfl (mz zs15 (lx (aM (m:=↑w_) (n:=1) rfl rfl (by omega)) (ai ((w_:Int)+1) (aa ?_)))))))
    replace bH:=bH.cn ch50
    refine back22 (w_+1,g49) _ _ ⟨bH.cn hc57,zs2,zs7,zs8,zs9,zs10,zs14,rfl,(Rp.cn ch50).cn hc57,(Rq.cn ch50).cn hc57,(Rbut.cn ch50).cn hc57,o5.cn hc57,(o12.cn ch50).cn hc57,o45.cn hc57,by omega,?_⟩ ?_
    · show gD but (gI (aE p) (i:Int)) (gI (aE q) (k:Int)) (w_+1)
      exact hge.a ‹_›
    · show 4-(w_+1)<4-w_
      omega
   refine ag rfl (df p22) (aJ rfl (al ?_))
   clear o45
   refine a6 rfl (mz zs10 (lx (aM (m:=↑k) (n:=1) rfl rfl (by omega)) (ai ((k:Int)+1) (aa ?_))))
   refine back6 (k+1,g49) _ _ ⟨bH,zs2,zs7,zs8,zs9,rfl,Rp,Rq,Rbut,o5,o12,by omega,?_⟩ ?_
   · show∀j_:Nat,j_<(k+1)->¬lI but (gI (aE p) (i:Int)) (gI (aE q) (j_:Int))
     intro j hj
     by_cases e0:j=k
     · subst e0
       exact B2 (by rw[<-hrm];assumption) (by rw[<-hrm];assumption) (by omega) hge
     · exact hrow j (by omega)
   · show Int.toNat (((List.length (aE q):Int):Int)-((k+1):Int))<Int.toNat (((List.length (aE q):Int):Int)-(k:Int))
     omega
  refine ag rfl (df p6) (aJ rfl (al (a6 rfl (mz zs9 (lx (aM (m:=↑i) (n:=1) rfl rfl (by omega)) (ai ((i:Int)+1) (aa ?_)))))))
  refine back3 (i+1,g21) _ _ ⟨bH,zs2,zs7,zs8,rfl,Rp,Rq,Rbut,o5,o12,by omega,?_⟩ ?_
  · show∀j_:Nat,j_<(i+1)->∀t_∈aE q,¬lI but (gI (aE p) (j_:Int)) t_
    intro j hj
    by_cases e0:j=i
    · subst e0;exact xq hrow ‹_›
    · exact hinv j (by omega)
  · show Int.toNat (((List.length (aE p):Int):Int)-((i+1):Int))<Int.toNat (((List.length (aE p):Int):Int)-(i:Int))
    omega
 refine ag rfl (df p3) (aJ rfl (a7 ?_))
 clear o5 o12
 refine a6 rfl (ma (vb false) (aa (ar (vs:=[vb false]) Tryz.func81 (.tmp rfl .nil) ?_)))
 have e0:(false:Bool)=(decide (eG p q but)):=by
   exact zN hinv ‹_›
 exact⟨rb e0,bH.below⟩
end TL
