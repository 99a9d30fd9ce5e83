import Derived.Test.YtmakonaaojadbaaBaTlP4
import Derived.Test.YtmakonaaojadbaaBaTlGmA
import Derived.Test.YtmakonaaojadbaaBaTlGenA
import Derived.Test.YtmakonaaojadbaaBaTlErA
import Derived.Test.YtmakonaaojadbaaProg
import Derived.Test.YtmakonaaojadbaaBaTlAli
set_option linter.all false
set_option maxRecDepth 20000
namespace TL
open Go Go.Proofs
theorem j9:Try.prog.follows .mixedOrders=true:=by kernel_rfl
theorem eA:Tp Try.prog 34 true 3 56 (.agg #[.slice none 0 0,.slice none 0 0,.int .i64 0]):=Tp.of (by kernel_rfl)
theorem kj:Try.f31.body.isNone=false:=rfl
theorem km:(Try.f31.name== "runtime.NumGoroutine")=false:=by decide+kernel
theorem sc:Try.f44.body.isNone=false:=rfl
theorem tx:(Try.f44.name== "runtime.NumGoroutine")=false:=by decide+kernel
set_option maxHeartbeats 8000000 in
theorem ip(w0:World)(g:(Int)×(List Pt))(g_v:Value)(hg_v:Ro w0 g_v g.2)(hm:bg g):
    Calls Try.prog 17 #[vg [vi g.1,g_v]] w0 (λee w=>∃xx:aJ×Value×Value,ee= .returned ((λ⟨δ,rv0,rv1⟩=>vg [rv0,rv1,vi (((aa g).2).2)]) xx)/\(λ(⟨δ,rv0,rv1⟩:aJ×Value×Value) (w:World)=>fv w0 δ w/\Ow δ (is 1) (is 1) w rv0 ((aa g).1)/\Ow δ (is 2) (is 2) w rv1 (((aa g).2).1)) xx w):=by
 refine aC Try.func17 rfl nq ?_
 have bH:=bv.start w0
 have Rg:=hg_v.sl
 have hm0:=hm
 obtain⟨hm1,hm2,hm3,hm4⟩:=hm0
 have hfl:=lp g hm1
 refine ab (a8 rfl (db rfl (d4 c0 (is 1) (1,0) rfl rfl ?_)))
 intro g4 w1 b3 ch2 bx5
 replace bx5:Bx g4 (is 1) w1 b3 [vi g.1,g_v]:=bx5
 refine lo (bI g4 (is 2) (2,0) rfl eA ?_)
 intro g9 w6 b8 ch7 bx10
 replace bx10:Bx g9 (is 2) w6 b8 [vn,vn,vi 0]:=bx10
 refine ag (ab (a8 rfl (lx (ad cZ rfl rfl rfl rfl) ?_)))
 replace bx5:=bx5.cn ch7
 refine lx (af bC rfl bx5 rfl) ?_
 replace Rg:=(Rg.cn ch2).cn ch7
 have len11:=(Rg).small
 refine lx (bu dD rfl Rg) (ai (g.2.length:Int) (ag (ab (a8 rfl (mi (g.2.length:Int) (lo (cW (α:=Int) (l:=(g.2.length:Int)) (cp:=(g.2.length:Int)) g9 (is 3) (is 3) (3,0) rfl (0:Int) bf ah rfl rfl rfl (by omega) (by omega) (by omega) (by omega) ?_)))))))
 intro g12 w13 v14 ch15 o16 hcap_
 clear hcap_
 refine ma v14 (ag (ab (ab (a8 rfl (ai 0 (ag (ar ?_)))))))
 refine bc (σ:=Nat×(List Int)×aJ) (λ⟨i,of0,gq⟩ f w=>bv w0 gq w/\f 1=vp b3 0/\f 2=vp b8 0/\f 3=vi (g.2.length:Int)/\f 4=v14/\f 5=vi ↑i/\Sl gq (is 0) w g_v g.2/\Bx gq (is 1) w b3 [vi g.1,g_v]/\Bx gq (is 2) w b8 [vn,vn,vi 0]/\Ow gq (is 3) (is 3) w v14 of0/\(i:Int)<=((g.2.length:Int):Int)/\(rT (g.2.length:Int) of0 i)) (λ⟨i,of0,gq⟩=>Int.toNat (((g.2.length:Int):Int)-(i:Int))) (0,(List.replicate (Int.toNat (g.2.length:Int)) (0:Int)),g12) ?_ ?_
 have C17:=cg [] (ch2.n.seq (ch7.n.seq ch15.n))
 · exact⟨bH.ca C17,rfl,rfl,rfl,rfl,rfl,Rg.cn ch15,bx5.cn ch15,bx10.cn ch15,o16,by omega,by exact rT.start (by omega)⟩
 clear Rg bx5 bx10 o16 bH
 rintro⟨i,of0,g20⟩ f18 w19 ⟨bH,zs1,zs2,zs3,zs4,zs5,Rg,bx5,bx10,o16,hle_i,hio⟩ back4
 have hil:=hio.lo
 refine ab (ab (a8 rfl (mz zs5 (mz zs3 (lx (bn (m:=↑i) (n:=(g.2.length:Int)) rfl rfl) (ag ?_))))))
 by_cases p4:(i:Int)<(g.2.length:Int)
 ·
  refine al rfl (dt p4) (av (ab (ar (a8 rfl (mz zs4 (mz zs5 (mz zs5 (lx (ae (v:=v14) (i:=↑i) bf rfl rfl o16.flat rfl (by omega) (by omega)) (lo ?_)))))))))
  refine aD (i:=↑i) (i:Int) ah rfl rfl o16 (by omega) (by omega) rfl ?_
  intro w21 ch22 bx23
  clear o16
  refine ag (ak (a8 rfl (mz zs5 (lx (aG (m:=↑i) (n:=1) rfl rfl (by omega)) (ai ((i:Int)+1) (ag ?_))))))
  refine back4 (i+1,(List.set of0 (Int.toNat ↑i) (i:Int)),g20) _ _ ⟨bH.ce ch22,zs1,zs2,zs3,zs4,rfl,Rg.ce ch22,bx5.ce ch22,bx10.ce ch22,bx23,by omega,?_⟩ ?_
  · show rT (g.2.length:Int) (List.set of0 (Int.toNat ↑i) (i:Int)) (i+1)
    exact hio.next (by omega)
  · show Int.toNat (((g.2.length:Int):Int)-((i+1):Int))<Int.toNat (((g.2.length:Int):Int)-(i:Int))
    omega
 refine aj rfl (df p4) (aF rfl (ab (a8 rfl (lx (aB (ds:=[vi g.1,g_v]) cO zs1 bx5 rfl rfl) (lo (ck (b9 (vals:=[vg [vi g.1,g_v]]) Try.func42 oA oB rfl) (mK w19 g g_v (Rg).ro (by exact hm)) ?_))))))
 rintro⟨d25,v27⟩ w24 ⟨fr26,o28⟩
 obtain⟨g29,ch30,G29⟩:=jh g20 fr26 (λn=>if n=1 then 4 else 0)
 replace o28:=o28.gl G29 4
 refine ma v27 (ag (ab (ab (a8 rfl (ai 0 (ag (ar ?_)))))))
 refine bc (σ:=Nat×(List Int)×aJ) (λ⟨v,of1,gq⟩ f w=>bv w0 gq w/\f 1=vp b3 0/\f 2=vp b8 0/\f 3=vi (g.2.length:Int)/\f 4=v14/\f 6=v27/\f 7=vi ↑v/\Sl gq (is 0) w g_v g.2/\Bx gq (is 1) w b3 [vi g.1,g_v]/\Bx gq (is 2) w b8 [vn,vn,vi 0]/\Ow gq (is 3) (is 3) w v14 of1/\cP gq 4 w v27 (am g)/\(v:Int)<=(g.1:Int)/\(qq g of1 v)) (λ⟨v,of1,gq⟩=>Int.toNat ((g.1:Int)-(v:Int))) (0,of0,g29) ?_ ?_
 · exact⟨bH.cn ch30,zs1,zs2,zs3,zs4,rfl,rfl,Rg.cn ch30,bx5.cn ch30,bx10.cn ch30,o16.cn ch30,o28,by omega,by exact hio.done (by omega)⟩
 clear Rg bx5 bx10 o16 o28 bH
 rintro⟨v,of1,g33⟩ f31 w32 ⟨bH,zs1,zs2,zs3,zs4,zs6,zs7,Rg,bx5,bx10,o16,o28,hle_v,hdc⟩ back9
 have hol1:=hdc.le.lo
 refine ab (ab (a8 rfl (mz zs7 (lx (ad cZ rfl rfl zs1 rfl) (lx (af ah rfl bx5 rfl) (lx (bn (m:=↑v) (n:=g.1) rfl rfl) (ag ?_)))))))
 by_cases p9:(v:Int)<g.1
 ·
  refine al rfl (dt p9) (av (ab (ar (ab (a8 rfl (lx (ad cZ rfl rfl zs1 rfl) (lx (af ah rfl bx5 rfl) (lo (cW (α:=Bool) (l:=g.1) (cp:=g.1) g33 (is 5) (is 5) (5,0) rfl false fk gZ rfl rfl rfl (by omega) (by omega) (by omega) (by omega) ?_)))))))))
  intro g34 w35 v36 ch37 o38 hcap_
  clear hcap_
  refine ma v36 (ag (ab (a8 rfl (mv v36 (mz zs7 (lx (ae (v:=v36) (i:=↑v) fk rfl rfl o38.flat rfl (by omega) (by(simp only[List.length_set,List.length_append,List.length_cons,List.length_nil,List.length_replicate,List.length_map,List.length_take,List.length_drop];omega))) (lo (aD (i:=↑v) true gZ rfl rfl o38 (by omega) (by(simp only[List.length_set,List.length_append,List.length_cons,List.length_nil,List.length_replicate,List.length_map,List.length_take,List.length_drop];omega)) rfl ?_))))))))
  intro w39 ch40 bx41
  clear o38
  refine ag (ab (a8 rfl ?_))
  replace bx5:=(bx5.cn ch37).ce ch40
  refine lx (aB (ds:=[vi g.1,g_v]) cO zs1 bx5 rfl rfl) (mv v36 ?_)
  replace Rg:=(Rg.cn ch37).ce ch40
  refine lo (ck (b9 (vals:=[vg [vi g.1,g_v],v36,vn]) Try.func31 kj km rfl) (gF w39 g g_v (Rg).ro (List.set (List.replicate (Int.toNat g.1) false) (Int.toNat ↑v) true) v36 (bx41.flat).ro ([]) vn (Sl.nil (γ:=c0) (S:=any)) (by exact hm) (by exact λ_=>by rw[List.length_set,List.length_replicate];omega) (by exact λh=>absurd h (by decide))) ?_)
  rintro⟨d43,v45⟩ w42 ⟨fr44,o46⟩
  obtain⟨g47,ch48,G47⟩:=jh g34 fr44 (λn=>if n=1 then 6 else 0)
  replace o46:=o46.gl G47 6
  refine mv (vt [v45,vi ((b7 g (List.set (List.replicate (Int.toNat g.1) false) (Int.toNat ↑v) true) ([])).2)]) (lx (aR rfl rfl) (lx (aR rfl rfl) (ma v45 (ai ((b7 g (List.set (List.replicate (Int.toNat g.1) false) (Int.toNat ↑v) true) ([])).2) (ag (ab ?_))))))
  clear bx41
  refine a8 rfl (lx (ad cZ rfl rfl zs1 rfl) ?_)
  replace bx5:=bx5.cn ch48
  refine lx (af ah rfl bx5 rfl) (lo (cW (α:=Int) (l:=g.1) (cp:=g.1) g47 (is 7) (is 7) (7,0) rfl (0:Int) bf ah rfl rfl rfl (by omega) (by omega) (by omega) (by omega) ?_))
  intro g49 w50 v51 ch52 o53 hcap_
  clear hcap_
  refine ma v51 (ag (ab (a8 rfl (ai 0 (ag (ar ?_))))))
  refine bc (σ:=Nat×(List Int)×(List Int)×aJ) (λ⟨k,fi,of2,gq⟩ f w=>bv w0 gq w/\f 1=vp b3 0/\f 2=vp b8 0/\f 3=vi (g.2.length:Int)/\f 4=v14/\f 6=v27/\f 7=vi ↑v/\f 9=v45/\f 11=v51/\f 12=vi ↑k/\Sl gq (is 0) w g_v g.2/\Bx gq (is 1) w b3 [vi g.1,g_v]/\Bx gq (is 2) w b8 [vn,vn,vi 0]/\Ow gq (is 3) (is 3) w v14 of2/\cP gq 4 w v27 (am g)/\Ow gq (is 6) (is 6) w v45 ((b7 g (List.set (List.replicate (Int.toNat g.1) false) (Int.toNat ↑v) true) ([])).1)/\Ow gq (is 7) (is 7) w v51 fi/\(k:Int)<=((List.length (gI (am g) (v:Int)):Int):Int)/\(m7 g of1 (v:Int) (b7 g (List.set (List.replicate (Int.toNat g.1) false) (Int.toNat ↑v) true) []).1 fi of2 k)) (λ⟨k,fi,of2,gq⟩=>Int.toNat (((List.length (gI (am g) (v:Int)):Int):Int)-(k:Int))) (0,(List.replicate (Int.toNat g.1) (0:Int)),of1,g49) ?_ ?_
  have C54:=cg [5] (ch37.n.seq ((ch40.l rfl).seq (ch48.n.seq ch52.n)))
  · exact⟨bH.ca C54,zs1,zs2,zs3,zs4,zs6,zs7,rfl,rfl,rfl,(Rg.cn ch48).cn ch52,bx5.cn ch52,bx10.ca C54,o16.ca C54,o28.ca C54,o46.cn ch52,o53,by omega,by exact m7.start hm (by omega) (by omega) rfl hdc.le⟩
  clear Rg bx5 bx10 o16 o28 o46 o53 bH
  rintro⟨k,fi,of2,g57⟩ f55 w56 ⟨bH,zs1,zs2,zs3,zs4,zs6,zs7,zs9,zs11,zs12,Rg,bx5,bx10,o16,o28,o46,o53,hle_k,hrd⟩ back16
  have hfl2:=hrd.fl
  have hol2:=hrd.le.lo
  have hfg:=dL (g:=g) (v:=(v:Int)) (by omega) (by omega)
  refine ab (ab ?_)
  have hcl:(((b7 g (List.set (List.replicate (Int.toNat g.1) false) (Int.toNat ↑v) true) []).1).length:Int)=g.1:=(kx hm).1
  refine a8 rfl (mz zs12 (mz zs6 (mz zs7 (lx (ae (v:=v27) (i:=↑v) dB rfl rfl o28.sl rfl (by omega) (by omega)) ?_))))
  obtain⟨v58,cel59,r60⟩:=bR (r:=(v:Int)) o28 (by omega) (by omega)
  refine lx (bB bh rfl cel59) ?_
  have len61:=(r60.row_sl).small
  refine lx (bu bf rfl r60.row_sl) (lx (bn (m:=↑k) (n:=(List.length (gI (am g) (v:Int)):Int)) rfl rfl) (ag ?_))
  by_cases p16:(k:Int)<(List.length (gI (am g) (v:Int)):Int)
  ·
   refine al rfl (dt p16) ?_
   have hkl:(k:Int)<(bL g (v:Int)).length:=by rw[<-hfg];assumption
   obtain⟨_,⟨hr1,hr2⟩,_⟩:=nF hkl
   rw[<-hfg] at hr1 hr2
   obtain⟨hto1,hto2⟩:=dM hm hr1 hr2
   refine av (ab (ar (ab ?_)))
   clear cel59 r60
   refine a8 rfl (mz zs6 (mz zs7 (lx (ae (v:=v27) (i:=↑v) dB rfl rfl o28.sl rfl (by omega) (by omega)) ?_)))
   obtain⟨v62,cel63,r64⟩:=bR (r:=(v:Int)) o28 (by omega) (by omega)
   refine lx (bB bh rfl cel63) (mz zs12 (lx (ae (v:=v62) (i:=↑k) bf rfl rfl r64.row_sl rfl (by omega) (by omega)) (lx (aq (v:=v62) (i:=↑k) ah rfl r64.row_sl (by omega) (by omega) (by decide) rfl) (lx (fe (m:=(gI (gI (am g) (v:Int)) (k:Int))) (n:=2) rfl rfl (by omega) (by omega) (by omega)) (ai ((gI (gI (am g) (v:Int)) (k:Int))/2) (ag (ab ?_)))))))
   clear cel63 r64
   refine cq g57 rfl j9 (by kernel_rfl) ?_
   intro w66 ch65
   replace bx5:=bx5.cn ch65
   refine qx (λw' hw'=>aB (ds:=[vi g.1,g_v]) cO zs1 (bx5.bel hw') rfl rfl) (qz zs6 (qz zs7 ?_))
   replace o28:=o28.cn ch65
   refine qx (λw' hw'=>ae (v:=v27) (i:=↑v) dB rfl rfl (o28.sl.bel hw') rfl (by omega) (by omega)) ?_
   obtain⟨v67,cel68,r69⟩:=bR (r:=(v:Int)) o28 (by omega) (by omega)
   refine qx (λw' hw'=>bB bh rfl (eC cel68 hw')) (qz zs12 (qx (λw' hw'=>ae (v:=v67) (i:=↑k) bf rfl rfl (r69.row_sl.bel hw') rfl (by omega) (by omega)) (qx (λw' hw'=>aq (v:=v67) (i:=↑k) ah rfl (r69.row_sl.bel hw') (by omega) (by omega) (by decide) rfl) ?_)))
   replace Rg:=Rg.cn ch65
   refine gE (v:=vi (b6 g (gI (gI (am g) (v:Int)) (k:Int)))) rfl (λw' hw'=>b9 (vals:=[vg [vi g.1,g_v],vi (gI (gI (am g) (v:Int)) (k:Int))]) Try.func43 lK lU rfl) (λw' hw'=>(oa w' g g_v ((Rg.bel hw')).ro (gI (gI (am g) (v:Int)) (k:Int)) (by omega) (by omega)).mono λe w2 h2=>⟨h2.1,hw'.trans (h2.2.mono hw'.size)⟩) (qv (vi (b6 g (gI (gI (am g) (v:Int)) (k:Int)))) (λw' hw'=>c7 rfl) (d8 ?_))
   intro w70 hc71
   replace hc71:=aS hc71 g57
   refine ab (ab ?_)
   clear cel68 r69
   refine a8 rfl (mi (b6 g (gI (gI (am g) (v:Int)) (k:Int))) (mz zs7 (lx (cH (m:=b6 g (gI (gI (am g) (v:Int)) (k:Int))) (n:=↑v) rfl rfl) (ag ?_))))
   by_cases p20:(b6 g (gI (gI (am g) (v:Int)) (k:Int)))=(v:Int)
   ·
    refine al rfl (dt p20) (aF rfl (a8 rfl (mz zs12 (lx (aG (m:=↑k) (n:=1) rfl rfl (by omega)) (ai ((k:Int)+1) (ag ?_))))))
    replace bH:=bH.cn ch65
    refine back16 (k+1,fi,of2,g57) _ _ ⟨bH.cn hc71,zs1,zs2,zs3,zs4,zs6,zs7,zs9,zs11,rfl,Rg.cn hc71,bx5.cn hc71,(bx10.cn ch65).cn hc71,(o16.cn ch65).cn hc71,o28.cn hc71,(o46.cn ch65).cn hc71,(o53.cn ch65).cn hc71,by omega,?_⟩ ?_
    · show m7 g of1 (v:Int) (b7 g (List.set (List.replicate (Int.toNat g.1) false) (Int.toNat ↑v) true) []).1 fi of2 (k+1)
      (rw[hfg] at*;exact hrd.loop hkl ‹_›)
    · show Int.toNat (((List.length (gI (am g) (v:Int)):Int):Int)-((k+1):Int))<Int.toNat (((List.length (gI (am g) (v:Int)):Int):Int)-(k:Int))
      omega
   refine aj rfl (df p20) (av (ab (ab ?_)))
   obtain⟨hcb0,hcb1⟩:=hrd.cb hm hto1 hto2 (show¬_ from by assumption)
   obtain⟨hfb0,hfb1⟩:=hrd.fb _ hcb0 hcb1
   refine a8 rfl (mz zs11 (mz zs9 (mi (b6 g (gI (gI (am g) (v:Int)) (k:Int))) ?_)))
   replace o46:=(o46.cn ch65).cn hc71
   refine lx (ae (v:=v45) (i:=b6 g (gI (gI (am g) (v:Int)) (k:Int))) bf rfl rfl o46.flat rfl (by omega) (by omega)) (lx (aq (v:=v45) (i:=b6 g (gI (gI (am g) (v:Int)) (k:Int))) ah rfl o46.flat (by omega) (by omega) (by decide) rfl) ?_)
   replace o53:=(o53.cn ch65).cn hc71
   refine lx (ae (v:=v51) (i:=(gI ((b7 g (List.set (List.replicate (Int.toNat g.1) false) (Int.toNat ↑v) true) ([])).1) (b6 g (gI (gI (am g) (v:Int)) (k:Int))))) bf rfl rfl o53.flat rfl (by omega) (by omega)) (lx (aq (v:=v51) (i:=(gI ((b7 g (List.set (List.replicate (Int.toNat g.1) false) (Int.toNat ↑v) true) ([])).1) (b6 g (gI (gI (am g) (v:Int)) (k:Int))))) ah rfl o53.flat (by omega) (by omega) (by decide) rfl) (lx (cH (m:=(gI fi (gI ((b7 g (List.set (List.replicate (Int.toNat g.1) false) (Int.toNat ↑v) true) ([])).1) (b6 g (gI (gI (am g) (v:Int)) (k:Int)))))) (n:=0) rfl rfl) (ag ?_)))
   by_cases p21:(gI fi (gI ((b7 g (List.set (List.replicate (Int.toNat g.1) false) (Int.toNat ↑v) true) ([])).1) (b6 g (gI (gI (am g) (v:Int)) (k:Int)))))=0
   ·
    refine al rfl (dt p21) (ab (a8 rfl (mz zs11 (mz zs9 (mi (b6 g (gI (gI (am g) (v:Int)) (k:Int))) (lx (ae (v:=v45) (i:=b6 g (gI (gI (am g) (v:Int)) (k:Int))) bf rfl rfl o46.flat rfl (by omega) (by omega)) (lx (aq (v:=v45) (i:=b6 g (gI (gI (am g) (v:Int)) (k:Int))) ah rfl o46.flat (by omega) (by omega) (by decide) rfl) (mi ((gI (gI (am g) (v:Int)) (k:Int))/2) (lx (aG (m:=(gI (gI (am g) (v:Int)) (k:Int))/2) (n:=1) rfl rfl (by omega)) (lx (ae (v:=v51) (i:=(gI ((b7 g (List.set (List.replicate (Int.toNat g.1) false) (Int.toNat ↑v) true) ([])).1) (b6 g (gI (gI (am g) (v:Int)) (k:Int))))) bf rfl rfl o53.flat rfl (by omega) (by omega)) ?_))))))))))
    refine lo (aD (i:=(gI ((b7 g (List.set (List.replicate (Int.toNat g.1) false) (Int.toNat ↑v) true) ([])).1) (b6 g (gI (gI (am g) (v:Int)) (k:Int))))) (((gI (gI (am g) (v:Int)) (k:Int))/2)+1) ah rfl rfl o53 (by omega) (by omega) rfl ?_)
    intro w72 ch73 bx74
    clear o53
    refine ag (aF rfl (a8 rfl (mz zs12 (lx (aG (m:=↑k) (n:=1) rfl rfl (by omega)) (ai ((k:Int)+1) (ag ?_))))))
    have C75:=cg [7] (ch65.n.seq (hc71.n.seq (ch73.l rfl)))
    refine back16 (k+1,(List.set fi (Int.toNat (gI ((b7 g (List.set (List.replicate (Int.toNat g.1) false) (Int.toNat ↑v) true) ([])).1) (b6 g (gI (gI (am g) (v:Int)) (k:Int))))) (((gI (gI (am g) (v:Int)) (k:Int))/2)+1)),of2,g57) _ _ ⟨bH.ca C75,zs1,zs2,zs3,zs4,zs6,zs7,zs9,zs11,rfl,(Rg.cn hc71).ce ch73,(bx5.cn hc71).ce ch73,bx10.ca C75,o16.ca C75,(o28.cn hc71).ce ch73,o46.ce ch73,bx74,by omega,?_⟩ ?_
    · show m7 g of1 (v:Int) (b7 g (List.set (List.replicate (Int.toNat g.1) false) (Int.toNat ↑v) true) []).1 (List.set fi (Int.toNat (gI ((b7 g (List.set (List.replicate (Int.toNat g.1) false) (Int.toNat ↑v) true) ([])).1) (b6 g (gI (gI (am g) (v:Int)) (k:Int))))) (((gI (gI (am g) (v:Int)) (k:Int))/2)+1)) of2 (k+1)
      (rw[hfg] at*;exact hrd.first hm hkl ‹_› ‹_›)
    · show Int.toNat (((List.length (gI (am g) (v:Int)):Int):Int)-((k+1):Int))<Int.toNat (((List.length (gI (am g) (v:Int)):Int):Int)-(k:Int))
      omega
   refine aj rfl (df p21) (av (a8 rfl (mz zs4 (mz zs11 (mz zs9 (mi (b6 g (gI (gI (am g) (v:Int)) (k:Int))) (lx (ae (v:=v45) (i:=b6 g (gI (gI (am g) (v:Int)) (k:Int))) bf rfl rfl o46.flat rfl (by omega) (by omega)) (lx (aq (v:=v45) (i:=b6 g (gI (gI (am g) (v:Int)) (k:Int))) ah rfl o46.flat (by omega) (by omega) (by decide) rfl) (lx (ae (v:=v51) (i:=(gI ((b7 g (List.set (List.replicate (Int.toNat g.1) false) (Int.toNat ↑v) true) ([])).1) (b6 g (gI (gI (am g) (v:Int)) (k:Int))))) bf rfl rfl o53.flat rfl (by omega) (by omega)) ?_)))))))))
   refine lx (aq (v:=v51) (i:=(gI ((b7 g (List.set (List.replicate (Int.toNat g.1) false) (Int.toNat ↑v) true) ([])).1) (b6 g (gI (gI (am g) (v:Int)) (k:Int))))) ah rfl o53.flat (by omega) (by omega) (by decide) rfl) (lx (dm (m:=(gI fi (gI ((b7 g (List.set (List.replicate (Int.toNat g.1) false) (Int.toNat ↑v) true) ([])).1) (b6 g (gI (gI (am g) (v:Int)) (k:Int)))))) (n:=1) rfl rfl (by omega)) (mi ((gI (gI (am g) (v:Int)) (k:Int))/2) (lo (cv (b9 (vals:=[v14,vi ((gI fi (gI ((b7 g (List.set (List.replicate (Int.toNat g.1) false) (Int.toNat ↑v) true) ([])).1) (b6 g (gI (gI (am g) (v:Int)) (k:Int)))))-1),vi ((gI (gI (am g) (v:Int)) (k:Int))/2)]) Try.func44 sc tx rfl) (aC Try.func44 rfl nq ?_)))))
   replace o16:=(o16.cn ch65).cn hc71
   refine ab (cq g57 rfl j9 (by kernel_rfl) ?_)
   intro w77 ch76
   refine qm v14 (qm (vi ((gI fi (gI ((b7 g (List.set (List.replicate (Int.toNat g.1) false) (Int.toNat ↑v) true) ([])).1) (b6 g (gI (gI (am g) (v:Int)) (k:Int)))))-1)) ?_)
   replace o16:=o16.cn ch76
   refine qx (λw' hw'=>ae (v:=v14) (i:=(gI fi (gI ((b7 g (List.set (List.replicate (Int.toNat g.1) false) (Int.toNat ↑v) true) ([])).1) (b6 g (gI (gI (am g) (v:Int)) (k:Int)))))-1) bf rfl rfl (o16.flat.bel hw') rfl (by omega) (by omega)) (qx (λw' hw'=>aq (v:=v14) (i:=(gI fi (gI ((b7 g (List.set (List.replicate (Int.toNat g.1) false) (Int.toNat ↑v) true) ([])).1) (b6 g (gI (gI (am g) (v:Int)) (k:Int)))))-1) ah rfl (o16.flat.bel hw') (by omega) (by omega) (by decide) rfl) (qm v14 (qm (vi ((gI (gI (am g) (v:Int)) (k:Int))/2)) (qx (λw' hw'=>ae (v:=v14) (i:=(gI (gI (am g) (v:Int)) (k:Int))/2) bf rfl rfl (o16.flat.bel hw') rfl (by omega) (by omega)) ?_))))
   refine qx (λw' hw'=>aq (v:=v14) (i:=(gI (gI (am g) (v:Int)) (k:Int))/2) ah rfl (o16.flat.bel hw') (by omega) (by omega) (by decide) rfl) (qv (vi (min (gI of2 ((gI fi (gI ((b7 g (List.set (List.replicate (Int.toNat g.1) false) (Int.toNat ↑v) true) ([])).1) (b6 g (gI (gI (am g) (v:Int)) (k:Int)))))-1)) (gI of2 ((gI (gI (am g) (v:Int)) (k:Int))/2)))) (λw' hw'=>ls rfl rfl) (qm v14 (qm (vi ((gI fi (gI ((b7 g (List.set (List.replicate (Int.toNat g.1) false) (Int.toNat ↑v) true) ([])).1) (b6 g (gI (gI (am g) (v:Int)) (k:Int)))))-1)) ?_)))
   refine qx (λw' hw'=>ae (v:=v14) (i:=(gI fi (gI ((b7 g (List.set (List.replicate (Int.toNat g.1) false) (Int.toNat ↑v) true) ([])).1) (b6 g (gI (gI (am g) (v:Int)) (k:Int)))))-1) bf rfl rfl (o16.flat.bel hw') rfl (by omega) (by omega)) (qx (λw' hw'=>aq (v:=v14) (i:=(gI fi (gI ((b7 g (List.set (List.replicate (Int.toNat g.1) false) (Int.toNat ↑v) true) ([])).1) (b6 g (gI (gI (am g) (v:Int)) (k:Int)))))-1) ah rfl (o16.flat.bel hw') (by omega) (by omega) (by decide) rfl) (qm v14 (qm (vi ((gI (gI (am g) (v:Int)) (k:Int))/2)) (qx (λw' hw'=>ae (v:=v14) (i:=(gI (gI (am g) (v:Int)) (k:Int))/2) bf rfl rfl (o16.flat.bel hw') rfl (by omega) (by omega)) ?_))))
   refine qx (λw' hw'=>aq (v:=v14) (i:=(gI (gI (am g) (v:Int)) (k:Int))/2) ah rfl (o16.flat.bel hw') (by omega) (by omega) (by decide) rfl) (qv (vi (max (gI of2 ((gI fi (gI ((b7 g (List.set (List.replicate (Int.toNat g.1) false) (Int.toNat ↑v) true) ([])).1) (b6 g (gI (gI (am g) (v:Int)) (k:Int)))))-1)) (gI of2 ((gI (gI (am g) (v:Int)) (k:Int))/2)))) (λw' hw'=>uA rfl rfl) (qv (vi (min (gI of2 ((gI fi (gI ((b7 g (List.set (List.replicate (Int.toNat g.1) false) (Int.toNat ↑v) true) ([])).1) (b6 g (gI (gI (am g) (v:Int)) (k:Int)))))-1)) (gI of2 ((gI (gI (am g) (v:Int)) (k:Int))/2)))) (λw' hw'=>c7 rfl) ?_))
   refine qv (vi (max (gI of2 ((gI fi (gI ((b7 g (List.set (List.replicate (Int.toNat g.1) false) (Int.toNat ↑v) true) ([])).1) (b6 g (gI (gI (am g) (v:Int)) (k:Int)))))-1)) (gI of2 ((gI (gI (am g) (v:Int)) (k:Int))/2)))) (λw' hw'=>c7 rfl) (d8 ?_)
   intro w78 hc79
   replace hc79:=aS hc79 g57
   refine ab (a8 rfl (ai 0 (ag (ar ?_))))
   refine bc (σ:=Nat×(List Int)×aJ) (λ⟨i_c1,of_c1,gq⟩ f w=>bv w0 gq w/\f 0=v14/\f 6=vi (min (gI of2 ((gI fi (gI ((b7 g (List.set (List.replicate (Int.toNat g.1) false) (Int.toNat ↑v) true) ([])).1) (b6 g (gI (gI (am g) (v:Int)) (k:Int)))))-1)) (gI of2 ((gI (gI (am g) (v:Int)) (k:Int))/2)))/\f 7=vi (max (gI of2 ((gI fi (gI ((b7 g (List.set (List.replicate (Int.toNat g.1) false) (Int.toNat ↑v) true) ([])).1) (b6 g (gI (gI (am g) (v:Int)) (k:Int)))))-1)) (gI of2 ((gI (gI (am g) (v:Int)) (k:Int))/2)))/\f 8=vi ↑i_c1/\Sl gq (is 0) w g_v g.2/\Bx gq (is 1) w b3 [vi g.1,g_v]/\Bx gq (is 2) w b8 [vn,vn,vi 0]/\Ow gq (is 3) (is 3) w v14 of_c1/\cP gq 4 w v27 (am g)/\Ow gq (is 6) (is 6) w v45 ((b7 g (List.set (List.replicate (Int.toNat g.1) false) (Int.toNat ↑v) true) ([])).1)/\Ow gq (is 7) (is 7) w v51 fi/\(nC of2 ((gI fi (gI ((b7 g (List.set (List.replicate (Int.toNat g.1) false) (Int.toNat ↑v) true) ([])).1) (b6 g (gI (gI (am g) (v:Int)) (k:Int)))))-1) ((gI (gI (am g) (v:Int)) (k:Int))/2) of_c1 i_c1)) (λ⟨i_c1,of_c1,gq⟩=>Int.toNat ((of2.length:Int)-(i_c1:Int))) (0,of2,g57) ?_ ?_
   have C81:=cg [] (hc71.n.seq (ch76.n.seq hc79.n))
   have C80:=ch65.n.seq C81
   · exact⟨bH.ca C80,rfl,rfl,rfl,rfl,Rg.ca C81,bx5.ca C81,bx10.ca C80,o16.cn hc79,o28.ca C81,(o46.cn ch76).cn hc79,(o53.cn ch76).cn hc79,by exact nC.start⟩
   clear Rg bx5 bx10 o16 o28 o46 o53 bH
   rintro⟨i_c1,of_c1,g84⟩ f82 w83 ⟨bH,zs0_c1,zs6_c1,zs7_c1,zs8_c1,Rg,bx5,bx10,o16,o28,o46,o53,hjo_c1⟩ back2_c1
   have hjl_c1:=hjo_c1.lo
   refine ab (ab (a8 rfl (mz zs8_c1 (mz zs0_c1 ?_))))
   have len85:=(o16.flat).small
   refine lx (bu bf rfl o16.flat) (lx (bn (m:=↑i_c1) (n:=(of_c1.length:Int)) rfl rfl) (ag ?_))
   by_cases p2_c1:(i_c1:Int)<(of_c1.length:Int)
   ·
    refine al rfl (dt p2_c1) (av (ab (ar (ab (a8 rfl (mz zs0_c1 (mz zs8_c1 (lx (ae (v:=v14) (i:=↑i_c1) bf rfl rfl o16.flat rfl (by omega) (by omega)) (lx (aq (v:=v14) (i:=↑i_c1) ah rfl o16.flat (by omega) (by omega) (by decide) rfl) (mz zs7_c1 ?_))))))))))
    refine lx (cH (m:=(gI of_c1 ↑i_c1)) (n:=max (gI of2 ((gI fi (gI ((b7 g (List.set (List.replicate (Int.toNat g.1) false) (Int.toNat ↑v) true) ([])).1) (b6 g (gI (gI (am g) (v:Int)) (k:Int)))))-1)) (gI of2 ((gI (gI (am g) (v:Int)) (k:Int))/2))) rfl rfl) (ag ?_)
    by_cases p4_c1:(gI of_c1 ↑i_c1)=(max (gI of2 ((gI fi (gI ((b7 g (List.set (List.replicate (Int.toNat g.1) false) (Int.toNat ↑v) true) ([])).1) (b6 g (gI (gI (am g) (v:Int)) (k:Int)))))-1)) (gI of2 ((gI (gI (am g) (v:Int)) (k:Int))/2)))
    ·
     refine al rfl (dt p4_c1) (a8 rfl (mz zs0_c1 (mz zs8_c1 (mz zs6_c1 (lx (ae (v:=v14) (i:=↑i_c1) bf rfl rfl o16.flat rfl (by omega) (by omega)) (lo (aD (i:=↑i_c1) (min (gI of2 ((gI fi (gI ((b7 g (List.set (List.replicate (Int.toNat g.1) false) (Int.toNat ↑v) true) ([])).1) (b6 g (gI (gI (am g) (v:Int)) (k:Int)))))-1)) (gI of2 ((gI (gI (am g) (v:Int)) (k:Int))/2))) ah rfl rfl o16 (by omega) (by omega) rfl ?_)))))))
     intro w86 ch87 bx88
     clear o16
     refine ag (ak (a8 rfl (mz zs8_c1 (lx (aG (m:=↑i_c1) (n:=1) rfl rfl (by omega)) (ai ((i_c1:Int)+1) (ag ?_))))))
     refine back2_c1 (i_c1+1,(List.set of_c1 (Int.toNat ↑i_c1) (min (gI of2 ((gI fi (gI ((b7 g (List.set (List.replicate (Int.toNat g.1) false) (Int.toNat ↑v) true) ([])).1) (b6 g (gI (gI (am g) (v:Int)) (k:Int)))))-1)) (gI of2 ((gI (gI (am g) (v:Int)) (k:Int))/2)))),g84) _ _ ⟨bH.ce ch87,zs0_c1,zs6_c1,zs7_c1,rfl,Rg.ce ch87,bx5.ce ch87,bx10.ce ch87,bx88,o28.ce ch87,o46.ce ch87,o53.ce ch87,?_⟩ ?_
     · show nC of2 ((gI fi (gI ((b7 g (List.set (List.replicate (Int.toNat g.1) false) (Int.toNat ↑v) true) ([])).1) (b6 g (gI (gI (am g) (v:Int)) (k:Int)))))-1) ((gI (gI (am g) (v:Int)) (k:Int))/2) (List.set of_c1 (Int.toNat ↑i_c1) (min (gI of2 ((gI fi (gI ((b7 g (List.set (List.replicate (Int.toNat g.1) false) (Int.toNat ↑v) true) ([])).1) (b6 g (gI (gI (am g) (v:Int)) (k:Int)))))-1)) (gI of2 ((gI (gI (am g) (v:Int)) (k:Int))/2)))) (i_c1+1)
       exact hjo_c1.yes (by omega) ‹_›
     · show Int.toNat ((of2.length:Int)-((i_c1+1):Int))<Int.toNat ((of2.length:Int)-(i_c1:Int))
       omega
    refine aj rfl (df p4_c1) (av (ak (a8 rfl (mz zs8_c1 (lx (aG (m:=↑i_c1) (n:=1) rfl rfl (by omega)) (ai ((i_c1:Int)+1) (ag ?_)))))))
    refine back2_c1 (i_c1+1,of_c1,g84) _ _ ⟨bH,zs0_c1,zs6_c1,zs7_c1,rfl,Rg,bx5,bx10,o16,o28,o46,o53,?_⟩ ?_
    · show nC of2 ((gI fi (gI ((b7 g (List.set (List.replicate (Int.toNat g.1) false) (Int.toNat ↑v) true) ([])).1) (b6 g (gI (gI (am g) (v:Int)) (k:Int)))))-1) ((gI (gI (am g) (v:Int)) (k:Int))/2) of_c1 (i_c1+1)
      exact hjo_c1.no (by omega) ‹_›
    · show Int.toNat ((of2.length:Int)-((i_c1+1):Int))<Int.toNat ((of2.length:Int)-(i_c1:Int))
      omega
   refine aj rfl (df p2_c1) (aF rfl (dw (vs:=[]) Try.func44 .nil ?_))
   refine⟨vt [],rfl,?_⟩
   refine ag (ak (a8 rfl (mz zs12 (lx (aG (m:=↑k) (n:=1) rfl rfl (by omega)) (ai ((k:Int)+1) (ag ?_))))))
   refine back16 (k+1,fi,of_c1,g84) _ _ ⟨bH,zs1,zs2,zs3,zs4,zs6,zs7,zs9,zs11,rfl,Rg,bx5,bx10,o16,o28,o46,o53,by omega,?_⟩ ?_
   · show m7 g of1 (v:Int) (b7 g (List.set (List.replicate (Int.toNat g.1) false) (Int.toNat ↑v) true) []).1 fi of_c1 (k+1)
     (rw[hfg] at*;exact hrd.join hm hkl ‹_› ‹_› (hjo_c1.done ‹_›))
   · show Int.toNat (((List.length (gI (am g) (v:Int)):Int):Int)-((k+1):Int))<Int.toNat (((List.length (gI (am g) (v:Int)):Int):Int)-(k:Int))
     omega
  refine aj rfl (df p16) (aF rfl (ak ?_))
  clear o46 o53 cel59 r60
  refine a8 rfl (mz zs7 (lx (aG (m:=↑v) (n:=1) rfl rfl (by omega)) (ai ((v:Int)+1) (ag ?_))))
  refine back9 (v+1,of2,g57) _ _ ⟨bH,zs1,zs2,zs3,zs4,zs6,rfl,Rg,bx5,bx10,o16,o28,by omega,?_⟩ ?_
  · show qq g of2 (v+1)
    exact hdc.next hm (by rw[hfg] at*;exact hrd) (by rw[<-hfg];assumption)
  · show Int.toNat ((g.1:Int)-((v+1):Int))<Int.toNat ((g.1:Int)-(v:Int))
    omega
 refine aj rfl (df p9) (aF rfl (ab (a8 rfl (mz zs3 (lo (cW (α:=Int) (l:=(g.2.length:Int)) (cp:=(g.2.length:Int)) g33 (is 8) (is 8) (8,0) rfl (0:Int) bf ah rfl rfl rfl (by omega) (by omega) (by omega) (by omega) ?_))))))
 intro g89 w90 v91 ch92 o93 hcap_
 clear hcap_
 refine lw (vg [v91,vn,vi 0]) (bE (vs:=[(0,v91)]) rfl (by rw[Sl.form o93.flat];kernel_rfl)) (lo (bI g89 (is 9) (9,0) rfl eA ?_))
 intro g97 w94 b96 ch95 bx98
 replace bx98:Bx g97 (is 9) w94 b96 [vn,vn,vi 0]:=bx98
 refine lo ?_
 replace o93:=o93.cn ch95
 refine aI (cs':=[v91,vn,vi 0]) eA rfl rfl bx98 rfl nq (AllOne.all (.cons (bQ o93.flat) (.cons rfl (.cons rfl .nil)))) rfl ?_
 intro w99 ch100 bx101
 clear bx98
 refine ag (ab (a8 rfl (mz zs3 (lo (cW (α:=Int) (l:=(g.2.length:Int)) (cp:=(g.2.length:Int)) g97 (is 10) (is 10) (10,0) rfl (0:Int) bf ah rfl rfl rfl (by omega) (by omega) (by omega) (by omega) ?_)))))
 intro g102 w103 v104 ch105 o106 hcap_
 clear hcap_
 refine ma v104 (ag (ab (ab (a8 rfl (ai 0 (ag (ar ?_)))))))
 refine bc (σ:=Int×Nat×(List Int)×aJ) (λ⟨ct,i3,nu,gq⟩ f w=>bv w0 gq w/\f 1=vp b3 0/\f 2=vp b8 0/\f 3=vi (g.2.length:Int)/\f 4=v14/\f 6=v27/\f 15=vp b96 0/\f 16=v104/\f 17=vi ↑i3/\Sl gq (is 0) w g_v g.2/\Bx gq (is 1) w b3 [vi g.1,g_v]/\Bx gq (is 2) w b8 [vn,vn,vi 0]/\Ow gq (is 3) (is 3) w v14 of1/\cP gq 4 w v27 (am g)/\Ow gq (is 8) (is 8) w v91 (List.replicate (Int.toNat (g.2.length:Int)) (0:Int))/\Bx gq (is 9) w b96 [v91,vn,vi ct]/\Ow gq (is 10) (is 10) w v104 nu/\(i3:Int)<=((g.2.length:Int):Int)/\(nI of1 nu ct i3)) (λ⟨ct,i3,nu,gq⟩=>Int.toNat (((g.2.length:Int):Int)-(i3:Int))) (0,0,(List.replicate (Int.toNat (g.2.length:Int)) (0:Int)),g102) ?_ ?_
 have C107:=cg [9] (ch92.n.seq (ch95.n.seq ((ch100.l rfl).seq ch105.n)))
 · exact⟨bH.ca C107,zs1,zs2,zs3,zs4,zs6,rfl,rfl,rfl,Rg.ca C107,bx5.ca C107,bx10.ca C107,o16.ca C107,o28.ca C107,(o93.ce ch100).cn ch105,bx101.cn ch105,o106,by omega,by exact nI.start hol1⟩
 clear Rg bx5 bx10 o16 o28 o93 bx101 o106 bH
 rintro⟨ct,i3,nu,g110⟩ f108 w109 ⟨bH,zs1,zs2,zs3,zs4,zs6,zs15,zs16,zs17,Rg,bx5,bx10,o16,o28,o93,bx101,o106,hle_i3,hnu⟩ back27
 have hnl:=hnu.lo
 obtain⟨hct0,hct1⟩:=hnu.cb
 refine ab (ab (a8 rfl (mz zs17 (mz zs3 (lx (bn (m:=↑i3) (n:=(g.2.length:Int)) rfl rfl) (ag ?_))))))
 by_cases p27:(i3:Int)<(g.2.length:Int)
 ·
  refine al rfl (dt p27) (av (ab (ar (ab (a8 rfl (mz zs4 (mz zs17 (lx (ae (v:=v14) (i:=↑i3) bf rfl rfl o16.flat rfl (by omega) (by omega)) (lx (aq (v:=v14) (i:=↑i3) ah rfl o16.flat (by omega) (by omega) (by decide) rfl) (mz zs17 ?_))))))))))
  refine lx (cH (m:=(gI of1 ↑i3)) (n:=↑i3) rfl rfl) (ag ?_)
  by_cases p29:(gI of1 ↑i3)=(i3:Int)
  ·
   refine al rfl (dt p29) (ab (a8 rfl (mz zs16 (mz zs17 (lx (ad eD rfl rfl zs15 rfl) (lx (af ah rfl bx101 rfl) (lx (ae (v:=v104) (i:=↑i3) bf rfl rfl o106.flat rfl (by omega) (by omega)) (lo (aD (i:=↑i3) ct ah rfl rfl o106 (by omega) (by omega) rfl ?_)))))))))
   intro w111 ch112 bx113
   clear o106
   refine ag (a8 rfl (lx (ad eD rfl rfl zs15 rfl) ?_))
   replace bx101:=bx101.ce ch112
   refine lx (af ah rfl bx101 rfl) (lx (aG (m:=ct) (n:=1) rfl rfl (by omega)) (lx (ad eD rfl rfl zs15 rfl) (lo (aI (cs':=[v91,vn,vi (ct+1)]) ah rfl rfl bx101 rfl nq (AllOne.all (.cons rfl .nil)) rfl ?_))))
   intro w114 ch115 bx116
   clear bx101
   refine ag (ak (a8 rfl (mz zs17 (lx (aG (m:=↑i3) (n:=1) rfl rfl (by omega)) (ai ((i3:Int)+1) (ag ?_))))))
   replace bH:=bH.ce ch112
   refine back27 (ct+1,i3+1,(List.set nu (Int.toNat ↑i3) ct),g110) _ _ ⟨bH.ce ch115,zs1,zs2,zs3,zs4,zs6,zs15,zs16,rfl,(Rg.ce ch112).ce ch115,(bx5.ce ch112).ce ch115,(bx10.ce ch112).ce ch115,(o16.ce ch112).ce ch115,(o28.ce ch112).ce ch115,(o93.ce ch112).ce ch115,bx116,bx113.ce ch115,by omega,?_⟩ ?_
   · show nI of1 (List.set nu (Int.toNat ↑i3) ct) (ct+1) (i3+1)
     exact hnu.yes (by omega) ‹_›
   · show Int.toNat (((g.2.length:Int):Int)-((i3+1):Int))<Int.toNat (((g.2.length:Int):Int)-(i3:Int))
     omega
  refine aj rfl (df p29) (av (ak (a8 rfl (mz zs17 (lx (aG (m:=↑i3) (n:=1) rfl rfl (by omega)) (ai ((i3:Int)+1) (ag ?_)))))))
  refine back27 (ct,i3+1,nu,g110) _ _ ⟨bH,zs1,zs2,zs3,zs4,zs6,zs15,zs16,rfl,Rg,bx5,bx10,o16,o28,o93,bx101,o106,by omega,?_⟩ ?_
  · show nI of1 nu ct (i3+1)
    exact hnu.no ‹_›
  · show Int.toNat (((g.2.length:Int):Int)-((i3+1):Int))<Int.toNat (((g.2.length:Int):Int)-(i3:Int))
    omega
 refine aj rfl (df p27) (aF rfl (ab (ab (a8 rfl (ai 0 (ag (ar ?_)))))))
 refine bc (σ:=Nat×(List Int)×aJ) (λ⟨i4,bo,gq⟩ f w=>bv w0 gq w/\f 1=vp b3 0/\f 2=vp b8 0/\f 3=vi (g.2.length:Int)/\f 4=v14/\f 6=v27/\f 15=vp b96 0/\f 16=v104/\f 18=vi ↑i4/\Sl gq (is 0) w g_v g.2/\Bx gq (is 1) w b3 [vi g.1,g_v]/\Bx gq (is 2) w b8 [vn,vn,vi 0]/\Ow gq (is 3) (is 3) w v14 of1/\cP gq 4 w v27 (am g)/\Ow gq (is 8) (is 8) w v91 bo/\Bx gq (is 9) w b96 [v91,vn,vi ct]/\Ow gq (is 10) (is 10) w v104 nu/\(i4:Int)<=((g.2.length:Int):Int)/\(tA of1 nu bo i4)) (λ⟨i4,bo,gq⟩=>Int.toNat (((g.2.length:Int):Int)-(i4:Int))) (0,(List.replicate (Int.toNat (g.2.length:Int)) (0:Int)),g110) ?_ ?_
 · exact⟨bH,zs1,zs2,zs3,zs4,zs6,zs15,zs16,rfl,Rg,bx5,bx10,o16,o28,o93,bx101,o106,by omega,by exact tA.start hol1⟩
 clear Rg bx5 bx10 o16 o28 o93 bx101 o106 bH
 rintro⟨i4,bo,g119⟩ f117 w118 ⟨bH,zs1,zs2,zs3,zs4,zs6,zs15,zs16,zs18,Rg,bx5,bx10,o16,o28,o93,bx101,o106,hle_i4,hbo⟩ back33
 have hbl:=hbo.lo
 refine ab (ab (a8 rfl (mz zs18 (mz zs3 (lx (bn (m:=↑i4) (n:=(g.2.length:Int)) rfl rfl) (ag ?_))))))
 by_cases p33:(i4:Int)<(g.2.length:Int)
 ·
  refine al rfl (dt p33) ?_
  obtain⟨hob0,hob1⟩:=hdc.le.ob (i4:Int) (by omega) (by omega)
  refine av (ab (ar (bA g119 [0,1,2,3,4,5,6,7,8,9,10] j9 ?_)))
  intro w121 ch120
  refine xp 0 rfl (λw=>ad eD rfl rfl zs15 rfl) ?_
  replace bx101:=bx101.cn ch120
  refine xv 1 [0,2,3,4,5,6,7,8,9] rfl (af bh rfl bx101 rfl) (xp (v:=vi ↑i4) 2 rfl (λw=>au zs18) (xp (v:=v104) 3 rfl (λw=>au zs16) (xp (v:=v14) 4 rfl (λw=>au zs4) (xp (v:=vi ↑i4) 5 rfl (λw=>au zs18) ?_))))
  replace o16:=o16.cn ch120
  refine xv 6 [5,4,3,2,1,0] rfl (ae (v:=v14) (i:=↑i4) bf rfl rfl o16.flat rfl (by omega) (by omega)) (xv 7 [6,5,4,3,2,1,0] rfl (aq (v:=v14) (i:=↑i4) ah rfl o16.flat (by omega) (by omega) (by decide) rfl) ?_)
  replace o106:=o106.cn ch120
  refine xv 8 [7,6,5,4,3,2,1,0] rfl (ae (v:=v104) (i:=(gI of1 ↑i4)) bf rfl rfl o106.flat rfl (by omega) (by omega)) (xv 9 [8,7,6,5,4,3,2,1,0] rfl (aq (v:=v104) (i:=(gI of1 ↑i4)) ah rfl o106.flat (by omega) (by omega) (by decide) rfl) ?_)
  replace o93:=o93.cn ch120
  refine xv 10 [9,8,7,6,5,4,3,2,1,0] rfl (ae (v:=v91) (i:=↑i4) bf rfl rfl o93.flat rfl (by omega) (by omega)) (bw 11 rfl (by kernel_rfl) rfl (aD (i:=↑i4) (gI nu (gI of1 ↑i4)) ah rfl rfl o93 (by omega) (by omega) rfl ?_))
  intro w122 ch123 bx124
  clear o93
  refine c6 (by kernel_rfl) (ak (a8 rfl (mz zs18 (lx (aG (m:=↑i4) (n:=1) rfl rfl (by omega)) (ai ((i4:Int)+1) (ag ?_))))))
  replace bH:=bH.cn ch120
  refine back33 (i4+1,(List.set bo (Int.toNat ↑i4) (gI nu (gI of1 ↑i4))),g119) _ _ ⟨bH.ce ch123,zs1,zs2,zs3,zs4,zs6,zs15,zs16,rfl,(Rg.cn ch120).ce ch123,(bx5.cn ch120).ce ch123,(bx10.cn ch120).ce ch123,o16.ce ch123,(o28.cn ch120).ce ch123,bx124,bx101.ce ch123,o106.ce ch123,by omega,?_⟩ ?_
  · show tA of1 nu (List.set bo (Int.toNat ↑i4) (gI nu (gI of1 ↑i4))) (i4+1)
    exact hbo.next (by omega)
  · show Int.toNat (((g.2.length:Int):Int)-((i4+1):Int))<Int.toNat (((g.2.length:Int):Int)-(i4:Int))
    omega
 refine aj rfl (df p33) (aF rfl (ab (ab ?_)))
 clear o16 o106
 obtain⟨hboe,hcte⟩:=u5 hm hdc (by omega) hnu (by omega) hbo (by omega)
 refine a8 rfl (ai 0 (ag (ar ?_)))
 refine bc (σ:=Value×(List Int)×Nat×aJ) (λ⟨cu_v,cu,wv,gq⟩ f w=>bv w0 gq w/\f 1=vp b3 0/\f 2=vp b8 0/\f 6=v27/\f 15=vp b96 0/\f 19=vi ↑wv/\Sl gq (is 0) w g_v g.2/\Bx gq (is 1) w b3 [vi g.1,g_v]/\Bx gq (is 2) w b8 [vn,vn,vi 0]/\cP gq 4 w v27 (am g)/\Ow gq (is 8) (is 8) w v91 bo/\Bx gq (is 9) w b96 [v91,cu_v,vi ct]/\Ow gq (is 12) (is 12) w cu_v cu/\(wv:Int)<=(g.1:Int)/\(cu=(bJ wv).filter λv=>gI (gH g) v)) (λ⟨cu_v,cu,wv,gq⟩=>Int.toNat ((g.1:Int)-(wv:Int))) (vn,[],0,g119) ?_ ?_
 · exact⟨bH,zs1,zs2,zs6,zs15,rfl,Rg,bx5,bx10,o28,o93,bx101,Ow.nil,by omega,by rfl⟩
 clear Rg bx5 bx10 o28 o93 bx101 bH
 rintro⟨cu_v,cu,wv,g127⟩ f125 w126 ⟨bH,zs1,zs2,zs6,zs15,zs19,Rg,bx5,bx10,o28,o93,bx101,o_cu,hle_wv,hcu⟩ back37
 have hcul:=kw hcu
 refine ab (ab (a8 rfl (mz zs19 (lx (ad cZ rfl rfl zs1 rfl) (lx (af ah rfl bx5 rfl) (lx (bn (m:=↑wv) (n:=g.1) rfl rfl) (ag ?_)))))))
 by_cases p37:(wv:Int)<g.1
 ·
  refine al rfl (dt p37) (av (ab (ar (ab (a8 rfl (ai 1 (ag (ar ?_))))))))
  refine bc (σ:=Int×aJ) (λ⟨j,gq⟩ f w=>bv w0 gq w/\f 1=vp b3 0/\f 2=vp b8 0/\f 6=v27/\f 15=vp b96 0/\f 19=vi ↑wv/\f 20=vi j/\Sl gq (is 0) w g_v g.2/\Bx gq (is 1) w b3 [vi g.1,g_v]/\Bx gq (is 2) w b8 [vn,vn,vi 0]/\cP gq 4 w v27 (am g)/\Ow gq (is 8) (is 8) w v91 bo/\Bx gq (is 9) w b96 [v91,cu_v,vi ct]/\Ow gq (is 12) (is 12) w cu_v cu/\(fW g bo (wv:Int) j)) (λ⟨j,gq⟩=>Int.toNat (((bL g (wv:Int)).length:Int)-j)) (1,g127) ?_ ?_
  · exact⟨bH,zs1,zs2,zs6,zs15,zs19,rfl,Rg,bx5,bx10,o28,o93,bx101,o_cu,by exact fW.start⟩
  clear Rg bx5 bx10 o28 o93 bx101 o_cu bH
  rintro⟨j,g130⟩ f128 w129 ⟨bH,zs1,zs2,zs6,zs15,zs19,zs20,Rg,bx5,bx10,o28,o93,bx101,o_cu,hsc⟩ back40
  have hj1:=hsc.1
  have hfw:=dL (g:=g) (v:=(wv:Int)) (by omega) (by omega)
  refine ab (ab (a8 rfl (mz zs20 (mz zs6 (mz zs19 (lx (ae (v:=v27) (i:=↑wv) dB rfl rfl o28.sl rfl (by omega) (by omega)) ?_))))))
  obtain⟨v131,cel132,r133⟩:=bR (r:=(wv:Int)) o28 (by omega) (by omega)
  refine lx (bB bh rfl cel132) ?_
  have len134:=(r133.row_sl).small
  refine lx (bu bf rfl r133.row_sl) (lx (bn (m:=j) (n:=(List.length (gI (am g) (wv:Int)):Int)) rfl rfl) (ag ?_))
  by_cases p40:j<(List.length (gI (am g) (wv:Int)):Int)
  ·
   refine al rfl (dt p40) ?_
   have hjl:j<((bL g (wv:Int)).length:Int):=by rw[<-hfw];assumption
   obtain⟨⟨hj2,hj3⟩,_⟩:=cJ (bP (xs:=bL g (wv:Int)) (i:=j) (by omega) hjl)
   obtain⟨⟨hj4,hj5⟩,_⟩:=cJ (bP (xs:=bL g (wv:Int)) (i:=0) (by omega) (by omega))
   rw[<-hfw] at hj2 hj3 hj4 hj5
   refine av (ab (ar (ab ?_)))
   clear cel132 r133
   refine cq g130 rfl j9 (by kernel_rfl) ?_
   intro w136 ch135
   refine qx (λw' hw'=>ad eD rfl rfl zs15 rfl) ?_
   replace bx101:=bx101.cn ch135
   refine qx (λw' hw'=>af bh rfl (bx101.bel hw') rfl) (qz zs6 (qz zs19 ?_))
   replace o28:=o28.cn ch135
   refine qx (λw' hw'=>ae (v:=v27) (i:=↑wv) dB rfl rfl (o28.sl.bel hw') rfl (by omega) (by omega)) ?_
   obtain⟨v137,cel138,r139⟩:=bR (r:=(wv:Int)) o28 (by omega) (by omega)
   refine qx (λw' hw'=>bB bh rfl (eC cel138 hw')) (qz zs20 (qx (λw' hw'=>ae (v:=v137) (i:=j) bf rfl rfl (r139.row_sl.bel hw') rfl (by omega) (by omega)) (qx (λw' hw'=>aq (v:=v137) (i:=j) ah rfl (r139.row_sl.bel hw') (by omega) (by omega) (by decide) rfl) (qx (λw' hw'=>fe (m:=(gI (gI (am g) (wv:Int)) j)) (n:=2) rfl rfl (by omega) (by omega) (by omega)) ?_))))
   replace o93:=o93.cn ch135
   refine qx (λw' hw'=>ae (v:=v91) (i:=(gI (gI (am g) (wv:Int)) j)/2) bf rfl rfl (o93.flat.bel hw') rfl (by omega) (by omega)) (qx (λw' hw'=>aq (v:=v91) (i:=(gI (gI (am g) (wv:Int)) j)/2) ah rfl (o93.flat.bel hw') (by omega) (by omega) (by decide) rfl) (qx (λw' hw'=>ad eD rfl rfl zs15 rfl) (qx (λw' hw'=>af bh rfl (bx101.bel hw') rfl) (qz zs6 (qz zs19 (qx (λw' hw'=>ae (v:=v27) (i:=↑wv) dB rfl rfl (o28.sl.bel hw') rfl (by omega) (by omega)) ?_))))))
   obtain⟨v140,cel141,r142⟩:=bR (r:=(wv:Int)) o28 (by omega) (by omega)
   refine qx (λw' hw'=>bB bh rfl (eC cel141 hw')) (qx (λw' hw'=>ae (v:=v140) (i:=0) bf rfl rfl (r142.row_sl.bel hw') rfl (by omega) (by omega)) (qx (λw' hw'=>aq (v:=v140) (i:=0) ah rfl (r142.row_sl.bel hw') (by omega) (by omega) (by decide) rfl) (qx (λw' hw'=>fe (m:=(gI (gI (am g) (wv:Int)) 0)) (n:=2) rfl rfl (by omega) (by omega) (by omega)) (qx (λw' hw'=>ae (v:=v91) (i:=(gI (gI (am g) (wv:Int)) 0)/2) bf rfl rfl (o93.flat.bel hw') rfl (by omega) (by omega)) (qx (λw' hw'=>aq (v:=v91) (i:=(gI (gI (am g) (wv:Int)) 0)/2) ah rfl (o93.flat.bel hw') (by omega) (by omega) (by decide) rfl) (qx (λw' hw'=>dW (m:=(gI bo ((gI (gI (am g) (wv:Int)) j)/2))) (n:=(gI bo ((gI (gI (am g) (wv:Int)) 0)/2))) rfl rfl) (d8 ?_)))))))
   intro w143 hc144
   replace hc144:=aS hc144 g130
   by_cases p42:(gI bo ((gI (gI (am g) (wv:Int)) j)/2))=(gI bo ((gI (gI (am g) (wv:Int)) 0)/2))
   ·
    refine aj rfl (congrArg Bool.not (dt p42)) (av (ak ?_))
    clear cel138 r139 cel141 r142
    refine a8 rfl (mz zs20 (lx (aG (m:=j) (n:=1) rfl rfl (by omega)) (ai (j+1) (ag ?_))))
    replace bH:=bH.cn ch135
    refine back40 (j+1,g130) _ _ ⟨bH.cn hc144,zs1,zs2,zs6,zs15,zs19,rfl,(Rg.cn ch135).cn hc144,(bx5.cn ch135).cn hc144,(bx10.cn ch135).cn hc144,o28.cn hc144,o93.cn hc144,bx101.cn hc144,(o_cu.cn ch135).cn hc144,?_⟩ ?_
    · show fW g bo (wv:Int) (j+1)
      (rw[hfw] at*;exact hsc.next ‹_›)
    · show Int.toNat (((bL g (wv:Int)).length:Int)-(j+1))<Int.toNat (((bL g (wv:Int)).length:Int)-j)
      omega
   refine al rfl (congrArg Bool.not (df p42)) (ab ?_)
   clear cel138 r139 cel141 r142
   refine a8 rfl (lx (ad eD rfl rfl zs15 rfl) ?_)
   replace bx101:=bx101.cn hc144
   refine lx (af bh rfl bx101 rfl) (mz zs19 (lo (aM (α:=Int) g130 (is 11) (is 11) (11,0) rfl [(wv:Int)] bf ah (by decide) (by decide) (vs:=[(0,vi ↑wv)]) rfl rfl (.cons rfl .nil) ?_)))
   intro g145 w146 v147 ch148 o149
   refine lo ?_
   have C150:=cg [] (ch135.n.seq (hc144.n.seq ch148.n))
   replace o_cu:=o_cu.ca C150
   refine bD (α:=Int) (xs:=cu) (ys:=([(wv:Int)])) g145 (J:=is 12) (S:=is 12) (12,0) rfl bf ah (by decide) rfl rfl rfl o_cu o149.flat (by decide) (by(simp;omega)) ?_
   intro g151 w152 v153 ch154 o155
   clear o_cu
   refine lx (ad eD rfl rfl zs15 rfl) (lo ?_)
   replace bx101:=(bx101.cn ch148).ce ch154
   refine cj (cs':=[v91,v153,vi ct]) bh rfl rfl bx101 (cd o155.flat) nq (bQ o155.flat) rfl ?_
   intro w156 ch157 bx158
   clear bx101
   refine ag (aF rfl (ak ?_))
   clear o149
   refine a8 rfl (mz zs19 (lx (aG (m:=↑wv) (n:=1) rfl rfl (by omega)) (ai ((wv:Int)+1) (ag ?_))))
   have C160:=cg [9,12] (hc144.n.seq (ch148.n.seq ((ch154.l rfl).seq (ch157.l rfl))))
   have C159:=ch135.n.seq C160
   refine back37 (v153,(cu++[(wv:Int)]),wv+1,g151) _ _ ⟨bH.ca C159,zs1,zs2,zs6,zs15,rfl,Rg.ca C159,bx5.ca C159,bx10.ca C159,o28.ca C160,o93.ca C160,bx158,o155.ce ch157,by omega,?_⟩ ?_
   · show(cu++[(wv:Int)])=(bJ (wv+1)).filter λv=>gI (gH g) v
     (rw[hfw] at*;exact fW.yes hm hboe hcu (by omega) hsc ‹_› ‹_›)
   · show Int.toNat ((g.1:Int)-((wv+1):Int))<Int.toNat ((g.1:Int)-(wv:Int))
     omega
  refine aj rfl (df p40) (aF rfl (ak ?_))
  clear cel132 r133
  refine a8 rfl (mz zs19 (lx (aG (m:=↑wv) (n:=1) rfl rfl (by omega)) (ai ((wv:Int)+1) (ag ?_))))
  refine back37 (cu_v,cu,wv+1,g130) _ _ ⟨bH,zs1,zs2,zs6,zs15,rfl,Rg,bx5,bx10,o28,o93,bx101,o_cu,by omega,?_⟩ ?_
  · show cu=(bJ (wv+1)).filter λv=>gI (gH g) v
    (rw[hfw] at*;exact fW.no hm hboe hcu (by omega) hsc ‹_›)
  · show Int.toNat ((g.1:Int)-((wv+1):Int))<Int.toNat ((g.1:Int)-(wv:Int))
    omega
 refine aj rfl (df p37) (aF rfl (ab ?_))
 clear bx5 o28
 refine a8 rfl (lx (aB (ds:=[v91,cu_v,vi ct]) eA zs15 bx101 rfl rfl) (lo (aI (cs':=[v91,cu_v,vi ct]) eA zs2 rfl bx10 rfl nq (AllOne.all (.cons (bQ o93.flat) (.cons (bQ o_cu.flat) (.cons rfl .nil)))) rfl ?_)))
 intro w161 ch162 bx163
 clear bx10
 refine ag (aQ (vs:=[vg [v91,cu_v,vi ct]]) Try.func17 (.cell zs2 (dR (ds:=[v91,cu_v,vi ct]) eA bx163 rfl rfl) .nil) ?_)
 replace bH:=bH.ce ch162
 replace o93:=o93.ce ch162
 replace o_cu:=o_cu.ce ch162
 have e0:((bo,cu,ct):(List Int)×(List Int)×(Int))=(aa g):=by
   (rw[hboe,hcte,sk hcu (by omega)];rfl)
 exact⟨(fin w0 g127 (λn=>if n=8 then 1 else if n=12 then 2 else 0),v91,cu_v),(congrArg (a₁:=(bo,cu,ct)) (λ(z0:(List Int)×(List Int)×(Int))=>Ending.returned (vg [v91,cu_v,vi z0.2.2])) e0),bH.fresh _,((congrArg (λ(z:(List Int)×(List Int)×(Int))=>z.1) e0)▸(o93.glue (γ:=c0) (ren:=(λn=>if n=8 then 1 else if n=12 then 2 else 0)) (k:=1) bH.col rfl rfl)),((congrArg (λ(z:(List Int)×(List Int)×(Int))=>z.2.1) e0)▸(o_cu.glue (γ:=c0) (ren:=(λn=>if n=8 then 1 else if n=12 then 2 else 0)) (k:=2) bH.col rfl rfl))⟩
end TL
