import Derived.Test.YtmakonaaojadbaaBcTlP4
import Derived.Test.YtmakonaaojadbaaBcTlGmA
import Derived.Test.YtmakonaaojadbaaBcTlGenA
import Derived.Test.YtmakonaaojadbaaBcTlCtG
import Derived.Test.YtmakonaaojadbaaBcTlCtD
import Derived.Test.YtmakonaaojadbaaBcTlErA
import Derived.Test.YtmakonaaojadbaaProg
import Derived.Test.YtmakonaaojadbaaBcTlAli
set_option linter.all false
set_option maxRecDepth 20000
namespace TL
open Go Go.Proofs
theorem jH:Try.prog.follows .mixedOrders=true:=by kernel_rfl
theorem su:Try.f8.body.isNone=false:=rfl
theorem si:(Try.f8.name== "runtime.NumGoroutine")=false:=by decide+kernel
theorem sf:Try.f9.body.isNone=false:=rfl
theorem rZ:(Try.f9.name== "runtime.NumGoroutine")=false:=by decide+kernel
theorem n9:Try.f30.body.isNone=false:=rfl
theorem nS:(Try.f30.name== "runtime.NumGoroutine")=false:=by decide+kernel
theorem kO:Try.f31.body.isNone=false:=rfl
theorem kK:(Try.f31.name== "runtime.NumGoroutine")=false:=by decide+kernel
set_option maxHeartbeats 8000000 in
theorem lk(w0:World)(g:(Int)×(List Pt))(g_v:Value)(hg_v:Ro w0 g_v g.2):
    Calls Try.prog 5 #[vg [vi g.1,g_v]] w0 (λee w=>ee= .returned (vb true)/\dW w0.heap.size w0 w):=by
 refine aD Try.func5 rfl nq ?_
 have bH:=bx.start w0
 have Rg:=hg_v.sl
 refine ab (a8 rfl (dL rfl (dE c0 (is 1) (1,0) rfl rfl ?_)))
 intro g4 w1 b3 ch2 bx5
 replace bx5:Bx g4 (is 1) w1 b3 [vi g.1,g_v]:=bx5
 refine ma (vb false) (ag (ab (ab (a8 rfl (dL rfl (cV (v:=vb true) (bg (vals:=[]) Try.func8 su si rfl) (oh w1) ?_))))))
 intro w6 hb7
 replace hb7:=aZ hb7 g4
 refine lx (fv (b:=true) rfl) (ag (aj rfl rfl (ay (ab (ab (a8 rfl ?_))))))
 replace bx5:=bx5.cn hb7
 refine lx (aH (ds:=[vi g.1,g_v]) bz rfl bx5 rfl rfl) ?_
 replace Rg:=(Rg.cn ch2).cn hb7
 refine lo (cV (v:=vb (decide (¬aV g\/(g.1<=40/\g.2.length<=60)))) (bg (vals:=[vg [vi g.1,g_v]]) Try.func9 sf rZ rfl) (oF w6 g g_v (Rg).ro) ?_)
 intro w8 hb9
 replace hb9:=aZ hb9 g4
 refine lx (fv (b:=(decide (¬aV g\/(g.1<=40/\g.2.length<=60)))) rfl) (mv (vb (!(decide (¬aV g\/(g.1<=40/\g.2.length<=60))))) ?_)
 by_cases q26:(decide (¬aV g\/(g.1<=40/\g.2.length<=60)))=true
 ·
  replace bx5:=bx5.cn hb9
  refine lv (vg [vi g.1,g_v]) (wy (congrArg Bool.not q26)) (aH (ds:=[vi g.1,g_v]) bz rfl bx5 rfl rfl) ?_
  replace Rg:=Rg.cn hb9
  refine dL (wy (congrArg Bool.not q26)) (cV (v:=vb (cP g)) (bg (vals:=[vg [vi g.1,g_v]]) Try.func16 nP o4 rfl) (o6 w8 g g_v (Rg).ro) ?_)
  intro w10 hb11
  replace hb11:=aZ hb11 g4
  refine lv (vb (!(cP g))) (wy (congrArg Bool.not q26)) (fv (b:=(cP g)) rfl) (lw (vb (!(cP g))) (bh rfl (congrArg Bool.not q26) rfl) (ag ?_))
  by_cases p3:(cP g)=true
  ·
   refine aj rfl (congrArg Bool.not p3) (ay (ab ?_))
   have hm:aV g:=of_decide_eq_true p3
   obtain⟨hm1,hm2,hm3,hm4⟩:=id hm
   have hli:g.1<=40/\g.2.length<=60:=(of_decide_eq_true q26).resolve_left (λc=>c hm)
   obtain⟨hli1,hli2⟩:=hli
   obtain⟨htm,hT1,hT2⟩:=my hm hli1 hli2
   have htS:aV (aT g).1:=by rw[hT1];exact htm
   have hdl:((dX g).length:Int)=g.1:=ry hm1
   refine a8 rfl ?_
   replace bx5:=bx5.cn hb11
   refine lx (aH (ds:=[vi g.1,g_v]) bz rfl bx5 rfl rfl) ?_
   replace Rg:=Rg.cn hb11
   refine lo (cz (bg (vals:=[vg [vi g.1,g_v]]) Try.func11 nL nN rfl) (jG w10 g g_v (Rg).ro) ?_)
   rintro⟨d13,v15,v17⟩ w12 ⟨fr14,o16,o18⟩
   obtain⟨g19,ch20,G19⟩:=kf g4 fr14 (λn=>if n=1 then 2 else if n=2 then 3 else 0)
   replace o16:=o16.gl G19 2
   replace o18:=o18.gl G19 3
   refine mv (vt [vg [v15,v17,vi ((((b7 g).1).2).2)],vi ((b7 g).2)]) (lx (aL rfl rfl) (lx (aL rfl rfl) (lo (bG g19 (is 4) (4,0) rfl d3 ?_))))
   intro g24 w21 b23 ch22 bx25
   replace bx25:Bx g24 (is 4) w21 b23 [vn,vn,vi 0]:=bx25
   refine lo ?_
   replace o18:=o18.cn ch22
   replace o16:=o16.cn ch22
   refine aJ (cs':=[v15,v17,vi ((((b7 g).1).2).2)]) d3 rfl rfl bx25 rfl nq (AllOne.all (.cons (cD o16.flat) (.cons (cD o18.flat) (.cons rfl .nil)))) rfl ?_
   intro w26 ch27 bx28
   clear bx25
   refine ai ((b7 g).2) (ag (ab (a8 rfl ?_)))
   have C29:=cg [4] (ch20.n.seq (ch22.n.seq (ch27.l rfl)))
   replace bx5:=bx5.ca C29
   refine lx (aH (ds:=[vi g.1,g_v]) bz rfl bx5 rfl rfl) ?_
   replace Rg:=Rg.ca C29
   refine lo (cz (bg (vals:=[vg [vi g.1,g_v]]) Try.func13 nn np rfl) (lW w26 g g_v (Rg).ro) ?_)
   rintro⟨d31,v33⟩ w30 ⟨fr32,o34⟩
   obtain⟨g35,ch36,G35⟩:=kf g24 fr32 (λn=>if n=1 then 5 else 0)
   replace o34:=o34.gl G35 5
   refine mv (vt [vg [vi (((aT g).1).1),v33],vi ((aT g).2)]) (lx (aL rfl rfl) (lx (aL rfl rfl) (lo (bG g35 (is 6) (6,0) rfl bz ?_))))
   intro g40 w37 b39 ch38 bx41
   replace bx41:Bx g40 (is 6) w37 b39 [vi 0,vn]:=bx41
   refine lo ?_
   replace o34:=o34.cn ch38
   refine aJ (cs':=[vi (((aT g).1).1),v33]) bz rfl rfl bx41 rfl nq (AllOne.all (.cons rfl (.cons (cD o34.flat) .nil))) rfl ?_
   intro w42 ch43 bx44
   clear bx41
   refine ai ((aT g).2) (ag (ab (ab (a8 rfl (mi ((aT g).2) (lx (gk (m:=(aT g).2) (n:=0) rfl rfl) (ag ?_)))))))
   have p7:((aT g).2)=0:=by exact hT2
   refine aj rfl (congrArg Bool.not (dt p7)) (ay (ab (a8 rfl (lx (ae dw rfl rfl rfl rfl) ?_))))
   have C45:=cg [6] (ch36.n.seq (ch38.n.seq (ch43.l rfl)))
   replace bx5:=bx5.ca C45
   refine lx (af ah rfl bx5 rfl) (lo (cN (α:=Bool) (l:=g.1) (cp:=g.1) g40 (is 7) (is 7) (7,0) rfl false eu bv rfl rfl rfl (by omega) (by omega) (by omega) (by omega) ?_))
   intro g46 w47 v48 ch49 o50 hcap_
   clear hcap_
   refine ma v48 (ag (ab (ab (a8 rfl (ai 0 (ag (ax ?_)))))))
   refine bn (σ:=Nat×(List Bool)×aG) (λ⟨i,cut,gq⟩ f w=>bx w0 gq w/\f 1=vp b3 0/\f 3=vp b23 0/\f 5=vp b39 0/\f 7=v48/\f 8=vi ↑i/\Sl gq (is 0) w g_v g.2/\Bx gq (is 1) w b3 [vi g.1,g_v]/\Ow gq (is 2) (is 2) w v15 (((b7 g).1).1)/\Ow gq (is 3) (is 3) w v17 ((((b7 g).1).2).1)/\Bx gq (is 4) w b23 [v15,v17,vi ((((b7 g).1).2).2)]/\Ow gq (is 5) (is 5) w v33 (((aT g).1).2)/\Bx gq (is 6) w b39 [vi (((aT g).1).1),v33]/\Ow gq (is 7) (is 7) w v48 cut/\(i:Int)<=((List.length ((((b7 g).1).2).1):Int):Int)/\(cut=fm (b7 g).1.2.1 (Int.toNat g.1) i)) (λ⟨i,cut,gq⟩=>Int.toNat (((List.length ((((b7 g).1).2).1):Int):Int)-(i:Int))) (0,(List.replicate (Int.toNat g.1) false),g46) ?_ ?_
   have C53:=cg [4,6] ((ch27.l rfl).seq (ch36.n.seq (ch38.n.seq ((ch43.l rfl).seq ch49.n))))
   have C51:=ch2.n.seq (hb7.n.seq (hb9.n.seq (hb11.n.seq (ch20.n.seq (ch22.n.seq C53)))))
   have C52:=cg [6] (ch36.n.seq (ch38.n.seq ((ch43.l rfl).seq ch49.n)))
   · exact⟨bH.ca C51,rfl,rfl,rfl,rfl,rfl,Rg.ca C52,bx5.cn ch49,o16.ca C53,o18.ca C53,bx28.ca C52,(o34.ce ch43).cn ch49,bx44.cn ch49,o50,by omega,by rfl⟩
   clear Rg bx5 o16 o18 bx28 o34 bx44 o50 bH
   rintro⟨i,cut,g56⟩ f54 w55 ⟨bH,zs1,zs3,zs5,zs7,zs8,Rg,bx5,o16,o18,bx28,o34,bx44,o50,hle_i,hcm⟩ back11
   have hcml:(cut.length:Int)=g.1:=by rw[hcm,lJ];omega
   refine ab (ab (a8 rfl (mz zs8 (lx (ae gn rfl rfl zs3 rfl) (lx (af au rfl bx28 rfl) ?_)))))
   have len57:=(o18.flat).small
   refine lx (bF ba rfl o18.flat) (lx (bp (m:=↑i) (n:=(List.length ((((b7 g).1).2).1):Int)) rfl rfl) (ag ?_))
   by_cases p11:(i:Int)<(List.length ((((b7 g).1).2).1):Int)
   ·
    refine ao rfl (dt p11) ?_
    obtain⟨hcr0,hcr1⟩:=rd (k:=i) hm ‹_›
    refine ay (ab (ax (a8 rfl (mz zs7 (lx (ae gn rfl rfl zs3 rfl) (lx (af au rfl bx28 rfl) (mz zs8 (lx (ad (v:=v17) (i:=↑i) ba rfl rfl o18.flat rfl (by omega) (by omega)) (lx (ap (v:=v17) (i:=↑i) ah rfl o18.flat (by omega) (by omega) (by decide) rfl) ?_)))))))))
    refine lx (ad (v:=v48) (i:=(gI ((((b7 g).1).2).1) (i:Int))) eu rfl rfl o50.flat rfl (by omega) (by omega)) (lo (aA (i:=(gI ((((b7 g).1).2).1) (i:Int))) true bv rfl rfl o50 (by omega) (by omega) rfl ?_))
    intro w58 ch59 bx60
    clear o50
    refine ag (am (a8 rfl (mz zs8 (lx (aF (m:=↑i) (n:=1) rfl rfl (by omega)) (ai ((i:Int)+1) (ag ?_))))))
    refine back11 (i+1,(List.set cut (Int.toNat (gI ((((b7 g).1).2).1) (i:Int))) true),g56) _ _ ⟨bH.ce ch59,zs1,zs3,zs5,zs7,rfl,Rg.ce ch59,bx5.ce ch59,o16.ce ch59,o18.ce ch59,bx28.ce ch59,o34.ce ch59,bx44.ce ch59,bx60,by omega,?_⟩ ?_
    · show(List.set cut (Int.toNat (gI ((((b7 g).1).2).1) (i:Int))) true)=fm (b7 g).1.2.1 (Int.toNat g.1) (i+1)
      rw[kx ‹_›,<-hcm]
    · show Int.toNat (((List.length ((((b7 g).1).2).1):Int):Int)-((i+1):Int))<Int.toNat (((List.length ((((b7 g).1).2).1):Int):Int)-(i:Int))
      omega
   refine aj rfl (df p11) (aI rfl (ab ?_))
   clear o16 o18 bx28
   refine cL (σ:=Value×Value×aG) (λ⟨v65,v72,gq⟩ f w=>bx w0 gq w/\f 1=vp b3 0/\f 5=vp b39 0/\f 7=v48/\f 9=v65/\f 10=v72/\Sl gq (is 0) w g_v g.2/\Bx gq (is 1) w b3 [vi g.1,g_v]/\Ow gq (is 5) (is 5) w v33 (((aT g).1).2)/\Bx gq (is 6) w b39 [vi (((aT g).1).1),v33]/\Ow gq (is 7) (is 7) w v48 cut/\Ow gq (is 8) (is 8) w v65 (List.replicate (Int.toNat g.1) false)/\Ow gq (is 9) (is 9) w v72 (dX g)) g56 (inl []) jH ?_ ?_
   ·
    intro mid
    intro w62 ch61
    refine ht 0 rfl (b6.refl _ _ _) (λw' hw'=>ae dw rfl rfl zs1 rfl) ?_
    replace bx5:=bx5.cn ch61
    refine ht 1 rfl (b6.refl _ _ _) (λw' hw'=>af ah rfl (bx5.chg hw' (bO rfl)) rfl) (ht 3 rfl (b6.refl _ _ _) (λw' hw'=>aH (ds:=[vi g.1,g_v]) bz zs1 (bx5.chg hw' (bO rfl)) rfl rfl) ?_)
    refine ch 2 [4] (by kernel_rfl) ⟨c8 2 rfl (by kernel_rfl) rfl ?_,c8 4 rfl (by kernel_rfl) rfl ?_,trivial⟩
    ·
     refine cN (α:=Bool) (l:=g.1) (cp:=g.1) g56 (is 8) (is 8) (8,0) rfl false eu bv rfl rfl rfl (by omega) (by omega) (by omega) (by omega) ?_
     intro g63 w64 v65 ch66 o67 hcap_
     clear hcap_
     have hs68:b6 (inl []) _ _ _ _:=ch66.n
     refine⟨hs68.same,?_⟩
     refine aM 4 rfl (by kernel_rfl) rfl ?_
     replace Rg:=Rg.cn ch61
     refine cz (bg (vals:=[vg [vi g.1,g_v]]) Try.func30 n9 nS rfl) (iY w64 g g_v ((Rg.ca hs68)).ro (by exact hm)) ?_
     rintro⟨d70,v72⟩ w69 ⟨fr71,o73⟩
     obtain⟨g74,ch75,G74⟩:=kf g63 fr71 (λn=>if n=1 then 9 else 0)
     replace o73:=o73.gl G74 9
     have hs76:=hs68.seq (ch75.n)
     refine⟨hs76.same,?_⟩
     refine ht (v:=v65) 5 rfl hs76.same (λw' hw'=>cr rfl) (ht (v:=v72) 6 rfl hs76.same (λw' hw'=>cr rfl) (c6 (by kernel_rfl) ?_))
     have C77:=cg [] (ch61.n.seq (ch66.n.seq ch75.n))
     replace o34:=o34.cn ch61
     replace bx44:=bx44.cn ch61
     replace o50:=o50.cn ch61
     exact mid (v65,v72,g74) _ _ ⟨bH.ca C77,zs1,zs5,zs7,rfl,rfl,(Rg.ca hs76),(bx5.ca hs76),(o34.ca hs76),(bx44.ca hs76),(o50.ca hs76),o67.cn ch75,o73⟩
    ·
     replace Rg:=Rg.cn ch61
     refine cz (bg (vals:=[vg [vi g.1,g_v]]) Try.func30 n9 nS rfl) (iY w62 g g_v (Rg).ro (by exact hm)) ?_
     rintro⟨d79,v81⟩ w78 ⟨fr80,o82⟩
     obtain⟨g83,ch84,G83⟩:=kf g56 fr80 (λn=>if n=1 then 9 else 0)
     replace o82:=o82.gl G83 9
     have hs85:b6 (inl []) _ _ _ _:=ch84.n
     refine⟨hs85.same,?_⟩
     refine aM 2 rfl (by kernel_rfl) rfl (cN (α:=Bool) (l:=g.1) (cp:=g.1) g83 (is 8) (is 8) (8,0) rfl false eu bv rfl rfl rfl (by omega) (by omega) (by omega) (by omega) ?_)
     intro g86 w87 v88 ch89 o90 hcap_
     clear hcap_
     have hs91:=hs85.seq (ch89.n)
     refine⟨hs91.same,?_⟩
     refine ht (v:=v88) 5 rfl hs91.same (λw' hw'=>cr rfl) (ht (v:=v81) 6 rfl hs91.same (λw' hw'=>cr rfl) (c6 (by kernel_rfl) ?_))
     have C92:=cg [] (ch61.n.seq (ch84.n.seq ch89.n))
     replace o34:=o34.cn ch61
     replace bx44:=bx44.cn ch61
     replace o50:=o50.cn ch61
     exact mid (v88,v81,g86) _ _ ⟨bH.ca C92,zs1,zs5,zs7,rfl,rfl,(Rg.ca hs91),(bx5.ca hs91),(o34.ca hs91),(bx44.ca hs91),(o50.ca hs91),o90,o82.cn ch89⟩
   clear Rg bx5 o34 bx44 o50 bH
   rintro⟨v65,v72,g95⟩ f93 w94 ⟨bH,zs1,zs5,zs7,zs9,zs10,Rg,bx5,o34,bx44,o50,o67,o73⟩
   refine ab (ab (a8 rfl (ai 0 (ag (ax ?_)))))
   refine bn (σ:=Nat×(List Bool)×aG) (λ⟨e,loops,gq⟩ f w=>bx w0 gq w/\f 1=vp b3 0/\f 5=vp b39 0/\f 7=v48/\f 9=v65/\f 10=v72/\f 11=vi ↑e/\Sl gq (is 0) w g_v g.2/\Bx gq (is 1) w b3 [vi g.1,g_v]/\Ow gq (is 5) (is 5) w v33 (((aT g).1).2)/\Bx gq (is 6) w b39 [vi (((aT g).1).1),v33]/\Ow gq (is 7) (is 7) w v48 cut/\Ow gq (is 8) (is 8) w v65 loops/\Ow gq (is 9) (is 9) w v72 (dX g)/\(e:Int)<=((g.2.length:Int):Int)/\(mx g loops e)) (λ⟨e,loops,gq⟩=>Int.toNat (((g.2.length:Int):Int)-(e:Int))) (0,(List.replicate (Int.toNat g.1) false),g95) ?_ ?_
   · exact⟨bH,zs1,zs5,zs7,zs9,zs10,rfl,Rg,bx5,o34,bx44,o50,o67,o73,by omega,by exact mx.start hm⟩
   clear Rg bx5 o34 bx44 o50 o67 o73 bH
   rintro⟨e,loops,g98⟩ f96 w97 ⟨bH,zs1,zs5,zs7,zs9,zs10,zs11,Rg,bx5,o34,bx44,o50,o67,o73,hle_e,hlo⟩ back16
   have hlol:=hlo.lo
   refine ab (ab (a8 rfl (mz zs11 (lx (ae dw rfl rfl zs1 rfl) (lx (af bQ rfl bx5 rfl) ?_)))))
   have len99:=(Rg).small
   refine lx (bF eI rfl Rg) (lx (bp (m:=↑e) (n:=(g.2.length:Int)) rfl rfl) (ag ?_))
   by_cases p16:(e:Int)<(g.2.length:Int)
   ·
    refine ao rfl (dt p16) ?_
    obtain⟨⟨he1,he2⟩,he3,he4⟩:=hm4 _ (bP (xs:=g.2) (i:=↑e) (by omega) (by omega))
    refine ay (ab (ax (ab (cZ g98 rfl jH (by kernel_rfl) ?_))))
    intro w101 ch100
    refine qx (λw' hw'=>ae dw rfl rfl zs1 rfl) ?_
    replace bx5:=bx5.cn ch100
    refine qx (λw' hw'=>af bQ rfl (bx5.bel hw') rfl) (qz zs11 ?_)
    replace Rg:=Rg.cn ch100
    refine qx (λw' hw'=>ad (v:=g_v) (i:=↑e) eI rfl rfl (Rg.bel hw') rfl (by omega) (by omega)) (qx (λw' hw'=>bB d4 rfl rfl rfl (by decide) (by decide) rfl) (qx (λw' hw'=>c7 (v:=g_v) (i:=↑e) ah rfl (Rg.bel hw') (by omega) (by omega) (by decide) rfl) (qx (λw' hw'=>ae dw rfl rfl zs1 rfl) (qx (λw' hw'=>af bQ rfl (bx5.bel hw') rfl) (qz zs11 (qx (λw' hw'=>ad (v:=g_v) (i:=↑e) eI rfl rfl (Rg.bel hw') rfl (by omega) (by omega)) (qx (λw' hw'=>bB d4 rfl rfl rfl (by decide) (by decide) rfl) (qx (λw' hw'=>c7 (v:=g_v) (i:=↑e) ah rfl (Rg.bel hw') (by omega) (by omega) (by decide) rfl) ?_))))))))
    refine qx (λw' hw'=>cS (m:=(gI g.2 ↑e).1) (n:=(gI g.2 ↑e).2) rfl rfl) (dQ ?_)
    intro w102 hc103
    replace hc103:=aZ hc103 g98
    by_cases p18:((gI g.2 ↑e).1)=((gI g.2 ↑e).2)
    ·
     refine ao rfl (dt p18) (a8 rfl (mz zs9 (lx (ae dw rfl rfl zs1 rfl) ?_)))
     replace bx5:=bx5.cn hc103
     refine lx (af bQ rfl bx5 rfl) (mz zs11 ?_)
     replace Rg:=Rg.cn hc103
     refine lx (ad (v:=g_v) (i:=↑e) eI rfl rfl Rg rfl (by omega) (by omega)) (lx (bB d4 rfl rfl rfl (by decide) (by decide) rfl) (lx (c7 (v:=g_v) (i:=↑e) ah rfl Rg (by omega) (by omega) (by decide) rfl) ?_))
     replace o67:=(o67.cn ch100).cn hc103
     refine lx (ad (v:=v65) (i:=(gI g.2 ↑e).1) eu rfl rfl o67.flat rfl (by omega) (by omega)) (lo (aA (i:=(gI g.2 ↑e).1) true bv rfl rfl o67 (by omega) (by omega) rfl ?_))
     intro w104 ch105 bx106
     clear o67
     refine ag (am (a8 rfl (mz zs11 (lx (aF (m:=↑e) (n:=1) rfl rfl (by omega)) (ai ((e:Int)+1) (ag ?_))))))
     have C107:=cg [8] (ch100.n.seq (hc103.n.seq (ch105.l rfl)))
     refine back16 (e+1,(List.set loops (Int.toNat ((gI g.2 ↑e).1)) true),g98) _ _ ⟨bH.ca C107,zs1,zs5,zs7,zs9,zs10,rfl,Rg.ce ch105,bx5.ce ch105,o34.ca C107,bx44.ca C107,o50.ca C107,bx106,o73.ca C107,by omega,?_⟩ ?_
     · show mx g (List.set loops (Int.toNat ((gI g.2 ↑e).1)) true) (e+1)
       exact hlo.yes hm ‹_› ‹_›
     · show Int.toNat (((g.2.length:Int):Int)-((e+1):Int))<Int.toNat (((g.2.length:Int):Int)-(e:Int))
       omega
    refine aj rfl (df p18) (ay (am (a8 rfl (mz zs11 (lx (aF (m:=↑e) (n:=1) rfl rfl (by omega)) (ai ((e:Int)+1) (ag ?_)))))))
    replace bH:=bH.cn ch100
    refine back16 (e+1,loops,g98) _ _ ⟨bH.cn hc103,zs1,zs5,zs7,zs9,zs10,rfl,Rg.cn hc103,bx5.cn hc103,(o34.cn ch100).cn hc103,(bx44.cn ch100).cn hc103,(o50.cn ch100).cn hc103,(o67.cn ch100).cn hc103,(o73.cn ch100).cn hc103,by omega,?_⟩ ?_
    · show mx g loops (e+1)
      exact hlo.no ‹_›
    · show Int.toNat (((g.2.length:Int):Int)-((e+1):Int))<Int.toNat (((g.2.length:Int):Int)-(e:Int))
      omega
   refine aj rfl (df p16) (aI rfl (ab ?_))
   obtain⟨_,hn0,hn1⟩:=g0 (gone:=[]) (cut:=[]) hm
   obtain⟨_,hk0,hk1⟩:=g0 (gone:=[]) (cut:=[]) htS
   obtain⟨hT3,hT4,_⟩:=id htS
   refine a8 rfl (lx (aH (ds:=[vi g.1,g_v]) bz zs1 bx5 rfl rfl) (lo (cz (bg (vals:=[vg [vi g.1,g_v],vn,vn]) Try.func31 kO kK rfl) (hZ w97 g g_v (Rg).ro ([]) vn (Sl.nil (γ:=c0) (S:=any)) ([]) vn (Sl.nil (γ:=c0) (S:=any)) (by exact hm) (by exact λh=>absurd h (by decide)) (by exact λh=>absurd h (by decide))) ?_)))
   rintro⟨d109,v111⟩ w108 ⟨fr110,o112⟩
   obtain⟨g113,ch114,G113⟩:=kf g98 fr110 (λn=>if n=1 then 10 else 0)
   replace o112:=o112.gl G113 10
   refine mv (vt [v111,vi ((bf g ([]) ([])).2)]) (lx (aL rfl rfl) (lx (aL rfl rfl) (ma v111 (ai ((bf g ([]) ([])).2) (ag (ab ?_))))))
   clear o112
   refine a8 rfl (ai 0 (ag (ab (ab (a8 rfl (ai 0 (ag (ax ?_))))))))
   refine bn (σ:=Nat×Nat×aG) (λ⟨al,v,gq⟩ f w=>bx w0 gq w/\f 1=vp b3 0/\f 5=vp b39 0/\f 7=v48/\f 9=v65/\f 10=v72/\f 13=vi ((bf g ([]) ([])).2)/\f 14=vi ↑al/\f 15=vi ↑v/\Sl gq (is 0) w g_v g.2/\Bx gq (is 1) w b3 [vi g.1,g_v]/\Ow gq (is 5) (is 5) w v33 (((aT g).1).2)/\Bx gq (is 6) w b39 [vi (((aT g).1).1),v33]/\Ow gq (is 7) (is 7) w v48 cut/\Ow gq (is 8) (is 8) w v65 loops/\Ow gq (is 9) (is 9) w v72 (dX g)/\(v:Int)<=(g.1:Int)/\(al=((dj g v).length:Int))) (λ⟨al,v,gq⟩=>Int.toNat ((g.1:Int)-(v:Int))) (0,0,g113) ?_ ?_
   · exact⟨bH.cn ch114,zs1,zs5,zs7,zs9,zs10,rfl,rfl,rfl,Rg.cn ch114,bx5.cn ch114,o34.cn ch114,bx44.cn ch114,o50.cn ch114,o67.cn ch114,o73.cn ch114,by omega,by rfl⟩
   clear Rg bx5 o34 bx44 o50 o67 o73 bH
   rintro⟨al,v,g117⟩ f115 w116 ⟨bH,zs1,zs5,zs7,zs9,zs10,zs13,zs14,zs15,Rg,bx5,o34,bx44,o50,o67,o73,hle_v,hal⟩ back23
   obtain⟨hal0,hal1⟩:=sM hal
   refine ab (ab (a8 rfl (mz zs15 (lx (ae dw rfl rfl zs1 rfl) (lx (af ah rfl bx5 rfl) (lx (bp (m:=↑v) (n:=g.1) rfl rfl) (ag ?_)))))))
   by_cases p23:(v:Int)<g.1
   ·
    refine ao rfl (dt p23) (ay (ab (ax (ab (a8 rfl (lx (ae dw rfl rfl zs1 rfl) (lx (af ah rfl bx5 rfl) (lo (cN (α:=Bool) (l:=g.1) (cp:=g.1) g117 (is 11) (is 11) (11,0) rfl false eu bv rfl rfl rfl (by omega) (by omega) (by omega) (by omega) ?_)))))))))
    intro g118 w119 v120 ch121 o122 hcap_
    clear hcap_
    refine ma v120 (ag (ab (a8 rfl (mv v120 (mz zs15 (lx (ad (v:=v120) (i:=↑v) eu rfl rfl o122.flat rfl (by omega) (by(simp only[List.length_set,List.length_append,List.length_cons,List.length_nil,List.length_replicate,List.length_map,List.length_take,List.length_drop];omega))) (lo (aA (i:=↑v) true bv rfl rfl o122 (by omega) (by(simp only[List.length_set,List.length_append,List.length_cons,List.length_nil,List.length_replicate,List.length_map,List.length_take,List.length_drop];omega)) rfl ?_))))))))
    intro w123 ch124 bx125
    clear o122
    refine ag (ab (a8 rfl ?_))
    replace bx5:=(bx5.cn ch121).ce ch124
    refine lx (aH (ds:=[vi g.1,g_v]) bz zs1 bx5 rfl rfl) (mv v120 ?_)
    replace Rg:=(Rg.cn ch121).ce ch124
    refine lo (cz (bg (vals:=[vg [vi g.1,g_v],v120,vn]) Try.func31 kO kK rfl) (hZ w123 g g_v (Rg).ro (List.set (List.replicate (Int.toNat g.1) false) (Int.toNat ↑v) true) v120 (bx125.flat).ro ([]) vn (Sl.nil (γ:=c0) (S:=any)) (by exact hm) (by exact λ_=>by rw[List.length_set,List.length_replicate];omega) (by exact λh=>absurd h (by decide))) ?_)
    rintro⟨d127,v129⟩ w126 ⟨fr128,o130⟩
    obtain⟨g131,ch132,G131⟩:=kf g118 fr128 (λn=>if n=1 then 12 else 0)
    replace o130:=o130.gl G131 12
    refine mv (vt [v129,vi ((bf g (List.set (List.replicate (Int.toNat g.1) false) (Int.toNat ↑v) true) ([])).2)]) (lx (aL rfl rfl) (lx (aL rfl rfl) (ma v129 (ai ((bf g (List.set (List.replicate (Int.toNat g.1) false) (Int.toNat ↑v) true) ([])).2) (ag (ab (ab ?_)))))))
    clear bx125 o130
    obtain⟨_,hw0,hw1⟩:=g0 (gone:=List.set (List.replicate (Int.toNat g.1) false) (Int.toNat ↑v) true) (cut:=[]) hm
    refine cZ g131 rfl jH (by kernel_rfl) ?_
    intro w134 ch133
    refine qz zs9 (qz zs15 ?_)
    have C135:=cg [11] (ch121.n.seq ((ch124.l rfl).seq (ch132.n.seq ch133.n)))
    replace o67:=o67.ca C135
    refine qx (λw' hw'=>ad (v:=v65) (i:=↑v) eu rfl rfl (o67.flat.bel hw') rfl (by omega) (by omega)) (qx (λw' hw'=>ap (v:=v65) (i:=↑v) bv rfl (o67.flat.bel hw') (by omega) (by omega) (by decide) rfl) (qx (λw' hw'=>fv (b:=(gI loops ↑v)) rfl) (qm (vb (!(gI loops ↑v))) ?_)))
    by_cases q121:(gI loops ↑v)=true
    ·
     refine bm (wn (congrArg Bool.not q121)) (bm (wn (congrArg Bool.not q121)) (bm (wn (congrArg Bool.not q121)) (bm (wn (congrArg Bool.not q121)) (bm (wn (congrArg Bool.not q121)) (bm (wn (congrArg Bool.not q121)) (bm (wn (congrArg Bool.not q121)) (bm (wn (congrArg Bool.not q121)) (bm (wn (congrArg Bool.not q121)) (bm (wn (congrArg Bool.not q121)) ?_)))))))))
     refine bm (aS rfl rfl rfl) (bm (aS rfl rfl rfl) (bm (aS rfl rfl rfl) (bm (wn (congrArg Bool.not q121)) (bm (wn (congrArg Bool.not q121)) (qv (vb false) (λw' hw'=>bh rfl (congrArg Bool.not q121) rfl) (dQ ?_))))))
     intro w136 hc137
     replace hc137:=aZ hc137 g131
     refine aj rfl rfl (ay (ab (a8 rfl (mz zs10 (mz zs15 ?_)))))
     have C138:=cg [11] (ch121.n.seq ((ch124.l rfl).seq (ch132.n.seq (ch133.n.seq hc137.n))))
     replace o73:=o73.ca C138
     refine lx (ad (v:=v72) (i:=↑v) ba rfl rfl o73.flat rfl (by omega) (by omega)) (lx (ap (v:=v72) (i:=↑v) ah rfl o73.flat (by omega) (by omega) (by decide) rfl) (lx (cS (m:=(gI (dX g) (v:Int))) (n:=0) rfl rfl) (ag ?_)))
     by_cases p30:(gI (dX g) (v:Int))=0
     ·
      refine ao rfl (dt p30) (a8 rfl (mz zs14 (lx (aF (m:=↑al) (n:=1) rfl rfl (by omega)) (ai ((al:Int)+1) (ag (am (a8 rfl (mz zs15 (lx (aF (m:=↑v) (n:=1) rfl rfl (by omega)) ?_)))))))))
      refine ai ((v:Int)+1) (ag ?_)
      have C139:=cg [] (ch132.n.seq (ch133.n.seq hc137.n))
      refine back23 (al+1,v+1,g131) _ _ ⟨bH.ca C138,zs1,zs5,zs7,zs9,zs10,zs13,rfl,rfl,Rg.ca C139,bx5.ca C139,o34.ca C138,bx44.ca C138,o50.ca C138,o67.cn hc137,o73,by omega,?_⟩ ?_
      · show(al+1)=((dj g (v+1)).length:Int)
        exact mX ‹_› hal ‹_›
      · show Int.toNat ((g.1:Int)-((v+1):Int))<Int.toNat ((g.1:Int)-(v:Int))
        omega
     refine aj rfl (df p30) (ay (am (a8 rfl (mz zs15 (lx (aF (m:=↑v) (n:=1) rfl rfl (by omega)) (ai ((v:Int)+1) (ag ?_)))))))
     have C140:=cg [] (ch132.n.seq (ch133.n.seq hc137.n))
     refine back23 (al,v+1,g131) _ _ ⟨bH.ca C138,zs1,zs5,zs7,zs9,zs10,zs13,zs14,rfl,Rg.ca C140,bx5.ca C140,o34.ca C138,bx44.ca C138,o50.ca C138,o67.cn hc137,o73,by omega,?_⟩ ?_
     · show al=((dj g (v+1)).length:Int)
       exact ph ‹_› hal ‹_›
     · show Int.toNat ((g.1:Int)-((v+1):Int))<Int.toNat ((g.1:Int)-(v:Int))
       omega
    refine bE (v:=v48) (wy (congrArg Bool.not (Bool.eq_false_iff.2 q121))) (λw' hw'=>av zs7) (bE (v:=vi ↑v) (wy (congrArg Bool.not (Bool.eq_false_iff.2 q121))) (λw' hw'=>av zs15) ?_)
    replace o50:=o50.ca C135
    refine bE (v:=Value.pointer (some (aU v48 1 (Int.toNat ↑v)))) (wy (congrArg Bool.not (Bool.eq_false_iff.2 q121))) (λw' hw'=>ad (α:=Bool) (xs:=cut) (v:=v48) (i:=↑v) eu rfl rfl (o50.flat.bel hw') rfl (by omega) (by omega)) (bE (v:=vb (gI cut ↑v)) (wy (congrArg Bool.not (Bool.eq_false_iff.2 q121))) (λw' hw'=>ap (α:=Bool) (xs:=cut) (v:=v48) (i:=↑v) bv rfl (o50.flat.bel hw') (by omega) (by omega) (by decide) rfl) (bE (v:=v72) (wy (congrArg Bool.not (Bool.eq_false_iff.2 q121))) (λw' hw'=>av zs10) (bE (v:=vi ↑v) (wy (congrArg Bool.not (Bool.eq_false_iff.2 q121))) (λw' hw'=>av zs15) ?_)))
    replace o73:=o73.ca C135
    refine bE (v:=Value.pointer (some (aU v72 1 (Int.toNat ↑v)))) (wy (congrArg Bool.not (Bool.eq_false_iff.2 q121))) (λw' hw'=>ad (α:=Int) (xs:=dX g) (v:=v72) (i:=↑v) ba rfl rfl (o73.flat.bel hw') rfl (by omega) (by omega)) (bE (v:=vi (gI (dX g) (v:Int))) (wy (congrArg Bool.not (Bool.eq_false_iff.2 q121))) (λw' hw'=>ap (α:=Int) (xs:=dX g) (v:=v72) (i:=↑v) ah rfl (o73.flat.bel hw') (by omega) (by omega) (by decide) rfl) (bE (v:=vb (decide (0<(gI (dX g) (v:Int))))) (wy (congrArg Bool.not (Bool.eq_false_iff.2 q121))) (λw' hw'=>eb (m:=(gI (dX g) (v:Int))) (n:=0) rfl rfl) ?_))
    refine bE (v:=vb (decide (0<(gI (dX g) (v:Int))))) (wy (congrArg Bool.not (Bool.eq_false_iff.2 q121))) (λw' hw'=>av rfl) ?_
    by_cases q131:0<(gI (dX g) (v:Int))
    ·
     refine bE (v:=vi ((bf g (List.set (List.replicate (Int.toNat g.1) false) (Int.toNat ↑v) true) ([])).2)) (wy (dt q131)) (λw' hw'=>av rfl) (bE (v:=vi ((bf g ([]) ([])).2)) (wy (dt q131)) (λw' hw'=>av zs13) (bE (v:=vb (decide (((bf g ([]) ([])).2)<((bf g (List.set (List.replicate (Int.toNat g.1) false) (Int.toNat ↑v) true) ([])).2)))) (wy (dt q131)) (λw' hw'=>eb (m:=(bf g (List.set (List.replicate (Int.toNat g.1) false) (Int.toNat ↑v) true) ([])).2) (n:=(bf g ([]) ([])).2) rfl rfl) ?_))
     refine bE (v:=vb (decide (((bf g ([]) ([])).2)<((bf g (List.set (List.replicate (Int.toNat g.1) false) (Int.toNat ↑v) true) ([])).2)))) (wy (congrArg Bool.not (Bool.eq_false_iff.2 q121))) (λw' hw'=>aY rfl (dt q131) rfl) (bE (v:=vb (!(decide ((gI cut ↑v)=(decide (((bf g ([]) ([])).2)<((bf g (List.set (List.replicate (Int.toNat g.1) false) (Int.toNat ↑v) true) ([])).2))))))) (wy (congrArg Bool.not (Bool.eq_false_iff.2 q121))) (λw' hw'=>jO U4 rfl rfl) (qv (vb (!(decide ((gI cut ↑v)=(decide (((bf g ([]) ([])).2)<((bf g (List.set (List.replicate (Int.toNat g.1) false) (Int.toNat ↑v) true) ([])).2))))))) (λw' hw'=>aY rfl (congrArg Bool.not (Bool.eq_false_iff.2 q121)) rfl) (dQ ?_)))
     intro w141 hc142
     replace hc142:=aZ hc142 g131
     have p28:(gI cut ↑v)=(decide (((bf g ([]) ([])).2)<((bf g (List.set (List.replicate (Int.toNat g.1) false) (Int.toNat ↑v) true) ([])).2))):=by exact tE hm hcm ‹_› hlo ‹_› (by omega) ‹_› ‹_› ‹_›
     refine aj rfl (congrArg Bool.not (dt p28)) (ay (ab (a8 rfl (mz zs10 (mz zs15 ?_)))))
     replace o73:=o73.cn hc142
     refine lx (ad (v:=v72) (i:=↑v) ba rfl rfl o73.flat rfl (by omega) (by omega)) (lx (ap (v:=v72) (i:=↑v) ah rfl o73.flat (by omega) (by omega) (by decide) rfl) (lx (cS (m:=(gI (dX g) (v:Int))) (n:=0) rfl rfl) (ag ?_)))
     by_cases p30:(gI (dX g) (v:Int))=0
     ·
      refine ao rfl (dt p30) (a8 rfl (mz zs14 (lx (aF (m:=↑al) (n:=1) rfl rfl (by omega)) (ai ((al:Int)+1) (ag (am (a8 rfl (mz zs15 (lx (aF (m:=↑v) (n:=1) rfl rfl (by omega)) ?_)))))))))
      refine ai ((v:Int)+1) (ag ?_)
      have C143:=cg [11] (ch121.n.seq ((ch124.l rfl).seq (ch132.n.seq (ch133.n.seq hc142.n))))
      have C144:=cg [] (ch132.n.seq (ch133.n.seq hc142.n))
      refine back23 (al+1,v+1,g131) _ _ ⟨bH.ca C143,zs1,zs5,zs7,zs9,zs10,zs13,rfl,rfl,Rg.ca C144,bx5.ca C144,o34.ca C143,bx44.ca C143,o50.cn hc142,o67.cn hc142,o73,by omega,?_⟩ ?_
      · show(al+1)=((dj g (v+1)).length:Int)
        exact mX ‹_› hal ‹_›
      · show Int.toNat ((g.1:Int)-((v+1):Int))<Int.toNat ((g.1:Int)-(v:Int))
        omega
     refine aj rfl (df p30) (ay (am (a8 rfl (mz zs15 (lx (aF (m:=↑v) (n:=1) rfl rfl (by omega)) (ai ((v:Int)+1) (ag ?_)))))))
     have C145:=cg [11] (ch121.n.seq ((ch124.l rfl).seq (ch132.n.seq (ch133.n.seq hc142.n))))
     have C146:=cg [] (ch132.n.seq (ch133.n.seq hc142.n))
     refine back23 (al,v+1,g131) _ _ ⟨bH.ca C145,zs1,zs5,zs7,zs9,zs10,zs13,zs14,rfl,Rg.ca C146,bx5.ca C146,o34.ca C145,bx44.ca C145,o50.cn hc142,o67.cn hc142,o73,by omega,?_⟩ ?_
     · show al=((dj g (v+1)).length:Int)
       exact ph ‹_› hal ‹_›
     · show Int.toNat ((g.1:Int)-((v+1):Int))<Int.toNat ((g.1:Int)-(v:Int))
       omega
    refine bm (wn (df q131)) (bm (wn (df q131)) (bm (wn (df q131)) (bE (v:=vb false) (wy (congrArg Bool.not (Bool.eq_false_iff.2 q121))) (λw' hw'=>bh rfl (df q131) rfl) (bE (v:=vb (!(decide ((gI cut ↑v)=false)))) (wy (congrArg Bool.not (Bool.eq_false_iff.2 q121))) (λw' hw'=>jO U4 rfl rfl) (qv (vb (!(decide ((gI cut ↑v)=false)))) (λw' hw'=>aY rfl (congrArg Bool.not (Bool.eq_false_iff.2 q121)) rfl) (dQ ?_))))))
    intro w147 hc148
    replace hc148:=aZ hc148 g131
    have p28_149:(gI cut ↑v)=false:=by exact tt hm hcm ‹_› hlo ‹_› (by omega) ‹_› ‹_› ‹_›
    refine aj rfl (congrArg Bool.not (dt p28_149)) (ay (ab (a8 rfl (mz zs10 (mz zs15 ?_)))))
    replace o73:=o73.cn hc148
    refine lx (ad (v:=v72) (i:=↑v) ba rfl rfl o73.flat rfl (by omega) (by omega)) (lx (ap (v:=v72) (i:=↑v) ah rfl o73.flat (by omega) (by omega) (by decide) rfl) (lx (cS (m:=(gI (dX g) (v:Int))) (n:=0) rfl rfl) (ag ?_)))
    by_cases p30:(gI (dX g) (v:Int))=0
    ·
     refine ao rfl (dt p30) (a8 rfl (mz zs14 (lx (aF (m:=↑al) (n:=1) rfl rfl (by omega)) (ai ((al:Int)+1) (ag (am (a8 rfl (mz zs15 (lx (aF (m:=↑v) (n:=1) rfl rfl (by omega)) ?_)))))))))
     refine ai ((v:Int)+1) (ag ?_)
     have C150:=cg [11] (ch121.n.seq ((ch124.l rfl).seq (ch132.n.seq (ch133.n.seq hc148.n))))
     have C151:=cg [] (ch132.n.seq (ch133.n.seq hc148.n))
     refine back23 (al+1,v+1,g131) _ _ ⟨bH.ca C150,zs1,zs5,zs7,zs9,zs10,zs13,rfl,rfl,Rg.ca C151,bx5.ca C151,o34.ca C150,bx44.ca C150,o50.cn hc148,o67.cn hc148,o73,by omega,?_⟩ ?_
     · show(al+1)=((dj g (v+1)).length:Int)
       exact mX ‹_› hal ‹_›
     · show Int.toNat ((g.1:Int)-((v+1):Int))<Int.toNat ((g.1:Int)-(v:Int))
       omega
    refine aj rfl (df p30) (ay (am (a8 rfl (mz zs15 (lx (aF (m:=↑v) (n:=1) rfl rfl (by omega)) (ai ((v:Int)+1) (ag ?_)))))))
    have C152:=cg [11] (ch121.n.seq ((ch124.l rfl).seq (ch132.n.seq (ch133.n.seq hc148.n))))
    have C153:=cg [] (ch132.n.seq (ch133.n.seq hc148.n))
    refine back23 (al,v+1,g131) _ _ ⟨bH.ca C152,zs1,zs5,zs7,zs9,zs10,zs13,zs14,rfl,Rg.ca C153,bx5.ca C153,o34.ca C152,bx44.ca C152,o50.cn hc148,o67.cn hc148,o73,by omega,?_⟩ ?_
    · show al=((dj g (v+1)).length:Int)
      exact ph ‹_› hal ‹_›
    · show Int.toNat ((g.1:Int)-((v+1):Int))<Int.toNat ((g.1:Int)-(v:Int))
      omega
   refine aj rfl (df p23) (aI rfl (ab ?_))
   clear bx5 o50 o67 o73
   refine a8 rfl (lx (aH (ds:=[vi (((aT g).1).1),v33]) bz zs5 bx44 rfl rfl) (lo (cz (bg (vals:=[vg [vi (((aT g).1).1),v33],vn,vn]) Try.func31 kO kK rfl) (hZ w116 ((aT g).1) v33 (o34.flat).ro ([]) vn (Sl.nil (γ:=c0) (S:=any)) ([]) vn (Sl.nil (γ:=c0) (S:=any)) (by exact htS) (by exact λh=>absurd h (by decide)) (by exact λh=>absurd h (by decide))) ?_)))
   rintro⟨d155,v157⟩ w154 ⟨fr156,o158⟩
   obtain⟨g159,ch160,G159⟩:=kf g117 fr156 (λn=>if n=1 then 13 else 0)
   replace o158:=o158.gl G159 13
   refine mv (vt [v157,vi ((bf ((aT g).1) ([]) ([])).2)]) (lx (aL rfl rfl) (lx (aL rfl rfl) (ma v157 (ai ((bf ((aT g).1) ([]) ([])).2) (ag (ab ?_))))))
   clear o158
   refine a8 rfl (mi ((bf ((aT g).1) ([]) ([])).2) (mz zs13 (mz zs14 (lx (d6 (m:=(bf g ([]) ([])).2) (n:=↑al) rfl rfl (by omega)) (lx (cS (m:=(bf ((aT g).1) ([]) ([])).2) (n:=((bf g ([]) ([])).2)-(al:Int)) rfl rfl) (mv (vb (decide (((bf ((aT g).1) ([]) ([])).2)=(((bf g ([]) ([])).2)-(al:Int))))) ?_))))))
   have q155:((bf ((aT g).1) ([]) ([])).2)=(((bf g ([]) ([])).2)-(al:Int)):=by exact th hm htm hT1 hal (by omega)
   refine lv (vp b39 1) (wy (dt q155)) (ae dw rfl rfl zs5 rfl) ?_
   replace bx44:=bx44.cn ch160
   refine lv (v33) (wy (dt q155)) (af bQ rfl bx44 rfl) ?_
   replace o34:=o34.cn ch160
   have len161:=(o34.flat).small
   refine lv (vi (List.length (((aT g).1).2):Int)) (wy (dt q155)) (bF eI rfl o34.flat) (lv (vp b39 0) (wy (dt q155)) (ae dw rfl rfl zs5 rfl) (lv (vi (((aT g).1).1)) (wy (dt q155)) (af ah rfl bx44 rfl) (lv (vi ((bf ((aT g).1) ([]) ([])).2)) (wy (dt q155)) (av rfl) (lv (vi ((((aT g).1).1)-((bf ((aT g).1) ([]) ([])).2))) (wy (dt q155)) (d6 (m:=((aT g).1).1) (n:=(bf ((aT g).1) ([]) ([])).2) rfl rfl (by omega)) ?_))))
   refine lv (vb (decide ((List.length (((aT g).1).2):Int)=((((aT g).1).1)-((bf ((aT g).1) ([]) ([])).2))))) (wy (dt q155)) (cS (m:=(List.length (((aT g).1).2):Int)) (n:=(((aT g).1).1)-((bf ((aT g).1) ([]) ([])).2)) rfl rfl) (lw (vb (decide ((List.length (((aT g).1).2):Int)=((((aT g).1).1)-((bf ((aT g).1) ([]) ([])).2))))) (aY rfl (dt q155) rfl) (ma (vb (decide ((List.length (((aT g).1).2):Int)=((((aT g).1).1)-((bf ((aT g).1) ([]) ([])).2))))) (ag (aQ (vs:=[vb (decide ((List.length (((aT g).1).2):Int)=((((aT g).1).1)-((bf ((aT g).1) ([]) ([])).2))))]) Try.func5 (.tmp rfl .nil) ?_))))
   have e0:(decide ((List.length (((aT g).1).2):Int)=((((aT g).1).1)-((bf ((aT g).1) ([]) ([])).2))):Bool)=(true):=by
     exact dt (tw hm htm hT1)
   replace bH:=bH.cn ch160
   exact⟨(congrArg (a₁:=decide ((List.length (((aT g).1).2):Int)=((((aT g).1).1)-((bf ((aT g).1) ([]) ([])).2)))) (λ(z0:Bool)=>Ending.returned (vb z0)) e0),bH.below⟩
  refine ao rfl (congrArg Bool.not (Bool.eq_false_iff.2 p3)) (ab ?_)
  clear bx5
  refine a8 rfl (ma (vb true) (ag (aQ (vs:=[vb true]) Try.func5 (.tmp rfl .nil) ?_)))
  have e0:(true:Bool)=(true):=by
    rfl
  have C162:=cg [] (ch2.n.seq (hb7.n.seq (hb9.n.seq hb11.n)))
  replace bH:=bH.ca C162
  exact⟨rb e0,bH.below⟩
 refine az (wn (congrArg Bool.not (Bool.eq_false_iff.2 q26))) (az (wn (congrArg Bool.not (Bool.eq_false_iff.2 q26))) (az (wn (congrArg Bool.not (Bool.eq_false_iff.2 q26))) (lw (vb true) (aY rfl (congrArg Bool.not (Bool.eq_false_iff.2 q26)) rfl) (ag (ao rfl rfl (ab ?_))))))
 clear bx5
 refine a8 rfl (ma (vb true) (ag (aQ (vs:=[vb true]) Try.func5 (.tmp rfl .nil) ?_)))
 have e0:(true:Bool)=(true):=by
   rfl
 have C163:=cg [] (ch2.n.seq (hb7.n.seq hb9.n))
 replace bH:=bH.ca C163
 exact⟨rb e0,bH.below⟩
end TL
