import Derived.Test.YtfpckpgnnplhnaaGreatSkTlGenA
import Derived.Test.YtfpckpgnnplhnaaGreatSkTlAli
set_option linter.all false
set_option maxRecDepth 20000
namespace TL
open Go Go.Proofs
theorem kO:Tryz.prog.follows .mixedOrders=true:=by kernel_rfl
theorem fq:Tp Tryz.prog 38 false 1 24 (.slice none 0 0):=Tp.of (by kernel_rfl)
theorem pc:Tp Tryz.prog 64 false 1 24 (.slice none 0 0):=Tp.of (by kernel_rfl)
theorem kh:Tp Tryz.prog 73 false 1 8 (.pointer none):=Tp.of (by kernel_rfl)
theorem hX:Tp Tryz.prog 74 false 1 24 (.slice none 0 0):=Tp.of (by kernel_rfl)
theorem dZ:Tp Tryz.prog 78 true 4 32 (.agg #[.int .i64 0,.int .i64 0,.int .i64 0,.int .i64 0]):=Tp.of (by kernel_rfl)
theorem oV:Tp Tryz.prog 85 false 1 24 (.slice none 0 0):=Tp.of (by kernel_rfl)
theorem qe:Tp Tryz.prog 87 false 1 8 (.map none):=Tp.of (by kernel_rfl)
theorem lV:Tryz.f51.body.isNone=false:=rfl
theorem ms:(Tryz.f51.name== "runtime.NumGoroutine")=false:=by decide+kernel
theorem q9:Tryz.f72.body.isNone=false:=rfl
theorem qb:(Tryz.f72.name== "runtime.NumGoroutine")=false:=by decide+kernel
theorem mj:Tryz.f76.body.isNone=false:=rfl
theorem mI:(Tryz.f76.name== "runtime.NumGoroutine")=false:=by decide+kernel
theorem nJ:∀(fu:Nat) (w0:World) (γ0:aw) (n_b:Nat) (ps_v:Value) (ps:List Pp) (hps_v:Sl γ0 (is 0) w0 ps_v ps) (ho_v:Value) (ho:jH) (hho_v:dr γ0 2 w0 ho_v ho) (nu_v:Value) (nu:List Int) (hnu_v:Ow γ0 (is 3) (is 3) w0 nu_v nu) (od_v:Value) (od:List Int) (hod_v:Ow γ0 (is 4) (is 4) w0 od_v od) (le_v:Value) (le:(Pt->Int)×List Pt) (hle_v:Md γ0 (is 5) w0 le_v le.1 le.2) (hn_b:Bx γ0 (is 7) w0 n_b [ps_v,ho_v,nu_v,od_v,le_v]) (AR:List Pp×List (bY Bd)) (ar_A:fV γ0 w0 AR.1 AR.2) (i:Int) (fr:Int) (e:Int) (hin:∀u∈ps,u∈AR.1) (hpl:(ps.length:Int)<=100001) (hm:lm (ps.map (bo AR)) ho le) (hb:fB (ps.map (bo AR)) ho fu i fr=some e),
    Calls Tryz.prog 76 #[vp n_b 0,vi i,vi fr] w0 (λee w=>∃xx:aw×((Pt->Int)×List Pt),ee= .returned ((λ(⟨γ1,le1⟩:aw×((Pt->Int)×List Pt))=>vi e) xx)/\(λ(⟨γ1,le1⟩:aw×((Pt->Int)×List Pt)) (w:World)=>aU (inl [5]) γ0 w0 γ1 w/\Md γ1 (is 5) w le_v le1.1 le1.2/\(lm (ps.map (bo AR)) ho le1)) xx w):=by
 intro fu
 induction fu using Nat.strongRecOn
 rename_i fu ih
 intro w0 γ0 n_b ps_v ps hps_v ho_v ho hho_v nu_v nu hnu_v od_v od hod_v le_v le hle_v hn_b AR ar_A i fr e hin hpl hm hb
 obtain⟨γr,hγr,hch0⟩:∃γr,γr=mX [0,2,3,4,5,7] γ0/\aU (Al [0,2,3,4,5,7]) γ0 w0 γr w0:=⟨_,rfl,oY _ _ _⟩
 replace hps_v:=hps_v.chg hch0 (dh rfl)
 replace hho_v:=hho_v.chg hch0 (dh rfl)
 replace hnu_v:=hnu_v.chg hch0 (dh rfl) (dh rfl)
 replace hod_v:=hod_v.chg hch0 (dh rfl) (dh rfl)
 replace hle_v:=hle_v.chg hch0 (dh rfl)
 replace hn_b:=hn_b.chg hch0 (dh rfl)
 replace ar_A:=ar_A.chg hch0 (dh rfl)
 clear hch0
 refine ap Tryz.func76 rfl nq ?_
 have bH:oJ [0,2,3,4,7] γr w0 γr w0:=oJ.start
 obtain⟨f0,rfl,⟨hi0,hi1⟩,hbl⟩:=AF hb
 have hVl:(ps.map (bo AR)).length=ps.length:=List.length_map ..
 rw[hVl] at hi1
 have hvi:gI (ps.map (bo AR)) i=(gI AR.2 ((AR.1.idxOf (gI ps i):Nat):Int)):=iO hi0 hi1
 rw[hvi] at hbl
 refine a7 (a6 rfl (ai 0 (ab (a7 (a6 rfl (mi i (mi fr (lw (vg [vi i,vi fr]) (bh (vs:=[(0,vi i),(1,vi fr)]) rfl (by kernel_rfl)) (lo (bi γr (is 8) (8,0) rfl bx ?_))))))))))
 intro g4 w1 b3 ch2 bx5
 refine lo (ax (cs':=[vi i,vi fr]) bx rfl rfl bx5 rfl nq (AllOne.all (.cons rfl (.cons rfl .nil))) rfl ?_)
 intro w6 ch7 bx8
 clear bx5
 refine ab (a7 (a7 (cG g4 rfl kO (by kernel_rfl) ?_)))
 intro w10 ch9
 refine qm (vp n_b 0) (qv (vp n_b 0) (λw' hw'=>ae rfl) (qx (λw' hw'=>aa qD rfl rfl rfl rfl) ?_))
 have C11:=cg [8] (ch2.n.seq ((ch7.l rfl).seq ch9.n))
 replace hn_b:=hn_b.ca C11
 refine qx (λw' hw'=>a8 qe rfl (hn_b.bel hw') rfl) ?_
 replace bx8:=bx8.cn ch9
 refine qx (λw' hw'=>ay (ds:=[vi i,vi fr]) bx rfl (bx8.bel hw') rfl rfl) ?_
 replace hle_v:=hle_v.ca C11
 refine qv (vt [vi (le.1 (i,fr)),vb (ta (i,fr) le.2)]) (λw' hw'=>gD (i,fr) nh (ci eO U3 ah) ah rfl (hle_v.bel hw') rfl rfl) (qm (vt [vi (le.1 (i,fr)),vb (ta (i,fr) le.2)]) (qx (λw' hw'=>aJ rfl rfl) (qx (λw' hw'=>aJ rfl rfl) (qv (vi (le.1 (i,fr))) (λw' hw'=>bm rfl) (qv (vb (ta (i,fr) le.2)) (λw' hw'=>bm rfl) (ep ?_))))))
 intro w12 hc13
 replace hc13:=aN hc13 g4
 refine a7 (a6 rfl (mv (vb (ta (i,fr) le.2)) (ab ?_)))
 by_cases p3:(i,fr)∈le.2
 ·
  refine af rfl (Aq p3) (a7 ?_)
  clear bx8
  refine a6 rfl (mi (le.1 (i,fr)) (ai (le.1 (i,fr)) (ab (au (vs:=[vi (le.1 (i,fr))]) Tryz.func76 (.tmp rfl .nil) ?_))))
  have C14:=cg [8] (ch2.n.seq ((ch7.l rfl).seq (ch9.n.seq hc13.n)))
  replace bH:=bH.chgN C14 (gS rfl)
  have e0:(le.1 (i,fr):Int)=(e):=by
    exact hm.known ‹_› hb
  replace hle_v:=hle_v.cn hc13
  subst hγr
  obtain⟨γf,hcN,hcF⟩:=bH.fin (Lc:=[5]) rfl rfl rfl
  have hinvN:lm (ps.map (bo AR)) ho le:=by
    assumption
  exact⟨(γf,le),(congrArg (a₁:=le.1 (i,fr)) (λ(z0:Int)=>Ending.returned (vi z0)) e0),hcN,hle_v.chg hcF (dh rfl),hinvN⟩
 refine ag rfl (Ae p3) (ao (a7 (a6 rfl (ai 3072 (ab (a7 (a7 (a6 rfl (mv (vp n_b 0) (lw (vp n_b 0) (ae rfl) (lx (aa qD rfl rfl rfl rfl) ?_)))))))))))
 replace hn_b:=hn_b.cn hc13
 refine lx (a8 pc rfl hn_b rfl) (mi i ?_)
 have C15:=cg [8] (ch2.n.seq ((ch7.l rfl).seq (ch9.n.seq hc13.n)))
 replace hps_v:=hps_v.ca C15
 refine lx (ad (v:=ps_v) (i:=i) iZ rfl rfl hps_v rfl (by omega) (by omega)) (lx (av (v:=ps_v) (i:=i) kh rfl hps_v (by omega) (by omega) (by decide) rfl) (lw (Value.pointer (some ⟨(gI ps i).n,0,none⟩)) (ae rfl) (lx (aa dR rfl rfl rfl rfl) ?_)))
 replace ar_A:=ar_A.ca C15
 obtain⟨v16,bx17,o18⟩:=fV.gt (u:=(gI ps i)) ar_A (j:=(AR.1.idxOf (gI ps i))) (by exact fb (hin _ (bC (by omega) (by omega))))
 refine lx (a8 hX rfl bx17 rfl) ?_
 have len19:=(o18).small
 refine lx (bp cJ rfl o18) (mi 0 (ab (am ?_)))
 clear bx17
 refine aV (σ:=Int×Nat×((Pt->Int)×List Pt)×aw) (λ⟨out,j,mp,gq⟩ f w=>oJ [0,2,3,4,7] γr w0 gq w/\f 0=vp n_b 0/\f 1=vi i/\f 2=vi fr/\f 7=vp b3 0/\f 10=vi out/\f 37=v16/\f 38=vi (List.length ((gI AR.2 (((AR.1.idxOf (gI ps i)):Nat):Int)).2):Int)/\f 39=vi ↑j/\Sl gq (is 0) w ps_v ps/\dr gq 2 w ho_v ho/\Ow gq (is 3) (is 3) w nu_v nu/\Ow gq (is 4) (is 4) w od_v od/\Md gq (is 5) w le_v mp.1 mp.2/\Bx gq (is 7) w n_b [ps_v,ho_v,nu_v,od_v,le_v]/\fV gq w AR.1 AR.2/\Bx gq (is 8) w b3 [vi i,vi fr]/\Sl gq (is 0) w v16 ((gI AR.2 (((AR.1.idxOf (gI ps i)):Nat):Int)).2)/\(j:Int)<=((List.length ((gI AR.2 (((AR.1.idxOf (gI ps i)):Nat):Int)).2):Int):Int)/\(gh (fB (ps.map (bo AR)) ho f0) ho i fr ((gI AR.2 ((AR.1.idxOf (gI ps i):Nat):Int)).2.drop j) out=some e/\lm (ps.map (bo AR)) ho mp)) (λ⟨out,j,mp,gq⟩=>Int.toNat (((List.length ((gI AR.2 (((AR.1.idxOf (gI ps i)):Nat):Int)).2):Int):Int)-(j:Int))) (3072,0,le,g4) ?_ ?_
 · exact⟨bH.chgN C15 (gS rfl),rfl,rfl,rfl,rfl,rfl,rfl,rfl,rfl,hps_v,hho_v.ca C15,hnu_v.ca C15,hod_v.ca C15,hle_v.cn hc13,hn_b,ar_A,bx8.cn hc13,o18,by omega,by exact⟨hbl,hm⟩⟩
 clear hps_v hho_v hnu_v hod_v hle_v hn_b ar_A bx8 o18 bH
 rintro⟨out,j,mp,g22⟩ f20 w21 ⟨bH,zs0,zs1,zs2,zs7,zs10,zs37,zs38,zs39,hps_v,hho_v,hnu_v,hod_v,hle_v,hn_b,ar_A,bx8,o18,hle_j,hjj⟩ back7
 obtain⟨hbj,hme⟩:=hjj
 refine a7 (a6 rfl (lx (bw (m:=↑j) (n:=(List.length ((gI AR.2 (((AR.1.idxOf (gI ps i)):Nat):Int)).2):Int)) zs39 zs38) (ab (a7 ?_))))
 by_cases p7:(j:Int)<(List.length ((gI AR.2 (((AR.1.idxOf (gI ps i)):Nat):Int)).2):Int)
 ·
  refine af rfl (dt p7) (ao (a7 (am (a7 (a6 rfl (lx (ad (v:=v16) (i:=↑j) cJ rfl zs37 o18 zs39 (by omega) (by omega)) (lw (vg [vi ((gI ((gI AR.2 (((AR.1.idxOf (gI ps i)):Nat):Int)).2) (j:Int)).1),vi (((gI ((gI AR.2 (((AR.1.idxOf (gI ps i)):Nat):Int)).2) (j:Int)).2).1),vi ((((gI ((gI AR.2 (((AR.1.idxOf (gI ps i)):Nat):Int)).2) (j:Int)).2).2).1),vi ((((gI ((gI AR.2 (((AR.1.idxOf (gI ps i)):Nat):Int)).2) (j:Int)).2).2).2)]) (bJ (v:=v16) (i:=↑j) dZ rfl o18 (by omega) (by omega) rfl) (lo (bi g22 (is 9) (9,0) rfl dZ ?_)))))))))
  intro g26 w23 b25 ch24 bx27
  refine lo (ax (cs':=[vi ((gI ((gI AR.2 (((AR.1.idxOf (gI ps i)):Nat):Int)).2) (j:Int)).1),vi (((gI ((gI AR.2 (((AR.1.idxOf (gI ps i)):Nat):Int)).2) (j:Int)).2).1),vi ((((gI ((gI AR.2 (((AR.1.idxOf (gI ps i)):Nat):Int)).2) (j:Int)).2).2).1),vi ((((gI ((gI AR.2 (((AR.1.idxOf (gI ps i)):Nat):Int)).2) (j:Int)).2).2).2)]) dZ rfl rfl bx27 rfl nq (AllOne.all (.cons rfl (.cons rfl (.cons rfl (.cons rfl .nil))))) rfl ?_)
  intro w28 ch29 bx30
  clear bx27
  refine ab (a7 (a6 rfl (lx (ay (ds:=[vi ((gI ((gI AR.2 (((AR.1.idxOf (gI ps i)):Nat):Int)).2) (j:Int)).1),vi (((gI ((gI AR.2 (((AR.1.idxOf (gI ps i)):Nat):Int)).2) (j:Int)).2).1),vi ((((gI ((gI AR.2 (((AR.1.idxOf (gI ps i)):Nat):Int)).2) (j:Int)).2).2).1),vi ((((gI ((gI AR.2 (((AR.1.idxOf (gI ps i)):Nat):Int)).2) (j:Int)).2).2).2)]) dZ rfl bx30 rfl rfl) (lo ?_))))
  refine br (aH (vals:=[vg [vi ((gI ((gI AR.2 (((AR.1.idxOf (gI ps i)):Nat):Int)).2) (j:Int)).1),vi (((gI ((gI AR.2 (((AR.1.idxOf (gI ps i)):Nat):Int)).2) (j:Int)).2).1),vi ((((gI ((gI AR.2 (((AR.1.idxOf (gI ps i)):Nat):Int)).2) (j:Int)).2).2).1),vi ((((gI ((gI AR.2 (((AR.1.idxOf (gI ps i)):Nat):Int)).2) (j:Int)).2).2).2)]]) Tryz.func51 lV ms rfl) (ap Tryz.func51 rfl nq (a7 (a6 rfl (cN rfl (cq g26 (is 10) (10,0) rfl rfl ?_)))))
  intro g34 w31 b33 ch32 bx35
  refine ma (vb false) (ab (a7 (a6 rfl (lx (aa iL rfl rfl rfl rfl) (lx (a8 ah rfl bx35 rfl) (lx (eB (m:=(((gI ((gI AR.2 (((AR.1.idxOf (gI ps i)):Nat):Int)).2) (j:Int)).2).2).1) (n:=0) rfl rfl) (ma (vb (decide (0<=((((gI ((gI AR.2 (((AR.1.idxOf (gI ps i)):Nat):Int)).2) (j:Int)).2).2).1)))) (ab (au (vs:=[vb (decide (0<=((((gI ((gI AR.2 (((AR.1.idxOf (gI ps i)):Nat):Int)).2) (j:Int)).2).2).1)))]) Tryz.func51 (.tmp rfl .nil) ?_)))))))))
  refine⟨vb (decide (0<=((((gI ((gI AR.2 (((AR.1.idxOf (gI ps i)):Nat):Int)).2) (j:Int)).2).2).1))),rfl,?_⟩
  refine ab ?_
  by_cases p9:0<=((((gI ((gI AR.2 (((AR.1.idxOf (gI ps i)):Nat):Int)).2) (j:Int)).2).2).1)
  ·
   refine af rfl (dt p9) ?_
   clear bx35
   refine a6 rfl (mz zs10 (lx (aa iL rfl rfl rfl rfl) ?_))
   replace bx30:=bx30.cn ch32
   refine lx (a8 ah rfl bx30 rfl) (lw (vi (min out ((((gI ((gI AR.2 (((AR.1.idxOf (gI ps i)):Nat):Int)).2) (j:Int)).2).2).1))) (jj rfl rfl) (ai (min out ((((gI ((gI AR.2 (((AR.1.idxOf (gI ps i)):Nat):Int)).2) (j:Int)).2).2).1)) (ab (ak ?_))))
   clear bx30
   refine a6 rfl (lx (aS (m:=↑j) (n:=1) zs39 rfl (by omega)) (mi ((j:Int)+1) (ab ?_)))
   have C36:=cg [9] (ch24.n.seq ((ch29.l rfl).seq ch32.n))
   refine back7 (min out ((((gI ((gI AR.2 (((AR.1.idxOf (gI ps i)):Nat):Int)).2) (j:Int)).2).2).1),j+1,mp,g34) _ _ ⟨bH.chgN C36 (gS rfl),zs0,zs1,zs2,zs7,rfl,zs37,zs38,rfl,hps_v.ca C36,hho_v.ca C36,hnu_v.ca C36,hod_v.ca C36,hle_v.ca C36,hn_b.ca C36,ar_A.ca C36,bx8.ca C36,o18.ca C36,by omega,?_⟩ ?_
   · show gh (fB (ps.map (bo AR)) ho f0) ho i fr ((gI AR.2 ((AR.1.idxOf (gI ps i):Nat):Int)).2.drop (j+1)) (min out ((((gI ((gI AR.2 (((AR.1.idxOf (gI ps i)):Nat):Int)).2) (j:Int)).2).2).1))=some e/\lm (ps.map (bo AR)) ho mp
     exact⟨vN hbj ‹_› (by omega),hme⟩
   · show Int.toNat (_-_)<Int.toNat (_-_)
     omega
  refine ag rfl (df p9) (a7 ?_)
  clear bx35
  obtain⟨hq1,hq2,hq3,hq4,hq5,hq6,hq7⟩:=rp hbj ‹_› ‹_›
  refine a6 rfl (mz zs0 (mz zs1 (lx (aa iL rfl rfl rfl rfl) ?_)))
  replace bx30:=bx30.cn ch32
  refine lx (a8 ah rfl bx30 rfl) (lo (br (aH (vals:=[vp n_b 0,vi i,vi ((((gI ((gI AR.2 (((AR.1.idxOf (gI ps i)):Nat):Int)).2) (j:Int)).2).2).2)]) Tryz.func72 q9 qb rfl) (ap Tryz.func72 rfl nq ?_)))
  have C37:=cg [9] (ch24.n.seq ((ch29.l rfl).seq ch32.n))
  replace hps_v:=hps_v.ca C37
  replace hho_v:=hho_v.ca C37
  replace hnu_v:=hnu_v.ca C37
  replace hod_v:=hod_v.ca C37
  replace hle_v:=hle_v.ca C37
  refine a7 (a6 rfl (ai 0 (ab (a7 (a6 rfl (mv (vp n_b 0) (lw (vp n_b 0) (ae rfl) (lx (aa qD rfl rfl rfl rfl) ?_))))))))
  replace hn_b:=hn_b.ca C37
  refine lx (a8 oV rfl hn_b rfl) (mi ((((gI ((gI AR.2 (((AR.1.idxOf (gI ps i)):Nat):Int)).2) (j:Int)).2).2).2) (lx (ad (v:=ho_v) (i:=(((gI ((gI AR.2 (((AR.1.idxOf (gI ps i)):Nat):Int)).2) (j:Int)).2).2).2) gf rfl rfl hho_v.sl rfl (by omega) (by omega)) ?_))
  obtain⟨v38,cel39,r40⟩:=dv (r:=(((gI ((gI AR.2 (((AR.1.idxOf (gI ps i)):Nat):Int)).2) (j:Int)).2).2).2) hho_v (by omega) (by omega)
  refine lx (cH fq rfl cel39) (ma v38 (ab (a7 (cG g34 rfl kO (by kernel_rfl) ?_))))
  intro w42 ch41
  refine qm v38 ?_
  replace r40:=r40.cn ch41
  refine qx (λw' hw'=>ad (v:=v38) (i:=0) bF rfl rfl (r40.row_sl.bel hw') rfl (by omega) (by omega)) (qx (λw' hw'=>av (v:=v38) (i:=0) ah rfl (r40.row_sl.bel hw') (by omega) (by omega) (by decide) rfl) (qm v38 (qx (λw' hw'=>ad (v:=v38) (i:=1) bF rfl rfl (r40.row_sl.bel hw') rfl (by omega) (by omega)) (qx (λw' hw'=>av (v:=v38) (i:=1) ah rfl (r40.row_sl.bel hw') (by omega) (by omega) (by decide) rfl) (qx (λw' hw'=>aS (m:=(gI (gI ho ((((gI ((gI AR.2 (((AR.1.idxOf (gI ps i)):Nat):Int)).2) (j:Int)).2).2).2)) 0)) (n:=(gI (gI ho ((((gI ((gI AR.2 (((AR.1.idxOf (gI ps i)):Nat):Int)).2) (j:Int)).2).2).2)) 1)) rfl rfl (by omega)) (qm (vi i) ?_))))))
  refine qx (λw' hw'=>ej (m:=(gI (gI ho ((((gI ((gI AR.2 (((AR.1.idxOf (gI ps i)):Nat):Int)).2) (j:Int)).2).2).2)) 0)+(gI (gI ho ((((gI ((gI AR.2 (((AR.1.idxOf (gI ps i)):Nat):Int)).2) (j:Int)).2).2).2)) 1)) (n:=i) rfl rfl (by omega)) (qv (vi (((gI (gI ho ((((gI ((gI AR.2 (((AR.1.idxOf (gI ps i)):Nat):Int)).2) (j:Int)).2).2).2)) 0)+(gI (gI ho ((((gI ((gI AR.2 (((AR.1.idxOf (gI ps i)):Nat):Int)).2) (j:Int)).2).2).2)) 1))-i)) (λw' hw'=>bm rfl) (ep ?_))
  intro w43 hc44
  replace hc44:=aN hc44 g34
  refine au (vs:=[vi (((gI (gI ho ((((gI ((gI AR.2 (((AR.1.idxOf (gI ps i)):Nat):Int)).2) (j:Int)).2).2).2)) 0)+(gI (gI ho ((((gI ((gI AR.2 (((AR.1.idxOf (gI ps i)):Nat):Int)).2) (j:Int)).2).2).2)) 1))-i)]) Tryz.func72 (.tmp rfl .nil) ?_
  refine⟨vi (((gI (gI ho ((((gI ((gI AR.2 (((AR.1.idxOf (gI ps i)):Nat):Int)).2) (j:Int)).2).2).2)) 0)+(gI (gI ho ((((gI ((gI AR.2 (((AR.1.idxOf (gI ps i)):Nat):Int)).2) (j:Int)).2).2).2)) 1))-i),rfl,?_⟩
  refine ai (((gI (gI ho ((((gI ((gI AR.2 (((AR.1.idxOf (gI ps i)):Nat):Int)).2) (j:Int)).2).2).2)) 0)+(gI (gI ho ((((gI ((gI AR.2 (((AR.1.idxOf (gI ps i)):Nat):Int)).2) (j:Int)).2).2).2)) 1))-i) (ab (a7 ?_))
  clear bx30 cel39 r40
  refine a6 rfl (mi (((gI (gI ho ((((gI ((gI AR.2 (((AR.1.idxOf (gI ps i)):Nat):Int)).2) (j:Int)).2).2).2)) 0)+(gI (gI ho ((((gI ((gI AR.2 (((AR.1.idxOf (gI ps i)):Nat):Int)).2) (j:Int)).2).2).2)) 1))-i) (mz zs2 (lx (dq (m:=((gI (gI ho ((((gI ((gI AR.2 (((AR.1.idxOf (gI ps i)):Nat):Int)).2) (j:Int)).2).2).2)) 0)+(gI (gI ho ((((gI ((gI AR.2 (((AR.1.idxOf (gI ps i)):Nat):Int)).2) (j:Int)).2).2).2)) 1))-i) (n:=fr) rfl rfl) (ab ?_))))
  by_cases p12:(((gI (gI ho ((((gI ((gI AR.2 (((AR.1.idxOf (gI ps i)):Nat):Int)).2) (j:Int)).2).2).2)) 0)+(gI (gI ho ((((gI ((gI AR.2 (((AR.1.idxOf (gI ps i)):Nat):Int)).2) (j:Int)).2).2).2)) 1))-i)=fr
  ·
   refine ag rfl (congrArg Bool.not (dt p12)) (ao (ak (a6 rfl (lx (aS (m:=↑j) (n:=1) zs39 rfl (by omega)) (mi ((j:Int)+1) (ab ?_))))))
   have C45:=cg [9] (ch24.n.seq ((ch29.l rfl).seq (ch32.n.seq (ch41.n.seq hc44.n))))
   refine back7 (out,j+1,mp,g34) _ _ ⟨bH.chgN C45 (gS rfl),zs0,zs1,zs2,zs7,zs10,zs37,zs38,rfl,(hps_v.cn ch41).cn hc44,(hho_v.cn ch41).cn hc44,(hnu_v.cn ch41).cn hc44,(hod_v.cn ch41).cn hc44,(hle_v.cn ch41).cn hc44,(hn_b.cn ch41).cn hc44,ar_A.ca C45,bx8.ca C45,o18.ca C45,by omega,?_⟩ ?_
   · show gh (fB (ps.map (bo AR)) ho f0) ho i fr ((gI AR.2 ((AR.1.idxOf (gI ps i):Nat):Int)).2.drop (j+1)) out=some e/\lm (ps.map (bo AR)) ho mp
     exact⟨uq hbj ‹_› (by omega) ‹_›,hme⟩
   · show Int.toNat (_-_)<Int.toNat (_-_)
     omega
  refine af rfl (congrArg Bool.not (df p12)) ?_
  obtain⟨e2,he2,hbj2⟩:=yy hbj ‹_› ‹_› ‹_›
  refine a6 rfl (mz zs10 (mz zs0 (mi (((gI (gI ho ((((gI ((gI AR.2 (((AR.1.idxOf (gI ps i)):Nat):Int)).2) (j:Int)).2).2).2)) 0)+(gI (gI ho ((((gI ((gI AR.2 (((AR.1.idxOf (gI ps i)):Nat):Int)).2) (j:Int)).2).2).2)) 1))-i) (mz zs1 (lo ?_)))))
  replace hps_v:=(hps_v.cn ch41).cn hc44
  replace hho_v:=(hho_v.cn ch41).cn hc44
  replace hnu_v:=(hnu_v.cn ch41).cn hc44
  replace hod_v:=(hod_v.cn ch41).cn hc44
  replace hle_v:=(hle_v.cn ch41).cn hc44
  replace hn_b:=(hn_b.cn ch41).cn hc44
  have C46:=cg [9] (ch24.n.seq ((ch29.l rfl).seq (ch32.n.seq (ch41.n.seq hc44.n))))
  replace ar_A:=ar_A.ca C46
  refine bE (aH (vals:=[vp n_b 0,vi (((gI (gI ho ((((gI ((gI AR.2 (((AR.1.idxOf (gI ps i)):Nat):Int)).2) (j:Int)).2).2).2)) 0)+(gI (gI ho ((((gI ((gI AR.2 (((AR.1.idxOf (gI ps i)):Nat):Int)).2) (j:Int)).2).2).2)) 1))-i),vi i]) Tryz.func76 mj mI rfl) (ih f0 (by omega) w43 g34 n_b ps_v ps hps_v ho_v ho hho_v nu_v nu hnu_v od_v od hod_v le_v mp hle_v hn_b AR ar_A (((gI (gI ho ((((gI ((gI AR.2 (((AR.1.idxOf (gI ps i)):Nat):Int)).2) (j:Int)).2).2).2)) 0)+(gI (gI ho ((((gI ((gI AR.2 (((AR.1.idxOf (gI ps i)):Nat):Int)).2) (j:Int)).2).2).2)) 1))-i) i e2 (by exact hin) (by exact hpl) (by exact hme) (by exact he2)) ?_
  rintro⟨g48,mp3⟩ w47 ⟨ch49,o51,hq50⟩
  clear hle_v
  refine lw (vi (min out e2)) (jj rfl rfl) (ai (min out e2) (ab (ak (a6 rfl (lx (aS (m:=↑j) (n:=1) zs39 rfl (by omega)) (mi ((j:Int)+1) (ab ?_)))))))
  have C52:=cg [5,9] (ch24.n.seq ((ch29.l rfl).seq (ch32.n.seq (ch41.n.seq (hc44.n.seq (ch49.ll rfl))))))
  refine back7 (min out e2,j+1,mp3,g48) _ _ ⟨bH.chgN C52 (gS rfl),zs0,zs1,zs2,zs7,rfl,zs37,zs38,rfl,hps_v.ca ch49,hho_v.ca ch49,hnu_v.ca ch49,hod_v.ca ch49,o51,hn_b.ca ch49,ar_A.ca ch49,bx8.ca C52,o18.ca C52,by omega,?_⟩ ?_
  · show gh (fB (ps.map (bo AR)) ho f0) ho i fr ((gI AR.2 ((AR.1.idxOf (gI ps i):Nat):Int)).2.drop (j+1)) (min out e2)=some e/\lm (ps.map (bo AR)) ho mp3
    exact⟨hbj2,by assumption⟩
  · show Int.toNat (_-_)<Int.toNat (_-_)
    omega
 refine ag rfl (df p7) (aO rfl (a7 ?_))
 clear o18
 refine bq g22 [0,1,2,3,4,5] kO ?_
 intro w54 ch53
 refine xp (v:=vp n_b 0) 0 rfl (λw=>aq zs0) (xp (v:=vp n_b 0) 1 rfl (λw=>ae rfl) (xp 2 rfl (λw=>aa qD rfl rfl rfl rfl) ?_))
 replace hn_b:=hn_b.cn ch53
 refine xv 3 [2,1,0,4,5] rfl (a8 qe rfl hn_b rfl) ?_
 replace bx8:=bx8.cn ch53
 refine xv 4 [3,2,1,0,5] rfl (ay (ds:=[vi i,vi fr]) bx zs7 bx8 rfl rfl) (xp (v:=vi out) 5 rfl (λw=>aq zs10) (b9 6 rfl (by kernel_rfl) rfl ?_))
 replace hle_v:=hle_v.cn ch53
 refine eP (m:=out) (i,fr) nh (ci eO U3 ah) rfl hle_v rfl rfl rfl ?_
 intro w55 ch56 m57
 clear hle_v
 refine bS (by kernel_rfl) (a7 ?_)
 clear bx8
 refine a6 rfl (mz zs10 (ai out (ab (au (vs:=[vi out]) Tryz.func76 (.tmp rfl .nil) ?_))))
 replace bH:=bH.chgN ch53 se
 replace bH:=bH.chgN ch56 (B2 rfl)
 have e0:(out:Int)=(e):=by
   exact ss hbj ‹_›
 subst hγr
 obtain⟨γf,hcN,hcF⟩:=bH.fin (Lc:=[5]) rfl rfl rfl
 have hinvN:lm (ps.map (bo AR)) ho ((λq=>if q=(i,fr) then out else mp.1 q),zP (i,fr) mp.2):=by
   (have heo:=ss hbj ‹_›;rw[heo];exact hme.put hb)
 exact⟨(γf,((λq=>if q=(i,fr) then out else mp.1 q),zP (i,fr) mp.2)),(congrArg (a₁:=out) (λ(z0:Int)=>Ending.returned (vi z0)) e0),hcN,m57.chg hcF (dh rfl),hinvN⟩
end TL
