import Derived.Test.YtfpckpgnnplhnaaGreatSwTlGenA
import Derived.Test.YtfpckpgnnplhnaaGreatSwTlAli
set_option linter.all false
set_option maxRecDepth 20000
namespace TL
open Go Go.Proofs
theorem m0:Tryz.prog.follows .mixedOrders=true:=by kernel_rfl
theorem fz:Tp Tryz.prog 38 false 1 24 (.slice none 0 0):=Tp.of (by kernel_rfl)
theorem qH:Tp Tryz.prog 64 false 1 24 (.slice none 0 0):=Tp.of (by kernel_rfl)
theorem lf:Tp Tryz.prog 73 false 1 8 (.pointer none):=Tp.of (by kernel_rfl)
theorem iG:Tp Tryz.prog 74 false 1 24 (.slice none 0 0):=Tp.of (by kernel_rfl)
theorem dZ:Tp Tryz.prog 78 true 4 32 (.agg #[.int .i64 0,.int .i64 0,.int .i64 0,.int .i64 0]):=Tp.of (by kernel_rfl)
theorem qY:Tp Tryz.prog 85 false 1 24 (.slice none 0 0):=Tp.of (by kernel_rfl)
theorem rx:Tp Tryz.prog 87 false 1 8 (.map none):=Tp.of (by kernel_rfl)
theorem mV:Tryz.f51.body.isNone=false:=rfl
theorem nV:(Tryz.f51.name== "runtime.NumGoroutine")=false:=by decide+kernel
theorem rG:Tryz.f72.body.isNone=false:=rfl
theorem ry:(Tryz.f72.name== "runtime.NumGoroutine")=false:=by decide+kernel
theorem ns:Tryz.f76.body.isNone=false:=rfl
theorem nh:(Tryz.f76.name== "runtime.NumGoroutine")=false:=by decide+kernel
theorem oN:∀(fu:Nat) (w0:World) (γ0:ax) (n_b:Nat) (ps_v:Value) (ps:List Pp) (hps_v:Sl γ0 (is 0) w0 ps_v ps) (ho_v:Value) (ho:j7) (hho_v:dr γ0 2 w0 ho_v ho) (nu_v:Value) (nu:List Int) (hnu_v:Ow γ0 (is 3) (is 3) w0 nu_v nu) (od_v:Value) (od:List Int) (hod_v:Ow γ0 (is 4) (is 4) w0 od_v od) (le_v:Value) (le:(Pt->Int)×List Pt) (hle_v:Md γ0 (is 5) w0 le_v le.1 le.2) (hn_b:Bx γ0 (is 7) w0 n_b [ps_v,ho_v,nu_v,od_v,le_v]) (AR:List Pp×List (ch Bd)) (ar_A:gC γ0 w0 AR.1 AR.2) (i:Int) (fr:Int) (e:Int) (hin:∀u∈ps,u∈AR.1) (hpl:(ps.length:Int)<=100001) (hm:mu (ps.map (bt AR)) ho le) (hb:fP (ps.map (bt AR)) ho fu i fr=some e),
    Calls Tryz.prog 76 #[vp n_b 0,vi i,vi fr] w0 (λee w=>∃xx:ax×((Pt->Int)×List Pt),ee= .returned ((λ(⟨γ1,le1⟩:ax×((Pt->Int)×List Pt))=>vi e) xx)/\(λ(⟨γ1,le1⟩:ax×((Pt->Int)×List Pt)) (w:World)=>bg (inl [5]) γ0 w0 γ1 w/\Md γ1 (is 5) w le_v le1.1 le1.2/\(mu (ps.map (bt AR)) ho le1)) xx w):=by
 intro fu
 induction fu using Nat.strongRecOn
 rename_i fu ih
 intro w0 γ0 n_b ps_v ps hps_v ho_v ho hho_v nu_v nu hnu_v od_v od hod_v le_v le hle_v hn_b AR ar_A i fr e hin hpl hm hb
 obtain⟨γr,hγr,hch0⟩:∃γr,γr=oe [0,2,3,4,5,7] γ0/\bg (DC [0,2,3,4,5,7]) γ0 w0 γr w0:=⟨_,rfl,qR _ _ _⟩
 replace hps_v:=hps_v.chg hch0 (dq rfl)
 replace hho_v:=hho_v.chg hch0 (dq rfl)
 replace hnu_v:=hnu_v.chg hch0 (dq rfl) (dq rfl)
 replace hod_v:=hod_v.chg hch0 (dq rfl) (dq rfl)
 replace hle_v:=hle_v.chg hch0 (dq rfl)
 replace hn_b:=hn_b.chg hch0 (dq rfl)
 replace ar_A:=ar_A.chg hch0 (dq rfl)
 refine ah Tryz.func76 rfl nq ?_
 have bH:qk [0,2,3,4,7] γr w0 γr w0:=qk.start
 obtain⟨f0,rfl,⟨hi0,hi1⟩,hbl⟩:=Di hb
 have hVl:(ps.map (bt AR)).length=ps.length:=List.length_map ..
 rw[hVl] at hi1
 have hvi:gI (ps.map (bt AR)) i=(gI AR.2 ((AR.1.idxOf (gI ps i):Nat):Int)):=jf hi0 hi1
 rw[hvi] at hbl
 refine a7 (a6 rfl (ai 0 (ab (a7 (a6 rfl (mi i (mi fr (lw (vg [vi i,vi fr]) (bn (vs:=[(0,vi i),(1,vi fr)]) rfl (by kernel_rfl)) (lo (aZ γr (is 8) (8,0) rfl bm ?_))))))))))
 intro g4 w1 b3 ch2 bx5
 refine lo (aA (cs':=[vi i,vi fr]) bm rfl rfl bx5 rfl nq (AllOne.all (.cons rfl (.cons rfl .nil))) rfl ?_)
 intro w6 ch7 bx8
 refine ab (a7 (a7 (dy g4 rfl m0 (by kernel_rfl) ?_)))
 intro w10 ch9
 refine qm (vp n_b 0) (qv (vp n_b 0) (λw' hw'=>ae rfl) (qx (λw' hw'=>aa sa rfl rfl rfl rfl) ?_))
 refine qx (λw' hw'=>a8 rx rfl (hn_b.t.bel hw') rfl) ?_
 refine qx (λw' hw'=>av (ds:=[vi i,vi fr]) bm rfl (bx8.t.bel hw') rfl rfl) ?_
 refine qv (vt [vi (le.1 (i,fr)),vb (uM (i,fr) le.2)]) (λw' hw'=>i8 (i,fr) oR (cq eS U3 aD) aD rfl (hle_v.t.bel hw') rfl rfl) (qm (vt [vi (le.1 (i,fr)),vb (uM (i,fr) le.2)]) (qx (λw' hw'=>ay rfl rfl) (qx (λw' hw'=>ay rfl rfl) (qv (vi (le.1 (i,fr))) (λw' hw'=>bK rfl) (qv (vb (uM (i,fr) le.2)) (λw' hw'=>bK rfl) (gf ?_))))))
 intro w12 hc13
 replace hc13:=aG hc13 g4
 refine a7 (a6 rfl (mv (vb (uM (i,fr) le.2)) (ab ?_)))
 by_cases p3:(i,fr)∈le.2
 ·
  refine ag rfl (DG p3) (a7 ?_)
  refine a6 rfl (mi (le.1 (i,fr)) (ai (le.1 (i,fr)) (ab (az (vs:=[vi (le.1 (i,fr))]) Tryz.func76 (.tmp rfl .nil) ?_))))
  have C14:=cg [8] (ch2.o (ch7.s (ch9.o hc13.n)))
  replace bH:=bH.chgN C14 (ir rfl)
  have e0:(le.1 (i,fr):Int)=(e):=by
    exact hm.known ‹_› hb
  subst hγr
  obtain⟨γf,hcN,hcF⟩:=bH.fin (Lc:=[5]) rfl rfl rfl
  have hinvN:mu (ps.map (bt AR)) ho le:=by
    assumption
  exact⟨(γf,le),(congrArg (a₁:=le.1 (i,fr)) (λ(z0:Int)=>Ending.returned (vi z0)) e0),hcN,hle_v.t.chg hcF (dq rfl),hinvN⟩
 refine af rfl (DA p3) (am (a7 (a6 rfl (ai 3072 (ab (a7 (a7 (a6 rfl (mv (vp n_b 0) (lw (vp n_b 0) (ae rfl) (lx (aa sa rfl rfl rfl rfl) ?_)))))))))))
 refine lx (a8 qH rfl hn_b.t rfl) (mi i ?_)
 have C15:=cg [8] (ch2.o (ch7.s (ch9.o hc13.n)))
 refine lx (ad (v:=ps_v) (i:=i) jH rfl rfl hps_v.t rfl (by omega) (by omega)) (lx (aw (v:=ps_v) (i:=i) lf rfl hps_v.t (by omega) (by omega) (by decide) rfl) (lw (Value.pointer (some ⟨(gI ps i).n,0,none⟩)) (ae rfl) (lx (aa dV rfl rfl rfl rfl) ?_)))
 obtain⟨v16,bx17,o18⟩:=gC.gt (u:=(gI ps i)) (ar_A.a hc13) (j:=(AR.1.idxOf (gI ps i))) (by exact fB (hin _ (bz (by omega) (by omega))))
 refine lx (a8 iG rfl bx17 rfl) ?_
 have len19:=(o18).small
 refine lx (bG cM rfl o18) (mi 0 (ab (aj ?_)))
 refine aR (σ:=Int×Nat×((Pt->Int)×List Pt)×ax) (λ⟨out,j,mp,gq⟩ f w=>qk [0,2,3,4,7] γr w0 gq w/\f 0=vp n_b 0/\f 1=vi i/\f 2=vi fr/\f 7=vp b3 0/\f 10=vi out/\f 37=v16/\f 38=vi (List.length ((gI AR.2 (((AR.1.idxOf (gI ps i)):Nat):Int)).2):Int)/\f 39=vi ↑j/\Sl gq (is 0) w ps_v ps/\dr gq 2 w ho_v ho/\Ow gq (is 3) (is 3) w nu_v nu/\Ow gq (is 4) (is 4) w od_v od/\Md gq (is 5) w le_v mp.1 mp.2/\Bx gq (is 7) w n_b [ps_v,ho_v,nu_v,od_v,le_v]/\gC gq w AR.1 AR.2/\Bx gq (is 8) w b3 [vi i,vi fr]/\Sl gq (is 0) w v16 ((gI AR.2 (((AR.1.idxOf (gI ps i)):Nat):Int)).2)/\(j:Int)<=((List.length ((gI AR.2 (((AR.1.idxOf (gI ps i)):Nat):Int)).2):Int):Int)/\(gH (fP (ps.map (bt AR)) ho f0) ho i fr ((gI AR.2 ((AR.1.idxOf (gI ps i):Nat):Int)).2.drop j) out=some e/\mu (ps.map (bt AR)) ho mp)) (λ⟨out,j,mp,gq⟩=>Int.toNat (((List.length ((gI AR.2 (((AR.1.idxOf (gI ps i)):Nat):Int)).2):Int):Int)-(j:Int))) (3072,0,le,g4) ?_ ?_
 · exact⟨bH.chgN C15 (ir rfl),rfl,rfl,rfl,rfl,rfl,rfl,rfl,rfl,hps_v.t,hho_v.t,hnu_v.t,hod_v.t,hle_v.t,hn_b.t,ar_A.t,bx8.t,o18,by omega,by exact⟨hbl,hm⟩⟩
 rintro⟨out,j,mp,g22⟩ f20 w21 ⟨bH,zs0,zs1,zs2,zs7,zs10,zs37,zs38,zs39,hps_v,hho_v,hnu_v,hod_v,hle_v,hn_b,ar_A,bx8,o18,hle_j,hjj⟩ back7
 obtain⟨hbj,hme⟩:=hjj
 refine a7 (a6 rfl (lx (br (m:=↑j) (n:=(List.length ((gI AR.2 (((AR.1.idxOf (gI ps i)):Nat):Int)).2):Int)) zs39 zs38) (ab (a7 ?_))))
 by_cases p7:(j:Int)<(List.length ((gI AR.2 (((AR.1.idxOf (gI ps i)):Nat):Int)).2):Int)
 ·
  refine ag rfl (dt p7) (am (a7 (aj (a7 (a6 rfl (lx (ad (v:=v16) (i:=↑j) cM rfl zs37 o18 zs39 (by omega) (by omega)) (lw (vg [vi ((gI ((gI AR.2 (((AR.1.idxOf (gI ps i)):Nat):Int)).2) (j:Int)).1),vi (((gI ((gI AR.2 (((AR.1.idxOf (gI ps i)):Nat):Int)).2) (j:Int)).2).1),vi ((((gI ((gI AR.2 (((AR.1.idxOf (gI ps i)):Nat):Int)).2) (j:Int)).2).2).1),vi ((((gI ((gI AR.2 (((AR.1.idxOf (gI ps i)):Nat):Int)).2) (j:Int)).2).2).2)]) (bW (v:=v16) (i:=↑j) dZ rfl o18 (by omega) (by omega) rfl) (lo (aZ g22 (is 9) (9,0) rfl dZ ?_)))))))))
  intro g26 w23 b25 ch24 bx27
  refine lo (aA (cs':=[vi ((gI ((gI AR.2 (((AR.1.idxOf (gI ps i)):Nat):Int)).2) (j:Int)).1),vi (((gI ((gI AR.2 (((AR.1.idxOf (gI ps i)):Nat):Int)).2) (j:Int)).2).1),vi ((((gI ((gI AR.2 (((AR.1.idxOf (gI ps i)):Nat):Int)).2) (j:Int)).2).2).1),vi ((((gI ((gI AR.2 (((AR.1.idxOf (gI ps i)):Nat):Int)).2) (j:Int)).2).2).2)]) dZ rfl rfl bx27 rfl nq (AllOne.all (.cons rfl (.cons rfl (.cons rfl (.cons rfl .nil))))) rfl ?_)
  intro w28 ch29 bx30
  refine ab (a7 (a6 rfl (lx (av (ds:=[vi ((gI ((gI AR.2 (((AR.1.idxOf (gI ps i)):Nat):Int)).2) (j:Int)).1),vi (((gI ((gI AR.2 (((AR.1.idxOf (gI ps i)):Nat):Int)).2) (j:Int)).2).1),vi ((((gI ((gI AR.2 (((AR.1.idxOf (gI ps i)):Nat):Int)).2) (j:Int)).2).2).1),vi ((((gI ((gI AR.2 (((AR.1.idxOf (gI ps i)):Nat):Int)).2) (j:Int)).2).2).2)]) dZ rfl bx30 rfl rfl) (lo ?_))))
  refine aV (aB (vals:=[vg [vi ((gI ((gI AR.2 (((AR.1.idxOf (gI ps i)):Nat):Int)).2) (j:Int)).1),vi (((gI ((gI AR.2 (((AR.1.idxOf (gI ps i)):Nat):Int)).2) (j:Int)).2).1),vi ((((gI ((gI AR.2 (((AR.1.idxOf (gI ps i)):Nat):Int)).2) (j:Int)).2).2).1),vi ((((gI ((gI AR.2 (((AR.1.idxOf (gI ps i)):Nat):Int)).2) (j:Int)).2).2).2)]]) Tryz.func51 mV nV rfl) (ah Tryz.func51 rfl nq (a7 (a6 rfl (cy rfl (bU g26 (is 10) (10,0) rfl rfl ?_)))))
  intro g34 w31 b33 ch32 bx35
  refine ma (vb false) (ab (a7 (a6 rfl (lx (aa jg rfl rfl rfl rfl) (lx (a8 aD rfl bx35 rfl) (lx (eL (m:=(((gI ((gI AR.2 (((AR.1.idxOf (gI ps i)):Nat):Int)).2) (j:Int)).2).2).1) (n:=0) rfl rfl) (ma (vb (decide (0<=((((gI ((gI AR.2 (((AR.1.idxOf (gI ps i)):Nat):Int)).2) (j:Int)).2).2).1)))) (ab (az (vs:=[vb (decide (0<=((((gI ((gI AR.2 (((AR.1.idxOf (gI ps i)):Nat):Int)).2) (j:Int)).2).2).1)))]) Tryz.func51 (.tmp rfl .nil) ?_)))))))))
  refine⟨vb (decide (0<=((((gI ((gI AR.2 (((AR.1.idxOf (gI ps i)):Nat):Int)).2) (j:Int)).2).2).1))),rfl,?_⟩
  refine ab ?_
  by_cases p9:0<=((((gI ((gI AR.2 (((AR.1.idxOf (gI ps i)):Nat):Int)).2) (j:Int)).2).2).1)
  ·
   refine ag rfl (dt p9) ?_
   refine a6 rfl (mz zs10 (lx (aa jg rfl rfl rfl rfl) ?_))
   refine lx (a8 aD rfl bx30.t rfl) (lw (vi (min out ((((gI ((gI AR.2 (((AR.1.idxOf (gI ps i)):Nat):Int)).2) (j:Int)).2).2).1))) (io rfl rfl) (ai (min out ((((gI ((gI AR.2 (((AR.1.idxOf (gI ps i)):Nat):Int)).2) (j:Int)).2).2).1)) (ab (ak ?_))))
   refine a6 rfl (lx (aJ (m:=↑j) (n:=1) zs39 rfl (by omega)) (mi ((j:Int)+1) (ab ?_)))
   have C36:=cg [9] (ch24.o (ch29.s ch32.n))
   refine back7 (min out ((((gI ((gI AR.2 (((AR.1.idxOf (gI ps i)):Nat):Int)).2) (j:Int)).2).2).1),j+1,mp,g34) _ _ ⟨bH.chgN C36 (ir rfl),zs0,zs1,zs2,zs7,rfl,zs37,zs38,rfl,hps_v.t,hho_v.t,hnu_v.t,hod_v.t,hle_v.t,hn_b.t,ar_A.t,bx8.t,o18.t,by omega,?_⟩ ?_
   · show gH (fP (ps.map (bt AR)) ho f0) ho i fr ((gI AR.2 ((AR.1.idxOf (gI ps i):Nat):Int)).2.drop (j+1)) (min out ((((gI ((gI AR.2 (((AR.1.idxOf (gI ps i)):Nat):Int)).2) (j:Int)).2).2).1))=some e/\mu (ps.map (bt AR)) ho mp
     exact⟨xZ hbj ‹_› (by omega),hme⟩
   · show Int.toNat (_-_)<Int.toNat (_-_)
     omega
  refine af rfl (df p9) (a7 ?_)
  obtain⟨hq1,hq2,hq3,hq4,hq5,hq6,hq7⟩:=ta hbj ‹_› ‹_›
  refine a6 rfl (mz zs0 (mz zs1 (lx (aa jg rfl rfl rfl rfl) ?_)))
  refine lx (a8 aD rfl bx30.t rfl) (lo (aV (aB (vals:=[vp n_b 0,vi i,vi ((((gI ((gI AR.2 (((AR.1.idxOf (gI ps i)):Nat):Int)).2) (j:Int)).2).2).2)]) Tryz.func72 rG ry rfl) (ah Tryz.func72 rfl nq ?_)))
  refine a7 (a6 rfl (ai 0 (ab (a7 (a6 rfl (mv (vp n_b 0) (lw (vp n_b 0) (ae rfl) (lx (aa sa rfl rfl rfl rfl) ?_))))))))
  refine lx (a8 qY rfl hn_b.t rfl) (mi ((((gI ((gI AR.2 (((AR.1.idxOf (gI ps i)):Nat):Int)).2) (j:Int)).2).2).2) (lx (ad (v:=ho_v) (i:=(((gI ((gI AR.2 (((AR.1.idxOf (gI ps i)):Nat):Int)).2) (j:Int)).2).2).2) fh rfl rfl hho_v.t.sl rfl (by omega) (by omega)) ?_))
  obtain⟨v38,cel39,r40⟩:=cG (r:=(((gI ((gI AR.2 (((AR.1.idxOf (gI ps i)):Nat):Int)).2) (j:Int)).2).2).2) (hho_v.a ch32) (by omega) (by omega)
  refine lx (cv fz rfl cel39) (ma v38 (ab (a7 (dy g34 rfl m0 (by kernel_rfl) ?_))))
  intro w42 ch41
  refine qm v38 ?_
  refine qx (λw' hw'=>ad (v:=v38) (i:=0) bF rfl rfl (r40.t.row_sl.bel hw') rfl (by omega) (by omega)) (qx (λw' hw'=>aw (v:=v38) (i:=0) aD rfl (r40.t.row_sl.bel hw') (by omega) (by omega) (by decide) rfl) (qm v38 (qx (λw' hw'=>ad (v:=v38) (i:=1) bF rfl rfl (r40.t.row_sl.bel hw') rfl (by omega) (by omega)) (qx (λw' hw'=>aw (v:=v38) (i:=1) aD rfl (r40.t.row_sl.bel hw') (by omega) (by omega) (by decide) rfl) (qx (λw' hw'=>aJ (m:=(gI (gI ho ((((gI ((gI AR.2 (((AR.1.idxOf (gI ps i)):Nat):Int)).2) (j:Int)).2).2).2)) 0)) (n:=(gI (gI ho ((((gI ((gI AR.2 (((AR.1.idxOf (gI ps i)):Nat):Int)).2) (j:Int)).2).2).2)) 1)) rfl rfl (by omega)) (qm (vi i) ?_))))))
  refine qx (λw' hw'=>da (m:=(gI (gI ho ((((gI ((gI AR.2 (((AR.1.idxOf (gI ps i)):Nat):Int)).2) (j:Int)).2).2).2)) 0)+(gI (gI ho ((((gI ((gI AR.2 (((AR.1.idxOf (gI ps i)):Nat):Int)).2) (j:Int)).2).2).2)) 1)) (n:=i) rfl rfl (by omega)) (qv (vi (((gI (gI ho ((((gI ((gI AR.2 (((AR.1.idxOf (gI ps i)):Nat):Int)).2) (j:Int)).2).2).2)) 0)+(gI (gI ho ((((gI ((gI AR.2 (((AR.1.idxOf (gI ps i)):Nat):Int)).2) (j:Int)).2).2).2)) 1))-i)) (λw' hw'=>bK rfl) (gf ?_))
  intro w43 hc44
  replace hc44:=aG hc44 g34
  refine az (vs:=[vi (((gI (gI ho ((((gI ((gI AR.2 (((AR.1.idxOf (gI ps i)):Nat):Int)).2) (j:Int)).2).2).2)) 0)+(gI (gI ho ((((gI ((gI AR.2 (((AR.1.idxOf (gI ps i)):Nat):Int)).2) (j:Int)).2).2).2)) 1))-i)]) Tryz.func72 (.tmp rfl .nil) ?_
  refine⟨vi (((gI (gI ho ((((gI ((gI AR.2 (((AR.1.idxOf (gI ps i)):Nat):Int)).2) (j:Int)).2).2).2)) 0)+(gI (gI ho ((((gI ((gI AR.2 (((AR.1.idxOf (gI ps i)):Nat):Int)).2) (j:Int)).2).2).2)) 1))-i),rfl,?_⟩
  refine ai (((gI (gI ho ((((gI ((gI AR.2 (((AR.1.idxOf (gI ps i)):Nat):Int)).2) (j:Int)).2).2).2)) 0)+(gI (gI ho ((((gI ((gI AR.2 (((AR.1.idxOf (gI ps i)):Nat):Int)).2) (j:Int)).2).2).2)) 1))-i) (ab (a7 ?_))
  refine a6 rfl (mi (((gI (gI ho ((((gI ((gI AR.2 (((AR.1.idxOf (gI ps i)):Nat):Int)).2) (j:Int)).2).2).2)) 0)+(gI (gI ho ((((gI ((gI AR.2 (((AR.1.idxOf (gI ps i)):Nat):Int)).2) (j:Int)).2).2).2)) 1))-i) (mz zs2 (lx (du (m:=((gI (gI ho ((((gI ((gI AR.2 (((AR.1.idxOf (gI ps i)):Nat):Int)).2) (j:Int)).2).2).2)) 0)+(gI (gI ho ((((gI ((gI AR.2 (((AR.1.idxOf (gI ps i)):Nat):Int)).2) (j:Int)).2).2).2)) 1))-i) (n:=fr) rfl rfl) (ab ?_))))
  by_cases p12:(((gI (gI ho ((((gI ((gI AR.2 (((AR.1.idxOf (gI ps i)):Nat):Int)).2) (j:Int)).2).2).2)) 0)+(gI (gI ho ((((gI ((gI AR.2 (((AR.1.idxOf (gI ps i)):Nat):Int)).2) (j:Int)).2).2).2)) 1))-i)=fr
  ·
   refine af rfl (congrArg Bool.not (dt p12)) (am (ak (a6 rfl (lx (aJ (m:=↑j) (n:=1) zs39 rfl (by omega)) (mi ((j:Int)+1) (ab ?_))))))
   have C45:=cg [9] (ch24.o (ch29.s (ch32.o (ch41.o hc44.n))))
   refine back7 (out,j+1,mp,g34) _ _ ⟨bH.chgN C45 (ir rfl),zs0,zs1,zs2,zs7,zs10,zs37,zs38,rfl,hps_v.t,hho_v.t,hnu_v.t,hod_v.t,hle_v.t,hn_b.t,ar_A.t,bx8.t,o18.t,by omega,?_⟩ ?_
   · show gH (fP (ps.map (bt AR)) ho f0) ho i fr ((gI AR.2 ((AR.1.idxOf (gI ps i):Nat):Int)).2.drop (j+1)) out=some e/\mu (ps.map (bt AR)) ho mp
     exact⟨yq hbj ‹_› (by omega) ‹_›,hme⟩
   · show Int.toNat (_-_)<Int.toNat (_-_)
     omega
  refine ag rfl (congrArg Bool.not (df p12)) ?_
  obtain⟨e2,he2,hbj2⟩:=CG hbj ‹_› ‹_› ‹_›
  refine a6 rfl (mz zs10 (mz zs0 (mi (((gI (gI ho ((((gI ((gI AR.2 (((AR.1.idxOf (gI ps i)):Nat):Int)).2) (j:Int)).2).2).2)) 0)+(gI (gI ho ((((gI ((gI AR.2 (((AR.1.idxOf (gI ps i)):Nat):Int)).2) (j:Int)).2).2).2)) 1))-i) (mz zs1 (lo ?_)))))
  refine bB (aB (vals:=[vp n_b 0,vi (((gI (gI ho ((((gI ((gI AR.2 (((AR.1.idxOf (gI ps i)):Nat):Int)).2) (j:Int)).2).2).2)) 0)+(gI (gI ho ((((gI ((gI AR.2 (((AR.1.idxOf (gI ps i)):Nat):Int)).2) (j:Int)).2).2).2)) 1))-i),vi i]) Tryz.func76 ns nh rfl) (ih f0 (by omega) w43 g34 n_b ps_v ps hps_v.t ho_v ho hho_v.t nu_v nu hnu_v.t od_v od hod_v.t le_v mp hle_v.t hn_b.t AR ar_A.t (((gI (gI ho ((((gI ((gI AR.2 (((AR.1.idxOf (gI ps i)):Nat):Int)).2) (j:Int)).2).2).2)) 0)+(gI (gI ho ((((gI ((gI AR.2 (((AR.1.idxOf (gI ps i)):Nat):Int)).2) (j:Int)).2).2).2)) 1))-i) i e2 (by exact hin) (by exact hpl) (by exact hme) (by exact he2)) ?_
  rintro⟨g48,mp3⟩ w47 ⟨ch49,o51,hq50⟩
  refine lw (vi (min out e2)) (io rfl rfl) (ai (min out e2) (ab (ak (a6 rfl (lx (aJ (m:=↑j) (n:=1) zs39 rfl (by omega)) (mi ((j:Int)+1) (ab ?_)))))))
  have C52:=cg [5,9] (ch24.o (ch29.s (ch32.o (ch41.o (hc44.o (ch49.ll rfl))))))
  refine back7 (min out e2,j+1,mp3,g48) _ _ ⟨bH.chgN C52 (ir rfl),zs0,zs1,zs2,zs7,rfl,zs37,zs38,rfl,hps_v.t,hho_v.t,hnu_v.t,hod_v.t,o51,hn_b.t,ar_A.t,bx8.t,o18.t,by omega,?_⟩ ?_
  · show gH (fP (ps.map (bt AR)) ho f0) ho i fr ((gI AR.2 ((AR.1.idxOf (gI ps i):Nat):Int)).2.drop (j+1)) (min out e2)=some e/\mu (ps.map (bt AR)) ho mp3
    exact⟨hbj2,by assumption⟩
  · show Int.toNat (_-_)<Int.toNat (_-_)
    omega
 refine af rfl (df p7) (aF rfl (a7 ?_))
 refine bp g22 [0,1,2,3,4,5] m0 ?_
 intro w54 ch53
 refine xp (v:=vp n_b 0) 0 rfl (λw=>ar zs0) (xp (v:=vp n_b 0) 1 rfl (λw=>ae rfl) (xp 2 rfl (λw=>aa sa rfl rfl rfl rfl) ?_))
 refine xv 3 [2,1,0,4,5] rfl (a8 rx rfl hn_b.t rfl) ?_
 refine xv 4 [3,2,1,0,5] rfl (av (ds:=[vi i,vi fr]) bm zs7 bx8.t rfl rfl) (xp (v:=vi out) 5 rfl (λw=>ar zs10) (cE 6 rfl ?_))
 refine eQ (m:=out) (i,fr) oR (cq eS U3 aD) rfl hle_v.t rfl rfl rfl ?_
 intro w55 ch56 m57
 refine bV (by kernel_rfl) (a7 ?_)
 refine a6 rfl (mz zs10 (ai out (ab (az (vs:=[vi out]) Tryz.func76 (.tmp rfl .nil) ?_))))
 replace bH:=bH.chgN ch53 tT
 replace bH:=bH.chgN ch56 (Eu rfl)
 have e0:(out:Int)=(e):=by
   exact tA hbj ‹_›
 subst hγr
 obtain⟨γf,hcN,hcF⟩:=bH.fin (Lc:=[5]) rfl rfl rfl
 have hinvN:mu (ps.map (bt AR)) ho ((λq=>if q=(i,fr) then out else mp.1 q),Cy (i,fr) mp.2):=by
   (have heo:=tA hbj ‹_›;rw[heo];exact hme.put hb)
 exact⟨(γf,((λq=>if q=(i,fr) then out else mp.1 q),Cy (i,fr) mp.2)),(congrArg (a₁:=out) (λ(z0:Int)=>Ending.returned (vi z0)) e0),hcN,m57.chg hcF (dq rfl),hinvN⟩
end TL
