import Derived.Test.YtfpckpgnnplhnaaGreatSkTlSqE
import Derived.Test.YtfpckpgnnplhnaaGreatSkTlGenA
import Derived.Test.YtfpckpgnnplhnaaGreatSkTlGmA
import Derived.Test.YtfpckpgnnplhnaaGreatSkTlAli
set_option linter.all false
set_option maxRecDepth 20000
namespace TL
open Go Go.Proofs
theorem fH:Tryz.prog.follows .mixedOrders=true:=by kernel_rfl
theorem fk:Tp Tryz.prog 84 false 1 8 (.pointer none):=Tp.of (by kernel_rfl)
theorem qc:Tryz.f49.body.isNone=false:=rfl
theorem pD:(Tryz.f49.name== "runtime.NumGoroutine")=false:=by decide+kernel
theorem x5:Tryz.f73.body.isNone=false:=rfl
theorem xb:(Tryz.f73.name== "runtime.NumGoroutine")=false:=by decide+kernel
theorem vf:Tryz.f74.body.isNone=false:=rfl
theorem ul:(Tryz.f74.name== "runtime.NumGoroutine")=false:=by decide+kernel
theorem uY:Tryz.f75.body.isNone=false:=rfl
theorem wN:(Tryz.f75.name== "runtime.NumGoroutine")=false:=by decide+kernel
theorem wj:Tryz.f90.body.isNone=false:=rfl
theorem wh:(Tryz.f90.name== "runtime.NumGoroutine")=false:=by decide+kernel
theorem up:Tryz.f91.body.isNone=false:=rfl
theorem xc:(Tryz.f91.name== "runtime.NumGoroutine")=false:=by decide+kernel
theorem tC:Tryz.f103.body.isNone=false:=rfl
theorem sK:(Tryz.f103.name== "runtime.NumGoroutine")=false:=by decide+kernel
theorem sY:Tryz.f112.body.isNone=false:=rfl
theorem tZ:(Tryz.f112.name== "runtime.NumGoroutine")=false:=by decide+kernel
set_option maxHeartbeats 4000000 in
theorem z8:∀(fu:Nat) (w0:World) (γ0:aw) (n_b:Nat) (ps_v:Value) (ps:List Pp) (hps_v:Sl γ0 (is 0) w0 ps_v ps) (ho_v:Value) (ho:jH) (hho_v:dr γ0 2 w0 ho_v ho) (nu_v:Value) (nu:List Int) (hnu_v:Ow γ0 (is 3) (is 3) w0 nu_v nu) (od_v:Value) (od:List Int) (hod_v:Ow γ0 (is 4) (is 4) w0 od_v od) (le_v:Value) (le:(Pt->Int)×List Pt) (hle_v:Md γ0 (is 5) w0 le_v le.1 le.2) (hn_b:Bx γ0 (is 7) w0 n_b [ps_v,ho_v,nu_v,od_v,le_v]) (AR:List Pp×List (bY Bd)) (ar_A:fV γ0 w0 AR.1 AR.2) (i:Int) (fr:Int) (F:Nat) (l:List Int) (hin:∀u∈ps,u∈AR.1) (hpl:(ps.length:Int)<=100001) (hm:lm (ps.map (bo AR)) ho le) (hnl:nu.length=ps.length) (hol:(od.length:Int)+l.length<=100001) (hor:lZ (ps.map (bo AR)) ho F fu i fr=some l),
    Calls Tryz.prog 49 #[vp n_b 0,vi i,vi fr] w0 (λee w=>∃xx:aw×(List Int)×Value×(List Int)×((Pt->Int)×List Pt),ee= .returned ((λ(⟨γ1,nu1,od1_v,od1,le1⟩:aw×(List Int)×Value×(List Int)×((Pt->Int)×List Pt))=>vt []) xx)/\(λ(⟨γ1,nu1,od1_v,od1,le1⟩:aw×(List Int)×Value×(List Int)×((Pt->Int)×List Pt)) (w:World)=>aU (inl [3,4,5,7]) γ0 w0 γ1 w/\Ow γ1 (is 3) (is 3) w nu_v nu1/\Ow γ1 (is 4) (is 4) w od1_v od1/\Md γ1 (is 5) w le_v le1.1 le1.2/\Bx γ1 (is 7) w n_b [ps_v,ho_v,nu_v,od1_v,le_v]/\((nu1=gM nu (od.length:Int) l/\od1=od++l)/\lm (ps.map (bo AR)) ho le1)) xx w):=by
 intro fu
 induction fu using Nat.strongRecOn
 rename_i fu ih
 intro w0 γ0 n_b ps_v ps hps_v ho_v ho hho_v nu_v nu hnu_v od_v od hod_v le_v le hle_v hn_b AR ar_A i fr F l hin hpl hm hnl hol hor
 obtain⟨γr,hγr,hch0⟩:∃γr,γr=mX [0,2,3,4,5,7] γ0/\aU (Al [0,2,3,4,5,7]) γ0 w0 γr w0:=⟨_,rfl,oY _ _ _⟩
 replace hps_v:=hps_v.chg hch0 (dh rfl)
 replace hho_v:=hho_v.chg hch0 (dh rfl)
 replace hnu_v:=hnu_v.chg hch0 (dh rfl) (dh rfl)
 replace hod_v:=hod_v.chg hch0 (dh rfl) (dh rfl)
 replace hle_v:=hle_v.chg hch0 (dh rfl)
 replace hn_b:=hn_b.chg hch0 (dh rfl)
 replace ar_A:=ar_A.chg hch0 (dh rfl)
 clear hch0
 refine ap Tryz.func49 rfl nq ?_
 have bH:oJ [0,2] γr w0 γr w0:=oJ.start
 obtain⟨f0,NX,dn,rfl,⟨hi0,hi1⟩,hnx,hn12,hbe,hod1,hld⟩:=sk hor
 have hVl:(ps.map (bo AR)).length=ps.length:=List.length_map ..
 rw[hVl] at hi1
 have hvi:gI (ps.map (bo AR)) i=(gI AR.2 ((AR.1.idxOf (gI ps i):Nat):Int)):=iO hi0 hi1
 rw[hvi] at hnx
 have hll:1<=l.length:=by rw[hld,List.length_cons];omega
 refine a7 (a6 rfl (cN rfl (cq γr (is 8) (8,0) rfl rfl ?_)))
 intro g4 w1 b3 ch2 bx5
 refine lo (cq g4 (is 9) (9,0) rfl rfl ?_)
 intro g9 w6 b8 ch7 bx10
 refine ab (a7 (bq g9 [0,1,2,3,4,5,6,7,8,9,10] fH ?_))
 intro w12 ch11
 replace bx5:=(bx5.cn ch7).cn ch11
 refine xv 0 [4,5,6,7,8,9] rfl (a8 fk rfl bx5 rfl) (xp (v:=vp n_b 0) 1 rfl (λw=>ae rfl) (xp 2 rfl (λw=>aa qD rfl rfl rfl rfl) ?_))
 have C13:=cg [] (ch2.n.seq (ch7.n.seq ch11.n))
 replace hn_b:=hn_b.ca C13
 refine xv 3 [2,1,0,4,5,6,7,8,9] rfl (a8 fq rfl hn_b rfl) ?_
 replace bx10:=bx10.cn ch11
 refine xv 4 [3,2,1,0,5,6,7,8,9] rfl (a8 ah rfl bx10 rfl) (xv 5 [4,3,2,1,0] rfl (a8 fk rfl bx5 rfl) (xp (v:=vp n_b 0) 6 rfl (λw=>ae rfl) (xp 7 rfl (λw=>aa qD rfl rfl rfl rfl) (xv 8 [7,6,5,4,3,2,1,0] rfl (a8 fq rfl hn_b rfl) ?_))))
 replace hod_v:=hod_v.ca C13
 have len14:=(hod_v.flat).small
 refine xp 9 rfl (λw=>bp bF rfl hod_v.flat) ?_
 replace hnu_v:=hnu_v.ca C13
 refine xv 10 [9,8,7,6,5,4,3,2,1,0] rfl (ad (v:=nu_v) (i:=i) bF rfl rfl hnu_v.flat rfl (by omega) (by omega)) (b9 11 rfl (by kernel_rfl) rfl (aZ (i:=i) (od.length:Int) ah rfl rfl hnu_v (by omega) (by omega) rfl ?_))
 intro w15 ch16 bx17
 clear hnu_v
 refine bS (by kernel_rfl) (a7 ?_)
 refine dy (σ:=Value×aw) (λ⟨v29,gq⟩ f w=>oJ [0,2] γr w0 gq w/\f 2=vi fr/\f 3=vp b3 0/\f 4=vp b8 0/\Sl gq (is 0) w ps_v ps/\dr gq 2 w ho_v ho/\Md gq (is 5) w le_v le.1 le.2/\fV gq w AR.1 AR.2/\Bx gq (is 8) w b3 [vp n_b 0]/\Bx gq (is 9) w b8 [vi i]/\Ow gq (is 3) (is 3) w nu_v (List.set nu (Int.toNat i) (od.length:Int))/\Ow gq (is 4) (is 4) w v29 (od++[i])/\Bx gq (is 7) w n_b [ps_v,ho_v,nu_v,v29,le_v]) g9 (inl [4,7]) fH ?_ ?_
 ·
  intro mid
  intro w19 ch18
  replace bx5:=(bx5.ce ch16).cn ch18
  refine ht 0 rfl (aU.refl _ _ _) (λw' hw'=>a8 fk rfl (bx5.chg hw' (bI rfl)) rfl) (ht 1 rfl (aU.refl _ _ _) (λw' hw'=>a8 fk rfl (bx5.chg hw' (bI rfl)) rfl) (ht (v:=vp n_b 0) 2 rfl (aU.refl _ _ _) (λw' hw'=>ae rfl) (ht 3 rfl (aU.refl _ _ _) (λw' hw'=>aa qD rfl rfl rfl rfl) ?_)))
  replace bx10:=(bx10.ce ch16).cn ch18
  refine ht 5 rfl (aU.refl _ _ _) (λw' hw'=>a8 ah rfl (bx10.chg hw' (bI rfl)) rfl) ?_
  refine bO 4 [6] (by kernel_rfl) ⟨bL 4 rfl (by kernel_rfl) rfl ?_,bL 6 rfl (by kernel_rfl) rfl ?_,trivial⟩
  ·
   replace hn_b:=(hn_b.ce ch16).cn ch18
   refine aj (v:=od_v) (a8 fq rfl hn_b rfl) ?_
   refine⟨(aU.refl _ _ _),?_⟩
   refine az 6 rfl (by kernel_rfl) rfl (ar (α:=Int) g9 (is 10) (is 10) (10,0) rfl [i] bF ah (by decide) (by decide) (vs:=[(0,vi i)]) rfl rfl (.cons rfl .nil) ?_)
   intro g20 w21 v22 ch23 o24
   have hs25:aU (inl [4,7]) _ _ _ _:=ch23.n
   refine⟨hs25.same,?_⟩
   refine az 7 rfl (by kernel_rfl) rfl ?_
   have C26:=cg [3] ((ch16.l rfl).seq (ch18.n.seq ch23.n))
   replace hod_v:=hod_v.ca C26
   refine aK (α:=Int) (xs:=od) (ys:=([i])) g20 (J:=is 4) (S:=is 4) (4,0) rfl bF ah (by decide) rfl rfl rfl hod_v o24.flat (by decide) (by(simp;omega)) ?_
   intro g27 w28 v29 ch30 o31
   clear hod_v
   have hs32:=hs25.seq (ch30.l rfl)
   refine⟨hs32.same,?_⟩
   refine ht (v:=vp n_b 0) 8 rfl hs32.same (λw' hw'=>ae rfl) (ht 9 rfl hs32.same (λw' hw'=>aa qD rfl rfl rfl rfl) (az 10 rfl (by kernel_rfl) rfl ?_))
   replace hn_b:=(hn_b.cn ch23).ce ch30
   refine aC (cs':=[ps_v,ho_v,nu_v,v29,le_v]) fq rfl rfl hn_b (aP o31.flat) nq (aG o31.flat) rfl ?_
   intro w33 ch34 bx35
   clear hn_b
   have hs36:=hs32.seq (ch34.l rfl)
   refine⟨hs36.same,?_⟩
   refine bP (by kernel_rfl) ?_
   have C37:=cg [3,4,7] (ch2.n.seq (ch7.n.seq (ch11.n.seq ((ch16.l rfl).seq (ch18.n.seq (ch23.n.seq ((ch30.l rfl).seq (ch34.l rfl))))))))
   have C38:=cg [3] (ch2.n.seq (ch7.n.seq (ch11.n.seq ((ch16.l rfl).seq ch18.n))))
   replace hps_v:=hps_v.ca C38
   replace hho_v:=hho_v.ca C38
   replace hle_v:=hle_v.ca C38
   replace ar_A:=ar_A.ca C38
   replace bx17:=bx17.cn ch18
   exact mid (v29,g27) _ _ ⟨bH.chgN C37 (gS rfl),rfl,rfl,rfl,(hps_v.ca hs36),(hho_v.ca hs36),(hle_v.ca hs36),(ar_A.ca hs36),(bx5.ca hs36),(bx10.ca hs36),(bx17.ca hs36),o31.ce ch34,bx35⟩
  ·
   refine ar (α:=Int) g9 (is 10) (is 10) (10,0) rfl [i] bF ah (by decide) (by decide) (vs:=[(0,vi i)]) rfl rfl (.cons rfl .nil) ?_
   intro g39 w40 v41 ch42 o43
   have hs44:aU (inl [4,7]) _ _ _ _:=ch42.n
   refine⟨hs44.same,?_⟩
   refine az 4 rfl (by kernel_rfl) rfl ?_
   have C45:=cg [3] ((ch16.l rfl).seq (ch18.n.seq ch42.n))
   replace hn_b:=hn_b.ca C45
   refine aj (v:=od_v) (a8 fq rfl hn_b rfl) ?_
   refine⟨hs44.same,?_⟩
   refine az 7 rfl (by kernel_rfl) rfl ?_
   replace hod_v:=hod_v.ca C45
   refine aK (α:=Int) (xs:=od) (ys:=([i])) g39 (J:=is 4) (S:=is 4) (4,0) rfl bF ah (by decide) rfl rfl rfl hod_v o43.flat (by decide) (by(simp;omega)) ?_
   intro g46 w47 v48 ch49 o50
   clear hod_v
   have hs51:=hs44.seq (ch49.l rfl)
   refine⟨hs51.same,?_⟩
   refine ht (v:=vp n_b 0) 8 rfl hs51.same (λw' hw'=>ae rfl) (ht 9 rfl hs51.same (λw' hw'=>aa qD rfl rfl rfl rfl) (az 10 rfl (by kernel_rfl) rfl ?_))
   replace hn_b:=hn_b.ce ch49
   refine aC (cs':=[ps_v,ho_v,nu_v,v48,le_v]) fq rfl rfl hn_b (aP o50.flat) nq (aG o50.flat) rfl ?_
   intro w52 ch53 bx54
   clear hn_b
   have hs55:=hs51.seq (ch53.l rfl)
   refine⟨hs55.same,?_⟩
   refine bP (by kernel_rfl) ?_
   have C56:=cg [3,4,7] (ch2.n.seq (ch7.n.seq (ch11.n.seq ((ch16.l rfl).seq (ch18.n.seq (ch42.n.seq ((ch49.l rfl).seq (ch53.l rfl))))))))
   have C57:=cg [3] (ch2.n.seq (ch7.n.seq (ch11.n.seq ((ch16.l rfl).seq ch18.n))))
   replace hps_v:=hps_v.ca C57
   replace hho_v:=hho_v.ca C57
   replace hle_v:=hle_v.ca C57
   replace ar_A:=ar_A.ca C57
   replace bx17:=bx17.cn ch18
   exact mid (v48,g46) _ _ ⟨bH.chgN C56 (gS rfl),rfl,rfl,rfl,(hps_v.ca hs55),(hho_v.ca hs55),(hle_v.ca hs55),(ar_A.ca hs55),(bx5.ca hs55),(bx10.ca hs55),(bx17.ca hs55),o50.ce ch53,bx54⟩
 clear hps_v hho_v hod_v hle_v hn_b ar_A bx5 bx10 bx17 bH
 rintro⟨v29,g60⟩ f58 w59 ⟨bH,zs2,zs3,zs4,hps_v,hho_v,hle_v,ar_A,bx5,bx10,bx17,o31,bx35⟩
 refine a7 (a6 rfl (ma vn (ab (a7 (a7 (cG g60 rfl fH (by kernel_rfl) ?_))))))
 intro w62 ch61
 replace bx5:=bx5.cn ch61
 refine qx (λw' hw'=>a8 fk zs3 (bx5.bel hw') rfl) (qv (vp n_b 0) (λw' hw'=>ae rfl) (qx (λw' hw'=>aa qD rfl rfl rfl rfl) ?_))
 replace bx35:=bx35.cn ch61
 refine qx (λw' hw'=>a8 pc rfl (bx35.bel hw') rfl) ?_
 replace bx10:=bx10.cn ch61
 refine qx (λw' hw'=>a8 ah zs4 (bx10.bel hw') rfl) ?_
 replace hps_v:=hps_v.cn ch61
 refine qx (λw' hw'=>ad (v:=ps_v) (i:=i) iZ rfl rfl (hps_v.bel hw') rfl (by omega) (by omega)) (qx (λw' hw'=>av (v:=ps_v) (i:=i) kh rfl (hps_v.bel hw') (by omega) (by omega) (by decide) rfl) (qv (Value.pointer (some ⟨(gI ps i).n,0,none⟩)) (λw' hw'=>ae rfl) (qx (λw' hw'=>aa dR rfl rfl rfl rfl) ?_)))
 replace ar_A:=ar_A.cn ch61
 obtain⟨v63,bx64,o65⟩:=fV.gt (u:=(gI ps i)) ar_A (j:=(AR.1.idxOf (gI ps i))) (by exact fb (hin _ (bC (by omega) (by omega))))
 refine qx (λw' hw'=>a8 hX rfl (bx64.bel hw') rfl) ?_
 have len66:=(o65).small
 refine qx (λw' hw'=>bp cJ rfl (o65.bel hw')) (qm (vi 0) (ep ?_))
 intro w67 hc68
 replace hc68:=aN hc68 g60
 refine am ?_
 clear bx64
 refine aV (σ:=Nat×Value×(List Int)×aw) (λ⟨j,next_v,next,gq⟩ f w=>oJ [0,2] γr w0 gq w/\f 2=vi fr/\f 3=vp b3 0/\f 4=vp b8 0/\f 6=next_v/\f 42=v63/\f 43=vi (List.length ((gI AR.2 (((AR.1.idxOf (gI ps i)):Nat):Int)).2):Int)/\f 44=vi ↑j/\Sl gq (is 0) w ps_v ps/\dr gq 2 w ho_v ho/\Md gq (is 5) w le_v le.1 le.2/\fV gq w AR.1 AR.2/\Bx gq (is 8) w b3 [vp n_b 0]/\Bx gq (is 9) w b8 [vi i]/\Ow gq (is 3) (is 3) w nu_v (List.set nu (Int.toNat i) (od.length:Int))/\Ow gq (is 4) (is 4) w v29 (od++[i])/\Bx gq (is 7) w n_b [ps_v,ho_v,nu_v,v29,le_v]/\Sl gq (is 0) w v63 ((gI AR.2 (((AR.1.idxOf (gI ps i)):Nat):Int)).2)/\Ow gq (is 14) (is 14) w next_v next/\(j:Int)<=((List.length ((gI AR.2 (((AR.1.idxOf (gI ps i)):Nat):Int)).2):Int):Int)/\(mN ho i fr (gI AR.2 ((AR.1.idxOf (gI ps i):Nat):Int)).2 NX next j)) (λ⟨j,next_v,next,gq⟩=>Int.toNat (((List.length ((gI AR.2 (((AR.1.idxOf (gI ps i)):Nat):Int)).2):Int):Int)-(j:Int))) (0,vn,[],g60) ?_ ?_
 replace bH:=bH.chgN ch61 se
 · exact⟨bH.chgN hc68 se,zs2,zs3,zs4,rfl,rfl,rfl,rfl,hps_v.cn hc68,(hho_v.cn ch61).cn hc68,(hle_v.cn ch61).cn hc68,ar_A.cn hc68,bx5.cn hc68,bx10.cn hc68,(bx17.cn ch61).cn hc68,(o31.cn ch61).cn hc68,bx35.cn hc68,o65.cn hc68,Ow.nil,by omega,by exact mN.start hnx⟩
 clear hps_v hho_v hle_v ar_A bx5 bx10 bx17 o31 bx35 o65 bH
 rintro⟨j,next_v,next,g71⟩ f69 w70 ⟨bH,zs2,zs3,zs4,zs6,zs42,zs43,zs44,hps_v,hho_v,hle_v,ar_A,bx5,bx10,bx17,o31,bx35,o65,cm,hle_j,hnj⟩ back5
 have hnl2:=hnj.len
 refine a7 (a6 rfl (lx (bw (m:=↑j) (n:=(List.length ((gI AR.2 (((AR.1.idxOf (gI ps i)):Nat):Int)).2):Int)) zs44 zs43) (ab (a7 ?_))))
 by_cases p5:(j:Int)<(List.length ((gI AR.2 (((AR.1.idxOf (gI ps i)):Nat):Int)).2):Int)
 ·
  refine af rfl (dt p5) (ao (a7 (am (a7 (a6 rfl (lx (ad (v:=v63) (i:=↑j) cJ rfl zs42 o65 zs44 (by omega) (by omega)) (lw (vg [vi ((gI ((gI AR.2 (((AR.1.idxOf (gI ps i)):Nat):Int)).2) (j:Int)).1),vi (((gI ((gI AR.2 (((AR.1.idxOf (gI ps i)):Nat):Int)).2) (j:Int)).2).1),vi ((((gI ((gI AR.2 (((AR.1.idxOf (gI ps i)):Nat):Int)).2) (j:Int)).2).2).1),vi ((((gI ((gI AR.2 (((AR.1.idxOf (gI ps i)):Nat):Int)).2) (j:Int)).2).2).2)]) (bJ (v:=v63) (i:=↑j) dZ rfl o65 (by omega) (by omega) rfl) (lo (bi g71 (is 11) (11,0) rfl dZ ?_)))))))))
  intro g75 w72 b74 ch73 bx76
  refine lo (ax (cs':=[vi ((gI ((gI AR.2 (((AR.1.idxOf (gI ps i)):Nat):Int)).2) (j:Int)).1),vi (((gI ((gI AR.2 (((AR.1.idxOf (gI ps i)):Nat):Int)).2) (j:Int)).2).1),vi ((((gI ((gI AR.2 (((AR.1.idxOf (gI ps i)):Nat):Int)).2) (j:Int)).2).2).1),vi ((((gI ((gI AR.2 (((AR.1.idxOf (gI ps i)):Nat):Int)).2) (j:Int)).2).2).2)]) dZ rfl rfl bx76 rfl nq (AllOne.all (.cons rfl (.cons rfl (.cons rfl (.cons rfl .nil))))) rfl ?_)
  intro w77 ch78 bx79
  clear bx76
  refine ab (a7 (a7 (a6 rfl (lx (ay (ds:=[vi ((gI ((gI AR.2 (((AR.1.idxOf (gI ps i)):Nat):Int)).2) (j:Int)).1),vi (((gI ((gI AR.2 (((AR.1.idxOf (gI ps i)):Nat):Int)).2) (j:Int)).2).1),vi ((((gI ((gI AR.2 (((AR.1.idxOf (gI ps i)):Nat):Int)).2) (j:Int)).2).2).1),vi ((((gI ((gI AR.2 (((AR.1.idxOf (gI ps i)):Nat):Int)).2) (j:Int)).2).2).2)]) dZ rfl bx79 rfl rfl) (lo ?_)))))
  refine br (aH (vals:=[vg [vi ((gI ((gI AR.2 (((AR.1.idxOf (gI ps i)):Nat):Int)).2) (j:Int)).1),vi (((gI ((gI AR.2 (((AR.1.idxOf (gI ps i)):Nat):Int)).2) (j:Int)).2).1),vi ((((gI ((gI AR.2 (((AR.1.idxOf (gI ps i)):Nat):Int)).2) (j:Int)).2).2).1),vi ((((gI ((gI AR.2 (((AR.1.idxOf (gI ps i)):Nat):Int)).2) (j:Int)).2).2).2)]]) Tryz.func51 lV ms rfl) (ap Tryz.func51 rfl nq (a7 (a6 rfl (cN rfl (cq g75 (is 12) (12,0) rfl rfl ?_)))))
  intro g83 w80 b82 ch81 bx84
  refine ma (vb false) (ab (a7 (a6 rfl (lx (aa iL rfl rfl rfl rfl) (lx (a8 ah rfl bx84 rfl) (lx (eB (m:=(((gI ((gI AR.2 (((AR.1.idxOf (gI ps i)):Nat):Int)).2) (j:Int)).2).2).1) (n:=0) rfl rfl) (ma (vb (decide (0<=((((gI ((gI AR.2 (((AR.1.idxOf (gI ps i)):Nat):Int)).2) (j:Int)).2).2).1)))) (ab (au (vs:=[vb (decide (0<=((((gI ((gI AR.2 (((AR.1.idxOf (gI ps i)):Nat):Int)).2) (j:Int)).2).2).1)))]) Tryz.func51 (.tmp rfl .nil) ?_)))))))))
  refine⟨vb (decide (0<=((((gI ((gI AR.2 (((AR.1.idxOf (gI ps i)):Nat):Int)).2) (j:Int)).2).2).1))),rfl,?_⟩
  refine ab ?_
  by_cases p7:0<=((((gI ((gI AR.2 (((AR.1.idxOf (gI ps i)):Nat):Int)).2) (j:Int)).2).2).1)
  ·
   refine af rfl (dt p7) (aO rfl ?_)
   clear bx79 bx84
   refine a6 rfl (lx (aS (m:=↑j) (n:=1) zs44 rfl (by omega)) (mi ((j:Int)+1) (ab ?_)))
   have C85:=cg [11] (ch73.n.seq ((ch78.l rfl).seq ch81.n))
   refine back5 (j+1,next_v,next,g83) _ _ ⟨bH.chgN C85 (gS rfl),zs2,zs3,zs4,zs6,zs42,zs43,rfl,hps_v.ca C85,hho_v.ca C85,hle_v.ca C85,ar_A.ca C85,bx5.ca C85,bx10.ca C85,bx17.ca C85,o31.ca C85,bx35.ca C85,o65.ca C85,cm.ca C85,by omega,?_⟩ ?_
   · show mN ho i fr (gI AR.2 ((AR.1.idxOf (gI ps i):Nat):Int)).2 NX next (j+1)
     exact hnj.real ‹_› (by omega)
   · show Int.toNat (_-_)<Int.toNat (_-_)
     omega
  refine ag rfl (df p7) (ao (a7 ?_))
  clear bx84
  obtain⟨hq1,hq2,hq3,hq4,hq5,hq6,hq7⟩:=hnj.ok ‹_› ‹_›
  refine a6 rfl ?_
  have C86:=cg [11] (ch73.n.seq ((ch78.l rfl).seq ch81.n))
  replace bx5:=bx5.ca C86
  refine lx (a8 fk zs3 bx5 rfl) ?_
  replace bx10:=bx10.ca C86
  refine lx (a8 ah zs4 bx10 rfl) (lx (aa iL rfl rfl rfl rfl) ?_)
  replace bx79:=bx79.cn ch81
  refine lx (a8 ah rfl bx79 rfl) (lo (br (aH (vals:=[vp n_b 0,vi i,vi ((((gI ((gI AR.2 (((AR.1.idxOf (gI ps i)):Nat):Int)).2) (j:Int)).2).2).2)]) Tryz.func72 q9 qb rfl) (ap Tryz.func72 rfl nq ?_)))
  replace hps_v:=hps_v.ca C86
  replace hho_v:=hho_v.ca C86
  replace bx17:=bx17.ca C86
  replace o31:=o31.ca C86
  replace hle_v:=hle_v.ca C86
  refine a7 (a6 rfl (ai 0 (ab (a7 (a6 rfl (mv (vp n_b 0) (lw (vp n_b 0) (ae rfl) (lx (aa qD rfl rfl rfl rfl) ?_))))))))
  replace bx35:=bx35.ca C86
  refine lx (a8 oV rfl bx35 rfl) (mi ((((gI ((gI AR.2 (((AR.1.idxOf (gI ps i)):Nat):Int)).2) (j:Int)).2).2).2) (lx (ad (v:=ho_v) (i:=(((gI ((gI AR.2 (((AR.1.idxOf (gI ps i)):Nat):Int)).2) (j:Int)).2).2).2) gf rfl rfl hho_v.sl rfl (by omega) (by omega)) ?_))
  obtain⟨v87,cel88,r89⟩:=dv (r:=(((gI ((gI AR.2 (((AR.1.idxOf (gI ps i)):Nat):Int)).2) (j:Int)).2).2).2) hho_v (by omega) (by omega)
  refine lx (cH fq rfl cel88) (ma v87 (ab (a7 (cG g83 rfl fH (by kernel_rfl) ?_))))
  intro w91 ch90
  refine qm v87 ?_
  replace r89:=r89.cn ch90
  refine qx (λw' hw'=>ad (v:=v87) (i:=0) bF rfl rfl (r89.row_sl.bel hw') rfl (by omega) (by omega)) (qx (λw' hw'=>av (v:=v87) (i:=0) ah rfl (r89.row_sl.bel hw') (by omega) (by omega) (by decide) rfl) (qm v87 (qx (λw' hw'=>ad (v:=v87) (i:=1) bF rfl rfl (r89.row_sl.bel hw') rfl (by omega) (by omega)) (qx (λw' hw'=>av (v:=v87) (i:=1) ah rfl (r89.row_sl.bel hw') (by omega) (by omega) (by decide) rfl) (qx (λw' hw'=>aS (m:=(gI (gI ho ((((gI ((gI AR.2 (((AR.1.idxOf (gI ps i)):Nat):Int)).2) (j:Int)).2).2).2)) 0)) (n:=(gI (gI ho ((((gI ((gI AR.2 (((AR.1.idxOf (gI ps i)):Nat):Int)).2) (j:Int)).2).2).2)) 1)) rfl rfl (by omega)) (qm (vi i) ?_))))))
  refine qx (λw' hw'=>ej (m:=(gI (gI ho ((((gI ((gI AR.2 (((AR.1.idxOf (gI ps i)):Nat):Int)).2) (j:Int)).2).2).2)) 0)+(gI (gI ho ((((gI ((gI AR.2 (((AR.1.idxOf (gI ps i)):Nat):Int)).2) (j:Int)).2).2).2)) 1)) (n:=i) rfl rfl (by omega)) (qv (vi (((gI (gI ho ((((gI ((gI AR.2 (((AR.1.idxOf (gI ps i)):Nat):Int)).2) (j:Int)).2).2).2)) 0)+(gI (gI ho ((((gI ((gI AR.2 (((AR.1.idxOf (gI ps i)):Nat):Int)).2) (j:Int)).2).2).2)) 1))-i)) (λw' hw'=>bm rfl) (ep ?_))
  intro w92 hc93
  replace hc93:=aN hc93 g83
  refine au (vs:=[vi (((gI (gI ho ((((gI ((gI AR.2 (((AR.1.idxOf (gI ps i)):Nat):Int)).2) (j:Int)).2).2).2)) 0)+(gI (gI ho ((((gI ((gI AR.2 (((AR.1.idxOf (gI ps i)):Nat):Int)).2) (j:Int)).2).2).2)) 1))-i)]) Tryz.func72 (.tmp rfl .nil) ?_
  refine⟨vi (((gI (gI ho ((((gI ((gI AR.2 (((AR.1.idxOf (gI ps i)):Nat):Int)).2) (j:Int)).2).2).2)) 0)+(gI (gI ho ((((gI ((gI AR.2 (((AR.1.idxOf (gI ps i)):Nat):Int)).2) (j:Int)).2).2).2)) 1))-i),rfl,?_⟩
  refine ai (((gI (gI ho ((((gI ((gI AR.2 (((AR.1.idxOf (gI ps i)):Nat):Int)).2) (j:Int)).2).2).2)) 0)+(gI (gI ho ((((gI ((gI AR.2 (((AR.1.idxOf (gI ps i)):Nat):Int)).2) (j:Int)).2).2).2)) 1))-i) (ab (a7 ?_))
  clear bx79 cel88 r89
  refine a6 rfl (mi (((gI (gI ho ((((gI ((gI AR.2 (((AR.1.idxOf (gI ps i)):Nat):Int)).2) (j:Int)).2).2).2)) 0)+(gI (gI ho ((((gI ((gI AR.2 (((AR.1.idxOf (gI ps i)):Nat):Int)).2) (j:Int)).2).2).2)) 1))-i) (mz zs2 (lx (dq (m:=((gI (gI ho ((((gI ((gI AR.2 (((AR.1.idxOf (gI ps i)):Nat):Int)).2) (j:Int)).2).2).2)) 0)+(gI (gI ho ((((gI ((gI AR.2 (((AR.1.idxOf (gI ps i)):Nat):Int)).2) (j:Int)).2).2).2)) 1))-i) (n:=fr) rfl rfl) (ab ?_))))
  by_cases p9:(((gI (gI ho ((((gI ((gI AR.2 (((AR.1.idxOf (gI ps i)):Nat):Int)).2) (j:Int)).2).2).2)) 0)+(gI (gI ho ((((gI ((gI AR.2 (((AR.1.idxOf (gI ps i)):Nat):Int)).2) (j:Int)).2).2).2)) 1))-i)=fr
  ·
   refine ag rfl (congrArg Bool.not (dt p9)) (ao (ak (a6 rfl (lx (aS (m:=↑j) (n:=1) zs44 rfl (by omega)) (mi ((j:Int)+1) (ab ?_))))))
   have C94:=cg [11] (ch73.n.seq ((ch78.l rfl).seq (ch81.n.seq (ch90.n.seq hc93.n))))
   refine back5 (j+1,next_v,next,g83) _ _ ⟨bH.chgN C94 (gS rfl),zs2,zs3,zs4,zs6,zs42,zs43,rfl,(hps_v.cn ch90).cn hc93,(hho_v.cn ch90).cn hc93,(hle_v.cn ch90).cn hc93,ar_A.ca C94,(bx5.cn ch90).cn hc93,(bx10.cn ch90).cn hc93,(bx17.cn ch90).cn hc93,(o31.cn ch90).cn hc93,(bx35.cn ch90).cn hc93,o65.ca C94,cm.ca C94,by omega,?_⟩ ?_
   · show mN ho i fr (gI AR.2 ((AR.1.idxOf (gI ps i):Nat):Int)).2 NX next (j+1)
     exact hnj.back ‹_› ‹_› ‹_›
   · show Int.toNat (_-_)<Int.toNat (_-_)
     omega
  refine af rfl (congrArg Bool.not (df p9)) (a6 rfl (mz zs6 (mi (((gI (gI ho ((((gI ((gI AR.2 (((AR.1.idxOf (gI ps i)):Nat):Int)).2) (j:Int)).2).2).2)) 0)+(gI (gI ho ((((gI ((gI AR.2 (((AR.1.idxOf (gI ps i)):Nat):Int)).2) (j:Int)).2).2).2)) 1))-i) (lo (ar (α:=Int) g83 (is 13) (is 13) (13,0) rfl [((gI (gI ho ((((gI ((gI AR.2 (((AR.1.idxOf (gI ps i)):Nat):Int)).2) (j:Int)).2).2).2)) 0)+(gI (gI ho ((((gI ((gI AR.2 (((AR.1.idxOf (gI ps i)):Nat):Int)).2) (j:Int)).2).2).2)) 1))-i] bF ah (by decide) (by decide) (vs:=[(0,vi (((gI (gI ho ((((gI ((gI AR.2 (((AR.1.idxOf (gI ps i)):Nat):Int)).2) (j:Int)).2).2).2)) 0)+(gI (gI ho ((((gI ((gI AR.2 (((AR.1.idxOf (gI ps i)):Nat):Int)).2) (j:Int)).2).2).2)) 1))-i))]) rfl rfl (.cons rfl .nil) ?_)))))
  intro g95 w96 v97 ch98 o99
  refine lo ?_
  have C100:=cg [11] (ch73.n.seq ((ch78.l rfl).seq (ch81.n.seq (ch90.n.seq (hc93.n.seq ch98.n)))))
  replace cm:=cm.ca C100
  refine aK (α:=Int) (xs:=next) (ys:=([((gI (gI ho ((((gI ((gI AR.2 (((AR.1.idxOf (gI ps i)):Nat):Int)).2) (j:Int)).2).2).2)) 0)+(gI (gI ho ((((gI ((gI AR.2 (((AR.1.idxOf (gI ps i)):Nat):Int)).2) (j:Int)).2).2).2)) 1))-i])) g95 (J:=is 14) (S:=is 14) (14,0) rfl bF ah (by decide) rfl rfl rfl cm o99.flat (by decide) (by(simp;omega)) ?_
  intro g101 w102 v103 ch104 o105
  clear cm
  refine ma v103 (ab (ak ?_))
  clear o99
  refine a6 rfl (lx (aS (m:=↑j) (n:=1) zs44 rfl (by omega)) (mi ((j:Int)+1) (ab ?_)))
  have C106:=cg [11,14] (ch73.n.seq ((ch78.l rfl).seq (ch81.n.seq (ch90.n.seq (hc93.n.seq (ch98.n.seq (ch104.l rfl)))))))
  have C107:=cg [14] (ch90.n.seq (hc93.n.seq (ch98.n.seq (ch104.l rfl))))
  refine back5 (j+1,v103,(next++[((gI (gI ho ((((gI ((gI AR.2 (((AR.1.idxOf (gI ps i)):Nat):Int)).2) (j:Int)).2).2).2)) 0)+(gI (gI ho ((((gI ((gI AR.2 (((AR.1.idxOf (gI ps i)):Nat):Int)).2) (j:Int)).2).2).2)) 1))-i]),g101) _ _ ⟨bH.chgN C106 (gS rfl),zs2,zs3,zs4,rfl,zs42,zs43,rfl,hps_v.ca C107,hho_v.ca C107,hle_v.ca C107,ar_A.ca C106,bx5.ca C107,bx10.ca C107,bx17.ca C107,o31.ca C107,bx35.ca C107,o65.ca C106,o105,by omega,?_⟩ ?_
  · show mN ho i fr (gI AR.2 ((AR.1.idxOf (gI ps i):Nat):Int)).2 NX (next++[((gI (gI ho ((((gI ((gI AR.2 (((AR.1.idxOf (gI ps i)):Nat):Int)).2) (j:Int)).2).2).2)) 0)+(gI (gI ho ((((gI ((gI AR.2 (((AR.1.idxOf (gI ps i)):Nat):Int)).2) (j:Int)).2).2).2)) 1))-i]) (j+1)
    exact hnj.far ‹_› ‹_› ‹_›
  · show Int.toNat (_-_)<Int.toNat (_-_)
    omega
 refine ag rfl (df p5) (aO rfl (a7 ?_))
 clear o65
 have hNX:next=NX:=hnj.done ‹_›
 obtain⟨kf,hkf⟩:∃kf,kf=B1 (ps.map (bo AR)) ho F i:=⟨_,rfl⟩
 obtain⟨PP,hPP,hQP⟩:∃PP:Int->Prop,(∀x,PP x->fB (ps.map (bo AR)) ho F x i=some (kf x))/\∀x∈NX,PP x:=⟨λx=>fB (ps.map (bo AR)) ho F x i=some (kf x),λ_ h=>h,by rw[hkf];exact hbe⟩
 have hal:∀x∈next,PP x:=by rw[hNX];exact hQP
 have hme:=hm
 refine a6 rfl (mz zs6 (lw (Value.func (.func 74) #[] (List.toArray [vp b3 0,vp b8 0])) (ii (vals:=[vp b3 0,vp b8 0]) (rA zs3 (rA zs4 rfl))) (lo (br (aH (vals:=[next_v,Value.func (.func 74) #[] (List.toArray [vp b3 0,vp b8 0])]) Tryz.func73 x5 xb rfl) (ap Tryz.func73 rfl nq (a7 (a6 rfl (mv next_v ?_))))))))
 have len108:=(cm.flat).small
 refine lx (bp bF rfl cm.flat) (ai (next.length:Int) (ab (a6 rfl (mv next_v (mi (next.length:Int) (mi (next.length:Int) (lw (Value.int .u64 (next.length:Int)) (qM (m:=(next.length:Int)) U3 yI rfl (vE (by omega) (by omega))) (lo (br (aH (vals:=[Value.int .u64 (next.length:Int)]) Tryz.func91 up xc rfl) (ap Tryz.func91 rfl nq ?_))))))))))
 refine a7 (a6 rfl (ai 0 (ab (a7 (ag rfl rfl (ao (a7 (a6 rfl (mv (Value.int .u64 (next.length:Int)) (lo (br (aH (vals:=[Value.int .u64 (next.length:Int)]) Tryz.func112 sY tZ rfl) (ap Tryz.func112 rfl nq ?_))))))))))))
 refine a7 (a6 rfl (ai 0 (ab (a7 (a7 (a6 rfl (mv (Value.int .u64 (next.length:Int)) (lx (eB (m:=(next.length:Int)) (n:=4294967296) rfl rfl) (ab ?_)))))))))
 have p1_c5:¬(4294967296<=(next.length:Int)):=by omega
 refine ag rfl (df p1_c5) (ao (a7 (a7 (a6 rfl (mv (Value.int .u64 (next.length:Int)) (lx (eB (m:=(next.length:Int)) (n:=65536) rfl rfl) (ab ?_)))))))
 have p4_c5:¬(65536<=(next.length:Int)):=by omega
 refine ag rfl (df p4_c5) (ao (a7 (a7 (a6 rfl (mv (Value.int .u64 (next.length:Int)) (lx (eB (m:=(next.length:Int)) (n:=256) rfl rfl) (ab ?_)))))))
 have p7_c5:¬(256<=(next.length:Int)):=by omega
 refine ag rfl (df p7_c5) (ao (a7 (a6 rfl (mi 0 (mv (Value.int .u64 (next.length:Int)) (lw (Value.int .u8 (next.length:Int)) (qM (m:=(next.length:Int)) AN U5 rfl (zt (by omega) (by omega))) ?_))))))
 have lb109:=zG (i:=(next.length:Int)) (by omega) (by omega)
 refine lw (Value.int .u8 (i7 (next.length:Int))) (pH (i:=(next.length:Int)) (r:=i7 (next.length:Int)) (b:=UInt8.ofNat (i7 (next.length:Int)).toNat) U9 rfl rfl (by omega) (vD (by omega) (by omega) (by decide+kernel)) (uC (by omega) (by omega))) (lw (vi (i7 (next.length:Int))) (qM (m:=i7 (next.length:Int)) U5 U3 rfl (j2 (by omega))) (lx (aS (m:=0) (n:=i7 (next.length:Int)) rfl rfl (by omega)) (ai (0+(i7 (next.length:Int))) (ab (au (vs:=[vi (0+(i7 (next.length:Int)))]) Tryz.func112 (.tmp rfl .nil) ?_)))))
 refine⟨vi (0+(i7 (next.length:Int))),rfl,?_⟩
 refine ai (0+(i7 (next.length:Int))) (ab (au (vs:=[vi (0+(i7 (next.length:Int)))]) Tryz.func91 (.tmp rfl .nil) ?_))
 refine⟨vi (0+(i7 (next.length:Int))),rfl,?_⟩
 refine mv (Value.func (.func 74) #[] (List.toArray [vp b3 0,vp b8 0])) (lo (br (aH (vals:=[next_v,vi 0,vi (next.length:Int),vi (0+(i7 (next.length:Int))),Value.func (.func 74) #[] (List.toArray [vp b3 0,vp b8 0])]) Tryz.func90 wj wh rfl) (ap Tryz.func90 rfl nq (a7 (a6 rfl (ma (vb true) (ab (a7 (a6 rfl (ma (vb true) (ab (am ?_))))))))))))
 refine fF (am (a7 (a6 rfl (mi (next.length:Int) (mi 0 (lx (ej (m:=(next.length:Int)) (n:=0) rfl rfl (by omega)) (ai ((next.length:Int)-0) (ab (a7 (a7 (a6 rfl (mi ((next.length:Int)-0) (lx (A5 (m:=(next.length:Int)-0) (n:=12) rfl rfl) ?_)))))))))))))
 refine ab ?_
 have p3_c6:((next.length:Int)-0)<=12:=by omega
 refine af rfl (dt p3_c6) (a7 (a6 rfl (mv next_v (mi 0 (mi (next.length:Int) (mv (Value.func (.func 74) #[] (List.toArray [vp b3 0,vp b8 0])) (lo (br (aH (vals:=[next_v,vi 0,vi (next.length:Int),Value.func (.func 74) #[] (List.toArray [vp b3 0,vp b8 0])]) Tryz.func103 tC sK rfl) (ap Tryz.func103 rfl nq (a7 (a6 rfl ?_)))))))))))
 refine mi 0 (lx (aS (m:=0) (n:=1) rfl rfl (by omega)) (ai 1 (ab (am ?_))))
 refine aV (σ:=Int×(List Int)×((Pt->Int)×List Pt)×aw) (λ⟨i_c7,xs_c7,mp_c7,gq⟩ f w=>oJ [0,2] γr w0 gq w/\f 0=next_v/\f 1=vi 0/\f 2=vi (next.length:Int)/\f 3=Value.func (.func 74) #[] (List.toArray [vp b3 0,vp b8 0])/\f 8=vi i_c7/\Sl gq (is 0) w ps_v ps/\dr gq 2 w ho_v ho/\Md gq (is 5) w le_v mp_c7.1 mp_c7.2/\fV gq w AR.1 AR.2/\Bx gq (is 8) w b3 [vp n_b 0]/\Bx gq (is 9) w b8 [vi i]/\Ow gq (is 3) (is 3) w nu_v (List.set nu (Int.toNat i) (od.length:Int))/\Ow gq (is 4) (is 4) w v29 (od++[i])/\Bx gq (is 7) w n_b [ps_v,ho_v,nu_v,v29,le_v]/\Ow gq (is 14) (is 14) w next_v xs_c7/\(uV kf PP next xs_c7 i_c7/\lm (ps.map (bo AR)) ho mp_c7)) (λ⟨i_c7,xs_c7,mp_c7,gq⟩=>Int.toNat ((next.length:Int)-i_c7)) (1,next,le,g71) ?_ ?_
 · exact⟨bH,rfl,rfl,rfl,rfl,rfl,hps_v,hho_v,hle_v,ar_A,bx5,bx10,bx17,o31,bx35,cm,by exact⟨uV.start hal,hme⟩⟩
 clear hps_v hho_v hle_v ar_A bx5 bx10 bx17 o31 bx35 cm bH
 rintro⟨i_c7,xs_c7,mp_c7,g112⟩ f110 w111 ⟨bH,zs0_c7,zs1_c7,zs2_c7,zs3_c7,zs8_c7,hps_v,hho_v,hle_v,ar_A,bx5,bx10,bx17,o31,bx35,cm,hio_c7⟩ back1_c7
 obtain⟨hio1_c7,hme_c7⟩:=hio_c7
 have hin1_c7:=hio1_c7.len
 have hin2_c7:=hio1_c7.lo
 have hin3_c7:=hio1_c7.hi
 refine a7 (a7 (a6 rfl (mz zs8_c7 (mz zs2_c7 (lx (bw (m:=i_c7) (n:=(next.length:Int)) rfl rfl) (ab ?_))))))
 by_cases p1_c7:i_c7<(next.length:Int)
 ·
  refine af rfl (dt p1_c7) (ao (a7 (am (a7 (a6 rfl (mz zs8_c7 (ai i_c7 (ab (am ?_)))))))))
  refine aV (σ:=Int×(List Int)×((Pt->Int)×List Pt)×aw) (λ⟨j_c7,ys_c7,mq_c7,gq⟩ f w=>oJ [0,2] γr w0 gq w/\f 0=next_v/\f 1=vi 0/\f 2=vi (next.length:Int)/\f 3=Value.func (.func 74) #[] (List.toArray [vp b3 0,vp b8 0])/\f 8=vi i_c7/\f 9=vi j_c7/\Sl gq (is 0) w ps_v ps/\dr gq 2 w ho_v ho/\Md gq (is 5) w le_v mq_c7.1 mq_c7.2/\fV gq w AR.1 AR.2/\Bx gq (is 8) w b3 [vp n_b 0]/\Bx gq (is 9) w b8 [vi i]/\Ow gq (is 3) (is 3) w nu_v (List.set nu (Int.toNat i) (od.length:Int))/\Ow gq (is 4) (is 4) w v29 (od++[i])/\Bx gq (is 7) w n_b [ps_v,ho_v,nu_v,v29,le_v]/\Ow gq (is 14) (is 14) w next_v ys_c7/\(A6 kf PP next ys_c7 i_c7 j_c7/\lm (ps.map (bo AR)) ho mq_c7)) (λ⟨j_c7,ys_c7,mq_c7,gq⟩=>Int.toNat j_c7) (i_c7,xs_c7,mp_c7,g112) ?_ ?_
  · exact⟨bH,zs0_c7,zs1_c7,zs2_c7,zs3_c7,zs8_c7,rfl,hps_v,hho_v,hle_v,ar_A,bx5,bx10,bx17,o31,bx35,cm,by exact⟨hio1_c7.inner (by omega),hme_c7⟩⟩
  clear hps_v hho_v hle_v ar_A bx5 bx10 bx17 o31 bx35 cm bH
  rintro⟨j_c7,ys_c7,mq_c7,g115⟩ f113 w114 ⟨bH,zs0_c7,zs1_c7,zs2_c7,zs3_c7,zs8_c7,zs9_c7,hps_v,hho_v,hle_v,ar_A,bx5,bx10,bx17,o31,bx35,cm,hii_c7⟩ back4_c7
  obtain⟨hii1_c7,hmf_c7⟩:=hii_c7
  have hjn1_c7:=hii1_c7.len
  have hjn2_c7:=hii1_c7.lo
  have hjn3_c7:=hii1_c7.hi
  have hjn4_c7:=hii1_c7.li
  have hal_c7:=hii1_c7.al
  have hpa_c7:PP (gI ys_c7 j_c7):=hal_c7 _ (bC (by omega) (by omega))
  have hpb_c7:0<j_c7->PP (gI ys_c7 (j_c7-1)):=λh=>hal_c7 _ (bC (by omega) (by omega))
  refine a7 (a7 (bq g115 [0,1,2,3,4,5,6,7,8,9,10,11,12,13,15,16] fH ?_))
  intro w117 ch116
  refine xp (v:=vi j_c7) 0 rfl (λw=>aq zs9_c7) (xp (v:=vi 0) 1 rfl (λw=>aq zs1_c7) (xp 2 rfl (λw=>fm (m:=j_c7) (n:=0) rfl rfl) (xp (v:=vb (decide (0<j_c7))) 3 rfl (λw=>aq rfl) ?_)))
  by_cases q21_c7:0<j_c7
  ·
   refine cF (v:=Value.func (.func 74) #[] (List.toArray [vp b3 0,vp b8 0])) 4 rfl (by kernel_rfl) (by kernel_rfl) (wy (dt q21_c7)) (λw=>aq zs3_c7) (cF (v:=next_v) 5 rfl (by kernel_rfl) (by kernel_rfl) (wy (dt q21_c7)) (λw=>aq zs0_c7) (cF (v:=vi j_c7) 6 rfl (by kernel_rfl) (by kernel_rfl) (wy (dt q21_c7)) (λw=>aq zs9_c7) ?_))
   replace cm:=cm.cn ch116
   refine fi (v:=Value.pointer (some (aB next_v 1 (Int.toNat j_c7)))) 7 [6,5,4,3,2,1,0,9,10,11,12,13] rfl (by kernel_rfl) (by kernel_rfl) (wy (dt q21_c7)) (ad (α:=Int) (xs:=ys_c7) (v:=next_v) (i:=j_c7) bF rfl rfl cm.flat rfl (by omega) (by omega)) (fi (v:=vi (gI ys_c7 j_c7)) 8 [7,6,5,4,3,2,1,0,9,10,11,12,13] rfl (by kernel_rfl) (by kernel_rfl) (wy (dt q21_c7)) (av (α:=Int) (xs:=ys_c7) (v:=next_v) (i:=j_c7) ah rfl cm.flat (by omega) (by omega) (by decide) rfl) (cF (v:=next_v) 9 rfl (by kernel_rfl) (by kernel_rfl) (wy (dt q21_c7)) (λw=>aq zs0_c7) ?_))
   refine cF (v:=vi j_c7) 10 rfl (by kernel_rfl) (by kernel_rfl) (wy (dt q21_c7)) (λw=>aq zs9_c7) (cF (v:=vi (j_c7-1)) 11 rfl (by kernel_rfl) (by kernel_rfl) (wy (dt q21_c7)) (λw=>ej (m:=j_c7) (n:=1) rfl rfl (by omega)) (fi (v:=Value.pointer (some (aB next_v 1 (Int.toNat (j_c7-1))))) 12 [11,10,9,8,7,6,5,4,3,2,1,0] rfl (by kernel_rfl) (by kernel_rfl) (wy (dt q21_c7)) (ad (α:=Int) (xs:=ys_c7) (v:=next_v) (i:=j_c7-1) bF rfl rfl cm.flat rfl (by omega) (by omega)) ?_))
   refine fi (v:=vi (gI ys_c7 (j_c7-1))) 13 [12,11,10,9,8,7,6,5,4,3,2,1,0] rfl (by kernel_rfl) (by kernel_rfl) (wy (dt q21_c7)) (av (α:=Int) (xs:=ys_c7) (v:=next_v) (i:=j_c7-1) ah rfl cm.flat (by omega) (by omega) (by decide) rfl) (b9 14 rfl (by kernel_rfl) (wy (dt q21_c7)) (br (ke (fid:=74) (vals:=[vi (gI ys_c7 j_c7),vi (gI ys_c7 (j_c7-1))]) (caps:=[vp b3 0,vp b8 0]) rfl Tryz.func74 vf ul rfl) (ap Tryz.func74 rfl nq ?_)))
   replace hps_v:=hps_v.cn ch116
   replace hho_v:=hho_v.cn ch116
   replace bx17:=bx17.cn ch116
   replace o31:=o31.cn ch116
   replace hle_v:=hle_v.cn ch116
   refine a7 (a6 rfl (ai 0 (ab (a7 (il g115 (inl [5]) fH ?_)))))
   intro w119 ch118
   replace bx5:=(bx5.cn ch116).cn ch118
   refine ht 0 rfl (aU.refl _ _ _) (λw' hw'=>a8 fk rfl (bx5.chg hw' (bI rfl)) rfl) (ht (v:=vi (gI ys_c7 j_c7)) 1 rfl (aU.refl _ _ _) (λw' hw'=>aq rfl) ?_)
   replace bx10:=(bx10.cn ch116).cn ch118
   refine ht 2 rfl (aU.refl _ _ _) (λw' hw'=>a8 ah rfl (bx10.chg hw' (bI rfl)) rfl) (ht 4 rfl (aU.refl _ _ _) (λw' hw'=>a8 fk rfl (bx5.chg hw' (bI rfl)) rfl) (ht (v:=vi (gI ys_c7 (j_c7-1))) 5 rfl (aU.refl _ _ _) (λw' hw'=>aq rfl) (ht 6 rfl (aU.refl _ _ _) (λw' hw'=>a8 ah rfl (bx10.chg hw' (bI rfl)) rfl) (az 3 rfl (by kernel_rfl) rfl ?_))))
   replace hps_v:=hps_v.cn ch118
   replace hho_v:=hho_v.cn ch118
   replace bx17:=bx17.cn ch118
   replace o31:=o31.cn ch118
   replace hle_v:=hle_v.cn ch118
   replace bx35:=(bx35.cn ch116).cn ch118
   replace ar_A:=(ar_A.cn ch116).cn ch118
   refine bE (aH (vals:=[vp n_b 0,vi (gI ys_c7 j_c7),vi i]) Tryz.func76 mj mI rfl) (nJ F w119 g115 n_b ps_v ps hps_v ho_v ho hho_v nu_v (List.set nu (Int.toNat i) (od.length:Int)) bx17 v29 (od++[i]) o31 le_v mq_c7 hle_v bx35 AR ar_A (gI ys_c7 j_c7) i (kf (gI ys_c7 j_c7)) (by exact hin) (by exact hpl) ‹_› (by exact hPP _ ‹_›)) ?_
   rintro⟨g121,le_n53⟩ w120 ⟨ch122,o124,hq123⟩
   clear hle_v
   have hs125:aU (inl [5]) _ _ _ _:=ch122.ll rfl
   refine⟨hs125.same,?_⟩
   refine az 7 rfl (by kernel_rfl) rfl (bE (aH (vals:=[vp n_b 0,vi (gI ys_c7 (j_c7-1)),vi i]) Tryz.func76 mj mI rfl) (nJ F w120 g121 n_b ps_v ps (hps_v.ca hs125) ho_v ho (hho_v.ca hs125) nu_v (List.set nu (Int.toNat i) (od.length:Int)) (bx17.ca hs125) v29 (od++[i]) (o31.ca hs125) le_v le_n53 o124 (bx35.ca hs125) AR (ar_A.ca hs125) (gI ys_c7 (j_c7-1)) i (kf (gI ys_c7 (j_c7-1))) (by exact hin) (by exact hpl) ‹_› (by exact hPP _ (hpb_c7 (by omega)))) ?_)
   rintro⟨g127,le_n54⟩ w126 ⟨ch128,o130,hq129⟩
   clear o124
   have hs131:=hs125.seq (ch128.ll rfl)
   refine⟨hs131.same,?_⟩
   refine az 8 rfl (by kernel_rfl) rfl (bV (v:=vi (cO (kf (gI ys_c7 j_c7)) (kf (gI ys_c7 (j_c7-1))))) (aH (vals:=[vi (kf (gI ys_c7 j_c7)),vi (kf (gI ys_c7 (j_c7-1)))]) Tryz.func75 uY wN rfl) (ir w126 (kf (gI ys_c7 j_c7)) (kf (gI ys_c7 (j_c7-1)))) ?_)
   intro w132 hb133
   replace hb133:=aN hb133 g127
   have hs134:=hs131.seq (hb133.n)
   refine⟨hs134.same,?_⟩
   refine ht (v:=vi (cO (kf (gI ys_c7 j_c7)) (kf (gI ys_c7 (j_c7-1))))) 9 rfl hs134.same (λw' hw'=>bm rfl) (bP (by kernel_rfl) (au (vs:=[vi (cO (kf (gI ys_c7 j_c7)) (kf (gI ys_c7 (j_c7-1))))]) Tryz.func74 (.tmp rfl .nil) ?_))
   refine⟨vi (cO (kf (gI ys_c7 j_c7)) (kf (gI ys_c7 (j_c7-1)))),rfl,?_⟩
   refine cF (v:=vb (decide ((cO (kf (gI ys_c7 j_c7)) (kf (gI ys_c7 (j_c7-1))))<0))) 15 rfl (by kernel_rfl) (by kernel_rfl) (wy (dt q21_c7)) (λw=>bw (m:=cO (kf (gI ys_c7 j_c7)) (kf (gI ys_c7 (j_c7-1)))) (n:=0) rfl rfl) (xp (v:=vb (decide ((cO (kf (gI ys_c7 j_c7)) (kf (gI ys_c7 (j_c7-1))))<0))) 16 rfl (λw=>bj rfl (dt q21_c7) rfl) (bS (by kernel_rfl) ?_))
   by_cases p4_c7:(cO (kf (gI ys_c7 j_c7)) (kf (gI ys_c7 (j_c7-1))))<0
   ·
    refine af rfl (dt p4_c7) (ao (a7 (am (bq g127 [0,1,2,3,4,5,6,7,8,9,10,11,12,13,14,16] fH ?_))))
    intro w136 ch135
    refine xp (v:=next_v) 0 rfl (λw=>aq zs0_c7) (xp (v:=vi j_c7) 1 rfl (λw=>aq zs9_c7) (xp (v:=next_v) 2 rfl (λw=>aq zs0_c7) (xp (v:=vi j_c7) 3 rfl (λw=>aq zs9_c7) (xp 4 rfl (λw=>ej (m:=j_c7) (n:=1) rfl rfl (by omega)) (xp (v:=next_v) 5 rfl (λw=>aq zs0_c7) (xp (v:=vi j_c7) 6 rfl (λw=>aq zs9_c7) (xp 7 rfl (λw=>ej (m:=j_c7) (n:=1) rfl rfl (by omega)) ?_)))))))
    have C137:=cg [5] (ch118.n.seq ((ch122.ll rfl).seq ((ch128.ll rfl).seq (hb133.n.seq ch135.n))))
    replace cm:=cm.ca C137
    refine xv 8 [7,6,5,4,3,2,1,0,10,11,12,13] rfl (ad (v:=next_v) (i:=j_c7-1) bF rfl rfl cm.flat rfl (by omega) (by omega)) (xv 9 [8,7,6,5,4,3,2,1,0,10,11,12,13] rfl (av (v:=next_v) (i:=j_c7-1) ah rfl cm.flat (by omega) (by omega) (by decide) rfl) (xp (v:=next_v) 10 rfl (λw=>aq zs0_c7) (xp (v:=vi j_c7) 11 rfl (λw=>aq zs9_c7) (xv 12 [11,10,9,8,7,6,5,4,3,2,1,0] rfl (ad (v:=next_v) (i:=j_c7) bF rfl rfl cm.flat rfl (by omega) (by omega)) (xv 13 [12,11,10,9,8,7,6,5,4,3,2,1,0] rfl (av (v:=next_v) (i:=j_c7) ah rfl cm.flat (by omega) (by omega) (by decide) rfl) ?_)))))
    refine xv 14 [13,12,11,10,9,8,7,6,5,4,3,2,1,0] rfl (ad (v:=next_v) (i:=j_c7) bF rfl rfl cm.flat rfl (by omega) (by omega)) (b9 15 rfl (by kernel_rfl) rfl (aZ (i:=j_c7) (gI ys_c7 (j_c7-1)) ah rfl rfl cm (by omega) (by omega) rfl ?_))
    intro w138 ch139 bx140
    clear cm
    refine xv 16 [15,14,13,12,11,10,9,8,7,6,5,4,3,2,1,0] rfl (ad (v:=next_v) (i:=j_c7-1) bF rfl rfl bx140.flat rfl (by omega) (by(simp only[List.length_set,List.length_append,List.length_cons,List.length_nil,List.length_replicate,List.length_map,List.length_take,List.length_drop];omega))) (b9 17 rfl (by kernel_rfl) rfl (aZ (i:=j_c7-1) (gI ys_c7 j_c7) ah rfl rfl bx140 (by omega) (by(simp only[List.length_set,List.length_append,List.length_cons,List.length_nil,List.length_replicate,List.length_map,List.length_take,List.length_drop];omega)) rfl ?_))
    intro w141 ch142 bx143
    clear bx140
    refine bS (by kernel_rfl) (ak (a6 rfl (mz zs9_c7 (lx (ej (m:=j_c7) (n:=1) rfl rfl (by omega)) (ai (j_c7-1) (ab ?_))))))
    have C145:=cg [5,14] ((ch122.ll rfl).seq ((ch128.ll rfl).seq (hb133.n.seq (ch135.n.seq ((ch139.l rfl).seq (ch142.l rfl))))))
    have C144:=ch116.n.seq (ch118.n.seq C145)
    have C146:=cg [14] (hb133.n.seq (ch135.n.seq ((ch139.l rfl).seq (ch142.l rfl))))
    refine back4_c7 (j_c7-1,(List.set (List.set ys_c7 (Int.toNat j_c7) (gI ys_c7 (j_c7-1))) (Int.toNat (j_c7-1)) (gI ys_c7 j_c7)),le_n54,g127) _ _ ⟨bH.chgN C144 (gS rfl),zs0_c7,zs1_c7,zs2_c7,zs3_c7,zs8_c7,rfl,hps_v.ca C145,hho_v.ca C145,o130.ca C146,ar_A.ca C145,bx5.ca C145,bx10.ca C145,bx17.ca C145,o31.ca C145,bx35.ca C145,bx143,?_⟩ ?_
    · show A6 kf PP next (List.set (List.set ys_c7 (Int.toNat j_c7) (gI ys_c7 (j_c7-1))) (Int.toNat (j_c7-1)) (gI ys_c7 j_c7)) i_c7 (j_c7-1)/\lm (ps.map (bo AR)) ho le_n54
      exact⟨hii1_c7.next ‹_› ‹_› rfl,by assumption⟩
    · show Int.toNat (j_c7-1)<Int.toNat j_c7
      omega
   refine ag rfl (df p4_c7) (aO rfl (ak (a6 rfl (mz zs8_c7 (lx (aS (m:=i_c7) (n:=1) rfl rfl (by omega)) (ai (i_c7+1) (ab ?_)))))))
   have C148:=cg [5] ((ch122.ll rfl).seq ((ch128.ll rfl).seq hb133.n))
   have C149:=ch118.n.seq C148
   have C147:=ch116.n.seq C149
   refine back1_c7 (i_c7+1,ys_c7,le_n54,g127) _ _ ⟨bH.chgN C147 (gS rfl),zs0_c7,zs1_c7,zs2_c7,zs3_c7,rfl,hps_v.ca C148,hho_v.ca C148,o130.cn hb133,ar_A.ca C148,bx5.ca C148,bx10.ca C148,bx17.ca C148,o31.ca C148,bx35.ca C148,cm.ca C149,?_⟩ ?_
   · show uV kf PP next ys_c7 (i_c7+1)/\lm (ps.map (bo AR)) ho le_n54
     exact⟨hii1_c7.done (by exact .inr ‹_›),by assumption⟩
   · show Int.toNat ((next.length:Int)-(i_c7+1))<Int.toNat ((next.length:Int)-i_c7)
     omega
  refine bz 4 rfl (by kernel_rfl) (by kernel_rfl) (wn (df q21_c7)) (bz 5 rfl (by kernel_rfl) (by kernel_rfl) (wn (df q21_c7)) (bz 6 rfl (by kernel_rfl) (by kernel_rfl) (wn (df q21_c7)) (bz 7 rfl (by kernel_rfl) (by kernel_rfl) (wn (df q21_c7)) (bz 8 rfl (by kernel_rfl) (by kernel_rfl) (wn (df q21_c7)) (bz 9 rfl (by kernel_rfl) (by kernel_rfl) (wn (df q21_c7)) (bz 10 rfl (by kernel_rfl) (by kernel_rfl) (wn (df q21_c7)) (bz 11 rfl (by kernel_rfl) (by kernel_rfl) (wn (df q21_c7)) (bz 12 rfl (by kernel_rfl) (by kernel_rfl) (wn (df q21_c7)) ?_))))))))
  refine bz 13 rfl (by kernel_rfl) (by kernel_rfl) (wn (df q21_c7)) (yr 14 rfl (by kernel_rfl) (wn (df q21_c7)) (bz 15 rfl (by kernel_rfl) (by kernel_rfl) (wn (df q21_c7)) (xp (v:=vb false) 16 rfl (λw=>bt rfl (df q21_c7) rfl) (bS (by kernel_rfl) (ag rfl rfl (aO rfl (ak (a6 rfl (mz zs8_c7 ?_)))))))))
  refine lx (aS (m:=i_c7) (n:=1) rfl rfl (by omega)) (ai (i_c7+1) (ab ?_))
  refine back1_c7 (i_c7+1,ys_c7,mq_c7,g115) _ _ ⟨bH.chgN ch116 se,zs0_c7,zs1_c7,zs2_c7,zs3_c7,rfl,hps_v.cn ch116,hho_v.cn ch116,hle_v.cn ch116,ar_A.cn ch116,bx5.cn ch116,bx10.cn ch116,bx17.cn ch116,o31.cn ch116,bx35.cn ch116,cm.cn ch116,?_⟩ ?_
  · show uV kf PP next ys_c7 (i_c7+1)/\lm (ps.map (bo AR)) ho mq_c7
    exact⟨hii1_c7.done (by exact .inl ‹_›),by assumption⟩
  · show Int.toNat ((next.length:Int)-(i_c7+1))<Int.toNat ((next.length:Int)-i_c7)
    omega
 refine ag rfl (df p1_c7) (aO rfl (dS (vs:=[]) Tryz.func103 .nil ?_))
 refine⟨vt [],rfl,?_⟩
 refine ab (au (vs:=[]) Tryz.func90 .nil ?_)
 refine⟨vt [],rfl,?_⟩
 refine ab (dS (vs:=[]) Tryz.func73 .nil ?_)
 refine⟨vt [],rfl,?_⟩
 refine ab (a7 ?_)
 have hxs:=hio1_c7.done (by omega)
 rw[hNX] at hxs
 refine a6 rfl (mz zs6 ?_)
 have len150:=(cm.flat).small
 refine lx (bp bF rfl cm.flat) (mi 0 (ab (am ?_)))
 refine aV (σ:=Value×(List Int)×Nat×(List Int)×((Pt->Int)×List Pt)×aw) (λ⟨n_b_3_v,n_b_3,q,nu9,mp,gq⟩ f w=>oJ [0,2] γr w0 gq w/\f 3=vp b3 0/\f 4=vp b8 0/\f 66=next_v/\f 67=vi (xs_c7.length:Int)/\f 68=vi ↑q/\Sl gq (is 0) w ps_v ps/\dr gq 2 w ho_v ho/\Md gq (is 5) w le_v mp.1 mp.2/\fV gq w AR.1 AR.2/\Bx gq (is 8) w b3 [vp n_b 0]/\Bx gq (is 9) w b8 [vi i]/\Ow gq (is 3) (is 3) w nu_v nu9/\Bx gq (is 7) w n_b [ps_v,ho_v,nu_v,n_b_3_v,le_v]/\Ow gq (is 14) (is 14) w next_v xs_c7/\Ow gq (is 4) (is 4) w n_b_3_v n_b_3/\(q:Int)<=((xs_c7.length:Int):Int)/\(u4 (lZ (ps.map (bo AR)) ho F f0) i xs_c7 nu od l q nu9 n_b_3/\lm (ps.map (bo AR)) ho mp)) (λ⟨n_b_3_v,n_b_3,q,nu9,mp,gq⟩=>Int.toNat (((xs_c7.length:Int):Int)-(q:Int))) (v29,(od++[i]),0,(List.set nu (Int.toNat i) (od.length:Int)),mp_c7,g112) ?_ ?_
 · exact⟨bH,zs3,zs4,rfl,rfl,rfl,hps_v,hho_v,hle_v,ar_A,bx5,bx10,bx17,bx35,cm,o31,by omega,by exact⟨u4.start (by rw[hxs,hkf];exact hod1) hld,by assumption⟩⟩
 clear hps_v hho_v hle_v ar_A bx5 bx10 bx17 o31 bx35 cm bH
 rintro⟨n_b_3_v,n_b_3,q,nu9,mp,g153⟩ f151 w152 ⟨bH,zs3,zs4,zs66,zs67,zs68,hps_v,hho_v,hle_v,ar_A,bx5,bx10,bx17,bx35,cm,o_n_b_3,hle_q,hfq⟩ back14
 obtain⟨hfn,hme⟩:=hfq
 obtain⟨hfl1,hfl2⟩:=hfn.len
 refine a7 (a6 rfl (lx (bw (m:=↑q) (n:=(xs_c7.length:Int)) zs68 zs67) (ab (a7 ?_))))
 by_cases p14:(q:Int)<(xs_c7.length:Int)
 ·
  refine af rfl (dt p14) (ao (a7 (am (a7 (a6 rfl (lx (ad (v:=next_v) (i:=↑q) bF rfl zs66 cm.flat zs68 (by omega) (by omega)) (lx (av (v:=next_v) (i:=↑q) ah rfl cm.flat (by omega) (by omega) (by decide) rfl) (ai (gI xs_c7 ↑q) (ab ?_)))))))))
  obtain⟨b2,hb2,hb3,hb4⟩:=hfn.one ‹_›
  refine a6 rfl (lx (a8 fk zs3 bx5 rfl) (mi (gI xs_c7 ↑q) (lx (a8 ah zs4 bx10 rfl) (lo (bE (aH (vals:=[vp n_b 0,vi (gI xs_c7 ↑q),vi i]) Tryz.func49 qc pD rfl) (ih f0 (by omega) w152 g153 n_b ps_v ps hps_v ho_v ho hho_v nu_v nu9 bx17 n_b_3_v n_b_3 o_n_b_3 le_v mp hle_v bx35 AR ar_A (gI xs_c7 ↑q) i F b2 (by exact hin) (by exact hpl) (by exact hme) (by omega) (by omega) (by exact hb2)) ?_)))))
  rintro⟨g155,nu2,od2_v,od2,mp57⟩ w154 ⟨ch156,o158,o159,o160,bx161,hq157⟩
  clear hle_v bx17 bx35 o_n_b_3
  obtain⟨⟨hr1,hr2⟩,hr3⟩:=hq157
  refine ab (ak (a6 rfl (lx (aS (m:=↑q) (n:=1) zs68 rfl (by omega)) (mi ((q:Int)+1) (ab ?_)))))
  refine back14 (od2_v,od2,q+1,nu2,mp57,g155) _ _ ⟨bH.chgN ch156 (gS rfl),zs3,zs4,zs66,zs67,rfl,hps_v.ca ch156,hho_v.ca ch156,o160,ar_A.ca ch156,bx5.ca ch156,bx10.ca ch156,o158,bx161,cm.ca ch156,o159,by omega,?_⟩ ?_
  · show u4 (lZ (ps.map (bo AR)) ho F f0) i xs_c7 nu od l (q+1) nu2 od2/\lm (ps.map (bo AR)) ho mp57
    exact⟨by rw[hr1,hr2];exact hb4,hr3⟩
  · show Int.toNat (_-_)<Int.toNat (_-_)
    omega
 refine ag rfl (df p14) (aO rfl (dS (vs:=[]) Tryz.func49 .nil ?_))
 subst hγr
 obtain⟨γf,hcN,hcF⟩:=bH.fin (Lc:=[3,4,5,7]) rfl rfl rfl
 have hinvN:(nu9=gM nu (od.length:Int) l/\n_b_3=od++l)/\lm (ps.map (bo AR)) ho mp:=by
   exact⟨hfn.done ‹_›,by assumption⟩
 exact⟨(γf,nu9,n_b_3_v,n_b_3,mp),rfl,hcN,bx17.chg hcF (dh rfl) (dh rfl),o_n_b_3.chg hcF (dh rfl) (dh rfl),hle_v.chg hcF (dh rfl),bx35.chg hcF (dh rfl),hinvN⟩
end TL
