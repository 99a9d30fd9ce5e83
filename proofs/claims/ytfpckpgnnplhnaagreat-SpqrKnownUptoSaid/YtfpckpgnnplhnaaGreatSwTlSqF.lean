import Derived.Test.YtfpckpgnnplhnaaGreatSwTlSqE
import Derived.Test.YtfpckpgnnplhnaaGreatSwTlGenA
import Derived.Test.YtfpckpgnnplhnaaGreatSwTlGmA
import Derived.Test.YtfpckpgnnplhnaaGreatSwTlAli
set_option linter.all false
set_option maxRecDepth 20000
namespace TL
open Go Go.Proofs
theorem fV:Tryz.prog.follows .mixedOrders=true:=by kernel_rfl
theorem fF:Tp Tryz.prog 84 false 1 8 (.pointer none):=Tp.of (by kernel_rfl)
theorem qF:Tryz.f49.body.isNone=false:=rfl
theorem s6:(Tryz.f49.name== "runtime.NumGoroutine")=false:=by decide+kernel
theorem yJ:Tryz.f73.body.isNone=false:=rfl
theorem wd:(Tryz.f73.name== "runtime.NumGoroutine")=false:=by decide+kernel
theorem zp:Tryz.f74.body.isNone=false:=rfl
theorem wr:(Tryz.f74.name== "runtime.NumGoroutine")=false:=by decide+kernel
theorem Ao:Tryz.f75.body.isNone=false:=rfl
theorem x9:(Tryz.f75.name== "runtime.NumGoroutine")=false:=by decide+kernel
theorem zl:Tryz.f90.body.isNone=false:=rfl
theorem wV:(Tryz.f90.name== "runtime.NumGoroutine")=false:=by decide+kernel
theorem AA:Tryz.f91.body.isNone=false:=rfl
theorem AG:(Tryz.f91.name== "runtime.NumGoroutine")=false:=by decide+kernel
theorem vG:Tryz.f103.body.isNone=false:=rfl
theorem uB:(Tryz.f103.name== "runtime.NumGoroutine")=false:=by decide+kernel
theorem vU:Tryz.f112.body.isNone=false:=rfl
theorem uw:(Tryz.f112.name== "runtime.NumGoroutine")=false:=by decide+kernel
set_option maxHeartbeats 4000000 in
theorem CA:∀(fu:Nat) (w0:World) (γ0:ax) (n_b:Nat) (ps_v:Value) (ps:List Pp) (hps_v:Sl γ0 (is 0) w0 ps_v ps) (ho_v:Value) (ho:j7) (hho_v:dr γ0 2 w0 ho_v ho) (nu_v:Value) (nu:List Int) (hnu_v:Ow γ0 (is 3) (is 3) w0 nu_v nu) (od_v:Value) (od:List Int) (hod_v:Ow γ0 (is 4) (is 4) w0 od_v od) (le_v:Value) (le:(Pt->Int)×List Pt) (hle_v:Md γ0 (is 5) w0 le_v le.1 le.2) (hn_b:Bx γ0 (is 7) w0 n_b [ps_v,ho_v,nu_v,od_v,le_v]) (AR:List Pp×List (ch Bd)) (ar_A:gC γ0 w0 AR.1 AR.2) (i:Int) (fr:Int) (F:Nat) (l:List Int) (hin:∀u∈ps,u∈AR.1) (hpl:(ps.length:Int)<=100001) (hm:mu (ps.map (bt AR)) ho le) (hnl:nu.length=ps.length) (hol:(od.length:Int)+l.length<=100001) (hor:nU (ps.map (bt AR)) ho F fu i fr=some l),
    Calls Tryz.prog 49 #[vp n_b 0,vi i,vi fr] w0 (λee w=>∃xx:ax×(List Int)×Value×(List Int)×((Pt->Int)×List Pt),ee= .returned ((λ(⟨γ1,nu1,od1_v,od1,le1⟩:ax×(List Int)×Value×(List Int)×((Pt->Int)×List Pt))=>vt []) xx)/\(λ(⟨γ1,nu1,od1_v,od1,le1⟩:ax×(List Int)×Value×(List Int)×((Pt->Int)×List Pt)) (w:World)=>bg (inl [3,4,5,7]) γ0 w0 γ1 w/\Ow γ1 (is 3) (is 3) w nu_v nu1/\Ow γ1 (is 4) (is 4) w od1_v od1/\Md γ1 (is 5) w le_v le1.1 le1.2/\Bx γ1 (is 7) w n_b [ps_v,ho_v,nu_v,od1_v,le_v]/\((nu1=ii nu (od.length:Int) l/\od1=od++l)/\mu (ps.map (bt AR)) ho le1)) xx w):=by
 intro fu
 induction fu using Nat.strongRecOn
 rename_i fu ih
 intro w0 γ0 n_b ps_v ps hps_v ho_v ho hho_v nu_v nu hnu_v od_v od hod_v le_v le hle_v hn_b AR ar_A i fr F l hin hpl hm hnl hol hor
 obtain⟨γr,hγr,hch0⟩:∃γr,γr=oe [0,2,3,4,5,7] γ0/\bg (DC [0,2,3,4,5,7]) γ0 w0 γr w0:=⟨_,rfl,qR _ _ _⟩
 replace hps_v:=hps_v.chg hch0 (dq rfl)
 replace hho_v:=hho_v.chg hch0 (dq rfl)
 replace hnu_v:=hnu_v.chg hch0 (dq rfl) (dq rfl)
 replace hod_v:=hod_v.chg hch0 (dq rfl) (dq rfl)
 replace hle_v:=hle_v.chg hch0 (dq rfl)
 replace hn_b:=hn_b.chg hch0 (dq rfl)
 replace ar_A:=ar_A.chg hch0 (dq rfl)
 clear hch0
 refine ah Tryz.func49 rfl nq ?_
 have bH:qk [0,2] γr w0 γr w0:=qk.start
 obtain⟨f0,NX,dn,rfl,⟨hi0,hi1⟩,hnx,hn12,hbe,hod1,hld⟩:=tF hor
 have hVl:(ps.map (bt AR)).length=ps.length:=List.length_map ..
 rw[hVl] at hi1
 have hvi:gI (ps.map (bt AR)) i=(gI AR.2 ((AR.1.idxOf (gI ps i):Nat):Int)):=jf hi0 hi1
 rw[hvi] at hnx
 have hll:1<=l.length:=by rw[hld,List.length_cons];omega
 refine a7 (a6 rfl (cy rfl (bU γr (is 8) (8,0) rfl rfl ?_)))
 intro g4 w1 b3 ch2 bx5
 refine lo (bU g4 (is 9) (9,0) rfl rfl ?_)
 intro g9 w6 b8 ch7 bx10
 refine ab (a7 (bp g9 [0,1,2,3,4,5,6,7,8,9,10] fV ?_))
 intro w12 ch11
 refine xv 0 [4,5,6,7,8,9] rfl (a8 fF rfl bx5.t rfl) (xp (v:=vp n_b 0) 1 rfl (λw=>ae rfl) (xp 2 rfl (λw=>aa sa rfl rfl rfl rfl) ?_))
 refine xv 3 [2,1,0,4,5,6,7,8,9] rfl (a8 fz rfl hn_b.t rfl) ?_
 refine xv 4 [3,2,1,0,5,6,7,8,9] rfl (a8 ap rfl bx10.t rfl) (xv 5 [4,3,2,1,0] rfl (a8 fF rfl bx5.t rfl) (xp (v:=vp n_b 0) 6 rfl (λw=>ae rfl) (xp 7 rfl (λw=>aa sa rfl rfl rfl rfl) (xv 8 [7,6,5,4,3,2,1,0] rfl (a8 fz rfl hn_b.t rfl) ?_))))
 have len14:=((hod_v.a ch11).flat).small
 refine xp 9 rfl (λw=>bG bF rfl hod_v.t.flat) ?_
 refine xv 10 [9,8,7,6,5,4,3,2,1,0] rfl (ad (v:=nu_v) (i:=i) bF rfl rfl hnu_v.t.flat rfl (by omega) (by omega)) (cE 11 rfl (aU (i:=i) (od.length:Int) ap rfl rfl hnu_v.t (by omega) (by omega) rfl ?_))
 intro w15 ch16 bx17
 clear hnu_v
 refine bV (by kernel_rfl) (a7 ?_)
 refine dD (σ:=Value×ax) (λ⟨v29,gq⟩ f w=>qk [0,2] γr w0 gq w/\f 2=vi fr/\f 3=vp b3 0/\f 4=vp b8 0/\Sl gq (is 0) w ps_v ps/\dr gq 2 w ho_v ho/\Md gq (is 5) w le_v le.1 le.2/\gC gq w AR.1 AR.2/\Bx gq (is 8) w b3 [vp n_b 0]/\Bx gq (is 9) w b8 [vi i]/\Ow gq (is 3) (is 3) w nu_v (List.set nu (Int.toNat i) (od.length:Int))/\Ow gq (is 4) (is 4) w v29 (od++[i])/\Bx gq (is 7) w n_b [ps_v,ho_v,nu_v,v29,le_v]) g9 (inl [4,7]) fV ?_ ?_
 ·
  intro mid
  intro w19 ch18
  refine ht 0 rfl (bg.refl _ _ _) (λw' hw'=>a8 fF rfl bx5.t rfl) (ht 1 rfl (bg.refl _ _ _) (λw' hw'=>a8 fF rfl bx5.t rfl) (ht (v:=vp n_b 0) 2 rfl (bg.refl _ _ _) (λw' hw'=>ae rfl) (ht 3 rfl (bg.refl _ _ _) (λw' hw'=>aa sa rfl rfl rfl rfl) ?_)))
  refine ht 5 rfl (bg.refl _ _ _) (λw' hw'=>a8 ap rfl bx10.t rfl) ?_
  refine cj 4 [6] (by kernel_rfl) ⟨ca 4 rfl (by kernel_rfl) rfl ?_,ca 6 rfl (by kernel_rfl) rfl ?_,trivial⟩
  ·
   refine ao (v:=od_v) (a8 fz rfl hn_b.t rfl) ?_
   refine⟨(bg.refl _ _ _),?_⟩
   refine bY 6 rfl (aq (α:=Int) g9 (is 10) (is 10) (10,0) rfl [i] bF ap (by decide) (by decide) (vs:=[(0,vi i)]) rfl rfl (.cons rfl .nil) ?_)
   intro g20 w21 v22 ch23 o24
   have hs25:bg (inl [4,7]) _ _ _ _:=ch23.n
   refine⟨hs25.same,?_⟩
   refine bY 7 rfl ?_
   refine aS (α:=Int) (xs:=od) (ys:=([i])) g20 (J:=is 4) (S:=is 4) (4,0) rfl bF ap (by decide) rfl rfl rfl hod_v.t o24.flat (by decide) (by(simp;omega)) ?_
   intro g27 w28 v29 ch30 o31
   clear hod_v
   have hs32:=hs25.seq (ch30.l rfl)
   refine⟨hs32.same,?_⟩
   refine ht (v:=vp n_b 0) 8 rfl hs32.same (λw' hw'=>ae rfl) (ht 9 rfl hs32.same (λw' hw'=>aa sa rfl rfl rfl rfl) (bY 10 rfl ?_))
   refine aC (cs':=[ps_v,ho_v,nu_v,v29,le_v]) fz rfl rfl hn_b.t (aL o31.flat) nq (aM o31.flat) rfl ?_
   intro w33 ch34 bx35
   clear hn_b
   have hs36:=hs32.seq (ch34.l rfl)
   refine⟨hs36.same,?_⟩
   refine ce (by kernel_rfl) ?_
   have C37:=cg [3,4,7] (ch2.o (ch7.o (ch11.o (ch16.s (ch18.o (ch23.o (ch30.s ch34.e)))))))
   exact mid (v29,g27) _ _ ⟨bH.chgN C37 (ir rfl),rfl,rfl,rfl,hps_v.t,hho_v.t,hle_v.t,ar_A.t,bx5.t,bx10.t,bx17.t,o31.t,bx35⟩
  ·
   refine aq (α:=Int) g9 (is 10) (is 10) (10,0) rfl [i] bF ap (by decide) (by decide) (vs:=[(0,vi i)]) rfl rfl (.cons rfl .nil) ?_
   intro g39 w40 v41 ch42 o43
   have hs44:bg (inl [4,7]) _ _ _ _:=ch42.n
   refine⟨hs44.same,?_⟩
   refine bY 4 rfl ?_
   refine ao (v:=od_v) (a8 fz rfl hn_b.t rfl) ?_
   refine⟨hs44.same,?_⟩
   refine bY 7 rfl ?_
   refine aS (α:=Int) (xs:=od) (ys:=([i])) g39 (J:=is 4) (S:=is 4) (4,0) rfl bF ap (by decide) rfl rfl rfl hod_v.t o43.flat (by decide) (by(simp;omega)) ?_
   intro g46 w47 v48 ch49 o50
   clear hod_v
   have hs51:=hs44.seq (ch49.l rfl)
   refine⟨hs51.same,?_⟩
   refine ht (v:=vp n_b 0) 8 rfl hs51.same (λw' hw'=>ae rfl) (ht 9 rfl hs51.same (λw' hw'=>aa sa rfl rfl rfl rfl) (bY 10 rfl ?_))
   refine aC (cs':=[ps_v,ho_v,nu_v,v48,le_v]) fz rfl rfl hn_b.t (aL o50.flat) nq (aM o50.flat) rfl ?_
   intro w52 ch53 bx54
   clear hn_b
   have hs55:=hs51.seq (ch53.l rfl)
   refine⟨hs55.same,?_⟩
   refine ce (by kernel_rfl) ?_
   have C56:=cg [3,4,7] (ch2.o (ch7.o (ch11.o (ch16.s (ch18.o (ch42.o (ch49.s ch53.e)))))))
   exact mid (v48,g46) _ _ ⟨bH.chgN C56 (ir rfl),rfl,rfl,rfl,hps_v.t,hho_v.t,hle_v.t,ar_A.t,bx5.t,bx10.t,bx17.t,o50.t,bx54⟩
 clear hps_v hho_v hod_v hle_v hn_b ar_A bx5 bx10 bx17 bH
 rintro⟨v29,g60⟩ f58 w59 ⟨bH,zs2,zs3,zs4,hps_v,hho_v,hle_v,ar_A,bx5,bx10,bx17,o31,bx35⟩
 refine a7 (a6 rfl (ma vn (ab (a7 (a7 (dy g60 rfl fV (by kernel_rfl) ?_))))))
 intro w62 ch61
 refine qx (λw' hw'=>a8 fF zs3 (bx5.t.bel hw') rfl) (qv (vp n_b 0) (λw' hw'=>ae rfl) (qx (λw' hw'=>aa sa rfl rfl rfl rfl) ?_))
 refine qx (λw' hw'=>a8 qH rfl (bx35.t.bel hw') rfl) ?_
 refine qx (λw' hw'=>a8 ap zs4 (bx10.t.bel hw') rfl) ?_
 refine qx (λw' hw'=>ad (v:=ps_v) (i:=i) jH rfl rfl (hps_v.t.bel hw') rfl (by omega) (by omega)) (qx (λw' hw'=>aw (v:=ps_v) (i:=i) lf rfl (hps_v.t.bel hw') (by omega) (by omega) (by decide) rfl) (qv (Value.pointer (some ⟨(gI ps i).n,0,none⟩)) (λw' hw'=>ae rfl) (qx (λw' hw'=>aa dV rfl rfl rfl rfl) ?_)))
 obtain⟨v63,bx64,o65⟩:=gC.gt (u:=(gI ps i)) (ar_A.a ch61) (j:=(AR.1.idxOf (gI ps i))) (by exact fB (hin _ (bz (by omega) (by omega))))
 refine qx (λw' hw'=>a8 iG rfl (bx64.bel hw') rfl) ?_
 have len66:=(o65).small
 refine qx (λw' hw'=>bG cM rfl (o65.bel hw')) (qm (vi 0) (gf ?_))
 intro w67 hc68
 replace hc68:=aG hc68 g60
 refine aj ?_
 clear bx64
 refine aR (σ:=Nat×Value×(List Int)×ax) (λ⟨j,next_v,next,gq⟩ f w=>qk [0,2] γr w0 gq w/\f 2=vi fr/\f 3=vp b3 0/\f 4=vp b8 0/\f 6=next_v/\f 42=v63/\f 43=vi (List.length ((gI AR.2 (((AR.1.idxOf (gI ps i)):Nat):Int)).2):Int)/\f 44=vi ↑j/\Sl gq (is 0) w ps_v ps/\dr gq 2 w ho_v ho/\Md gq (is 5) w le_v le.1 le.2/\gC gq w AR.1 AR.2/\Bx gq (is 8) w b3 [vp n_b 0]/\Bx gq (is 9) w b8 [vi i]/\Ow gq (is 3) (is 3) w nu_v (List.set nu (Int.toNat i) (od.length:Int))/\Ow gq (is 4) (is 4) w v29 (od++[i])/\Bx gq (is 7) w n_b [ps_v,ho_v,nu_v,v29,le_v]/\Sl gq (is 0) w v63 ((gI AR.2 (((AR.1.idxOf (gI ps i)):Nat):Int)).2)/\Ow gq (is 14) (is 14) w next_v next/\(j:Int)<=((List.length ((gI AR.2 (((AR.1.idxOf (gI ps i)):Nat):Int)).2):Int):Int)/\(nW ho i fr (gI AR.2 ((AR.1.idxOf (gI ps i):Nat):Int)).2 NX next j)) (λ⟨j,next_v,next,gq⟩=>Int.toNat (((List.length ((gI AR.2 (((AR.1.idxOf (gI ps i)):Nat):Int)).2):Int):Int)-(j:Int))) (0,vn,[],g60) ?_ ?_
 replace bH:=bH.chgN ch61 tT
 · exact⟨bH.chgN hc68 tT,zs2,zs3,zs4,rfl,rfl,rfl,rfl,hps_v.t,hho_v.t,hle_v.t,ar_A.t,bx5.t,bx10.t,bx17.t,o31.t,bx35.t,o65.t,Ow.nil,by omega,by exact nW.start hnx⟩
 clear hps_v hho_v hle_v ar_A bx5 bx10 bx17 o31 bx35 o65 bH
 rintro⟨j,next_v,next,g71⟩ f69 w70 ⟨bH,zs2,zs3,zs4,zs6,zs42,zs43,zs44,hps_v,hho_v,hle_v,ar_A,bx5,bx10,bx17,o31,bx35,o65,cC,hle_j,hnj⟩ back5
 have hnl2:=hnj.len
 refine a7 (a6 rfl (lx (br (m:=↑j) (n:=(List.length ((gI AR.2 (((AR.1.idxOf (gI ps i)):Nat):Int)).2):Int)) zs44 zs43) (ab (a7 ?_))))
 by_cases p5:(j:Int)<(List.length ((gI AR.2 (((AR.1.idxOf (gI ps i)):Nat):Int)).2):Int)
 ·
  refine ag rfl (dt p5) (am (a7 (aj (a7 (a6 rfl (lx (ad (v:=v63) (i:=↑j) cM rfl zs42 o65 zs44 (by omega) (by omega)) (lw (vg [vi ((gI ((gI AR.2 (((AR.1.idxOf (gI ps i)):Nat):Int)).2) (j:Int)).1),vi (((gI ((gI AR.2 (((AR.1.idxOf (gI ps i)):Nat):Int)).2) (j:Int)).2).1),vi ((((gI ((gI AR.2 (((AR.1.idxOf (gI ps i)):Nat):Int)).2) (j:Int)).2).2).1),vi ((((gI ((gI AR.2 (((AR.1.idxOf (gI ps i)):Nat):Int)).2) (j:Int)).2).2).2)]) (bW (v:=v63) (i:=↑j) dZ rfl o65 (by omega) (by omega) rfl) (lo (aZ g71 (is 11) (11,0) rfl dZ ?_)))))))))
  intro g75 w72 b74 ch73 bx76
  refine lo (aA (cs':=[vi ((gI ((gI AR.2 (((AR.1.idxOf (gI ps i)):Nat):Int)).2) (j:Int)).1),vi (((gI ((gI AR.2 (((AR.1.idxOf (gI ps i)):Nat):Int)).2) (j:Int)).2).1),vi ((((gI ((gI AR.2 (((AR.1.idxOf (gI ps i)):Nat):Int)).2) (j:Int)).2).2).1),vi ((((gI ((gI AR.2 (((AR.1.idxOf (gI ps i)):Nat):Int)).2) (j:Int)).2).2).2)]) dZ rfl rfl bx76 rfl nq (AllOne.all (.cons rfl (.cons rfl (.cons rfl (.cons rfl .nil))))) rfl ?_)
  intro w77 ch78 bx79
  clear bx76
  refine ab (a7 (a7 (a6 rfl (lx (av (ds:=[vi ((gI ((gI AR.2 (((AR.1.idxOf (gI ps i)):Nat):Int)).2) (j:Int)).1),vi (((gI ((gI AR.2 (((AR.1.idxOf (gI ps i)):Nat):Int)).2) (j:Int)).2).1),vi ((((gI ((gI AR.2 (((AR.1.idxOf (gI ps i)):Nat):Int)).2) (j:Int)).2).2).1),vi ((((gI ((gI AR.2 (((AR.1.idxOf (gI ps i)):Nat):Int)).2) (j:Int)).2).2).2)]) dZ rfl bx79 rfl rfl) (lo ?_)))))
  refine aV (aB (vals:=[vg [vi ((gI ((gI AR.2 (((AR.1.idxOf (gI ps i)):Nat):Int)).2) (j:Int)).1),vi (((gI ((gI AR.2 (((AR.1.idxOf (gI ps i)):Nat):Int)).2) (j:Int)).2).1),vi ((((gI ((gI AR.2 (((AR.1.idxOf (gI ps i)):Nat):Int)).2) (j:Int)).2).2).1),vi ((((gI ((gI AR.2 (((AR.1.idxOf (gI ps i)):Nat):Int)).2) (j:Int)).2).2).2)]]) Tryz.func51 mV nV rfl) (ah Tryz.func51 rfl nq (a7 (a6 rfl (cy rfl (bU g75 (is 12) (12,0) rfl rfl ?_)))))
  intro g83 w80 b82 ch81 bx84
  refine ma (vb false) (ab (a7 (a6 rfl (lx (aa jg rfl rfl rfl rfl) (lx (a8 ap rfl bx84 rfl) (lx (eL (m:=(((gI ((gI AR.2 (((AR.1.idxOf (gI ps i)):Nat):Int)).2) (j:Int)).2).2).1) (n:=0) rfl rfl) (ma (vb (decide (0<=((((gI ((gI AR.2 (((AR.1.idxOf (gI ps i)):Nat):Int)).2) (j:Int)).2).2).1)))) (ab (az (vs:=[vb (decide (0<=((((gI ((gI AR.2 (((AR.1.idxOf (gI ps i)):Nat):Int)).2) (j:Int)).2).2).1)))]) Tryz.func51 (.tmp rfl .nil) ?_)))))))))
  refine⟨vb (decide (0<=((((gI ((gI AR.2 (((AR.1.idxOf (gI ps i)):Nat):Int)).2) (j:Int)).2).2).1))),rfl,?_⟩
  refine ab ?_
  by_cases p7:0<=((((gI ((gI AR.2 (((AR.1.idxOf (gI ps i)):Nat):Int)).2) (j:Int)).2).2).1)
  ·
   refine ag rfl (dt p7) (aF rfl ?_)
   clear bx79 bx84
   refine a6 rfl (lx (aJ (m:=↑j) (n:=1) zs44 rfl (by omega)) (mi ((j:Int)+1) (ab ?_)))
   have C85:=cg [11] (ch73.o (ch78.s ch81.n))
   refine back5 (j+1,next_v,next,g83) _ _ ⟨bH.chgN C85 (ir rfl),zs2,zs3,zs4,zs6,zs42,zs43,rfl,hps_v.t,hho_v.t,hle_v.t,ar_A.t,bx5.t,bx10.t,bx17.t,o31.t,bx35.t,o65.t,cC.t,by omega,?_⟩ ?_
   · show nW ho i fr (gI AR.2 ((AR.1.idxOf (gI ps i):Nat):Int)).2 NX next (j+1)
     exact hnj.real ‹_› (by omega)
   · show Int.toNat (_-_)<Int.toNat (_-_)
     omega
  refine af rfl (df p7) (am (a7 ?_))
  clear bx84
  obtain⟨hq1,hq2,hq3,hq4,hq5,hq6,hq7⟩:=hnj.ok ‹_› ‹_›
  refine a6 rfl ?_
  refine lx (a8 fF zs3 bx5.t rfl) ?_
  refine lx (a8 ap zs4 bx10.t rfl) (lx (aa jg rfl rfl rfl rfl) ?_)
  refine lx (a8 ap rfl bx79.t rfl) (lo (aV (aB (vals:=[vp n_b 0,vi i,vi ((((gI ((gI AR.2 (((AR.1.idxOf (gI ps i)):Nat):Int)).2) (j:Int)).2).2).2)]) Tryz.func72 rG ry rfl) (ah Tryz.func72 rfl nq ?_)))
  refine a7 (a6 rfl (ai 0 (ab (a7 (a6 rfl (mv (vp n_b 0) (lw (vp n_b 0) (ae rfl) (lx (aa sa rfl rfl rfl rfl) ?_))))))))
  refine lx (a8 qY rfl bx35.t rfl) (mi ((((gI ((gI AR.2 (((AR.1.idxOf (gI ps i)):Nat):Int)).2) (j:Int)).2).2).2) (lx (ad (v:=ho_v) (i:=(((gI ((gI AR.2 (((AR.1.idxOf (gI ps i)):Nat):Int)).2) (j:Int)).2).2).2) fh rfl rfl hho_v.t.sl rfl (by omega) (by omega)) ?_))
  obtain⟨v87,cel88,r89⟩:=cG (r:=(((gI ((gI AR.2 (((AR.1.idxOf (gI ps i)):Nat):Int)).2) (j:Int)).2).2).2) (hho_v.a ch81) (by omega) (by omega)
  refine lx (cv fz rfl cel88) (ma v87 (ab (a7 (dy g83 rfl fV (by kernel_rfl) ?_))))
  intro w91 ch90
  refine qm v87 ?_
  refine qx (λw' hw'=>ad (v:=v87) (i:=0) bF rfl rfl (r89.t.row_sl.bel hw') rfl (by omega) (by omega)) (qx (λw' hw'=>aw (v:=v87) (i:=0) ap rfl (r89.t.row_sl.bel hw') (by omega) (by omega) (by decide) rfl) (qm v87 (qx (λw' hw'=>ad (v:=v87) (i:=1) bF rfl rfl (r89.t.row_sl.bel hw') rfl (by omega) (by omega)) (qx (λw' hw'=>aw (v:=v87) (i:=1) ap rfl (r89.t.row_sl.bel hw') (by omega) (by omega) (by decide) rfl) (qx (λw' hw'=>aJ (m:=(gI (gI ho ((((gI ((gI AR.2 (((AR.1.idxOf (gI ps i)):Nat):Int)).2) (j:Int)).2).2).2)) 0)) (n:=(gI (gI ho ((((gI ((gI AR.2 (((AR.1.idxOf (gI ps i)):Nat):Int)).2) (j:Int)).2).2).2)) 1)) rfl rfl (by omega)) (qm (vi i) ?_))))))
  refine qx (λw' hw'=>da (m:=(gI (gI ho ((((gI ((gI AR.2 (((AR.1.idxOf (gI ps i)):Nat):Int)).2) (j:Int)).2).2).2)) 0)+(gI (gI ho ((((gI ((gI AR.2 (((AR.1.idxOf (gI ps i)):Nat):Int)).2) (j:Int)).2).2).2)) 1)) (n:=i) rfl rfl (by omega)) (qv (vi (((gI (gI ho ((((gI ((gI AR.2 (((AR.1.idxOf (gI ps i)):Nat):Int)).2) (j:Int)).2).2).2)) 0)+(gI (gI ho ((((gI ((gI AR.2 (((AR.1.idxOf (gI ps i)):Nat):Int)).2) (j:Int)).2).2).2)) 1))-i)) (λw' hw'=>bK rfl) (gf ?_))
  intro w92 hc93
  replace hc93:=aG hc93 g83
  refine az (vs:=[vi (((gI (gI ho ((((gI ((gI AR.2 (((AR.1.idxOf (gI ps i)):Nat):Int)).2) (j:Int)).2).2).2)) 0)+(gI (gI ho ((((gI ((gI AR.2 (((AR.1.idxOf (gI ps i)):Nat):Int)).2) (j:Int)).2).2).2)) 1))-i)]) Tryz.func72 (.tmp rfl .nil) ?_
  refine⟨vi (((gI (gI ho ((((gI ((gI AR.2 (((AR.1.idxOf (gI ps i)):Nat):Int)).2) (j:Int)).2).2).2)) 0)+(gI (gI ho ((((gI ((gI AR.2 (((AR.1.idxOf (gI ps i)):Nat):Int)).2) (j:Int)).2).2).2)) 1))-i),rfl,?_⟩
  refine ai (((gI (gI ho ((((gI ((gI AR.2 (((AR.1.idxOf (gI ps i)):Nat):Int)).2) (j:Int)).2).2).2)) 0)+(gI (gI ho ((((gI ((gI AR.2 (((AR.1.idxOf (gI ps i)):Nat):Int)).2) (j:Int)).2).2).2)) 1))-i) (ab (a7 ?_))
  clear bx79 cel88 r89
  refine a6 rfl (mi (((gI (gI ho ((((gI ((gI AR.2 (((AR.1.idxOf (gI ps i)):Nat):Int)).2) (j:Int)).2).2).2)) 0)+(gI (gI ho ((((gI ((gI AR.2 (((AR.1.idxOf (gI ps i)):Nat):Int)).2) (j:Int)).2).2).2)) 1))-i) (mz zs2 (lx (du (m:=((gI (gI ho ((((gI ((gI AR.2 (((AR.1.idxOf (gI ps i)):Nat):Int)).2) (j:Int)).2).2).2)) 0)+(gI (gI ho ((((gI ((gI AR.2 (((AR.1.idxOf (gI ps i)):Nat):Int)).2) (j:Int)).2).2).2)) 1))-i) (n:=fr) rfl rfl) (ab ?_))))
  by_cases p9:(((gI (gI ho ((((gI ((gI AR.2 (((AR.1.idxOf (gI ps i)):Nat):Int)).2) (j:Int)).2).2).2)) 0)+(gI (gI ho ((((gI ((gI AR.2 (((AR.1.idxOf (gI ps i)):Nat):Int)).2) (j:Int)).2).2).2)) 1))-i)=fr
  ·
   refine af rfl (congrArg Bool.not (dt p9)) (am (ak (a6 rfl (lx (aJ (m:=↑j) (n:=1) zs44 rfl (by omega)) (mi ((j:Int)+1) (ab ?_))))))
   have C94:=cg [11] (ch73.o (ch78.s (ch81.o (ch90.o hc93.n))))
   refine back5 (j+1,next_v,next,g83) _ _ ⟨bH.chgN C94 (ir rfl),zs2,zs3,zs4,zs6,zs42,zs43,rfl,hps_v.t,hho_v.t,hle_v.t,ar_A.t,bx5.t,bx10.t,bx17.t,o31.t,bx35.t,o65.t,cC.t,by omega,?_⟩ ?_
   · show nW ho i fr (gI AR.2 ((AR.1.idxOf (gI ps i):Nat):Int)).2 NX next (j+1)
     exact hnj.back ‹_› ‹_› ‹_›
   · show Int.toNat (_-_)<Int.toNat (_-_)
     omega
  refine ag rfl (congrArg Bool.not (df p9)) (a6 rfl (mz zs6 (mi (((gI (gI ho ((((gI ((gI AR.2 (((AR.1.idxOf (gI ps i)):Nat):Int)).2) (j:Int)).2).2).2)) 0)+(gI (gI ho ((((gI ((gI AR.2 (((AR.1.idxOf (gI ps i)):Nat):Int)).2) (j:Int)).2).2).2)) 1))-i) (lo (aq (α:=Int) g83 (is 13) (is 13) (13,0) rfl [((gI (gI ho ((((gI ((gI AR.2 (((AR.1.idxOf (gI ps i)):Nat):Int)).2) (j:Int)).2).2).2)) 0)+(gI (gI ho ((((gI ((gI AR.2 (((AR.1.idxOf (gI ps i)):Nat):Int)).2) (j:Int)).2).2).2)) 1))-i] bF ap (by decide) (by decide) (vs:=[(0,vi (((gI (gI ho ((((gI ((gI AR.2 (((AR.1.idxOf (gI ps i)):Nat):Int)).2) (j:Int)).2).2).2)) 0)+(gI (gI ho ((((gI ((gI AR.2 (((AR.1.idxOf (gI ps i)):Nat):Int)).2) (j:Int)).2).2).2)) 1))-i))]) rfl rfl (.cons rfl .nil) ?_)))))
  intro g95 w96 v97 ch98 o99
  refine lo ?_
  refine aS (α:=Int) (xs:=next) (ys:=([((gI (gI ho ((((gI ((gI AR.2 (((AR.1.idxOf (gI ps i)):Nat):Int)).2) (j:Int)).2).2).2)) 0)+(gI (gI ho ((((gI ((gI AR.2 (((AR.1.idxOf (gI ps i)):Nat):Int)).2) (j:Int)).2).2).2)) 1))-i])) g95 (J:=is 14) (S:=is 14) (14,0) rfl bF ap (by decide) rfl rfl rfl cC.t o99.flat (by decide) (by(simp;omega)) ?_
  intro g101 w102 v103 ch104 o105
  clear cC
  refine ma v103 (ab (ak ?_))
  clear o99
  refine a6 rfl (lx (aJ (m:=↑j) (n:=1) zs44 rfl (by omega)) (mi ((j:Int)+1) (ab ?_)))
  have C106:=cg [11,14] (ch73.o (ch78.s (ch81.o (ch90.o (hc93.o (ch98.o ch104.e))))))
  refine back5 (j+1,v103,(next++[((gI (gI ho ((((gI ((gI AR.2 (((AR.1.idxOf (gI ps i)):Nat):Int)).2) (j:Int)).2).2).2)) 0)+(gI (gI ho ((((gI ((gI AR.2 (((AR.1.idxOf (gI ps i)):Nat):Int)).2) (j:Int)).2).2).2)) 1))-i]),g101) _ _ ⟨bH.chgN C106 (ir rfl),zs2,zs3,zs4,rfl,zs42,zs43,rfl,hps_v.t,hho_v.t,hle_v.t,ar_A.t,bx5.t,bx10.t,bx17.t,o31.t,bx35.t,o65.t,o105,by omega,?_⟩ ?_
  · show nW ho i fr (gI AR.2 ((AR.1.idxOf (gI ps i):Nat):Int)).2 NX (next++[((gI (gI ho ((((gI ((gI AR.2 (((AR.1.idxOf (gI ps i)):Nat):Int)).2) (j:Int)).2).2).2)) 0)+(gI (gI ho ((((gI ((gI AR.2 (((AR.1.idxOf (gI ps i)):Nat):Int)).2) (j:Int)).2).2).2)) 1))-i]) (j+1)
    exact hnj.far ‹_› ‹_› ‹_›
  · show Int.toNat (_-_)<Int.toNat (_-_)
    omega
 refine af rfl (df p5) (aF rfl (a7 ?_))
 clear o65
 have hNX:next=NX:=hnj.done ‹_›
 obtain⟨kf,hkf⟩:∃kf,kf=Ev (ps.map (bt AR)) ho F i:=⟨_,rfl⟩
 obtain⟨PP,hPP,hQP⟩:∃PP:Int->Prop,(∀x,PP x->fP (ps.map (bt AR)) ho F x i=some (kf x))/\∀x∈NX,PP x:=⟨λx=>fP (ps.map (bt AR)) ho F x i=some (kf x),λ_ h=>h,by rw[hkf];exact hbe⟩
 have hal:∀x∈next,PP x:=by rw[hNX];exact hQP
 have hme:=hm
 refine a6 rfl (mz zs6 (lw (Value.func (.func 74) #[] (List.toArray [vp b3 0,vp b8 0])) (ez (vals:=[vp b3 0,vp b8 0]) (fI zs3 (fI zs4 rfl))) (lo (aV (aB (vals:=[next_v,Value.func (.func 74) #[] (List.toArray [vp b3 0,vp b8 0])]) Tryz.func73 yJ wd rfl) (ah Tryz.func73 rfl nq (a7 (a6 rfl (mv next_v ?_))))))))
 have len108:=(cC.flat).small
 refine lx (bG bF rfl cC.flat) (ai (next.length:Int) (ab (a6 rfl (mv next_v (mi (next.length:Int) (mi (next.length:Int) (lw (Value.int .u64 (next.length:Int)) (tg (m:=(next.length:Int)) U3 BF rfl (wa (by omega) (by omega))) (lo (aV (aB (vals:=[Value.int .u64 (next.length:Int)]) Tryz.func91 AA AG rfl) (ah Tryz.func91 rfl nq ?_))))))))))
 refine a7 (a6 rfl (ai 0 (ab (a7 (af rfl rfl (am (a7 (a6 rfl (mv (Value.int .u64 (next.length:Int)) (lo (aV (aB (vals:=[Value.int .u64 (next.length:Int)]) Tryz.func112 vU uw rfl) (ah Tryz.func112 rfl nq ?_))))))))))))
 refine a7 (a6 rfl (ai 0 (ab (a7 (a7 (a6 rfl (mv (Value.int .u64 (next.length:Int)) (lx (eL (m:=(next.length:Int)) (n:=4294967296) rfl rfl) (ab ?_)))))))))
 have p1_c5:¬(4294967296<=(next.length:Int)):=by omega
 refine af rfl (df p1_c5) (am (a7 (a7 (a6 rfl (mv (Value.int .u64 (next.length:Int)) (lx (eL (m:=(next.length:Int)) (n:=65536) rfl rfl) (ab ?_)))))))
 have p4_c5:¬(65536<=(next.length:Int)):=by omega
 refine af rfl (df p4_c5) (am (a7 (a7 (a6 rfl (mv (Value.int .u64 (next.length:Int)) (lx (eL (m:=(next.length:Int)) (n:=256) rfl rfl) (ab ?_)))))))
 have p7_c5:¬(256<=(next.length:Int)):=by omega
 refine af rfl (df p7_c5) (am (a7 (a6 rfl (mi 0 (mv (Value.int .u64 (next.length:Int)) (lw (Value.int .u8 (next.length:Int)) (tg (m:=(next.length:Int)) DB U5 rfl (Cw (by omega) (by omega))) ?_))))))
 have lb109:=BH (i:=(next.length:Int)) (by omega) (by omega)
 refine lw (Value.int .u8 (iE (next.length:Int))) (rp (i:=(next.length:Int)) (r:=iE (next.length:Int)) (b:=UInt8.ofNat (iE (next.length:Int)).toNat) U9 rfl rfl (by omega) (zc (by omega) (by omega) (by decide+kernel)) (AH (by omega) (by omega))) (lw (vi (iE (next.length:Int))) (tg (m:=iE (next.length:Int)) U5 U3 rfl (jT (by omega))) (lx (aJ (m:=0) (n:=iE (next.length:Int)) rfl rfl (by omega)) (ai (0+(iE (next.length:Int))) (ab (az (vs:=[vi (0+(iE (next.length:Int)))]) Tryz.func112 (.tmp rfl .nil) ?_)))))
 refine⟨vi (0+(iE (next.length:Int))),rfl,?_⟩
 refine ai (0+(iE (next.length:Int))) (ab (az (vs:=[vi (0+(iE (next.length:Int)))]) Tryz.func91 (.tmp rfl .nil) ?_))
 refine⟨vi (0+(iE (next.length:Int))),rfl,?_⟩
 refine mv (Value.func (.func 74) #[] (List.toArray [vp b3 0,vp b8 0])) (lo (aV (aB (vals:=[next_v,vi 0,vi (next.length:Int),vi (0+(iE (next.length:Int))),Value.func (.func 74) #[] (List.toArray [vp b3 0,vp b8 0])]) Tryz.func90 zl wV rfl) (ah Tryz.func90 rfl nq (a7 (a6 rfl (ma (vb true) (ab (a7 (a6 rfl (ma (vb true) (ab (aj ?_))))))))))))
 refine gQ (aj (a7 (a6 rfl (mi (next.length:Int) (mi 0 (lx (da (m:=(next.length:Int)) (n:=0) rfl rfl (by omega)) (ai ((next.length:Int)-0) (ab (a7 (a7 (a6 rfl (mi ((next.length:Int)-0) (lx (xr (m:=(next.length:Int)-0) (n:=12) rfl rfl) ?_)))))))))))))
 refine ab ?_
 have p3_c6:((next.length:Int)-0)<=12:=by omega
 refine ag rfl (dt p3_c6) (a7 (a6 rfl (mv next_v (mi 0 (mi (next.length:Int) (mv (Value.func (.func 74) #[] (List.toArray [vp b3 0,vp b8 0])) (lo (aV (aB (vals:=[next_v,vi 0,vi (next.length:Int),Value.func (.func 74) #[] (List.toArray [vp b3 0,vp b8 0])]) Tryz.func103 vG uB rfl) (ah Tryz.func103 rfl nq (a7 (a6 rfl ?_)))))))))))
 refine mi 0 (lx (aJ (m:=0) (n:=1) rfl rfl (by omega)) (ai 1 (ab (aj ?_))))
 refine aR (σ:=Int×(List Int)×((Pt->Int)×List Pt)×ax) (λ⟨i_c7,xs_c7,mp_c7,gq⟩ f w=>qk [0,2] γr w0 gq w/\f 0=next_v/\f 1=vi 0/\f 2=vi (next.length:Int)/\f 3=Value.func (.func 74) #[] (List.toArray [vp b3 0,vp b8 0])/\f 8=vi i_c7/\Sl gq (is 0) w ps_v ps/\dr gq 2 w ho_v ho/\Md gq (is 5) w le_v mp_c7.1 mp_c7.2/\gC gq w AR.1 AR.2/\Bx gq (is 8) w b3 [vp n_b 0]/\Bx gq (is 9) w b8 [vi i]/\Ow gq (is 3) (is 3) w nu_v (List.set nu (Int.toNat i) (od.length:Int))/\Ow gq (is 4) (is 4) w v29 (od++[i])/\Bx gq (is 7) w n_b [ps_v,ho_v,nu_v,v29,le_v]/\Ow gq (is 14) (is 14) w next_v xs_c7/\(yi kf PP next xs_c7 i_c7/\mu (ps.map (bt AR)) ho mp_c7)) (λ⟨i_c7,xs_c7,mp_c7,gq⟩=>Int.toNat ((next.length:Int)-i_c7)) (1,next,le,g71) ?_ ?_
 · exact⟨bH,rfl,rfl,rfl,rfl,rfl,hps_v,hho_v,hle_v,ar_A,bx5,bx10,bx17,o31,bx35,cC,by exact⟨yi.start hal,hme⟩⟩
 clear hps_v hho_v hle_v ar_A bx5 bx10 bx17 o31 bx35 cC bH
 rintro⟨i_c7,xs_c7,mp_c7,g112⟩ f110 w111 ⟨bH,zs0_c7,zs1_c7,zs2_c7,zs3_c7,zs8_c7,hps_v,hho_v,hle_v,ar_A,bx5,bx10,bx17,o31,bx35,cC,hio_c7⟩ back1_c7
 obtain⟨hio1_c7,hme_c7⟩:=hio_c7
 have hin1_c7:=hio1_c7.len
 have hin2_c7:=hio1_c7.lo
 have hin3_c7:=hio1_c7.hi
 refine a7 (a7 (a6 rfl (mz zs8_c7 (mz zs2_c7 (lx (br (m:=i_c7) (n:=(next.length:Int)) rfl rfl) (ab ?_))))))
 by_cases p1_c7:i_c7<(next.length:Int)
 ·
  refine ag rfl (dt p1_c7) (am (a7 (aj (a7 (a6 rfl (mz zs8_c7 (ai i_c7 (ab (aj ?_)))))))))
  refine aR (σ:=Int×(List Int)×((Pt->Int)×List Pt)×ax) (λ⟨j_c7,ys_c7,mq_c7,gq⟩ f w=>qk [0,2] γr w0 gq w/\f 0=next_v/\f 1=vi 0/\f 2=vi (next.length:Int)/\f 3=Value.func (.func 74) #[] (List.toArray [vp b3 0,vp b8 0])/\f 8=vi i_c7/\f 9=vi j_c7/\Sl gq (is 0) w ps_v ps/\dr gq 2 w ho_v ho/\Md gq (is 5) w le_v mq_c7.1 mq_c7.2/\gC gq w AR.1 AR.2/\Bx gq (is 8) w b3 [vp n_b 0]/\Bx gq (is 9) w b8 [vi i]/\Ow gq (is 3) (is 3) w nu_v (List.set nu (Int.toNat i) (od.length:Int))/\Ow gq (is 4) (is 4) w v29 (od++[i])/\Bx gq (is 7) w n_b [ps_v,ho_v,nu_v,v29,le_v]/\Ow gq (is 14) (is 14) w next_v ys_c7/\(CZ kf PP next ys_c7 i_c7 j_c7/\mu (ps.map (bt AR)) ho mq_c7)) (λ⟨j_c7,ys_c7,mq_c7,gq⟩=>Int.toNat j_c7) (i_c7,xs_c7,mp_c7,g112) ?_ ?_
  · exact⟨bH,zs0_c7,zs1_c7,zs2_c7,zs3_c7,zs8_c7,rfl,hps_v,hho_v,hle_v,ar_A,bx5,bx10,bx17,o31,bx35,cC,by exact⟨hio1_c7.inner (by omega),hme_c7⟩⟩
  clear hps_v hho_v hle_v ar_A bx5 bx10 bx17 o31 bx35 cC bH
  rintro⟨j_c7,ys_c7,mq_c7,g115⟩ f113 w114 ⟨bH,zs0_c7,zs1_c7,zs2_c7,zs3_c7,zs8_c7,zs9_c7,hps_v,hho_v,hle_v,ar_A,bx5,bx10,bx17,o31,bx35,cC,hii_c7⟩ back4_c7
  obtain⟨hii1_c7,hmf_c7⟩:=hii_c7
  have hjn1_c7:=hii1_c7.len
  have hjn2_c7:=hii1_c7.lo
  have hjn3_c7:=hii1_c7.hi
  have hjn4_c7:=hii1_c7.li
  have hal_c7:=hii1_c7.al
  have hpa_c7:PP (gI ys_c7 j_c7):=hal_c7 _ (bz (by omega) (by omega))
  have hpb_c7:0<j_c7->PP (gI ys_c7 (j_c7-1)):=λh=>hal_c7 _ (bz (by omega) (by omega))
  refine a7 (a7 (bp g115 [0,1,2,3,4,5,6,7,8,9,10,11,12,13,15,16] fV ?_))
  intro w117 ch116
  refine xp (v:=vi j_c7) 0 rfl (λw=>ar zs9_c7) (xp (v:=vi 0) 1 rfl (λw=>ar zs1_c7) (xp 2 rfl (λw=>eX (m:=j_c7) (n:=0) rfl rfl) (xp (v:=vb (decide (0<j_c7))) 3 rfl (λw=>ar rfl) ?_)))
  by_cases q21_c7:0<j_c7
  ·
   refine cJ (v:=Value.func (.func 74) #[] (List.toArray [vp b3 0,vp b8 0])) 4 rfl (by kernel_rfl) (by kernel_rfl) (wy (dt q21_c7)) (λw=>ar zs3_c7) (cJ (v:=next_v) 5 rfl (by kernel_rfl) (by kernel_rfl) (wy (dt q21_c7)) (λw=>ar zs0_c7) (cJ (v:=vi j_c7) 6 rfl (by kernel_rfl) (by kernel_rfl) (wy (dt q21_c7)) (λw=>ar zs9_c7) ?_))
   refine fw (v:=Value.pointer (some (bu next_v 1 (Int.toNat j_c7)))) 7 [6,5,4,3,2,1,0,9,10,11,12,13] rfl (by kernel_rfl) (by kernel_rfl) (wy (dt q21_c7)) (ad (α:=Int) (xs:=ys_c7) (v:=next_v) (i:=j_c7) bF rfl rfl cC.t.flat rfl (by omega) (by omega)) (fw (v:=vi (gI ys_c7 j_c7)) 8 [7,6,5,4,3,2,1,0,9,10,11,12,13] rfl (by kernel_rfl) (by kernel_rfl) (wy (dt q21_c7)) (aw (α:=Int) (xs:=ys_c7) (v:=next_v) (i:=j_c7) ap rfl cC.t.flat (by omega) (by omega) (by decide) rfl) (cJ (v:=next_v) 9 rfl (by kernel_rfl) (by kernel_rfl) (wy (dt q21_c7)) (λw=>ar zs0_c7) ?_))
   refine cJ (v:=vi j_c7) 10 rfl (by kernel_rfl) (by kernel_rfl) (wy (dt q21_c7)) (λw=>ar zs9_c7) (cJ (v:=vi (j_c7-1)) 11 rfl (by kernel_rfl) (by kernel_rfl) (wy (dt q21_c7)) (λw=>da (m:=j_c7) (n:=1) rfl rfl (by omega)) (fw (v:=Value.pointer (some (bu next_v 1 (Int.toNat (j_c7-1))))) 12 [11,10,9,8,7,6,5,4,3,2,1,0] rfl (by kernel_rfl) (by kernel_rfl) (wy (dt q21_c7)) (ad (α:=Int) (xs:=ys_c7) (v:=next_v) (i:=j_c7-1) bF rfl rfl cC.t.flat rfl (by omega) (by omega)) ?_))
   refine fw (v:=vi (gI ys_c7 (j_c7-1))) 13 [12,11,10,9,8,7,6,5,4,3,2,1,0] rfl (by kernel_rfl) (by kernel_rfl) (wy (dt q21_c7)) (aw (α:=Int) (xs:=ys_c7) (v:=next_v) (i:=j_c7-1) ap rfl cC.t.flat (by omega) (by omega) (by decide) rfl) (CO 14 rfl (by kernel_rfl) (wy (dt q21_c7)) (aV (fW (fid:=74) (vals:=[vi (gI ys_c7 j_c7),vi (gI ys_c7 (j_c7-1))]) (caps:=[vp b3 0,vp b8 0]) rfl Tryz.func74 zp wr rfl) (ah Tryz.func74 rfl nq ?_)))
   refine a7 (a6 rfl (ai 0 (ab (a7 (iU g115 (inl [5]) fV ?_)))))
   intro w119 ch118
   refine ht 0 rfl (bg.refl _ _ _) (λw' hw'=>a8 fF rfl bx5.t rfl) (ht (v:=vi (gI ys_c7 j_c7)) 1 rfl (bg.refl _ _ _) (λw' hw'=>ar rfl) ?_)
   refine ht 2 rfl (bg.refl _ _ _) (λw' hw'=>a8 ap rfl bx10.t rfl) (ht 4 rfl (bg.refl _ _ _) (λw' hw'=>a8 fF rfl bx5.t rfl) (ht (v:=vi (gI ys_c7 (j_c7-1))) 5 rfl (bg.refl _ _ _) (λw' hw'=>ar rfl) (ht 6 rfl (bg.refl _ _ _) (λw' hw'=>a8 ap rfl bx10.t rfl) (bY 3 rfl ?_))))
   refine bB (aB (vals:=[vp n_b 0,vi (gI ys_c7 j_c7),vi i]) Tryz.func76 ns nh rfl) (oN F w119 g115 n_b ps_v ps hps_v.t ho_v ho hho_v.t nu_v (List.set nu (Int.toNat i) (od.length:Int)) bx17.t v29 (od++[i]) o31.t le_v mq_c7 hle_v.t bx35.t AR ar_A.t (gI ys_c7 j_c7) i (kf (gI ys_c7 j_c7)) (by exact hin) (by exact hpl) ‹_› (by exact hPP _ ‹_›)) ?_
   rintro⟨g121,le_n53⟩ w120 ⟨ch122,o124,hq123⟩
   clear hle_v
   have hs125:bg (inl [5]) _ _ _ _:=ch122.ll rfl
   refine⟨hs125.same,?_⟩
   refine bY 7 rfl (bB (aB (vals:=[vp n_b 0,vi (gI ys_c7 (j_c7-1)),vi i]) Tryz.func76 ns nh rfl) (oN F w120 g121 n_b ps_v ps hps_v.t ho_v ho hho_v.t nu_v (List.set nu (Int.toNat i) (od.length:Int)) bx17.t v29 (od++[i]) o31.t le_v le_n53 o124 bx35.t AR ar_A.t (gI ys_c7 (j_c7-1)) i (kf (gI ys_c7 (j_c7-1))) (by exact hin) (by exact hpl) ‹_› (by exact hPP _ (hpb_c7 (by omega)))) ?_)
   rintro⟨g127,le_n54⟩ w126 ⟨ch128,o130,hq129⟩
   clear o124
   have hs131:=hs125.seq (ch128.ll rfl)
   refine⟨hs131.same,?_⟩
   refine bY 8 rfl (bI (v:=vi (cT (kf (gI ys_c7 j_c7)) (kf (gI ys_c7 (j_c7-1))))) (aB (vals:=[vi (kf (gI ys_c7 j_c7)),vi (kf (gI ys_c7 (j_c7-1)))]) Tryz.func75 Ao x9 rfl) (iT w126 (kf (gI ys_c7 j_c7)) (kf (gI ys_c7 (j_c7-1)))) ?_)
   intro w132 hb133
   replace hb133:=aG hb133 g127
   have hs134:=hs131.seq (hb133.n)
   refine⟨hs134.same,?_⟩
   refine ht (v:=vi (cT (kf (gI ys_c7 j_c7)) (kf (gI ys_c7 (j_c7-1))))) 9 rfl hs134.same (λw' hw'=>bK rfl) (ce (by kernel_rfl) (az (vs:=[vi (cT (kf (gI ys_c7 j_c7)) (kf (gI ys_c7 (j_c7-1))))]) Tryz.func74 (.tmp rfl .nil) ?_))
   refine⟨vi (cT (kf (gI ys_c7 j_c7)) (kf (gI ys_c7 (j_c7-1)))),rfl,?_⟩
   refine cJ (v:=vb (decide ((cT (kf (gI ys_c7 j_c7)) (kf (gI ys_c7 (j_c7-1))))<0))) 15 rfl (by kernel_rfl) (by kernel_rfl) (wy (dt q21_c7)) (λw=>br (m:=cT (kf (gI ys_c7 j_c7)) (kf (gI ys_c7 (j_c7-1)))) (n:=0) rfl rfl) (xp (v:=vb (decide ((cT (kf (gI ys_c7 j_c7)) (kf (gI ys_c7 (j_c7-1))))<0))) 16 rfl (λw=>bh rfl (dt q21_c7) rfl) (bV (by kernel_rfl) ?_))
   by_cases p4_c7:(cT (kf (gI ys_c7 j_c7)) (kf (gI ys_c7 (j_c7-1))))<0
   ·
    refine ag rfl (dt p4_c7) (am (a7 (aj (bp g127 [0,1,2,3,4,5,6,7,8,9,10,11,12,13,14,16] fV ?_))))
    intro w136 ch135
    refine xp (v:=next_v) 0 rfl (λw=>ar zs0_c7) (xp (v:=vi j_c7) 1 rfl (λw=>ar zs9_c7) (xp (v:=next_v) 2 rfl (λw=>ar zs0_c7) (xp (v:=vi j_c7) 3 rfl (λw=>ar zs9_c7) (xp 4 rfl (λw=>da (m:=j_c7) (n:=1) rfl rfl (by omega)) (xp (v:=next_v) 5 rfl (λw=>ar zs0_c7) (xp (v:=vi j_c7) 6 rfl (λw=>ar zs9_c7) (xp 7 rfl (λw=>da (m:=j_c7) (n:=1) rfl rfl (by omega)) ?_)))))))
    refine xv 8 [7,6,5,4,3,2,1,0,10,11,12,13] rfl (ad (v:=next_v) (i:=j_c7-1) bF rfl rfl cC.t.flat rfl (by omega) (by omega)) (xv 9 [8,7,6,5,4,3,2,1,0,10,11,12,13] rfl (aw (v:=next_v) (i:=j_c7-1) ap rfl cC.t.flat (by omega) (by omega) (by decide) rfl) (xp (v:=next_v) 10 rfl (λw=>ar zs0_c7) (xp (v:=vi j_c7) 11 rfl (λw=>ar zs9_c7) (xv 12 [11,10,9,8,7,6,5,4,3,2,1,0] rfl (ad (v:=next_v) (i:=j_c7) bF rfl rfl cC.t.flat rfl (by omega) (by omega)) (xv 13 [12,11,10,9,8,7,6,5,4,3,2,1,0] rfl (aw (v:=next_v) (i:=j_c7) ap rfl cC.t.flat (by omega) (by omega) (by decide) rfl) ?_)))))
    refine xv 14 [13,12,11,10,9,8,7,6,5,4,3,2,1,0] rfl (ad (v:=next_v) (i:=j_c7) bF rfl rfl cC.t.flat rfl (by omega) (by omega)) (cE 15 rfl (aU (i:=j_c7) (gI ys_c7 (j_c7-1)) ap rfl rfl cC.t (by omega) (by omega) rfl ?_))
    intro w138 ch139 bx140
    clear cC
    refine xv 16 [15,14,13,12,11,10,9,8,7,6,5,4,3,2,1,0] rfl (ad (v:=next_v) (i:=j_c7-1) bF rfl rfl bx140.flat rfl (by omega) (by(simp only[List.length_set,List.length_append,List.length_cons,List.length_nil,List.length_replicate,List.length_map,List.length_take,List.length_drop];omega))) (cE 17 rfl (aU (i:=j_c7-1) (gI ys_c7 j_c7) ap rfl rfl bx140 (by omega) (by(simp only[List.length_set,List.length_append,List.length_cons,List.length_nil,List.length_replicate,List.length_map,List.length_take,List.length_drop];omega)) rfl ?_))
    intro w141 ch142 bx143
    clear bx140
    refine bV (by kernel_rfl) (ak (a6 rfl (mz zs9_c7 (lx (da (m:=j_c7) (n:=1) rfl rfl (by omega)) (ai (j_c7-1) (ab ?_))))))
    have C145:=cg [5,14] ((ch122.ll rfl).seq ((ch128.ll rfl).seq (hb133.o (ch135.o (ch139.s ch142.e)))))
    have C144:=ch116.n.seq (ch118.n.seq C145)
    refine back4_c7 (j_c7-1,(List.set (List.set ys_c7 (Int.toNat j_c7) (gI ys_c7 (j_c7-1))) (Int.toNat (j_c7-1)) (gI ys_c7 j_c7)),le_n54,g127) _ _ ⟨bH.chgN C144 (ir rfl),zs0_c7,zs1_c7,zs2_c7,zs3_c7,zs8_c7,rfl,hps_v.t,hho_v.t,o130.t,ar_A.t,bx5.t,bx10.t,bx17.t,o31.t,bx35.t,bx143,?_⟩ ?_
    · show CZ kf PP next (List.set (List.set ys_c7 (Int.toNat j_c7) (gI ys_c7 (j_c7-1))) (Int.toNat (j_c7-1)) (gI ys_c7 j_c7)) i_c7 (j_c7-1)/\mu (ps.map (bt AR)) ho le_n54
      exact⟨hii1_c7.next ‹_› ‹_› rfl,by assumption⟩
    · show Int.toNat (j_c7-1)<Int.toNat j_c7
      omega
   refine af rfl (df p4_c7) (aF rfl (ak (a6 rfl (mz zs8_c7 (lx (aJ (m:=i_c7) (n:=1) rfl rfl (by omega)) (ai (i_c7+1) (ab ?_)))))))
   have C148:=cg [5] ((ch122.ll rfl).seq ((ch128.ll rfl).seq hb133.n))
   have C149:=ch118.n.seq C148
   have C147:=ch116.n.seq C149
   refine back1_c7 (i_c7+1,ys_c7,le_n54,g127) _ _ ⟨bH.chgN C147 (ir rfl),zs0_c7,zs1_c7,zs2_c7,zs3_c7,rfl,hps_v.t,hho_v.t,o130.t,ar_A.t,bx5.t,bx10.t,bx17.t,o31.t,bx35.t,cC.t,?_⟩ ?_
   · show yi kf PP next ys_c7 (i_c7+1)/\mu (ps.map (bt AR)) ho le_n54
     exact⟨hii1_c7.done (by exact .inr ‹_›),by assumption⟩
   · show Int.toNat ((next.length:Int)-(i_c7+1))<Int.toNat ((next.length:Int)-i_c7)
     omega
  refine bA 4 rfl (by kernel_rfl) (by kernel_rfl) (wn (df q21_c7)) (bA 5 rfl (by kernel_rfl) (by kernel_rfl) (wn (df q21_c7)) (bA 6 rfl (by kernel_rfl) (by kernel_rfl) (wn (df q21_c7)) (bA 7 rfl (by kernel_rfl) (by kernel_rfl) (wn (df q21_c7)) (bA 8 rfl (by kernel_rfl) (by kernel_rfl) (wn (df q21_c7)) (bA 9 rfl (by kernel_rfl) (by kernel_rfl) (wn (df q21_c7)) (bA 10 rfl (by kernel_rfl) (by kernel_rfl) (wn (df q21_c7)) (bA 11 rfl (by kernel_rfl) (by kernel_rfl) (wn (df q21_c7)) (bA 12 rfl (by kernel_rfl) (by kernel_rfl) (wn (df q21_c7)) ?_))))))))
  refine bA 13 rfl (by kernel_rfl) (by kernel_rfl) (wn (df q21_c7)) (BY 14 rfl (by kernel_rfl) (wn (df q21_c7)) (bA 15 rfl (by kernel_rfl) (by kernel_rfl) (wn (df q21_c7)) (xp (v:=vb false) 16 rfl (λw=>bo rfl (df q21_c7) rfl) (bV (by kernel_rfl) (af rfl rfl (aF rfl (ak (a6 rfl (mz zs8_c7 ?_)))))))))
  refine lx (aJ (m:=i_c7) (n:=1) rfl rfl (by omega)) (ai (i_c7+1) (ab ?_))
  refine back1_c7 (i_c7+1,ys_c7,mq_c7,g115) _ _ ⟨bH.chgN ch116 tT,zs0_c7,zs1_c7,zs2_c7,zs3_c7,rfl,hps_v.t,hho_v.t,hle_v.t,ar_A.t,bx5.t,bx10.t,bx17.t,o31.t,bx35.t,cC.t,?_⟩ ?_
  · show yi kf PP next ys_c7 (i_c7+1)/\mu (ps.map (bt AR)) ho mq_c7
    exact⟨hii1_c7.done (by exact .inl ‹_›),by assumption⟩
  · show Int.toNat ((next.length:Int)-(i_c7+1))<Int.toNat ((next.length:Int)-i_c7)
    omega
 refine af rfl (df p1_c7) (aF rfl (ck (vs:=[]) Tryz.func103 .nil ?_))
 refine⟨vt [],rfl,?_⟩
 refine ab (az (vs:=[]) Tryz.func90 .nil ?_)
 refine⟨vt [],rfl,?_⟩
 refine ab (ck (vs:=[]) Tryz.func73 .nil ?_)
 refine⟨vt [],rfl,?_⟩
 refine ab (a7 ?_)
 have hxs:=hio1_c7.done (by omega)
 rw[hNX] at hxs
 refine a6 rfl (mz zs6 ?_)
 have len150:=(cC.flat).small
 refine lx (bG bF rfl cC.flat) (mi 0 (ab (aj ?_)))
 refine aR (σ:=Value×(List Int)×Nat×(List Int)×((Pt->Int)×List Pt)×ax) (λ⟨n_b_3_v,n_b_3,q,nu9,mp,gq⟩ f w=>qk [0,2] γr w0 gq w/\f 3=vp b3 0/\f 4=vp b8 0/\f 66=next_v/\f 67=vi (xs_c7.length:Int)/\f 68=vi ↑q/\Sl gq (is 0) w ps_v ps/\dr gq 2 w ho_v ho/\Md gq (is 5) w le_v mp.1 mp.2/\gC gq w AR.1 AR.2/\Bx gq (is 8) w b3 [vp n_b 0]/\Bx gq (is 9) w b8 [vi i]/\Ow gq (is 3) (is 3) w nu_v nu9/\Bx gq (is 7) w n_b [ps_v,ho_v,nu_v,n_b_3_v,le_v]/\Ow gq (is 14) (is 14) w next_v xs_c7/\Ow gq (is 4) (is 4) w n_b_3_v n_b_3/\(q:Int)<=((xs_c7.length:Int):Int)/\(vV (nU (ps.map (bt AR)) ho F f0) i xs_c7 nu od l q nu9 n_b_3/\mu (ps.map (bt AR)) ho mp)) (λ⟨n_b_3_v,n_b_3,q,nu9,mp,gq⟩=>Int.toNat (((xs_c7.length:Int):Int)-(q:Int))) (v29,(od++[i]),0,(List.set nu (Int.toNat i) (od.length:Int)),mp_c7,g112) ?_ ?_
 · exact⟨bH,zs3,zs4,rfl,rfl,rfl,hps_v,hho_v,hle_v,ar_A,bx5,bx10,bx17,bx35,cC,o31,by omega,by exact⟨vV.start (by rw[hxs,hkf];exact hod1) hld,by assumption⟩⟩
 clear hps_v hho_v hle_v ar_A bx5 bx10 bx17 o31 bx35 cC bH
 rintro⟨n_b_3_v,n_b_3,q,nu9,mp,g153⟩ f151 w152 ⟨bH,zs3,zs4,zs66,zs67,zs68,hps_v,hho_v,hle_v,ar_A,bx5,bx10,bx17,bx35,cC,o_n_b_3,hle_q,hfq⟩ back14
 obtain⟨hfn,hme⟩:=hfq
 obtain⟨hfl1,hfl2⟩:=hfn.len
 refine a7 (a6 rfl (lx (br (m:=↑q) (n:=(xs_c7.length:Int)) zs68 zs67) (ab (a7 ?_))))
 by_cases p14:(q:Int)<(xs_c7.length:Int)
 ·
  refine ag rfl (dt p14) (am (a7 (aj (a7 (a6 rfl (lx (ad (v:=next_v) (i:=↑q) bF rfl zs66 cC.flat zs68 (by omega) (by omega)) (lx (aw (v:=next_v) (i:=↑q) ap rfl cC.flat (by omega) (by omega) (by decide) rfl) (ai (gI xs_c7 ↑q) (ab ?_)))))))))
  obtain⟨b2,hb2,hb3,hb4⟩:=hfn.one ‹_›
  refine a6 rfl (lx (a8 fF zs3 bx5 rfl) (mi (gI xs_c7 ↑q) (lx (a8 ap zs4 bx10 rfl) (lo (bB (aB (vals:=[vp n_b 0,vi (gI xs_c7 ↑q),vi i]) Tryz.func49 qF s6 rfl) (ih f0 (by omega) w152 g153 n_b ps_v ps hps_v ho_v ho hho_v nu_v nu9 bx17 n_b_3_v n_b_3 o_n_b_3 le_v mp hle_v bx35 AR ar_A (gI xs_c7 ↑q) i F b2 (by exact hin) (by exact hpl) (by exact hme) (by omega) (by omega) (by exact hb2)) ?_)))))
  rintro⟨g155,nu2,od2_v,od2,mp57⟩ w154 ⟨ch156,o158,o159,o160,bx161,hq157⟩
  clear hle_v bx17 bx35 o_n_b_3
  obtain⟨⟨hr1,hr2⟩,hr3⟩:=hq157
  refine ab (ak (a6 rfl (lx (aJ (m:=↑q) (n:=1) zs68 rfl (by omega)) (mi ((q:Int)+1) (ab ?_)))))
  refine back14 (od2_v,od2,q+1,nu2,mp57,g155) _ _ ⟨bH.chgN ch156 (ir rfl),zs3,zs4,zs66,zs67,rfl,hps_v.t,hho_v.t,o160,ar_A.t,bx5.t,bx10.t,o158,bx161,cC.t,o159,by omega,?_⟩ ?_
  · show vV (nU (ps.map (bt AR)) ho F f0) i xs_c7 nu od l (q+1) nu2 od2/\mu (ps.map (bt AR)) ho mp57
    exact⟨by rw[hr1,hr2];exact hb4,hr3⟩
  · show Int.toNat (_-_)<Int.toNat (_-_)
    omega
 refine af rfl (df p14) (aF rfl (ck (vs:=[]) Tryz.func49 .nil ?_))
 subst hγr
 obtain⟨γf,hcN,hcF⟩:=bH.fin (Lc:=[3,4,5,7]) rfl rfl rfl
 have hinvN:(nu9=ii nu (od.length:Int) l/\n_b_3=od++l)/\mu (ps.map (bt AR)) ho mp:=by
   exact⟨hfn.done ‹_›,by assumption⟩
 exact⟨(γf,nu9,n_b_3_v,n_b_3,mp),rfl,hcN,bx17.chg hcF (dq rfl) (dq rfl),o_n_b_3.chg hcF (dq rfl) (dq rfl),hle_v.chg hcF (dq rfl),bx35.chg hcF (dq rfl),hinvN⟩
end TL
