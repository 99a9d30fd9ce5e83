import Derived.Test.YtkhfimgjcdeejaaTlP3
import Derived.Test.YtkhfimgjcdeejaaTlGmA
import Derived.Test.YtkhfimgjcdeejaaTlGmM
import Derived.Test.YtkhfimgjcdeejaaTlGmR
import Derived.Test.YtkhfimgjcdeejaaTlGenA
import Derived.Test.YtkhfimgjcdeejaaTlGdA
import Derived.Test.YtkhfimgjcdeejaaTlGjA
import Derived.Test.YtkhfimgjcdeejaaTlGjB
import Derived.Test.YtkhfimgjcdeejaaProg
import Derived.Test.YtkhfimgjcdeejaaTlAli
set_option linter.all false
set_option maxRecDepth 20000
namespace TL
open Go Go.Proofs
theorem gQ:Try.prog.follows .mixedOrders=true:=by kernel_rfl
theorem kd:Tp Try.prog 4 false 1 1 (.bool false):=Tp.of (by kernel_rfl)
theorem bt:Tp Try.prog 22 false 1 24 (.slice none 0 0):=Tp.of (by kernel_rfl)
theorem bO:Tp Try.prog 29 true 2 32 (.agg #[.int .i64 0,.slice none 0 0]):=Tp.of (by kernel_rfl)
theorem ci:Tp Try.prog 36 false 1 24 (.slice none 0 0):=Tp.of (by kernel_rfl)
theorem bJ:Tp Try.prog 38 true 2 48 (.agg #[.slice none 0 0,.slice none 0 0]):=Tp.of (by kernel_rfl)
theorem dX:Tp Try.prog 47 false 1 24 (.slice none 0 0):=Tp.of (by kernel_rfl)
theorem dd:Tp Try.prog 64 true 5 32 (.agg #[.int .i64 0,.int .i64 0,.int .i64 0,.bool false,.bool false]):=Tp.of (by kernel_rfl)
theorem eu:Tp Try.prog 72 true 3 24 (.agg #[.int .i64 0,.int .i64 0,.int .i64 0]):=Tp.of (by kernel_rfl)
theorem pb:Try.f35.body.isNone=false:=rfl
theorem pR:(Try.f35.name== "runtime.NumGoroutine")=false:=by decide+kernel
theorem tT:Try.f38.body.isNone=false:=rfl
theorem uN:(Try.f38.name== "runtime.NumGoroutine")=false:=by decide+kernel
theorem tR:Try.f39.body.isNone=false:=rfl
theorem uD:(Try.f39.name== "runtime.NumGoroutine")=false:=by decide+kernel
theorem iG:Try.f48.body.isNone=false:=rfl
theorem jc:(Try.f48.name== "runtime.NumGoroutine")=false:=by decide+kernel
theorem qt(w0:World)(p:(List Pt)×(List (List Pt)))(p_v p_v1:Value)(hp_v:Ro w0 p_v p.1)(hp_v1:Ro w0 p_v1 p.2)(hp1:(p.1.length:Int)<=1024)(hp2:(p.2.length:Int)<=3072)(hp3:∀e:Int,0<=e->e<p.2.length->(gI p.2 e).length<=4096):
    Calls Try.prog 39 #[vg [p_v,p_v1]] w0 (λee w=>∃xx:aW×Value,ee= .returned ((λ⟨δ,rv0⟩=>rv0) xx)/\(λ(⟨δ,rv0⟩:aW×Value) (w:World)=>gw w0 δ w/\Ow δ (is 1) (is 1) w rv0 (bx p)) xx w):=by
 refine aI Try.func39 rfl nq ?_
 have bH:=bo.start w0
 have Rp:=hp_v.sl
 have r_p_v1:=hp_v1.sl
 refine a6 (a5 rfl (cj rfl (bA c0 (is 1) (1,0) rfl rfl ?_)))
 intro g4 w1 b3 ch2 bx5
 replace bx5:Bx g4 (is 1) w1 b3 [p_v,p_v1]:=bx5
 refine ma vn (a8 (a6 (a5 rfl (lx (a7 dn rfl rfl rfl rfl) (lx (a9 bt rfl bx5 rfl) (lo ?_))))))
 replace Rp:=Rp.cn ch2
 refine b9 (α:=Pt) (xs:=([])) (ys:=p.1) g4 (J:=is 2) (S:=is 2) (2,0) rfl bZ ah (by decide) rfl rfl rfl Ow.nil Rp (by decide) (by(simp;omega)) ?_
 intro g6 w7 v8 ch9 o10
 replace o10:Ow g6 (is 2) (is 2) w7 v8 p.1:=o10
 refine ma v8 (a8 (a6 (a6 (a5 rfl (lx (a7 dn rfl rfl rfl rfl) ?_)))))
 replace bx5:=bx5.ce ch9
 refine lx (a9 ci rfl bx5 rfl) ?_
 replace r_p_v1:=(r_p_v1.cn ch2).ce ch9
 have len11:=(r_p_v1).small
 refine lx (bE eP rfl r_p_v1) (mi 0 (a8 (ao ?_)))
 clear bx5
 refine bf (σ:=Value×(List Pt)×Nat×aW) (λ⟨l_v,l,k,gq⟩ f w=>bo w0 gq w/\f 3=l_v/\f 10=p_v1/\f 11=vi (p.2.length:Int)/\f 12=vi ↑k/\Sl gq (is 0) w p_v p.1/\Sl gq (is 0) w p_v1 p.2/\Ow gq (is 2) (is 2) w l_v l/\(k:Int)<=((p.2.length:Int):Int)/\(l=p.1++(p.2.take k).flatten/\(l.length:Int)<=1024+4096*(k:Int))) (λ⟨l_v,l,k,gq⟩=>Int.toNat (((p.2.length:Int):Int)-(k:Int))) (v8,p.1,0,g6) ?_ ?_
 replace bH:=bH.cn ch2
 · exact⟨bH.ce ch9,rfl,rfl,rfl,rfl,Rp.ce ch9,r_p_v1,o10,by omega,by exact⟨by simp,by omega⟩⟩
 clear Rp r_p_v1 o10 bH
 rintro⟨l_v,l,k,g14⟩ f12 w13 ⟨bH,zs3,zs10,zs11,zs12,Rp,r_p_v1,o_l,hle_k,hinv⟩ back3
 obtain⟨hi1,hi2⟩:=hinv
 refine a6 (a5 rfl (lx (b6 (m:=↑k) (n:=(p.2.length:Int)) zs12 zs11) (a8 (a6 ?_))))
 by_cases p3:(k:Int)<(p.2.length:Int)
 ·
  refine ae rfl (dt p3) ?_
  have hll:=hp3 (k:Int) (by omega) (by omega)
  refine am (a6 (ao (a6 (a5 rfl (lx (ab (v:=p_v1) (i:=↑k) eP rfl zs10 r_p_v1 zs12 (by omega) (by omega)) ?_)))))
  obtain⟨v15,cel16,r17⟩:=cN (r:=(k:Int)) r_p_v1 (by omega) (by omega)
  refine lx (aZ bt rfl cel16) (ma v15 (a8 (a5 rfl (mz zs3 (mv v15 (lo (b9 (α:=Pt) (xs:=l) (ys:=(gI p.2 ↑k)) g14 (J:=is 2) (S:=is 2) (2,0) rfl bZ ah (by decide) rfl rfl rfl o_l r17 (by decide) (by omega) ?_)))))))
  intro g18 w19 v20 ch21 o22
  clear o_l
  refine ma v20 (a8 (ak ?_))
  clear r17
  refine a5 rfl (lx (aQ (m:=↑k) (n:=1) zs12 rfl (by omega)) (mi ((k:Int)+1) (a8 ?_)))
  refine back3 (v20,(l++gI p.2 ↑k),k+1,g18) _ _ ⟨bH.ce ch21,rfl,zs10,zs11,rfl,Rp.ce ch21,r_p_v1.ce ch21,o22,by omega,?_⟩ ?_
  · show(l++gI p.2 ↑k)=p.1++(p.2.take (k+1)).flatten/\((l++gI p.2 ↑k).length:Int)<=1024+4096*((k+1):Int)
    exact nM ⟨hi1,hi2⟩ ‹_› hll
  · show Int.toNat (((p.2.length:Int):Int)-((k+1):Int))<Int.toNat (((p.2.length:Int):Int)-(k:Int))
    omega
 refine af rfl (df p3) (aO rfl (a6 (a5 rfl (mz zs3 (ma l_v (a8 (av (vs:=[l_v]) Try.func39 (.tmp rfl .nil) ?_)))))))
 have e0:(l:List Pt)=(bx p):=by
   exact ph hi1 ‹_›
 exact⟨(kQ w0 g14 (λn=>if n=2 then 1 else 0),l_v),(congrArg (a₁:=l) (λ(z0:List Pt)=>Ending.returned (l_v)) e0),bH.fresh _,(e0▸(o_l.glue (γ:=c0) (ren:=(λn=>if n=2 then 1 else 0)) (k:=1) bH.col rfl rfl))⟩
set_option maxHeartbeats 4000000 in
theorem nu(w0:World)(g:(Int)×(List Pt))(g_v:Value)(hg_v:Ro w0 g_v g.2)(p:(List Pt)×(List (List Pt)))(p_v p_v1:Value)(hp_v:Ro w0 p_v p.1)(hp_v1:Ro w0 p_v1 p.2):
    Calls Try.prog 25 #[vg [vi g.1,g_v],vg [p_v,p_v1]] w0 (λee w=>ee= .returned (vt [vg [vi (((ag g p).1).1),vi ((((ag g p).1).2).1),vi (((((ag g p).1).2).2).1),vb ((((((ag g p).1).2).2).2).1),vb ((((((ag g p).1).2).2).2).2)],vi ((ag g p).2)])/\cW w0.heap.size w0 w):=by
 refine aI Try.func25 rfl nq ?_
 have bH:=bo.start w0
 have Rg:=hg_v.sl
 have Rp:=hp_v.sl
 have r_p_v1:=hp_v1.sl
 refine a6 (a5 rfl (cj rfl (bA c0 (is 1) (1,0) rfl rfl ?_)))
 intro g4 w1 b3 ch2 bx5
 replace bx5:Bx g4 (is 1) w1 b3 [vi g.1,g_v]:=bx5
 refine lo (bA g4 (is 2) (2,0) rfl rfl ?_)
 intro g9 w6 b8 ch7 bx10
 replace bx10:Bx g9 (is 2) w6 b8 [p_v,p_v1]:=bx10
 refine lo (bB g9 (is 3) (3,0) rfl dd ?_)
 intro g14 w11 b13 ch12 bx15
 replace bx15:Bx g14 (is 3) w11 b13 [vi 0,vi 0,vi 0,vb false,vb false]:=bx15
 refine ai 0 (a8 (a6 (a6 (a5 rfl ?_))))
 replace bx5:=(bx5.cn ch7).cn ch12
 refine lx (ad (ds:=[vi g.1,g_v]) bO rfl bx5 rfl rfl) ?_
 have C16:=cg [] (ch2.n.seq (ch7.n.seq ch12.n))
 replace Rg:=Rg.ca C16
 refine lo (aN (v:=vb (dm g)) (az (vals:=[vg [vi g.1,g_v]]) Try.func35 pb pR rfl) (rz w11 g g_v (Rg).ro) ?_)
 intro w17 hb18
 replace hb18:=aj hb18 g14
 refine lx (cm (b:=(dm g)) rfl) (a8 ?_)
 by_cases p1:(dm g)=true
 ·
  have hm:=of_decide_eq_true p1
  have hmay:=hm
  have hm0:=hm
  obtain⟨hm1,hm2,hm3,hm4⟩:=hm0
  refine af rfl (congrArg Bool.not p1) (am (a6 (a5 rfl ?_)))
  replace bx5:=bx5.cn hb18
  refine lx (ad (ds:=[vi g.1,g_v]) bO rfl bx5 rfl rfl) ?_
  replace bx10:=(bx10.cn ch12).cn hb18
  refine lx (ad (ds:=[p_v,p_v1]) bJ rfl bx10 rfl rfl) ?_
  replace Rg:=Rg.cn hb18
  have C19:=cg [] (ch2.n.seq (ch7.n.seq (ch12.n.seq hb18.n)))
  replace Rp:=Rp.ca C19
  replace r_p_v1:=r_p_v1.ca C19
  refine lw (vg [vi g.1,g_v,p_v,p_v1,vn]) (bz (vs:=[(0,vg [vi g.1,g_v]),(1,vg [p_v,p_v1])]) rfl (by rw[Sl.form Rg,Sl.form Rp,Sl.form r_p_v1];kernel_rfl)) (lo (bA g14 (is 4) (4,0) rfl rfl ?_))
  intro g23 w20 b22 ch21 bx24
  replace bx24:Bx g23 (is 4) w20 b22 [vi g.1,g_v,p_v,p_v1,vn]:=bx24
  refine ma (vp b22 0) (a8 (a6 ?_))
  clear bx5
  refine a5 rfl (mv (vp b22 0) (lo ?_))
  refine d5 (σ:=Value×(List cr)×aW) (V:=λ⟨l_4_c1_v,l_4_c1,gq⟩=>vt []) (S:=λ⟨l_4_c1_v,l_4_c1,gq⟩ w=>bo w0 gq w/\Sl gq (is 0) w g_v g.2/\Sl gq (is 0) w p_v p.1/\Sl gq (is 0) w p_v1 p.2/\Bx gq (is 2) w b8 [p_v,p_v1]/\Bx gq (is 3) w b13 [vi 0,vi 0,vi 0,vb false,vb false]/\Bx gq (is 4) w b22 [vi g.1,g_v,p_v,p_v1,l_4_c1_v]/\Ow gq (is 8) (is 8) w l_4_c1_v l_4_c1/\(l_4_c1=c9 g p)) (az (vals:=[vp b22 0]) Try.func38 tT uN rfl) ?_ ?_
  ·
   refine aI Try.func38 rfl nq ?_
   replace Rg:=Rg.cn ch21
   replace Rp:=Rp.cn ch21
   replace r_p_v1:=r_p_v1.cn ch21
   refine a6 (a6 (bv g23 rfl gQ (by kernel_rfl) ?_))
   intro w26 ch25
   refine qm (vp b22 0) (qv (vp b22 0) (λw' hw'=>aK rfl) (qx (λw' hw'=>a7 mZ rfl rfl rfl rfl) (qx (λw' hw'=>a7 dn rfl rfl rfl rfl) ?_)))
   replace bx24:=bx24.cn ch25
   refine qx (λw' hw'=>a9 bt rfl (bx24.bel hw') rfl) ?_
   replace Rp:=Rp.cn ch25
   have len27:=(Rp).small
   refine qx (λw' hw'=>bE bZ rfl (Rp.bel hw')) (qm (vp b22 0) (qv (vp b22 0) (λw' hw'=>aK rfl) (qx (λw' hw'=>a7 mZ rfl rfl rfl rfl) (qx (λw' hw'=>a7 eR rfl rfl rfl rfl) (qx (λw' hw'=>a9 aG rfl (bx24.bel hw') rfl) (qx (λw' hw'=>dz (m:=(p.1.length:Int)) (n:=g.1) rfl rfl) (qm (vb (!(decide ((p.1.length:Int)=g.1)))) ?_)))))))
   by_cases q18_c1:(p.1.length:Int)=g.1
   ·
    refine aR (v:=vp b22 0) (wy (congrArg Bool.not (dt q18_c1))) (λw' hw'=>aw rfl) (aR (v:=vp b22 0) (wy (congrArg Bool.not (dt q18_c1))) (λw' hw'=>aK rfl) (aR (v:=vp b22 2) (wy (congrArg Bool.not (dt q18_c1))) (λw' hw'=>a7 mZ rfl rfl rfl rfl) (aR (v:=vp b22 3) (wy (congrArg Bool.not (dt q18_c1))) (λw' hw'=>a7 dn rfl rfl rfl rfl) (aR (v:=p_v1) (wy (congrArg Bool.not (dt q18_c1))) (λw' hw'=>a9 ci rfl (bx24.bel hw') rfl) ?_))))
    replace r_p_v1:=r_p_v1.cn ch25
    have len28:=(r_p_v1).small
    refine aR (v:=vi (p.2.length:Int)) (wy (congrArg Bool.not (dt q18_c1))) (λw' hw'=>bE eP rfl (r_p_v1.bel hw')) (aR (v:=vp b22 0) (wy (congrArg Bool.not (dt q18_c1))) (λw' hw'=>aw rfl) (aR (v:=vp b22 0) (wy (congrArg Bool.not (dt q18_c1))) (λw' hw'=>aK rfl) (aR (v:=vp b22 0) (wy (congrArg Bool.not (dt q18_c1))) (λw' hw'=>a7 mZ rfl rfl rfl rfl) (aR (v:=vp b22 1) (wy (congrArg Bool.not (dt q18_c1))) (λw' hw'=>a7 eR rfl rfl rfl rfl) ?_))))
    refine aR (v:=g_v) (wy (congrArg Bool.not (dt q18_c1))) (λw' hw'=>a9 ch rfl (bx24.bel hw') rfl) ?_
    replace Rg:=Rg.cn ch25
    have len29:=(Rg).small
    refine aR (v:=vi (g.2.length:Int)) (wy (congrArg Bool.not (dt q18_c1))) (λw' hw'=>bE gv rfl (Rg.bel hw')) (aR (v:=vb (!(decide ((p.2.length:Int)=(g.2.length:Int))))) (wy (congrArg Bool.not (dt q18_c1))) (λw' hw'=>dz (m:=(p.2.length:Int)) (n:=(g.2.length:Int)) rfl rfl) (qv (vb (!(decide ((p.2.length:Int)=(g.2.length:Int))))) (λw' hw'=>aB rfl (congrArg Bool.not (dt q18_c1)) rfl) (bM ?_)))
    intro w30 hc31
    replace hc31:=aj hc31 g23
    by_cases p0_c1:(p.2.length:Int)=(g.2.length:Int)
    ·
     refine af rfl (congrArg Bool.not (dt p0_c1)) (am (a6 (a6 (a5 rfl (mv (vp b22 0) (lw (vp b22 0) (aK rfl) (lx (a7 mZ rfl rfl rfl rfl) (lx (a7 dn rfl rfl rfl rfl) ?_))))))))
     replace bx24:=bx24.cn hc31
     refine lx (a9 bt rfl bx24 rfl) ?_
     replace Rp:=Rp.cn hc31
     refine lx (bE bZ rfl Rp) (mi 0 (a8 (ao ?_)))
     refine bf (σ:=Nat×Value×(List cr)×aW) (λ⟨vS,FS_v,FS,gq⟩ f w=>bo w0 gq w/\f 0=vp b22 0/\f 39=p_v/\f 40=vi (p.1.length:Int)/\f 41=vi ↑vS/\Sl gq (is 0) w g_v g.2/\Sl gq (is 0) w p_v p.1/\Sl gq (is 0) w p_v1 p.2/\Bx gq (is 2) w b8 [p_v,p_v1]/\Bx gq (is 3) w b13 [vi 0,vi 0,vi 0,vb false,vb false]/\Bx gq (is 4) w b22 [vi g.1,g_v,p_v,p_v1,FS_v]/\Ow gq (is 8) (is 8) w FS_v FS/\(vS:Int)<=((p.1.length:Int):Int)/\(FS=bI (jD p) vS)) (λ⟨vS,FS_v,FS,gq⟩=>Int.toNat (((p.1.length:Int):Int)-(vS:Int))) (0,vn,[],g23) ?_ ?_
     have C33:=cg [] (ch21.n.seq (ch25.n.seq hc31.n))
     have C34:=hb18.n.seq C33
     have C32:=ch2.n.seq (ch7.n.seq (ch12.n.seq C34))
     · exact⟨bH.ca C32,rfl,rfl,rfl,rfl,Rg.cn hc31,Rp,r_p_v1.cn hc31,bx10.ca C33,bx15.ca C34,bx24,Ow.nil,by omega,by rfl⟩
     clear Rg Rp r_p_v1 bx10 bx15 bx24 bH
     rintro⟨vS,FS_v,FS,g37⟩ f35 w36 ⟨bH,zs0_c1,zs39_c1,zs40_c1,zs41_c1,Rg,Rp,r_p_v1,bx10,bx15,bx24,o_FS,hle_vS,haS⟩ back3_c1
     have halS:=pz haS
     refine a6 (a5 rfl (lx (b6 (m:=↑vS) (n:=(p.1.length:Int)) zs41_c1 zs40_c1) (a8 (a6 ?_))))
     by_cases p3_c1:(vS:Int)<(p.1.length:Int)
     ·
      refine ae rfl (dt p3_c1) (am (a6 (ao (a6 (a5 rfl (mz zs41_c1 (lx (ab (v:=p_v) (i:=↑vS) bZ rfl zs39_c1 Rp zs41_c1 (by omega) (by omega)) (lw (vg [vi ((gI p.1 ↑vS).1),vi ((gI p.1 ↑vS).2)]) (aM (v:=p_v) (i:=↑vS) ah rfl Rp (by omega) (by omega) rfl) (lo (bB g37 (is 5) (5,0) rfl ah ?_))))))))))
      intro g41 w38 b40 ch39 bx42
      replace bx42:Bx g41 (is 5) w38 b40 [vi 0,vi 0]:=bx42
      refine ai (vS:Int) (lo (au (cs':=[vi ((gI p.1 ↑vS).1),vi ((gI p.1 ↑vS).2)]) ah rfl rfl bx42 rfl nq (AllOne.all (.cons rfl (.cons rfl .nil))) rfl ?_))
      intro w43 ch44 bx45
      clear bx42
      refine a8 (a6 (a5 rfl (lx (ad (ds:=[vi ((gI p.1 ↑vS).1),vi ((gI p.1 ↑vS).2)]) ah rfl bx45 rfl rfl) (lo (aC (α:=Pt) g41 (is 6) (is 6) (6,0) rfl ([(gI p.1 ↑vS)]:List Pt) bZ ah (by decide) (by decide) (vs:=[(0,vg [vi ((gI p.1 ↑vS).1),vi ((gI p.1 ↑vS).2)])]) rfl rfl (.cons rfl .nil) ?_)))))
      intro g46 w47 v48 ch49 o50
      refine lo (aN (v:=vb (decide (dy ([(gI p.1 ↑vS)]:List Pt)))) (az (vals:=[v48]) Try.func49 jW jY rfl) (jR w47 ([(gI p.1 ↑vS)]:List Pt) v48 (o50.flat).ro) ?_)
      intro w51 hb52
      replace hb52:=aj hb52 g46
      refine lx (cm (b:=(decide (dy ([(gI p.1 ↑vS)]:List Pt)))) rfl) (a8 ?_)
      by_cases p5_c1:(decide (dy ([(gI p.1 ↑vS)]:List Pt)))=true
      ·
       refine af rfl (congrArg Bool.not p5_c1) (am (ak ?_))
       clear bx45 o50
       refine a5 rfl (lx (aQ (m:=↑vS) (n:=1) zs41_c1 rfl (by omega)) (mi ((vS:Int)+1) (a8 ?_)))
       have C53:=cg [5] (ch39.n.seq ((ch44.l rfl).seq (ch49.n.seq hb52.n)))
       refine back3_c1 (vS+1,FS_v,FS,g46) _ _ ⟨bH.ca C53,zs0_c1,zs39_c1,zs40_c1,rfl,Rg.ca C53,Rp.ca C53,r_p_v1.ca C53,bx10.ca C53,bx15.ca C53,bx24.ca C53,o_FS.ca C53,by omega,?_⟩ ?_
       · show FS=bI (jD p) (vS+1)
         exact pG haS (vo ‹_›)
       · show Int.toNat (((p.1.length:Int):Int)-((vS+1):Int))<Int.toNat (((p.1.length:Int):Int)-(vS:Int))
         omega
      refine ae rfl (congrArg Bool.not (Bool.eq_false_iff.2 p5_c1)) ?_
      clear bx45 o50
      refine a5 rfl (mz zs0_c1 (mi ↑vS (lo (gy (az (vals:=[vp b22 0,vi 2,vi ↑vS,vi 0]) Try.func48 iG jc rfl) (aI Try.func48 rfl nq ?_)))))
      have C54:=cg [5] (ch39.n.seq ((ch44.l rfl).seq (ch49.n.seq hb52.n)))
      replace Rg:=Rg.ca C54
      replace Rp:=Rp.ca C54
      replace r_p_v1:=r_p_v1.ca C54
      replace o_FS:=o_FS.ca C54
      refine a5 rfl (mv (vp b22 0) (mv (vp b22 0) (lw (vp b22 0) (aK rfl) (lx (a7 mZ rfl rfl rfl rfl) ?_))))
      replace bx24:=bx24.ca C54
      refine lx (a9 dX rfl bx24 rfl) (mi 2 (mi ↑vS (mi 0 (lw (vg [vi 2,vi ↑vS,vi 0]) (bz (vs:=[(0,vi 2),(1,vi ↑vS),(2,vi 0)]) rfl (by kernel_rfl)) (lo (aC (α:=cr) g46 (is 7) (is 7) (7,0) rfl ([(2,(vS:Int),0)]:List cr) i9 eu (by decide) (by decide) (vs:=[(0,vg [vi 2,vi ↑vS,vi 0])]) rfl rfl (.cons rfl .nil) ?_))))))
      intro g55 w56 v57 ch58 o59
      refine lo ?_
      replace o_FS:=o_FS.cn ch58
      refine b9 (α:=cr) (xs:=FS) (ys:=([(2,(vS:Int),0)]:List cr)) g55 (J:=is 8) (S:=is 8) (8,0) rfl i9 eu (by decide) rfl rfl rfl o_FS o59.flat (by decide) (by(simp;omega)) ?_
      intro g60 w61 v62 ch63 o64
      clear o_FS
      refine lw (vp b22 0) (aK rfl) (lx (a7 mZ rfl rfl rfl rfl) (lo ?_))
      replace bx24:=(bx24.cn ch58).ce ch63
      refine bV (cs':=[vi g.1,g_v,p_v,p_v1,v62]) dX rfl rfl bx24 (c5 o64.flat) nq (cU o64.flat) rfl ?_
      intro w65 ch66 bx67
      clear bx24
      refine a8 (gZ (vs:=[]) Try.func48 .nil ?_)
      refine⟨vt [],rfl,?_⟩
      refine a8 (ak ?_)
      clear o59
      refine a5 rfl (lx (aQ (m:=↑vS) (n:=1) zs41_c1 rfl (by omega)) (mi ((vS:Int)+1) (a8 ?_)))
      have C68:=cg [4,5,8] (ch39.n.seq ((ch44.l rfl).seq (ch49.n.seq (hb52.n.seq (ch58.n.seq ((ch63.l rfl).seq (ch66.l rfl)))))))
      have C69:=cg [4,8] (ch58.n.seq ((ch63.l rfl).seq (ch66.l rfl)))
      refine back3_c1 (vS+1,v62,(FS++([(2,(vS:Int),0)]:List cr)),g60) _ _ ⟨bH.ca C68,zs0_c1,zs39_c1,zs40_c1,rfl,Rg.ca C69,Rp.ca C69,r_p_v1.ca C69,bx10.ca C68,bx15.ca C68,bx67,o64.ce ch66,by omega,?_⟩ ?_
      · show(FS++([(2,(vS:Int),0)]:List cr))=bI (jD p) (vS+1)
        exact mO haS (vu ‹_›)
      · show Int.toNat (((p.1.length:Int):Int)-((vS+1):Int))<Int.toNat (((p.1.length:Int):Int)-(vS:Int))
        omega
     refine af rfl (df p3_c1) (aO rfl (a6 (a5 rfl (mz zs0_c1 (lw (vp b22 0) (aK rfl) (lx (a7 mZ rfl rfl rfl rfl) (lx (a7 dn rfl rfl rfl rfl) (lx (a9 ci rfl bx24 rfl) (lx (bE eP rfl r_p_v1) (mi 0 ?_))))))))))
     refine a8 (ao ?_)
     refine bf (σ:=Value×(List cr)×Nat×aW) (λ⟨GS_v,GS,eS,gq⟩ f w=>bo w0 gq w/\f 0=vp b22 0/\f 58=p_v1/\f 59=vi (p.2.length:Int)/\f 60=vi ↑eS/\Sl gq (is 0) w g_v g.2/\Sl gq (is 0) w p_v p.1/\Sl gq (is 0) w p_v1 p.2/\Bx gq (is 2) w b8 [p_v,p_v1]/\Bx gq (is 3) w b13 [vi 0,vi 0,vi 0,vb false,vb false]/\Bx gq (is 4) w b22 [vi g.1,g_v,p_v,p_v1,GS_v]/\Ow gq (is 8) (is 8) w GS_v GS/\(eS:Int)<=((p.2.length:Int):Int)/\(GS=bI (jD p) p.1.length++bI (mE p) eS)) (λ⟨GS_v,GS,eS,gq⟩=>Int.toNat (((p.2.length:Int):Int)-(eS:Int))) (FS_v,FS,0,g37) ?_ ?_
     · exact⟨bH,zs0_c1,rfl,rfl,rfl,Rg,Rp,r_p_v1,bx10,bx15,bx24,o_FS,by omega,by exact n8 haS (by omega)⟩
     clear Rg Rp r_p_v1 bx10 bx15 bx24 o_FS bH
     rintro⟨GS_v,GS,eS,g72⟩ f70 w71 ⟨bH,zs0_c1,zs58_c1,zs59_c1,zs60_c1,Rg,Rp,r_p_v1,bx10,bx15,bx24,o_GS,hle_eS,hbS⟩ back9_c1
     have hblS:=pE hbS
     refine a6 (a5 rfl (lx (b6 (m:=↑eS) (n:=(p.2.length:Int)) zs60_c1 zs59_c1) (a8 (a6 ?_))))
     by_cases p9_c1:(eS:Int)<(p.2.length:Int)
     ·
      refine ae rfl (dt p9_c1) (am (a6 (ao (a6 (a5 rfl (mz zs60_c1 (lx (ab (v:=p_v1) (i:=↑eS) eP rfl zs58_c1 r_p_v1 zs60_c1 (by omega) (by omega)) ?_)))))))
      obtain⟨v73,cel74,r75⟩:=cN (r:=(eS:Int)) r_p_v1 (by omega) (by omega)
      refine lx (aZ bt rfl cel74) (ai (eS:Int) (ma v73 (a8 (a6 (a5 rfl (mv v73 ?_))))))
      have len76:=(r75).small
      refine lx (bE bZ rfl r75) (lx (b6 (m:=(List.length (gI p.2 ↑eS):Int)) (n:=2) rfl rfl) (mv (vb (decide ((List.length (gI p.2 ↑eS):Int)<2))) ?_))
      by_cases q68_c1:(List.length (gI p.2 ↑eS):Int)<2
      ·
       refine aa (wn (dt q68_c1)) (aa (wn (dt q68_c1)) (aa (wn (dt q68_c1)) (lw (vb true) (aD rfl (dt q68_c1) rfl) (a8 (ae rfl rfl ?_)))))
       clear r75
       refine a5 rfl (mz zs0_c1 (mi ↑eS (lo (gy (az (vals:=[vp b22 0,vi 3,vi ↑eS,vi 0]) Try.func48 iG jc rfl) (aI Try.func48 rfl nq (a5 rfl (mv (vp b22 0) (mv (vp b22 0) (lw (vp b22 0) (aK rfl) ?_)))))))))
       refine lx (a7 mZ rfl rfl rfl rfl) (lx (a9 dX rfl bx24 rfl) (mi 3 (mi ↑eS (mi 0 (lw (vg [vi 3,vi ↑eS,vi 0]) (bz (vs:=[(0,vi 3),(1,vi ↑eS),(2,vi 0)]) rfl (by kernel_rfl)) (lo (aC (α:=cr) g72 (is 9) (is 9) (9,0) rfl ([(3,(eS:Int),0)]:List cr) i9 eu (by decide) (by decide) (vs:=[(0,vg [vi 3,vi ↑eS,vi 0])]) rfl rfl (.cons rfl .nil) ?_)))))))
       intro g77 w78 v79 ch80 o81
       refine lo ?_
       replace o_GS:=o_GS.cn ch80
       refine b9 (α:=cr) (xs:=GS) (ys:=([(3,(eS:Int),0)]:List cr)) g77 (J:=is 8) (S:=is 8) (8,0) rfl i9 eu (by decide) rfl rfl rfl o_GS o81.flat (by decide) (by(simp;omega)) ?_
       intro g82 w83 v84 ch85 o86
       clear o_GS
       refine lw (vp b22 0) (aK rfl) (lx (a7 mZ rfl rfl rfl rfl) (lo ?_))
       replace bx24:=(bx24.cn ch80).ce ch85
       refine bV (cs':=[vi g.1,g_v,p_v,p_v1,v84]) dX rfl rfl bx24 (c5 o86.flat) nq (cU o86.flat) rfl ?_
       intro w87 ch88 bx89
       clear bx24
       refine a8 (gZ (vs:=[]) Try.func48 .nil ?_)
       refine⟨vt [],rfl,?_⟩
       refine a8 (ak ?_)
       clear o81
       refine a5 rfl (lx (aQ (m:=↑eS) (n:=1) zs60_c1 rfl (by omega)) (mi ((eS:Int)+1) (a8 ?_)))
       have C90:=cg [4,8] (ch80.n.seq ((ch85.l rfl).seq (ch88.l rfl)))
       refine back9_c1 (v84,(GS++([(3,(eS:Int),0)]:List cr)),eS+1,g82) _ _ ⟨bH.ca C90,zs0_c1,zs58_c1,zs59_c1,rfl,Rg.ca C90,Rp.ca C90,r_p_v1.ca C90,bx10.ca C90,bx15.ca C90,bx89,o86.ce ch88,by omega,?_⟩ ?_
       · show(GS++([(3,(eS:Int),0)]:List cr))=bI (jD p) p.1.length++bI (mE p) (eS+1)
         exact eZ hbS (uW ‹_›)
       · show Int.toNat (((p.2.length:Int):Int)-((eS+1):Int))<Int.toNat (((p.2.length:Int):Int)-(eS:Int))
         omega
      refine lv (v73) (wy (df q68_c1)) (aw rfl) (cj (wy (df q68_c1)) (aN (v:=vb (decide (dy (gI p.2 ↑eS)))) (az (vals:=[v73]) Try.func49 jW jY rfl) (jR w71 (gI p.2 ↑eS) v73 (r75).ro) ?_))
      intro w91 hb92
      replace hb92:=aj hb92 g72
      refine lv (vb (!(decide (dy (gI p.2 ↑eS))))) (wy (df q68_c1)) (cm (b:=(decide (dy (gI p.2 ↑eS)))) rfl) (lw (vb (!(decide (dy (gI p.2 ↑eS))))) (aB rfl (df q68_c1) rfl) (a8 ?_))
      by_cases p11_c1:(decide (dy (gI p.2 ↑eS)))=true
      ·
       refine af rfl (congrArg Bool.not p11_c1) (am (ak ?_))
       clear r75
       refine a5 rfl (lx (aQ (m:=↑eS) (n:=1) zs60_c1 rfl (by omega)) (mi ((eS:Int)+1) (a8 ?_)))
       refine back9_c1 (GS_v,GS,eS+1,g72) _ _ ⟨bH.cn hb92,zs0_c1,zs58_c1,zs59_c1,rfl,Rg.cn hb92,Rp.cn hb92,r_p_v1.cn hb92,bx10.cn hb92,bx15.cn hb92,bx24.cn hb92,o_GS.cn hb92,by omega,?_⟩ ?_
       · show GS=bI (jD p) p.1.length++bI (mE p) (eS+1)
         exact gh hbS (uZ ‹_› ‹_›)
       · show Int.toNat (((p.2.length:Int):Int)-((eS+1):Int))<Int.toNat (((p.2.length:Int):Int)-(eS:Int))
         omega
      refine ae rfl (congrArg Bool.not (Bool.eq_false_iff.2 p11_c1)) ?_
      clear r75
      refine a5 rfl (mz zs0_c1 (mi ↑eS (lo (gy (az (vals:=[vp b22 0,vi 3,vi ↑eS,vi 0]) Try.func48 iG jc rfl) (aI Try.func48 rfl nq ?_)))))
      replace Rg:=Rg.cn hb92
      replace Rp:=Rp.cn hb92
      replace r_p_v1:=r_p_v1.cn hb92
      replace o_GS:=o_GS.cn hb92
      refine a5 rfl (mv (vp b22 0) (mv (vp b22 0) (lw (vp b22 0) (aK rfl) (lx (a7 mZ rfl rfl rfl rfl) ?_))))
      replace bx24:=bx24.cn hb92
      refine lx (a9 dX rfl bx24 rfl) (mi 3 (mi ↑eS (mi 0 (lw (vg [vi 3,vi ↑eS,vi 0]) (bz (vs:=[(0,vi 3),(1,vi ↑eS),(2,vi 0)]) rfl (by kernel_rfl)) (lo (aC (α:=cr) g72 (is 10) (is 10) (10,0) rfl ([(3,(eS:Int),0)]:List cr) i9 eu (by decide) (by decide) (vs:=[(0,vg [vi 3,vi ↑eS,vi 0])]) rfl rfl (.cons rfl .nil) ?_))))))
      intro g93 w94 v95 ch96 o97
      refine lo ?_
      replace o_GS:=o_GS.cn ch96
      refine b9 (α:=cr) (xs:=GS) (ys:=([(3,(eS:Int),0)]:List cr)) g93 (J:=is 8) (S:=is 8) (8,0) rfl i9 eu (by decide) rfl rfl rfl o_GS o97.flat (by decide) (by(simp;omega)) ?_
      intro g98 w99 v100 ch101 o102
      clear o_GS
      refine lw (vp b22 0) (aK rfl) (lx (a7 mZ rfl rfl rfl rfl) (lo ?_))
      replace bx24:=(bx24.cn ch96).ce ch101
      refine bV (cs':=[vi g.1,g_v,p_v,p_v1,v100]) dX rfl rfl bx24 (c5 o102.flat) nq (cU o102.flat) rfl ?_
      intro w103 ch104 bx105
      clear bx24
      refine a8 (gZ (vs:=[]) Try.func48 .nil ?_)
      refine⟨vt [],rfl,?_⟩
      refine a8 (ak ?_)
      clear o97
      refine a5 rfl (lx (aQ (m:=↑eS) (n:=1) zs60_c1 rfl (by omega)) (mi ((eS:Int)+1) (a8 ?_)))
      have C107:=cg [4,8] (ch96.n.seq ((ch101.l rfl).seq (ch104.l rfl)))
      have C106:=hb92.n.seq C107
      refine back9_c1 (v100,(GS++([(3,(eS:Int),0)]:List cr)),eS+1,g98) _ _ ⟨bH.ca C106,zs0_c1,zs58_c1,zs59_c1,rfl,Rg.ca C107,Rp.ca C107,r_p_v1.ca C107,bx10.ca C106,bx15.ca C106,bx105,o102.ce ch104,by omega,?_⟩ ?_
      · show(GS++([(3,(eS:Int),0)]:List cr))=bI (jD p) p.1.length++bI (mE p) (eS+1)
        exact eZ hbS (uX ‹_›)
      · show Int.toNat (((p.2.length:Int):Int)-((eS+1):Int))<Int.toNat (((p.2.length:Int):Int)-(eS:Int))
        omega
     refine af rfl (df p9_c1) (aO rfl (gZ (vs:=[]) Try.func38 .nil ?_))
     refine⟨(GS_v,GS,g72),rfl,bH,Rg,Rp,r_p_v1,bx10,bx15,bx24,o_GS,?_⟩
     show GS=c9 g p
     exact vf ‹_› ‹_› hbS (by omega)
    refine ae rfl (congrArg Bool.not (df p0_c1)) (a6 (a5 rfl (mv (vp b22 0) (lo (gy (az (vals:=[vp b22 0,vi 1,vi 0,vi 0]) Try.func48 iG jc rfl) (aI Try.func48 rfl nq ?_))))))
    replace Rg:=Rg.cn hc31
    replace Rp:=Rp.cn hc31
    replace r_p_v1:=r_p_v1.cn hc31
    refine a5 rfl (mv (vp b22 0) (mv (vp b22 0) (lw (vp b22 0) (aK rfl) (lx (a7 mZ rfl rfl rfl rfl) ?_))))
    replace bx24:=bx24.cn hc31
    refine lx (a9 dX rfl bx24 rfl) (mi 1 (mi 0 (mi 0 (lw (vg [vi 1,vi 0,vi 0]) (bz (vs:=[(0,vi 1),(1,vi 0),(2,vi 0)]) rfl (by kernel_rfl)) (lo (aC (α:=cr) g23 (is 11) (is 11) (11,0) rfl ([(1,0,0)]:List cr) i9 eu (by decide) (by decide) (vs:=[(0,vg [vi 1,vi 0,vi 0])]) rfl rfl (.cons rfl .nil) ?_))))))
    intro g108 w109 v110 ch111 o112
    refine lo (b9 (α:=cr) (xs:=([])) (ys:=([(1,0,0)]:List cr)) g108 (J:=is 8) (S:=is 8) (8,0) rfl i9 eu (by decide) rfl rfl rfl Ow.nil o112.flat (by decide) (by(simp;done)) ?_)
    intro g113 w114 v115 ch116 o117
    replace o117:Ow g113 (is 8) (is 8) w114 v115 ([(1,0,0)]:List cr):=o117
    replace o117:Ow g113 (is 8) (is 8) w114 v115 (([(1,0,0)]:List cr):List cr):=o117
    refine lw (vp b22 0) (aK rfl) (lx (a7 mZ rfl rfl rfl rfl) (lo ?_))
    replace bx24:=(bx24.cn ch111).ce ch116
    refine bV (cs':=[vi g.1,g_v,p_v,p_v1,v115]) dX rfl rfl bx24 (c5 o117.flat) nq (cU o117.flat) rfl ?_
    intro w118 ch119 bx120
    clear bx24
    refine a8 (gZ (vs:=[]) Try.func48 .nil ?_)
    refine⟨vt [],rfl,?_⟩
    refine a8 (av (vs:=[]) Try.func38 .nil ?_)
    have C122:=cg [4,8] (ch111.n.seq ((ch116.l rfl).seq (ch119.l rfl)))
    have C123:=ch21.n.seq (ch25.n.seq (hc31.n.seq C122))
    have C124:=hb18.n.seq C123
    have C121:=ch2.n.seq (ch7.n.seq (ch12.n.seq C124))
    replace bH:=bH.ca C121
    replace Rg:=Rg.ca C122
    replace Rp:=Rp.ca C122
    replace r_p_v1:=r_p_v1.ca C122
    replace bx10:=bx10.ca C123
    replace bx15:=bx15.ca C124
    replace o117:=o117.ce ch119
    refine⟨(v115,([(1,0,0)]:List cr),g113),rfl,bH,Rg,Rp,r_p_v1,bx10,bx15,bx120,o117,?_⟩
    show([(1,0,0)]:List cr)=c9 g p
    exact uY ‹_›
   refine aq (wn (congrArg Bool.not (df q18_c1))) (aq (wn (congrArg Bool.not (df q18_c1))) (aq (wn (congrArg Bool.not (df q18_c1))) (aq (wn (congrArg Bool.not (df q18_c1))) (aq (wn (congrArg Bool.not (df q18_c1))) (aq (wn (congrArg Bool.not (df q18_c1))) (aq (wn (congrArg Bool.not (df q18_c1))) (aq (wn (congrArg Bool.not (df q18_c1))) (aq (wn (congrArg Bool.not (df q18_c1))) (aq (wn (congrArg Bool.not (df q18_c1))) ?_)))))))))
   refine aq (wn (congrArg Bool.not (df q18_c1))) (aq (wn (congrArg Bool.not (df q18_c1))) (aq (wn (congrArg Bool.not (df q18_c1))) (qv (vb true) (λw' hw'=>aD rfl (congrArg Bool.not (df q18_c1)) rfl) (bM ?_))))
   intro w125 hc126
   replace hc126:=aj hc126 g23
   refine ae rfl rfl (a6 (a5 rfl (mv (vp b22 0) (lo (gy (az (vals:=[vp b22 0,vi 1,vi 0,vi 0]) Try.func48 iG jc rfl) (aI Try.func48 rfl nq ?_))))))
   replace Rg:=(Rg.cn ch25).cn hc126
   replace Rp:=Rp.cn hc126
   replace r_p_v1:=(r_p_v1.cn ch25).cn hc126
   refine a5 rfl (mv (vp b22 0) (mv (vp b22 0) (lw (vp b22 0) (aK rfl) (lx (a7 mZ rfl rfl rfl rfl) ?_))))
   replace bx24:=bx24.cn hc126
   refine lx (a9 dX rfl bx24 rfl) (mi 1 (mi 0 (mi 0 (lw (vg [vi 1,vi 0,vi 0]) (bz (vs:=[(0,vi 1),(1,vi 0),(2,vi 0)]) rfl (by kernel_rfl)) (lo (aC (α:=cr) g23 (is 12) (is 12) (12,0) rfl ([(1,0,0)]:List cr) i9 eu (by decide) (by decide) (vs:=[(0,vg [vi 1,vi 0,vi 0])]) rfl rfl (.cons rfl .nil) ?_))))))
   intro g127 w128 v129 ch130 o131
   refine lo (b9 (α:=cr) (xs:=([])) (ys:=([(1,0,0)]:List cr)) g127 (J:=is 8) (S:=is 8) (8,0) rfl i9 eu (by decide) rfl rfl rfl Ow.nil o131.flat (by decide) (by(simp;done)) ?_)
   intro g132 w133 v134 ch135 o136
   replace o136:Ow g132 (is 8) (is 8) w133 v134 ([(1,0,0)]:List cr):=o136
   replace o136:Ow g132 (is 8) (is 8) w133 v134 (([(1,0,0)]:List cr):List cr):=o136
   refine lw (vp b22 0) (aK rfl) (lx (a7 mZ rfl rfl rfl rfl) (lo ?_))
   replace bx24:=(bx24.cn ch130).ce ch135
   refine bV (cs':=[vi g.1,g_v,p_v,p_v1,v134]) dX rfl rfl bx24 (c5 o136.flat) nq (cU o136.flat) rfl ?_
   intro w137 ch138 bx139
   clear bx24
   refine a8 (gZ (vs:=[]) Try.func48 .nil ?_)
   refine⟨vt [],rfl,?_⟩
   refine a8 (av (vs:=[]) Try.func38 .nil ?_)
   have C141:=cg [4,8] (ch130.n.seq ((ch135.l rfl).seq (ch138.l rfl)))
   have C142:=ch21.n.seq (ch25.n.seq (hc126.n.seq C141))
   have C143:=hb18.n.seq C142
   have C140:=ch2.n.seq (ch7.n.seq (ch12.n.seq C143))
   replace bH:=bH.ca C140
   replace Rg:=Rg.ca C141
   replace Rp:=Rp.ca C141
   replace r_p_v1:=r_p_v1.ca C141
   replace bx10:=bx10.ca C142
   replace bx15:=bx15.ca C143
   replace o136:=o136.ce ch138
   refine⟨(v134,([(1,0,0)]:List cr),g132),rfl,bH,Rg,Rp,r_p_v1,bx10,bx15,bx139,o136,?_⟩
   show([(1,0,0)]:List cr)=c9 g p
   exact uS ‹_›
  clear Rg Rp r_p_v1 bx10 bx15 bx24 bH
  rintro⟨l_4_c1_v,l_4_c1,g145⟩ w144 ⟨bH,Rg,Rp,r_p_v1,bx10,bx15,bx24,o_l_4_c1,hsh⟩
  have hshl:=oA (p:=p) hmay
  rw[<-hsh] at hshl
  refine a8 (a6 (a6 (a5 rfl (mv (vp b22 0) (lw (vp b22 0) (aK rfl) (lx (a7 mZ rfl rfl rfl rfl) (lx (a9 dX rfl bx24 rfl) ?_)))))))
  have len146:=(o_l_4_c1.flat).small
  refine lx (bE i9 rfl o_l_4_c1.flat) (lx (dZ (m:=(l_4_c1.length:Int)) (n:=0) rfl rfl) (a8 ?_))
  by_cases p5:0<(l_4_c1.length:Int)
  ·
   refine ae rfl (dt p5) (a6 ?_)
   clear bx10 bx24 o_l_4_c1
   refine a5 rfl (lw (vg [vi 0,vi 0,vi 0,vb false,vb false]) (bz (vs:=[]) rfl (by kernel_rfl)) (lo (au (cs':=[vi 0,vi 0,vi 0,vb false,vb false]) dd rfl rfl bx15 rfl nq (AllOne.all (.cons rfl (.cons rfl (.cons rfl (.cons rfl (.cons rfl .nil)))))) rfl ?_)))
   intro w147 ch148 bx149
   clear bx15
   refine ai 24 (a8 (av (vs:=[vg [vi 0,vi 0,vi 0,vb false,vb false],vi 24]) Try.func25 (.cell rfl (cd (ds:=[vi 0,vi 0,vi 0,vb false,vb false]) dd bx149 rfl rfl) (.tmp rfl .nil)) ?_))
   have e0:((0,0,0,false,false):(Int)×(Int)×(Int)×(Bool)×(Bool))=((ag g p).1):=by
     rw[pL hm hsh ‹_›]
   have e1:(24:Int)=((ag g p).2):=by
     rw[pL hm hsh ‹_›]
   replace bH:=bH.ce ch148
   exact⟨(co (a:=(0,0,0,false,false)) (b:=24) (λ(z0:(Int)×(Int)×(Int)×(Bool)×(Bool)) (z1:Int)=>Ending.returned (vt [vg [vi z0.1,vi z0.2.1,vi z0.2.2.1,vb z0.2.2.2.1,vb z0.2.2.2.2],vi z1])) e0 e1),bH.below⟩
  obtain⟨hF0,hsn,hs⟩:=r7 hsh p5
  have hs1:=hs.n
  have hs2:=hs.m
  refine af rfl (df p5) (am (a6 ?_))
  clear bx24 o_l_4_c1
  refine a5 rfl (lw (vg [vi 0,vi 0,vi 0,vb true,vb true]) (bz (vs:=[(3,vb true),(4,vb true)]) rfl (by kernel_rfl)) (lo (bB g145 (is 13) (13,0) rfl dd ?_)))
  intro g153 w150 b152 ch151 bx154
  replace bx154:Bx g153 (is 13) w150 b152 [vi 0,vi 0,vi 0,vb false,vb false]:=bx154
  refine lo (au (cs':=[vi 0,vi 0,vi 0,vb true,vb true]) dd rfl rfl bx154 rfl nq (AllOne.all (.cons rfl (.cons rfl (.cons rfl (.cons rfl (.cons rfl .nil)))))) rfl ?_)
  intro w155 ch156 bx157
  clear bx154
  refine a8 (a6 (a6 (a5 rfl (lx (a7 dn rfl rfl rfl rfl) ?_))))
  replace bx10:=(bx10.cn ch151).ce ch156
  refine lx (a9 ci rfl bx10 rfl) ?_
  replace r_p_v1:=(r_p_v1.cn ch151).ce ch156
  have len158:=(r_p_v1).small
  refine lx (bE eP rfl r_p_v1) (mi 0 (a8 (ao ?_)))
  refine bf (σ:=Int×Bool×Nat×aW) (λ⟨bn,ax,k,gq⟩ f w=>bo w0 gq w/\f 3=vp b8 0/\f 4=vp b13 0/\f 7=vp b152 0/\f 37=p_v1/\f 38=vi (p.2.length:Int)/\f 39=vi ↑k/\Sl gq (is 0) w g_v g.2/\Sl gq (is 0) w p_v p.1/\Sl gq (is 0) w p_v1 p.2/\Bx gq (is 2) w b8 [p_v,p_v1]/\Bx gq (is 3) w b13 [vi 0,vi 0,vi 0,vb false,vb false]/\Bx gq (is 13) w b152 [vi bn,vi 0,vi 0,vb true,vb ax]/\(k:Int)<=((p.2.length:Int):Int)/\(bn=gA p k/\ax=kZ p k)) (λ⟨bn,ax,k,gq⟩=>Int.toNat (((p.2.length:Int):Int)-(k:Int))) (0,true,0,g153) ?_ ?_
  replace bH:=bH.cn ch151
  · exact⟨bH.ce ch156,rfl,rfl,rfl,rfl,rfl,rfl,(Rg.cn ch151).ce ch156,(Rp.cn ch151).ce ch156,r_p_v1,bx10,(bx15.cn ch151).ce ch156,bx157,by omega,by exact⟨rfl,rfl⟩⟩
  clear Rg Rp r_p_v1 bx10 bx15 bx157 bH
  rintro⟨bn,ax,k,g161⟩ f159 w160 ⟨bH,zs3,zs4,zs7,zs37,zs38,zs39,Rg,Rp,r_p_v1,bx10,bx15,bx157,hle_k,hbk⟩ back9
  have hbd:=mS hs.ln k (by omega)
  refine a6 (a5 rfl (lx (b6 (m:=↑k) (n:=(p.2.length:Int)) zs39 zs38) (a8 (a6 ?_))))
  by_cases p9:(k:Int)<(p.2.length:Int)
  ·
   refine ae rfl (dt p9) ?_
   obtain⟨hl1,hl2,hl3⟩:=hs.ln (k:Int) (by omega) (by omega)
   refine am (a6 (ao (a6 (a5 rfl (lx (ab (v:=p_v1) (i:=↑k) eP rfl zs37 r_p_v1 zs39 (by omega) (by omega)) ?_)))))
   obtain⟨v162,cel163,r164⟩:=cN (r:=(k:Int)) r_p_v1 (by omega) (by omega)
   refine lx (aZ bt rfl cel163) (ma v162 (a8 (a6 (a5 rfl (lx (a7 qZ rfl rfl zs7 rfl) (lx (a9 aG rfl bx157 rfl) (mv v162 ?_)))))))
   have len165:=(r164).small
   refine lx (bE bZ rfl r164) (lx (cX (m:=(List.length (gI p.2 ↑k):Int)) (n:=2) rfl rfl (by omega)) (lx (aQ (m:=bn) (n:=(List.length (gI p.2 ↑k):Int)-2) rfl rfl (by omega)) (lx (a7 qZ rfl rfl zs7 rfl) (lo (au (cs':=[vi (bn+((List.length (gI p.2 ↑k):Int)-2)),vi 0,vi 0,vb true,vb ax]) aG rfl rfl bx157 rfl nq (AllOne.all (.cons rfl .nil)) rfl ?_)))))
   intro w166 ch167 bx168
   clear bx157
   refine a8 (a6 (a5 rfl (ai 1 (a8 (ao ?_)))))
   refine bf (σ:=Bool×Nat×aW) (λ⟨ay,i,gq⟩ f w=>bo w0 gq w/\f 3=vp b8 0/\f 4=vp b13 0/\f 7=vp b152 0/\f 9=v162/\f 10=vi ↑i/\f 37=p_v1/\f 38=vi (p.2.length:Int)/\f 39=vi ↑k/\Sl gq (is 0) w g_v g.2/\Sl gq (is 0) w p_v p.1/\Sl gq (is 0) w p_v1 p.2/\Bx gq (is 2) w b8 [p_v,p_v1]/\Bx gq (is 3) w b13 [vi 0,vi 0,vi 0,vb false,vb false]/\Sl gq (is 0) w v162 (gI p.2 ↑k)/\Bx gq (is 13) w b152 [vi (bn+((List.length (gI p.2 ↑k):Int)-2)),vi 0,vi 0,vb true,vb ay]/\(i:Int)<=((List.length (gI p.2 ↑k):Int):Int)/\(1<=i/\ay=(kZ p k&&g5 (oa (gI p.2 ↑k)) (i-1)))) (λ⟨ay,i,gq⟩=>List.length (gI p.2 ↑k)-i) (ax,1,g161) ?_ ?_
   · exact⟨bH.ce ch167,zs3,zs4,zs7,rfl,rfl,zs37,zs38,zs39,Rg.ce ch167,Rp.ce ch167,r_p_v1.ce ch167,bx10.ce ch167,bx15.ce ch167,r164.ce ch167,bx168,by omega,by exact uJ hbk.2⟩
   clear Rg Rp r_p_v1 bx10 bx15 r164 bx168 bH
   rintro⟨ay,i,g171⟩ f169 w170 ⟨bH,zs3,zs4,zs7,zs9,zs10,zs37,zs38,zs39,Rg,Rp,r_p_v1,bx10,bx15,r164,bx168,hle_i,hax⟩ back13
   have hi1:=hax.1
   refine a6 (a6 (a5 rfl (mz zs10 (mz zs9 (lx (bE bZ rfl r164) (lx (b6 (m:=↑i) (n:=(List.length (gI p.2 ↑k):Int)) rfl rfl) (a8 ?_)))))))
   by_cases p13:(i:Int)<(List.length (gI p.2 ↑k):Int)
   ·
    refine ae rfl (dt p13) (am (a6 (ao (a6 ?_))))
    refine cG (σ:=Nat×Nat×aW) (λ⟨b176,b182,gq⟩ f w=>bo w0 gq w/\f 3=vp b8 0/\f 4=vp b13 0/\f 7=vp b152 0/\f 9=v162/\f 10=vi ↑i/\f 11=vp b176 0/\f 12=vp b182 0/\f 37=p_v1/\f 38=vi (p.2.length:Int)/\f 39=vi ↑k/\Sl gq (is 0) w g_v g.2/\Sl gq (is 0) w p_v p.1/\Sl gq (is 0) w p_v1 p.2/\Bx gq (is 2) w b8 [p_v,p_v1]/\Bx gq (is 3) w b13 [vi 0,vi 0,vi 0,vb false,vb false]/\Sl gq (is 0) w v162 (gI p.2 ↑k)/\Bx gq (is 13) w b152 [vi (bn+((List.length (gI p.2 ↑k):Int)-2)),vi 0,vi 0,vb true,vb ay]/\Bx gq (is 14) w b176 [vi ((gI (gI p.2 ↑k) ((i:Int)-1)).1),vi ((gI (gI p.2 ↑k) ((i:Int)-1)).2)]/\Bx gq (is 15) w b182 [vi ((gI (gI p.2 ↑k) ↑i).1),vi ((gI (gI p.2 ↑k) ↑i).2)]) g171 (bY [14,15]) gQ ?_ ?_
    ·
     intro mid
     intro w173 ch172
     refine ht (v:=v162) 0 rfl (bu.refl _ _ _) (λw' hw'=>aw zs9) (ht (v:=vi ↑i) 1 rfl (bu.refl _ _ _) (λw' hw'=>aw zs10) (ht 2 rfl (bu.refl _ _ _) (λw' hw'=>cX (m:=↑i) (n:=1) rfl rfl (by omega)) ?_))
     replace r164:=r164.cn ch172
     refine ht 3 rfl (bu.refl _ _ _) (λw' hw'=>ab (v:=v162) (i:=(i:Int)-1) bZ rfl rfl (r164.chg hw' (bD rfl)) rfl (by omega) (by omega)) (ht (v:=vg [vi ((gI (gI p.2 ↑k) ((i:Int)-1)).1),vi ((gI (gI p.2 ↑k) ((i:Int)-1)).2)]) 4 rfl (bu.refl _ _ _) (λw' hw'=>aM (v:=v162) (i:=(i:Int)-1) ah rfl (r164.chg hw' (bD rfl)) (by omega) (by omega) rfl) (ht (v:=v162) 5 rfl (bu.refl _ _ _) (λw' hw'=>aw zs9) (ht (v:=vi ↑i) 6 rfl (bu.refl _ _ _) (λw' hw'=>aw zs10) (ht 7 rfl (bu.refl _ _ _) (λw' hw'=>ab (v:=v162) (i:=↑i) bZ rfl rfl (r164.chg hw' (bD rfl)) rfl (by omega) (by omega)) ?_))))
     refine ht (v:=vg [vi ((gI (gI p.2 ↑k) ↑i).1),vi ((gI (gI p.2 ↑k) ↑i).2)]) 8 rfl (bu.refl _ _ _) (λw' hw'=>aM (v:=v162) (i:=↑i) ah rfl (r164.chg hw' (bD rfl)) (by omega) (by omega) rfl) ?_
     refine bS 9 [10] (by kernel_rfl) ⟨bT 9 rfl (by kernel_rfl) rfl ?_,bT 10 rfl (by kernel_rfl) rfl ?_,trivial⟩
     ·
      refine bB g171 (is 14) (14,0) rfl ah ?_
      intro g177 w174 b176 ch175 bx178
      replace bx178:Bx g177 (is 14) w174 b176 [vi 0,vi 0]:=bx178
      have hs179:bu (bY [14,15]) _ _ _ _:=ch175.n
      refine⟨hs179.same,?_⟩
      refine aL 10 rfl (by kernel_rfl) rfl (bB g177 (is 15) (15,0) rfl ah ?_)
      intro g183 w180 b182 ch181 bx184
      replace bx184:Bx g183 (is 15) w180 b182 [vi 0,vi 0]:=bx184
      have hs185:=hs179.seq (ch181.n)
      refine⟨hs185.same,?_⟩
      refine aL 11 rfl (by kernel_rfl) rfl ?_
      replace bx178:=bx178.cn ch181
      refine au (cs':=[vi ((gI (gI p.2 ↑k) ((i:Int)-1)).1),vi ((gI (gI p.2 ↑k) ((i:Int)-1)).2)]) ah rfl rfl bx178 rfl nq (AllOne.all (.cons rfl (.cons rfl .nil))) rfl ?_
      intro w186 ch187 bx188
      clear bx178
      have hs189:=hs185.seq (ch187.l rfl)
      refine⟨hs189.same,?_⟩
      refine aL 12 rfl (by kernel_rfl) rfl ?_
      replace bx184:=bx184.ce ch187
      refine au (cs':=[vi ((gI (gI p.2 ↑k) ↑i).1),vi ((gI (gI p.2 ↑k) ↑i).2)]) ah rfl rfl bx184 rfl nq (AllOne.all (.cons rfl (.cons rfl .nil))) rfl ?_
      intro w190 ch191 bx192
      clear bx184
      have hs193:=hs189.seq (ch191.l rfl)
      refine⟨hs193.same,?_⟩
      refine bQ (by kernel_rfl) ?_
      have C194:=cg [14,15] (ch172.n.seq (ch175.n.seq (ch181.n.seq ((ch187.l rfl).seq (ch191.l rfl)))))
      replace Rg:=Rg.cn ch172
      replace Rp:=Rp.cn ch172
      replace r_p_v1:=r_p_v1.cn ch172
      replace bx10:=bx10.cn ch172
      replace bx15:=bx15.cn ch172
      replace bx168:=bx168.cn ch172
      exact mid (b176,b182,g183) _ _ ⟨bH.ca C194,zs3,zs4,zs7,zs9,zs10,rfl,rfl,zs37,zs38,zs39,(Rg.ca hs193),(Rp.ca hs193),(r_p_v1.ca hs193),(bx10.ca hs193),(bx15.ca hs193),(r164.ca hs193),(bx168.ca hs193),bx188.ce ch191,bx192⟩
     ·
      refine bB g171 (is 15) (15,0) rfl ah ?_
      intro g198 w195 b197 ch196 bx199
      replace bx199:Bx g198 (is 15) w195 b197 [vi 0,vi 0]:=bx199
      have hs200:bu (bY [14,15]) _ _ _ _:=ch196.n
      refine⟨hs200.same,?_⟩
      refine aL 9 rfl (by kernel_rfl) rfl (bB g198 (is 14) (14,0) rfl ah ?_)
      intro g204 w201 b203 ch202 bx205
      replace bx205:Bx g204 (is 14) w201 b203 [vi 0,vi 0]:=bx205
      have hs206:=hs200.seq (ch202.n)
      refine⟨hs206.same,?_⟩
      refine aL 11 rfl (by kernel_rfl) rfl (au (cs':=[vi ((gI (gI p.2 ↑k) ((i:Int)-1)).1),vi ((gI (gI p.2 ↑k) ((i:Int)-1)).2)]) ah rfl rfl bx205 rfl nq (AllOne.all (.cons rfl (.cons rfl .nil))) rfl ?_)
      intro w207 ch208 bx209
      clear bx205
      have hs210:=hs206.seq (ch208.l rfl)
      refine⟨hs210.same,?_⟩
      refine aL 12 rfl (by kernel_rfl) rfl ?_
      replace bx199:=(bx199.cn ch202).ce ch208
      refine au (cs':=[vi ((gI (gI p.2 ↑k) ↑i).1),vi ((gI (gI p.2 ↑k) ↑i).2)]) ah rfl rfl bx199 rfl nq (AllOne.all (.cons rfl (.cons rfl .nil))) rfl ?_
      intro w211 ch212 bx213
      clear bx199
      have hs214:=hs210.seq (ch212.l rfl)
      refine⟨hs214.same,?_⟩
      refine bQ (by kernel_rfl) ?_
      have C215:=cg [14,15] (ch172.n.seq (ch196.n.seq (ch202.n.seq ((ch208.l rfl).seq (ch212.l rfl)))))
      replace Rg:=Rg.cn ch172
      replace Rp:=Rp.cn ch172
      replace r_p_v1:=r_p_v1.cn ch172
      replace bx10:=bx10.cn ch172
      replace bx15:=bx15.cn ch172
      replace bx168:=bx168.cn ch172
      exact mid (b203,b197,g204) _ _ ⟨bH.ca C215,zs3,zs4,zs7,zs9,zs10,rfl,rfl,zs37,zs38,zs39,(Rg.ca hs214),(Rp.ca hs214),(r_p_v1.ca hs214),(bx10.ca hs214),(bx15.ca hs214),(r164.ca hs214),(bx168.ca hs214),bx209.ce ch212,bx213⟩
    clear Rg Rp r_p_v1 bx10 bx15 r164 bx168 bH
    rintro⟨b176,b182,g218⟩ f216 w217 ⟨bH,zs3,zs4,zs7,zs9,zs10,zs11,zs12,zs37,zs38,zs39,Rg,Rp,r_p_v1,bx10,bx15,r164,bx168,bx188,bx192⟩
    refine a5 rfl (lx (a7 qZ rfl rfl zs7 rfl) (lx (a9 kd rfl bx168 rfl) (mv (vb ay) ?_)))
    by_cases q67:ay=true
    ·
     refine lv (vp b176 0) (wy q67) (a7 cq rfl rfl zs11 rfl) (lv (vi ((gI (gI p.2 ↑k) ((i:Int)-1)).1)) (wy q67) (a9 aG rfl bx188 rfl) (lv (vp b182 0) (wy q67) (a7 cq rfl rfl zs12 rfl) (lv (vi ((gI (gI p.2 ↑k) ↑i).1)) (wy q67) (a9 aG rfl bx192 rfl) (lv (vb (decide (((gI (gI p.2 ↑k) ((i:Int)-1)).1)=((gI (gI p.2 ↑k) ↑i).1)))) (wy q67) (cu (m:=(gI (gI p.2 ↑k) ((i:Int)-1)).1) (n:=(gI (gI p.2 ↑k) ↑i).1) rfl rfl) (lv (vb (decide (((gI (gI p.2 ↑k) ((i:Int)-1)).1)=((gI (gI p.2 ↑k) ↑i).1)))) (wy q67) (aw rfl) ?_)))))
     by_cases q73:((gI (gI p.2 ↑k) ((i:Int)-1)).1)=((gI (gI p.2 ↑k) ↑i).1)
     ·
      refine aa (wn (dt q73)) (aa (wn (dt q73)) (aa (wn (dt q73)) (aa (wn (dt q73)) (aa (wn (dt q73)) (lv (vb true) (wy q67) (aD rfl (dt q73) rfl) (lw (vb true) (aD rfl q67 rfl) (lx (a7 qZ rfl rfl zs7 rfl) (lo (au (cs':=[vi (bn+((List.length (gI p.2 ↑k):Int)-2)),vi 0,vi 0,vb true,vb true]) kd rfl rfl bx168 rfl nq (AllOne.all (.cons rfl .nil)) rfl ?_)))))))))
      intro w219 ch220 bx221
      clear bx168
      refine a8 (ak ?_)
      clear bx188 bx192
      refine a5 rfl (mz zs10 (lx (aQ (m:=↑i) (n:=1) rfl rfl (by omega)) (ai ((i:Int)+1) (a8 ?_))))
      refine back13 (true,i+1,g218) _ _ ⟨bH.ce ch220,zs3,zs4,zs7,zs9,rfl,zs37,zs38,zs39,Rg.ce ch220,Rp.ce ch220,r_p_v1.ce ch220,bx10.ce ch220,bx15.ce ch220,r164.ce ch220,bx221,by omega,?_⟩ ?_
      · show 1<=(i+1)/\true=(kZ p k&&g5 (oa (gI p.2 ↑k)) ((i+1)-1))
        exact xA hax ‹_› ‹_›
      · show List.length (gI p.2 ↑k)-(i+1)<List.length (gI p.2 ↑k)-i
        omega
     refine lv (vp b176 1) (wy (df q73)) (a7 cq rfl rfl zs11 rfl) (lv (vi ((gI (gI p.2 ↑k) ((i:Int)-1)).2)) (wy (df q73)) (a9 aG rfl bx188 rfl) (lv (vp b182 1) (wy (df q73)) (a7 cq rfl rfl zs12 rfl) (lv (vi ((gI (gI p.2 ↑k) ↑i).2)) (wy (df q73)) (a9 aG rfl bx192 rfl) (lv (vb (decide (((gI (gI p.2 ↑k) ((i:Int)-1)).2)=((gI (gI p.2 ↑k) ↑i).2)))) (wy (df q73)) (cu (m:=(gI (gI p.2 ↑k) ((i:Int)-1)).2) (n:=(gI (gI p.2 ↑k) ↑i).2) rfl rfl) ?_))))
     refine lv (vb (decide (((gI (gI p.2 ↑k) ((i:Int)-1)).2)=((gI (gI p.2 ↑k) ↑i).2)))) (wy q67) (aB rfl (df q73) rfl) (lw (vb (decide (((gI (gI p.2 ↑k) ((i:Int)-1)).2)=((gI (gI p.2 ↑k) ↑i).2)))) (aD rfl q67 rfl) (lx (a7 qZ rfl rfl zs7 rfl) (lo (au (cs':=[vi (bn+((List.length (gI p.2 ↑k):Int)-2)),vi 0,vi 0,vb true,vb (decide (((gI (gI p.2 ↑k) ((i:Int)-1)).2)=((gI (gI p.2 ↑k) ↑i).2)))]) kd rfl rfl bx168 rfl nq (AllOne.all (.cons rfl .nil)) rfl ?_))))
     intro w222 ch223 bx224
     clear bx168
     refine a8 (ak ?_)
     clear bx188 bx192
     refine a5 rfl (mz zs10 (lx (aQ (m:=↑i) (n:=1) rfl rfl (by omega)) (ai ((i:Int)+1) (a8 ?_))))
     refine back13 (decide (((gI (gI p.2 ↑k) ((i:Int)-1)).2)=((gI (gI p.2 ↑k) ↑i).2)),i+1,g218) _ _ ⟨bH.ce ch223,zs3,zs4,zs7,zs9,rfl,zs37,zs38,zs39,Rg.ce ch223,Rp.ce ch223,r_p_v1.ce ch223,bx10.ce ch223,bx15.ce ch223,r164.ce ch223,bx224,by omega,?_⟩ ?_
     · show 1<=(i+1)/\(decide (((gI (gI p.2 ↑k) ((i:Int)-1)).2)=((gI (gI p.2 ↑k) ↑i).2)))=(kZ p k&&g5 (oa (gI p.2 ↑k)) ((i+1)-1))
       exact xL hax ‹_› ‹_›
     · show List.length (gI p.2 ↑k)-(i+1)<List.length (gI p.2 ↑k)-i
       omega
    refine aa (wn (Bool.eq_false_iff.2 q67)) (aa (wn (Bool.eq_false_iff.2 q67)) (aa (wn (Bool.eq_false_iff.2 q67)) (aa (wn (Bool.eq_false_iff.2 q67)) (aa (wn (Bool.eq_false_iff.2 q67)) (aa (wn (Bool.eq_false_iff.2 q67)) (aa (bg rfl rfl rfl) (aa (bg rfl rfl rfl) (aa (bg rfl rfl rfl) (aa (bg rfl rfl rfl) ?_)))))))))
    refine aa (bg rfl rfl rfl) (aa (wn (Bool.eq_false_iff.2 q67)) (lw (vb false) (aB rfl (Bool.eq_false_iff.2 q67) rfl) (lx (a7 qZ rfl rfl zs7 rfl) (lo (au (cs':=[vi (bn+((List.length (gI p.2 ↑k):Int)-2)),vi 0,vi 0,vb true,vb false]) kd rfl rfl bx168 rfl nq (AllOne.all (.cons rfl .nil)) rfl ?_)))))
    intro w225 ch226 bx227
    clear bx168
    refine a8 (ak ?_)
    clear bx188 bx192
    refine a5 rfl (mz zs10 (lx (aQ (m:=↑i) (n:=1) rfl rfl (by omega)) (ai ((i:Int)+1) (a8 ?_))))
    refine back13 (false,i+1,g218) _ _ ⟨bH.ce ch226,zs3,zs4,zs7,zs9,rfl,zs37,zs38,zs39,Rg.ce ch226,Rp.ce ch226,r_p_v1.ce ch226,bx10.ce ch226,bx15.ce ch226,r164.ce ch226,bx227,by omega,?_⟩ ?_
    · show 1<=(i+1)/\false=(kZ p k&&g5 (oa (gI p.2 ↑k)) ((i+1)-1))
      exact xj hax ‹_›
    · show List.length (gI p.2 ↑k)-(i+1)<List.length (gI p.2 ↑k)-i
      omega
   refine af rfl (df p13) (aO rfl (ak ?_))
   clear r164
   refine a5 rfl (lx (aQ (m:=↑k) (n:=1) zs39 rfl (by omega)) (mi ((k:Int)+1) (a8 ?_)))
   refine back9 (bn+((List.length (gI p.2 ↑k):Int)-2),ay,k+1,g171) _ _ ⟨bH,zs3,zs4,zs7,zs37,zs38,rfl,Rg,Rp,r_p_v1,bx10,bx15,bx168,by omega,?_⟩ ?_
   · show(bn+((List.length (gI p.2 ↑k):Int)-2))=gA p (k+1)/\ay=kZ p (k+1)
     exact⟨by rw[hbk.1];rfl,vN hbk.2 hax ‹_› (by omega)⟩
   · show Int.toNat (((p.2.length:Int):Int)-((k+1):Int))<Int.toNat (((p.2.length:Int):Int)-(k:Int))
     omega
  refine af rfl (df p9) (aO rfl (a6 (a5 rfl (lx (a7 qZ rfl rfl zs7 rfl) (lx (a9 aG rfl bx157 rfl) (lx (cu (m:=bn) (n:=0) rfl rfl) (lx (a7 qZ rfl rfl zs7 rfl) (lo (au (cs':=[vi bn,vi 0,vi 0,vb (decide (bn=0)),vb ax]) kd rfl rfl bx157 rfl nq (AllOne.all (.cons rfl .nil)) rfl ?_)))))))))
  intro w228 ch229 bx230
  clear bx157
  refine a8 (a6 (a6 (a5 rfl ?_)))
  replace bx10:=bx10.ce ch229
  refine lx (ad (ds:=[p_v,p_v1]) bJ zs3 bx10 rfl rfl) ?_
  replace Rp:=Rp.ce ch229
  replace r_p_v1:=r_p_v1.ce ch229
  refine lo (d5 (az (vals:=[vg [p_v,p_v1]]) Try.func39 tR uD rfl) (qt w228 p p_v p_v1 (Rp).ro (r_p_v1).ro (by omega) (by omega) (by exact λe h0 h1=>(hs.ln e h0 h1).2.1)) ?_)
  rintro⟨d232,v234⟩ w231 ⟨fr233,o235⟩
  obtain⟨g236,ch237,G236⟩:=ny g161 fr233 (λn=>if n=1 then 16 else 0)
  replace o235:=o235.gl G236 16
  refine ma v234 (a8 (a6 ?_))
  clear bx10
  refine a5 rfl (mv v234 ?_)
  have len238:=(o235.flat).small
  refine lx (bE bZ rfl o235.flat) (lx (dZ (m:=(List.length (bx p):Int)) (n:=0) rfl rfl) (a8 ?_))
  by_cases p20:0<(List.length (bx p):Int)
  ·
   refine ae rfl (dt p20) (a6 ?_)
   refine cG (σ:=Nat×Nat×aW) (λ⟨b243,b249,gq⟩ f w=>bo w0 gq w/\f 4=vp b13 0/\f 7=vp b152 0/\f 13=v234/\f 14=vp b243 0/\f 15=vp b249 0/\Sl gq (is 0) w g_v g.2/\Sl gq (is 0) w p_v p.1/\Sl gq (is 0) w p_v1 p.2/\Bx gq (is 3) w b13 [vi 0,vi 0,vi 0,vb false,vb false]/\Bx gq (is 13) w b152 [vi bn,vi 0,vi 0,vb (decide (bn=0)),vb ax]/\Ow gq (is 16) (is 16) w v234 (bx p)/\Bx gq (is 17) w b243 [vi ((gI (bx p) 0).1),vi ((gI (bx p) 0).2)]/\Bx gq (is 18) w b249 [vi ((gI (bx p) 0).1),vi ((gI (bx p) 0).2)]) g236 (bY [17,18]) gQ ?_ ?_
   ·
    intro mid
    intro w240 ch239
    refine ht (v:=v234) 0 rfl (bu.refl _ _ _) (λw' hw'=>aw rfl) ?_
    replace o235:=o235.cn ch239
    refine ht 1 rfl (bu.refl _ _ _) (λw' hw'=>ab (v:=v234) (i:=0) bZ rfl rfl (o235.flat.chg hw' (bD rfl)) rfl (by omega) (by omega)) (ht (v:=vg [vi ((gI (bx p) 0).1),vi ((gI (bx p) 0).2)]) 2 rfl (bu.refl _ _ _) (λw' hw'=>aM (v:=v234) (i:=0) ah rfl (o235.flat.chg hw' (bD rfl)) (by omega) (by omega) rfl) (ht (v:=v234) 3 rfl (bu.refl _ _ _) (λw' hw'=>aw rfl) (ht 4 rfl (bu.refl _ _ _) (λw' hw'=>ab (v:=v234) (i:=0) bZ rfl rfl (o235.flat.chg hw' (bD rfl)) rfl (by omega) (by omega)) (ht (v:=vg [vi ((gI (bx p) 0).1),vi ((gI (bx p) 0).2)]) 5 rfl (bu.refl _ _ _) (λw' hw'=>aM (v:=v234) (i:=0) ah rfl (o235.flat.chg hw' (bD rfl)) (by omega) (by omega) rfl) ?_))))
    refine bS 6 [7] (by kernel_rfl) ⟨bT 6 rfl (by kernel_rfl) rfl ?_,bT 7 rfl (by kernel_rfl) rfl ?_,trivial⟩
    ·
     refine bB g236 (is 17) (17,0) rfl ah ?_
     intro g244 w241 b243 ch242 bx245
     replace bx245:Bx g244 (is 17) w241 b243 [vi 0,vi 0]:=bx245
     have hs246:bu (bY [17,18]) _ _ _ _:=ch242.n
     refine⟨hs246.same,?_⟩
     refine aL 7 rfl (by kernel_rfl) rfl (bB g244 (is 18) (18,0) rfl ah ?_)
     intro g250 w247 b249 ch248 bx251
     replace bx251:Bx g250 (is 18) w247 b249 [vi 0,vi 0]:=bx251
     have hs252:=hs246.seq (ch248.n)
     refine⟨hs252.same,?_⟩
     refine aL 8 rfl (by kernel_rfl) rfl ?_
     replace bx245:=bx245.cn ch248
     refine au (cs':=[vi ((gI (bx p) 0).1),vi ((gI (bx p) 0).2)]) ah rfl rfl bx245 rfl nq (AllOne.all (.cons rfl (.cons rfl .nil))) rfl ?_
     intro w253 ch254 bx255
     clear bx245
     have hs256:=hs252.seq (ch254.l rfl)
     refine⟨hs256.same,?_⟩
     refine aL 9 rfl (by kernel_rfl) rfl ?_
     replace bx251:=bx251.ce ch254
     refine au (cs':=[vi ((gI (bx p) 0).1),vi ((gI (bx p) 0).2)]) ah rfl rfl bx251 rfl nq (AllOne.all (.cons rfl (.cons rfl .nil))) rfl ?_
     intro w257 ch258 bx259
     clear bx251
     have hs260:=hs256.seq (ch258.l rfl)
     refine⟨hs260.same,?_⟩
     refine bQ (by kernel_rfl) ?_
     have C261:=cg [13,17,18] ((ch229.l rfl).seq (ch237.n.seq (ch239.n.seq (ch242.n.seq (ch248.n.seq ((ch254.l rfl).seq (ch258.l rfl)))))))
     have C262:=cg [13] ((ch229.l rfl).seq (ch237.n.seq ch239.n))
     replace Rg:=Rg.ca C262
     replace Rp:=(Rp.cn ch237).cn ch239
     replace r_p_v1:=(r_p_v1.cn ch237).cn ch239
     replace bx15:=bx15.ca C262
     replace bx230:=(bx230.cn ch237).cn ch239
     exact mid (b243,b249,g250) _ _ ⟨bH.ca C261,zs4,zs7,rfl,rfl,rfl,(Rg.ca hs260),(Rp.ca hs260),(r_p_v1.ca hs260),(bx15.ca hs260),(bx230.ca hs260),(o235.ca hs260),bx255.ce ch258,bx259⟩
    ·
     refine bB g236 (is 18) (18,0) rfl ah ?_
     intro g266 w263 b265 ch264 bx267
     replace bx267:Bx g266 (is 18) w263 b265 [vi 0,vi 0]:=bx267
     have hs268:bu (bY [17,18]) _ _ _ _:=ch264.n
     refine⟨hs268.same,?_⟩
     refine aL 6 rfl (by kernel_rfl) rfl (bB g266 (is 17) (17,0) rfl ah ?_)
     intro g272 w269 b271 ch270 bx273
     replace bx273:Bx g272 (is 17) w269 b271 [vi 0,vi 0]:=bx273
     have hs274:=hs268.seq (ch270.n)
     refine⟨hs274.same,?_⟩
     refine aL 8 rfl (by kernel_rfl) rfl (au (cs':=[vi ((gI (bx p) 0).1),vi ((gI (bx p) 0).2)]) ah rfl rfl bx273 rfl nq (AllOne.all (.cons rfl (.cons rfl .nil))) rfl ?_)
     intro w275 ch276 bx277
     clear bx273
     have hs278:=hs274.seq (ch276.l rfl)
     refine⟨hs278.same,?_⟩
     refine aL 9 rfl (by kernel_rfl) rfl ?_
     replace bx267:=(bx267.cn ch270).ce ch276
     refine au (cs':=[vi ((gI (bx p) 0).1),vi ((gI (bx p) 0).2)]) ah rfl rfl bx267 rfl nq (AllOne.all (.cons rfl (.cons rfl .nil))) rfl ?_
     intro w279 ch280 bx281
     clear bx267
     have hs282:=hs278.seq (ch280.l rfl)
     refine⟨hs282.same,?_⟩
     refine bQ (by kernel_rfl) ?_
     have C283:=cg [13,17,18] ((ch229.l rfl).seq (ch237.n.seq (ch239.n.seq (ch264.n.seq (ch270.n.seq ((ch276.l rfl).seq (ch280.l rfl)))))))
     have C284:=cg [13] ((ch229.l rfl).seq (ch237.n.seq ch239.n))
     replace Rg:=Rg.ca C284
     replace Rp:=(Rp.cn ch237).cn ch239
     replace r_p_v1:=(r_p_v1.cn ch237).cn ch239
     replace bx15:=bx15.ca C284
     replace bx230:=(bx230.cn ch237).cn ch239
     exact mid (b271,b265,g272) _ _ ⟨bH.ca C283,zs4,zs7,rfl,rfl,rfl,(Rg.ca hs282),(Rp.ca hs282),(r_p_v1.ca hs282),(bx15.ca hs282),(bx230.ca hs282),(o235.ca hs282),bx277.ce ch280,bx281⟩
   clear Rg Rp r_p_v1 bx15 bx230 o235 bH
   rintro⟨b243,b249,g287⟩ f285 w286 ⟨bH,zs4,zs7,zs13,zs14,zs15,Rg,Rp,r_p_v1,bx15,bx230,o235,bx255,bx259⟩
   refine a6 (a6 (a5 rfl (mz zs13 (lx (bE bZ rfl o235.flat) (mi 0 (a8 (ao ?_)))))))
   refine bf (σ:=Int×Int×Int×Int×Nat×aW) (λ⟨t14_0,t14_1,t15_0,t15_1,q,gq⟩ f w=>bo w0 gq w/\f 4=vp b13 0/\f 7=vp b152 0/\f 14=vp b243 0/\f 15=vp b249 0/\f 98=v234/\f 99=vi (List.length (bx p):Int)/\f 100=vi ↑q/\Sl gq (is 0) w g_v g.2/\Sl gq (is 0) w p_v p.1/\Sl gq (is 0) w p_v1 p.2/\Bx gq (is 3) w b13 [vi 0,vi 0,vi 0,vb false,vb false]/\Bx gq (is 13) w b152 [vi bn,vi 0,vi 0,vb (decide (bn=0)),vb ax]/\Ow gq (is 16) (is 16) w v234 (bx p)/\Bx gq (is 17) w b243 [vi t14_0,vi t14_1]/\Bx gq (is 18) w b249 [vi t15_0,vi t15_1]/\(q:Int)<=((List.length (bx p):Int):Int)/\((t14_0=(lG (bx p) q).1/\t14_1=(lG (bx p) q).2)/\t15_0=(m8 (bx p) q).1/\t15_1=(m8 (bx p) q).2)) (λ⟨t14_0,t14_1,t15_0,t15_1,q,gq⟩=>Int.toNat (((List.length (bx p):Int):Int)-(q:Int))) ((gI (bx p) 0).1,(gI (bx p) 0).2,(gI (bx p) 0).1,(gI (bx p) 0).2,0,g287) ?_ ?_
   · exact⟨bH,zs4,zs7,zs14,zs15,rfl,rfl,rfl,Rg,Rp,r_p_v1,bx15,bx230,o235,bx255,bx259,by omega,by exact⟨⟨rfl,rfl⟩,rfl,rfl⟩⟩
   clear Rg Rp r_p_v1 bx15 bx230 o235 bx255 bx259 bH
   rintro⟨t14_0,t14_1,t15_0,t15_1,q,g290⟩ f288 w289 ⟨bH,zs4,zs7,zs14,zs15,zs98,zs99,zs100,Rg,Rp,r_p_v1,bx15,bx230,o235,bx255,bx259,hle_q,hbx⟩ back23
   refine a6 (a5 rfl (lx (b6 (m:=↑q) (n:=(List.length (bx p):Int)) zs100 zs99) (a8 (a6 ?_))))
   by_cases p23:(q:Int)<(List.length (bx p):Int)
   ·
    refine ae rfl (dt p23) (am (a6 (ao (a6 (a5 rfl (lx (ab (v:=v234) (i:=↑q) bZ rfl zs98 o235.flat zs100 (by omega) (by omega)) (lw (vg [vi ((gI (bx p) (q:Int)).1),vi ((gI (bx p) (q:Int)).2)]) (aM (v:=v234) (i:=↑q) ah rfl o235.flat (by omega) (by omega) rfl) (lo (bB g290 (is 19) (19,0) rfl ah ?_)))))))))
    intro g294 w291 b293 ch292 bx295
    replace bx295:Bx g294 (is 19) w291 b293 [vi 0,vi 0]:=bx295
    refine lo (au (cs':=[vi ((gI (bx p) (q:Int)).1),vi ((gI (bx p) (q:Int)).2)]) ah rfl rfl bx295 rfl nq (AllOne.all (.cons rfl (.cons rfl .nil))) rfl ?_)
    intro w296 ch297 bx298
    clear bx295
    refine a8 ?_
    refine cG (σ:=aW) (λgq f w=>bo w0 gq w/\f 4=vp b13 0/\f 7=vp b152 0/\f 14=vp b243 0/\f 15=vp b249 0/\f 98=v234/\f 99=vi (List.length (bx p):Int)/\f 100=vi ↑q/\Sl gq (is 0) w g_v g.2/\Sl gq (is 0) w p_v p.1/\Sl gq (is 0) w p_v1 p.2/\Bx gq (is 3) w b13 [vi 0,vi 0,vi 0,vb false,vb false]/\Bx gq (is 13) w b152 [vi bn,vi 0,vi 0,vb (decide (bn=0)),vb ax]/\Ow gq (is 16) (is 16) w v234 (bx p)/\Bx gq (is 17) w b243 [vi (min t14_0 ((gI (bx p) (q:Int)).1)),vi (min t14_1 ((gI (bx p) (q:Int)).2))]/\Bx gq (is 18) w b249 [vi (max t15_0 ((gI (bx p) (q:Int)).1)),vi (max t15_1 ((gI (bx p) (q:Int)).2))]) g294 (bY [17,18]) gQ ?_ ?_
    ·
     intro mid
     intro w300 ch299
     refine ht 0 rfl (bu.refl _ _ _) (λw' hw'=>a7 cq rfl rfl zs14 rfl) (ht 2 rfl (bu.refl _ _ _) (λw' hw'=>a7 cq rfl rfl rfl rfl) ?_)
     replace bx298:=bx298.cn ch299
     refine ht 3 rfl (bu.refl _ _ _) (λw' hw'=>a9 aG rfl (bx298.chg hw' (bD rfl)) rfl) (ht 5 rfl (bu.refl _ _ _) (λw' hw'=>a7 cq rfl rfl zs14 rfl) (ht 7 rfl (bu.refl _ _ _) (λw' hw'=>a7 cq rfl rfl rfl rfl) (ht 8 rfl (bu.refl _ _ _) (λw' hw'=>a9 aG rfl (bx298.chg hw' (bD rfl)) rfl) (ht 10 rfl (bu.refl _ _ _) (λw' hw'=>a7 cq rfl rfl zs15 rfl) (ht 12 rfl (bu.refl _ _ _) (λw' hw'=>a7 cq rfl rfl rfl rfl) (ht 13 rfl (bu.refl _ _ _) (λw' hw'=>a9 aG rfl (bx298.chg hw' (bD rfl)) rfl) (ht 15 rfl (bu.refl _ _ _) (λw' hw'=>a7 cq rfl rfl zs15 rfl) (ht 17 rfl (bu.refl _ _ _) (λw' hw'=>a7 cq rfl rfl rfl rfl) ?_))))))))
     refine ht 18 rfl (bu.refl _ _ _) (λw' hw'=>a9 aG rfl (bx298.chg hw' (bD rfl)) rfl) ?_
     have C301:=cg [19] (ch292.n.seq ((ch297.l rfl).seq ch299.n))
     replace bx255:=bx255.ca C301
     refine k6 (v:=vi t14_0) 1 [18,17,15,13,12,10,8,7,5,3,2,0,6,11,16,9,14,19] rfl (by kernel_rfl) (by kernel_rfl) rfl (bu.refl _ _ _) (λw' hw'=>a9 aG rfl (bx255.bel hw') rfl) (ht (v:=vi (min t14_0 ((gI (bx p) (q:Int)).1))) 4 rfl (bu.refl _ _ _) (λw' hw'=>nl rfl rfl) (k6 (v:=vi t14_1) 6 [4,1,18,17,15,13,12,10,8,7,5,3,2,0,11,16,14,19] rfl (by kernel_rfl) (by kernel_rfl) rfl (bu.refl _ _ _) (λw' hw'=>a9 aG rfl (bx255.bel hw') rfl) (ht (v:=vi (min t14_1 ((gI (bx p) (q:Int)).2))) 9 rfl (bu.refl _ _ _) (λw' hw'=>nl rfl rfl) ?_)))
     replace bx259:=bx259.ca C301
     refine k6 (v:=vi t15_1) 16 [9,6,4,1,18,17,15,13,12,10,8,7,5,3,2,0,11,14] rfl (by kernel_rfl) (by kernel_rfl) rfl (bu.refl _ _ _) (λw' hw'=>a9 aG rfl (bx259.bel hw') rfl) (ht (v:=vi (max t15_1 ((gI (bx p) (q:Int)).2))) 19 rfl (bu.refl _ _ _) (λw' hw'=>kI rfl rfl) (ht 20 rfl (bu.refl _ _ _) (λw' hw'=>a7 cq rfl rfl zs14 rfl) ?_))
     refine bS 11 [21] (by kernel_rfl) ⟨bT 11 rfl (by kernel_rfl) rfl ?_,bT 21 rfl (by kernel_rfl) rfl ?_,trivial⟩
     ·
      refine aP (v:=vi t15_0) (a9 aG rfl bx259 rfl) ?_
      refine⟨(bu.refl _ _ _),?_⟩
      refine ht (v:=vi (max t15_0 ((gI (bx p) (q:Int)).1))) 14 rfl (bu.refl _ _ _) (λw' hw'=>kI rfl rfl) (aL 21 rfl (by kernel_rfl) rfl (au (cs':=[vi (min t14_0 ((gI (bx p) (q:Int)).1)),vi t14_1]) aG rfl rfl bx255 rfl nq (AllOne.all (.cons rfl .nil)) rfl ?_))
      intro w302 ch303 bx304
      clear bx255
      have hs305:bu (bY [17,18]) _ _ _ _:=ch303.l rfl
      refine⟨hs305.same,?_⟩
      refine ht 22 rfl hs305.same (λw' hw'=>a7 cq rfl rfl zs14 rfl) (aL 23 rfl (by kernel_rfl) rfl (au (cs':=[vi (min t14_0 ((gI (bx p) (q:Int)).1)),vi (min t14_1 ((gI (bx p) (q:Int)).2))]) aG rfl rfl bx304 rfl nq (AllOne.all (.cons rfl .nil)) rfl ?_))
      intro w306 ch307 bx308
      clear bx304
      have hs309:=hs305.seq (ch307.l rfl)
      refine⟨hs309.same,?_⟩
      refine ht 24 rfl hs309.same (λw' hw'=>a7 cq rfl rfl zs15 rfl) (aL 25 rfl (by kernel_rfl) rfl ?_)
      replace bx259:=(bx259.ce ch303).ce ch307
      refine au (cs':=[vi (max t15_0 ((gI (bx p) (q:Int)).1)),vi t15_1]) aG rfl rfl bx259 rfl nq (AllOne.all (.cons rfl .nil)) rfl ?_
      intro w310 ch311 bx312
      clear bx259
      have hs313:=hs309.seq (ch311.l rfl)
      refine⟨hs313.same,?_⟩
      refine ht 26 rfl hs313.same (λw' hw'=>a7 cq rfl rfl zs15 rfl) (aL 27 rfl (by kernel_rfl) rfl (au (cs':=[vi (max t15_0 ((gI (bx p) (q:Int)).1)),vi (max t15_1 ((gI (bx p) (q:Int)).2))]) aG rfl rfl bx312 rfl nq (AllOne.all (.cons rfl .nil)) rfl ?_))
      intro w314 ch315 bx316
      clear bx312
      have hs317:=hs313.seq (ch315.l rfl)
      refine⟨hs317.same,?_⟩
      refine bQ (by kernel_rfl) ?_
      have C318:=cg [17,18,19] (ch292.n.seq ((ch297.l rfl).seq (ch299.n.seq ((ch303.l rfl).seq ((ch307.l rfl).seq ((ch311.l rfl).seq (ch315.l rfl)))))))
      replace Rg:=Rg.ca C301
      replace Rp:=Rp.ca C301
      replace r_p_v1:=r_p_v1.ca C301
      replace bx15:=bx15.ca C301
      replace bx230:=bx230.ca C301
      replace o235:=o235.ca C301
      exact mid (g294) _ _ ⟨bH.ca C318,zs4,zs7,zs14,zs15,zs98,zs99,zs100,(Rg.ca hs317),(Rp.ca hs317),(r_p_v1.ca hs317),(bx15.ca hs317),(bx230.ca hs317),(o235.ca hs317),(bx308.ce ch311).ce ch315,bx316⟩
     ·
      refine au (cs':=[vi (min t14_0 ((gI (bx p) (q:Int)).1)),vi t14_1]) aG rfl rfl bx255 rfl nq (AllOne.all (.cons rfl .nil)) rfl ?_
      intro w319 ch320 bx321
      clear bx255
      have hs322:bu (bY [17,18]) _ _ _ _:=ch320.l rfl
      refine⟨hs322.same,?_⟩
      refine ht 22 rfl hs322.same (λw' hw'=>a7 cq rfl rfl zs14 rfl) ?_
      refine bS 11 [23] (by kernel_rfl) ⟨bT 11 rfl (by kernel_rfl) rfl ?_,bT 23 rfl (by kernel_rfl) rfl ?_,trivial⟩
      ·
       replace bx259:=bx259.ce ch320
       refine aP (v:=vi t15_0) (a9 aG rfl bx259 rfl) ?_
       refine⟨hs322.same,?_⟩
       refine ht (v:=vi (max t15_0 ((gI (bx p) (q:Int)).1))) 14 rfl hs322.same (λw' hw'=>kI rfl rfl) (aL 23 rfl (by kernel_rfl) rfl (au (cs':=[vi (min t14_0 ((gI (bx p) (q:Int)).1)),vi (min t14_1 ((gI (bx p) (q:Int)).2))]) aG rfl rfl bx321 rfl nq (AllOne.all (.cons rfl .nil)) rfl ?_))
       intro w323 ch324 bx325
       clear bx321
       have hs326:=hs322.seq (ch324.l rfl)
       refine⟨hs326.same,?_⟩
       refine ht 24 rfl hs326.same (λw' hw'=>a7 cq rfl rfl zs15 rfl) (aL 25 rfl (by kernel_rfl) rfl ?_)
       replace bx259:=bx259.ce ch324
       refine au (cs':=[vi (max t15_0 ((gI (bx p) (q:Int)).1)),vi t15_1]) aG rfl rfl bx259 rfl nq (AllOne.all (.cons rfl .nil)) rfl ?_
       intro w327 ch328 bx329
       clear bx259
       have hs330:=hs326.seq (ch328.l rfl)
       refine⟨hs330.same,?_⟩
       refine ht 26 rfl hs330.same (λw' hw'=>a7 cq rfl rfl zs15 rfl) (aL 27 rfl (by kernel_rfl) rfl (au (cs':=[vi (max t15_0 ((gI (bx p) (q:Int)).1)),vi (max t15_1 ((gI (bx p) (q:Int)).2))]) aG rfl rfl bx329 rfl nq (AllOne.all (.cons rfl .nil)) rfl ?_))
       intro w331 ch332 bx333
       clear bx329
       have hs334:=hs330.seq (ch332.l rfl)
       refine⟨hs334.same,?_⟩
       refine bQ (by kernel_rfl) ?_
       have C335:=cg [17,18,19] (ch292.n.seq ((ch297.l rfl).seq (ch299.n.seq ((ch320.l rfl).seq ((ch324.l rfl).seq ((ch328.l rfl).seq (ch332.l rfl)))))))
       replace Rg:=Rg.ca C301
       replace Rp:=Rp.ca C301
       replace r_p_v1:=r_p_v1.ca C301
       replace bx15:=bx15.ca C301
       replace bx230:=bx230.ca C301
       replace o235:=o235.ca C301
       exact mid (g294) _ _ ⟨bH.ca C335,zs4,zs7,zs14,zs15,zs98,zs99,zs100,(Rg.ca hs334),(Rp.ca hs334),(r_p_v1.ca hs334),(bx15.ca hs334),(bx230.ca hs334),(o235.ca hs334),(bx325.ce ch328).ce ch332,bx333⟩
      ·
       refine au (cs':=[vi (min t14_0 ((gI (bx p) (q:Int)).1)),vi (min t14_1 ((gI (bx p) (q:Int)).2))]) aG rfl rfl bx321 rfl nq (AllOne.all (.cons rfl .nil)) rfl ?_
       intro w336 ch337 bx338
       clear bx321
       have hs339:=hs322.seq (ch337.l rfl)
       refine⟨hs339.same,?_⟩
       replace bx259:=(bx259.ce ch320).ce ch337
       refine k6 (v:=vi t15_0) 11 [23,22,21,20,19,16,9,6,4,1,18,17,15,13,12,10,8,7,5,3,2,0] rfl (by kernel_rfl) (by kernel_rfl) rfl hs339.same (λw' hw'=>a9 aG rfl (bx259.bel hw') rfl) (ht (v:=vi (max t15_0 ((gI (bx p) (q:Int)).1))) 14 rfl hs339.same (λw' hw'=>kI rfl rfl) (ht 24 rfl hs339.same (λw' hw'=>a7 cq rfl rfl zs15 rfl) (aL 25 rfl (by kernel_rfl) rfl (au (cs':=[vi (max t15_0 ((gI (bx p) (q:Int)).1)),vi t15_1]) aG rfl rfl bx259 rfl nq (AllOne.all (.cons rfl .nil)) rfl ?_))))
       intro w340 ch341 bx342
       clear bx259
       have hs343:=hs339.seq (ch341.l rfl)
       refine⟨hs343.same,?_⟩
       refine ht 26 rfl hs343.same (λw' hw'=>a7 cq rfl rfl zs15 rfl) (aL 27 rfl (by kernel_rfl) rfl (au (cs':=[vi (max t15_0 ((gI (bx p) (q:Int)).1)),vi (max t15_1 ((gI (bx p) (q:Int)).2))]) aG rfl rfl bx342 rfl nq (AllOne.all (.cons rfl .nil)) rfl ?_))
       intro w344 ch345 bx346
       clear bx342
       have hs347:=hs343.seq (ch345.l rfl)
       refine⟨hs347.same,?_⟩
       refine bQ (by kernel_rfl) ?_
       have C348:=cg [17,18,19] (ch292.n.seq ((ch297.l rfl).seq (ch299.n.seq ((ch320.l rfl).seq ((ch337.l rfl).seq ((ch341.l rfl).seq (ch345.l rfl)))))))
       replace Rg:=Rg.ca C301
       replace Rp:=Rp.ca C301
       replace r_p_v1:=r_p_v1.ca C301
       replace bx15:=bx15.ca C301
       replace bx230:=bx230.ca C301
       replace o235:=o235.ca C301
       exact mid (g294) _ _ ⟨bH.ca C348,zs4,zs7,zs14,zs15,zs98,zs99,zs100,(Rg.ca hs347),(Rp.ca hs347),(r_p_v1.ca hs347),(bx15.ca hs347),(bx230.ca hs347),(o235.ca hs347),(bx338.ce ch341).ce ch345,bx346⟩
    clear Rg Rp r_p_v1 bx15 bx230 o235 bx255 bx259 bx298 bH
    rintro g351 f349 w350 ⟨bH,zs4,zs7,zs14,zs15,zs98,zs99,zs100,Rg,Rp,r_p_v1,bx15,bx230,o235,bx308,bx316⟩
    refine ak (a5 rfl (lx (aQ (m:=↑q) (n:=1) zs100 rfl (by omega)) (mi ((q:Int)+1) (a8 ?_))))
    refine back23 (min t14_0 ((gI (bx p) (q:Int)).1),min t14_1 ((gI (bx p) (q:Int)).2),max t15_0 ((gI (bx p) (q:Int)).1),max t15_1 ((gI (bx p) (q:Int)).2),q+1,g351) _ _ ⟨bH,zs4,zs7,zs14,zs15,zs98,zs99,rfl,Rg,Rp,r_p_v1,bx15,bx230,o235,bx308,bx316,by omega,?_⟩ ?_
    · show((min t14_0 ((gI (bx p) (q:Int)).1))=(lG (bx p) (q+1)).1/\(min t14_1 ((gI (bx p) (q:Int)).2))=(lG (bx p) (q+1)).2)/\(max t15_0 ((gI (bx p) (q:Int)).1))=(m8 (bx p) (q+1)).1/\(max t15_1 ((gI (bx p) (q:Int)).2))=(m8 (bx p) (q+1)).2
      (obtain⟨⟨e1,e2⟩,e3,e4⟩:=hbx;rw[e1,e2,e3,e4];exact⟨⟨rfl,rfl⟩,rfl,rfl⟩)
    · show Int.toNat (((List.length (bx p):Int):Int)-((q+1):Int))<Int.toNat (((List.length (bx p):Int):Int)-(q:Int))
      omega
   refine af rfl (df p23) (aO rfl ?_)
   clear o235
   obtain⟨⟨hx1,hx2⟩,hx3,hx4⟩:=hbx
   obtain⟨⟨hb1,hb2⟩,hb3,hb4⟩:=sq (sv hs) (by omega) q (by omega)
   rw[<-hx1] at hb1
   rw[<-hx2] at hb2
   rw[<-hx3] at hb3
   rw[<-hx4] at hb4
   refine dY g290 (bY [13]) gQ ?_
   intro w353 ch352
   refine ht 0 rfl (bu.refl _ _ _) (λw' hw'=>a7 cq rfl rfl zs15 rfl) ?_
   replace bx259:=bx259.cn ch352
   refine ht 1 rfl (bu.refl _ _ _) (λw' hw'=>a9 aG rfl (bx259.chg hw' (bD rfl)) rfl) (ht 2 rfl (bu.refl _ _ _) (λw' hw'=>a7 cq rfl rfl zs14 rfl) ?_)
   replace bx255:=bx255.cn ch352
   refine ht 3 rfl (bu.refl _ _ _) (λw' hw'=>a9 aG rfl (bx255.chg hw' (bD rfl)) rfl) (ht 4 rfl (bu.refl _ _ _) (λw' hw'=>cX (m:=t15_0) (n:=t14_0) rfl rfl (by omega)) (ht 5 rfl (bu.refl _ _ _) (λw' hw'=>a7 cq rfl rfl zs15 rfl) (ht 6 rfl (bu.refl _ _ _) (λw' hw'=>a9 aG rfl (bx259.chg hw' (bD rfl)) rfl) (ht 7 rfl (bu.refl _ _ _) (λw' hw'=>a7 cq rfl rfl zs14 rfl) (ht 8 rfl (bu.refl _ _ _) (λw' hw'=>a9 aG rfl (bx255.chg hw' (bD rfl)) rfl) (ht 9 rfl (bu.refl _ _ _) (λw' hw'=>cX (m:=t15_1) (n:=t14_1) rfl rfl (by omega)) (ht 10 rfl (bu.refl _ _ _) (λw' hw'=>a7 qZ rfl rfl zs7 rfl) (aL 11 rfl (by kernel_rfl) rfl ?_))))))))
   replace bx230:=bx230.cn ch352
   refine au (cs':=[vi bn,vi (t15_0-t14_0),vi 0,vb (decide (bn=0)),vb ax]) aG rfl rfl bx230 rfl nq (AllOne.all (.cons rfl .nil)) rfl ?_
   intro w354 ch355 bx356
   clear bx230
   have hs357:bu (bY [13]) _ _ _ _:=ch355.l rfl
   refine⟨hs357.same,?_⟩
   refine ht 12 rfl hs357.same (λw' hw'=>a7 qZ rfl rfl zs7 rfl) (aL 13 rfl (by kernel_rfl) rfl (au (cs':=[vi bn,vi (t15_0-t14_0),vi (t15_1-t14_1),vb (decide (bn=0)),vb ax]) aG rfl rfl bx356 rfl nq (AllOne.all (.cons rfl .nil)) rfl ?_))
   intro w358 ch359 bx360
   clear bx356
   have hs361:=hs357.seq (ch359.l rfl)
   refine⟨hs361.same,?_⟩
   refine bQ (by kernel_rfl) (a6 ?_)
   clear bx255 bx259
   refine a5 rfl (lx (ad (ds:=[vi bn,vi (t15_0-t14_0),vi (t15_1-t14_1),vb (decide (bn=0)),vb ax]) dd zs7 bx360 rfl rfl) (lo ?_))
   have C365:=cg [13] (ch352.n.seq ((ch355.l rfl).seq (ch359.l rfl)))
   replace bx15:=bx15.ca C365
   refine au (cs':=[vi bn,vi (t15_0-t14_0),vi (t15_1-t14_1),vb (decide (bn=0)),vb ax]) dd zs4 rfl bx15 rfl nq (AllOne.all (.cons rfl (.cons rfl (.cons rfl (.cons rfl (.cons rfl .nil)))))) rfl ?_
   intro w362 ch363 bx364
   clear bx15
   refine ai 0 (a8 (av (vs:=[vg [vi bn,vi (t15_0-t14_0),vi (t15_1-t14_1),vb (decide (bn=0)),vb ax],vi 0]) Try.func25 (.cell zs4 (cd (ds:=[vi bn,vi (t15_0-t14_0),vi (t15_1-t14_1),vb (decide (bn=0)),vb ax]) dd bx364 rfl rfl) (.tmp rfl .nil)) ?_))
   have e0:((bn,t15_0-t14_0,t15_1-t14_1,decide (bn=0),ax):(Int)×(Int)×(Int)×(Bool)×(Bool))=((ag g p).1):=by
     (rw[kz hm hsn];exact wi hbk.1 hbk.2 (by omega) ‹_› ⟨⟨hx1,hx2⟩,hx3,hx4⟩ (by omega))
   have e1:(0:Int)=((ag g p).2):=by
     rw[kz hm hsn]
   have C366:=cg [3,13] (ch352.n.seq ((ch355.l rfl).seq ((ch359.l rfl).seq (ch363.l rfl))))
   replace bH:=bH.ca C366
   exact⟨(co (a:=(bn,t15_0-t14_0,t15_1-t14_1,decide (bn=0),ax)) (b:=0) (λ(z0:(Int)×(Int)×(Int)×(Bool)×(Bool)) (z1:Int)=>Ending.returned (vt [vg [vi z0.1,vi z0.2.1,vi z0.2.2.1,vb z0.2.2.2.1,vb z0.2.2.2.2],vi z1])) e0 e1),bH.below⟩
  refine af rfl (df p20) (am (a6 ?_))
  clear o235
  refine a5 rfl ?_
  replace bx230:=bx230.cn ch237
  refine lx (ad (ds:=[vi bn,vi 0,vi 0,vb (decide (bn=0)),vb ax]) dd zs7 bx230 rfl rfl) (lo ?_)
  replace bx15:=(bx15.ce ch229).cn ch237
  refine au (cs':=[vi bn,vi 0,vi 0,vb (decide (bn=0)),vb ax]) dd zs4 rfl bx15 rfl nq (AllOne.all (.cons rfl (.cons rfl (.cons rfl (.cons rfl (.cons rfl .nil)))))) rfl ?_
  intro w367 ch368 bx369
  clear bx15
  refine ai 0 (a8 (av (vs:=[vg [vi bn,vi 0,vi 0,vb (decide (bn=0)),vb ax],vi 0]) Try.func25 (.cell zs4 (cd (ds:=[vi bn,vi 0,vi 0,vb (decide (bn=0)),vb ax]) dd bx369 rfl rfl) (.tmp rfl .nil)) ?_))
  have e0:((bn,0,0,decide (bn=0),ax):(Int)×(Int)×(Int)×(Bool)×(Bool))=((ag g p).1):=by
    (rw[kz hm hsn];exact vC hbk.1 hbk.2 (by omega) ‹_›)
  have e1:(0:Int)=((ag g p).2):=by
    rw[kz hm hsn]
  have C370:=cg [3,13] ((ch229.l rfl).seq (ch237.n.seq (ch368.l rfl)))
  replace bH:=bH.ca C370
  exact⟨(co (a:=(bn,0,0,decide (bn=0),ax)) (b:=0) (λ(z0:(Int)×(Int)×(Int)×(Bool)×(Bool)) (z1:Int)=>Ending.returned (vt [vg [vi z0.1,vi z0.2.1,vi z0.2.2.1,vb z0.2.2.2.1,vb z0.2.2.2.2],vi z1])) e0 e1),bH.below⟩
 have hn:¬dp g:=λh=>p1 (dt h)
 refine ae rfl (congrArg Bool.not (Bool.eq_false_iff.2 p1)) (a6 ?_)
 clear bx5 bx10
 refine a5 rfl (lw (vg [vi 0,vi 0,vi 0,vb false,vb false]) (bz (vs:=[]) rfl (by kernel_rfl)) (lo ?_))
 replace bx15:=bx15.cn hb18
 refine au (cs':=[vi 0,vi 0,vi 0,vb false,vb false]) dd rfl rfl bx15 rfl nq (AllOne.all (.cons rfl (.cons rfl (.cons rfl (.cons rfl (.cons rfl .nil)))))) rfl ?_
 intro w371 ch372 bx373
 clear bx15
 refine ai 1 (a8 (av (vs:=[vg [vi 0,vi 0,vi 0,vb false,vb false],vi 1]) Try.func25 (.cell rfl (cd (ds:=[vi 0,vi 0,vi 0,vb false,vb false]) dd bx373 rfl rfl) (.tmp rfl .nil)) ?_))
 have e0:((0,0,0,false,false):(Int)×(Int)×(Int)×(Bool)×(Bool))=((ag g p).1):=by
   rw[r4 hn]
 have e1:(1:Int)=((ag g p).2):=by
   rw[r4 hn]
 have C374:=cg [3] (ch2.n.seq (ch7.n.seq (ch12.n.seq (hb18.n.seq (ch372.l rfl)))))
 replace bH:=bH.ca C374
 exact⟨(co (a:=(0,0,0,false,false)) (b:=1) (λ(z0:(Int)×(Int)×(Int)×(Bool)×(Bool)) (z1:Int)=>Ending.returned (vt [vg [vi z0.1,vi z0.2.1,vi z0.2.2.1,vb z0.2.2.2.1,vb z0.2.2.2.2],vi z1])) e0 e1),bH.below⟩
end TL
