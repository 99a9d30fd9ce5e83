import Derived.Test.YtkhfimgjcdeejaaTlP2
import Derived.Test.YtkhfimgjcdeejaaTlGmA
import Derived.Test.YtkhfimgjcdeejaaTlGmM
import Derived.Test.YtkhfimgjcdeejaaTlGmR
import Derived.Test.YtkhfimgjcdeejaaTlGenA
import Derived.Test.YtkhfimgjcdeejaaTlGdA
import Derived.Test.YtkhfimgjcdeejaaTlGjA
import Derived.Test.YtkhfimgjcdeejaaTlGjB
import Derived.Test.YtkhfimgjcdeejaaProg
import Derived.Test.YtkhfimgjcdeejaaTlAli
set_option linter.all false
set_option maxRecDepth 20000
namespace TL
open Go Go.Proofs
theorem eU:Try.prog.follows .mixedOrders=true:=by kernel_rfl
theorem iy:Tp Try.prog 4 false 1 1 (.bool false):=Tp.of (by kernel_rfl)
theorem bD:Tp Try.prog 22 false 1 24 (.slice none 0 0):=Tp.of (by kernel_rfl)
theorem bS:Tp Try.prog 29 true 2 32 (.agg #[.int .i64 0,.slice none 0 0]):=Tp.of (by kernel_rfl)
theorem cP:Tp Try.prog 36 false 1 24 (.slice none 0 0):=Tp.of (by kernel_rfl)
theorem bP:Tp Try.prog 38 true 2 48 (.agg #[.slice none 0 0,.slice none 0 0]):=Tp.of (by kernel_rfl)
theorem dg:Tp Try.prog 47 false 1 24 (.slice none 0 0):=Tp.of (by kernel_rfl)
theorem cz:Tp Try.prog 64 true 5 32 (.agg #[.int .i64 0,.int .i64 0,.int .i64 0,.bool false,.bool false]):=Tp.of (by kernel_rfl)
theorem dB:Tp Try.prog 72 true 3 24 (.agg #[.int .i64 0,.int .i64 0,.int .i64 0]):=Tp.of (by kernel_rfl)
theorem mG:Try.f35.body.isNone=false:=rfl
theorem lQ:(Try.f35.name== "runtime.NumGoroutine")=false:=by decide+kernel
theorem pD:Try.f38.body.isNone=false:=rfl
theorem qd:(Try.f38.name== "runtime.NumGoroutine")=false:=by decide+kernel
theorem po:Try.f39.body.isNone=false:=rfl
theorem pV:(Try.f39.name== "runtime.NumGoroutine")=false:=by decide+kernel
theorem gv:Try.f48.body.isNone=false:=rfl
theorem gi:(Try.f48.name== "runtime.NumGoroutine")=false:=by decide+kernel
theorem n9(w0:World)(p:(List Pt)×(List (List Pt)))(p_v p_v1:Value)(hp_v:Ro w0 p_v p.1)(hp_v1:Ro w0 p_v1 p.2)(hp1:(p.1.length:Int)<=1024)(hp2:(p.2.length:Int)<=3072)(hp3:∀e:Int,0<=e->e<p.2.length->(gI p.2 e).length<=4096):
    Calls Try.prog 39 #[vg [p_v,p_v1]] w0 (λee w=>∃xx:aV×Value,ee= .returned ((λ⟨δ,rv0⟩=>rv0) xx)/\(λ(⟨δ,rv0⟩:aV×Value) (w:World)=>iX w0 δ w/\Ow δ (is 1) (is 1) w rv0 (br p)) xx w):=by
 refine aK Try.func39 rfl nq ?_
 have bH:=bu.start w0
 have Rp:=hp_v.sl
 have r_p_v1:=hp_v1.sl
 refine a8 (a7 rfl (cN rfl (bC c0 (is 1) (1,0) rfl rfl ?_)))
 intro g4 w1 b3 ch2 bx5
 replace bx5:Bx g4 (is 1) w1 b3 [p_v,p_v1]:=bx5
 refine ma vn (ab (a8 (a7 rfl (lx (a9 eQ rfl rfl rfl rfl) (lx (aa bD rfl bx5 rfl) (lo ?_))))))
 replace Rp:=Rp.cn ch2
 refine bj (α:=Pt) (xs:=([])) (ys:=p.1) g4 (J:=is 2) (S:=is 2) (2,0) rfl cT aj (by decide) rfl rfl rfl Ow.nil Rp (by decide) (by(simp;omega)) ?_
 intro g6 w7 v8 ch9 o10
 replace o10:Ow g6 (is 2) (is 2) w7 v8 p.1:=o10
 refine ma v8 (ab (a8 (a8 (a7 rfl (lx (a9 eQ rfl rfl rfl rfl) ?_)))))
 replace bx5:=bx5.ce ch9
 refine lx (aa cP rfl bx5 rfl) ?_
 replace r_p_v1:=(r_p_v1.cn ch2).ce ch9
 have len11:=(r_p_v1).small
 refine lx (bO iL rfl r_p_v1) (mi 0 (ab (aC ?_)))
 clear bx5
 refine bF (σ:=Value×(List Pt)×Nat×aV) (λ⟨l_v,l,k,gq⟩ f w=>bu w0 gq w/\f 3=l_v/\f 10=p_v1/\f 11=vi (p.2.length:Int)/\f 12=vi ↑k/\Sl gq (is 0) w p_v p.1/\Sl gq (is 0) w p_v1 p.2/\Ow gq (is 2) (is 2) w l_v l/\(k:Int)<=((p.2.length:Int):Int)/\(l=p.1++(p.2.take k).flatten/\(l.length:Int)<=1024+4096*(k:Int))) (λ⟨l_v,l,k,gq⟩=>Int.toNat (((p.2.length:Int):Int)-(k:Int))) (v8,p.1,0,g6) ?_ ?_
 replace bH:=bH.cn ch2
 · exact⟨bH.ce ch9,rfl,rfl,rfl,rfl,Rp.ce ch9,r_p_v1,o10,by omega,by exact⟨by simp,by omega⟩⟩
 clear Rp r_p_v1 o10 bH
 rintro⟨l_v,l,k,g14⟩ f12 w13 ⟨bH,zs3,zs10,zs11,zs12,Rp,r_p_v1,o_l,hle_k,hinv⟩ back3
 obtain⟨hi1,hi2⟩:=hinv
 refine a8 (a7 rfl (lx (bc (m:=↑k) (n:=(p.2.length:Int)) zs12 zs11) (ab (a8 ?_))))
 by_cases p3:(k:Int)<(p.2.length:Int)
 ·
  refine ag rfl (dt p3) ?_
  have hll:=hp3 (k:Int) (by omega) (by omega)
  refine au (a8 (aC (a8 (a7 rfl (lx (af (v:=p_v1) (i:=↑k) iL rfl zs10 r_p_v1 zs12 (by omega) (by omega)) ?_)))))
  obtain⟨v15,cel16,r17⟩:=dK (r:=(k:Int)) r_p_v1 (by omega) (by omega)
  refine lx (aZ bD rfl cel16) (ma v15 (ab (a7 rfl (mz zs3 (mv v15 (lo (bj (α:=Pt) (xs:=l) (ys:=(gI p.2 ↑k)) g14 (J:=is 2) (S:=is 2) (2,0) rfl cT aj (by decide) rfl rfl rfl o_l r17 (by decide) (by omega) ?_)))))))
  intro g18 w19 v20 ch21 o22
  clear o_l
  refine ma v20 (ab (ap ?_))
  clear r17
  refine a7 rfl (lx (ba (m:=↑k) (n:=1) zs12 rfl (by omega)) (mi ((k:Int)+1) (ab ?_)))
  refine back3 (v20,(l++gI p.2 ↑k),k+1,g18) _ _ ⟨bH.ce ch21,rfl,zs10,zs11,rfl,Rp.ce ch21,r_p_v1.ce ch21,o22,by omega,?_⟩ ?_
  · show(l++gI p.2 ↑k)=p.1++(p.2.take (k+1)).flatten/\((l++gI p.2 ↑k).length:Int)<=1024+4096*((k+1):Int)
    exact og ⟨hi1,hi2⟩ ‹_› hll
  · show Int.toNat (((p.2.length:Int):Int)-((k+1):Int))<Int.toNat (((p.2.length:Int):Int)-(k:Int))
    omega
 refine ah rfl (df p3) (aQ rfl (a8 (a7 rfl (mz zs3 (ma l_v (ab (aw (vs:=[l_v]) Try.func39 (.tmp rfl .nil) ?_)))))))
 have e0:(l:List Pt)=(br p):=by
   exact oQ hi1 ‹_›
 exact⟨(fin w0 g14 (λn=>if n=2 then 1 else 0),l_v),(congrArg (a₁:=l) (λ(z0:List Pt)=>Ending.returned (l_v)) e0),bH.fresh _,(e0▸(o_l.glue (γ:=c0) (ren:=(λn=>if n=2 then 1 else 0)) (k:=1) bH.col rfl rfl))⟩
set_option maxHeartbeats 4000000 in
theorem kz(w0:World)(g:(Int)×(List Pt))(g_v:Value)(hg_v:Ro w0 g_v g.2)(p:(List Pt)×(List (List Pt)))(p_v p_v1:Value)(hp_v:Ro w0 p_v p.1)(hp_v1:Ro w0 p_v1 p.2):
    Calls Try.prog 25 #[vg [vi g.1,g_v],vg [p_v,p_v1]] w0 (λee w=>ee= .returned (vt [vg [vi (((ad g p).1).1),vi ((((ad g p).1).2).1),vi (((((ad g p).1).2).2).1),vb ((((((ad g p).1).2).2).2).1),vb ((((((ad g p).1).2).2).2).2)],vi ((ad g p).2)])/\cG w0.heap.size w0 w):=by
 refine aK Try.func25 rfl nq ?_
 have bH:=bu.start w0
 have Rg:=hg_v.sl
 have Rp:=hp_v.sl
 have r_p_v1:=hp_v1.sl
 refine a8 (a7 rfl (cN rfl (bC c0 (is 1) (1,0) rfl rfl ?_)))
 intro g4 w1 b3 ch2 bx5
 replace bx5:Bx g4 (is 1) w1 b3 [vi g.1,g_v]:=bx5
 refine lo (bC g4 (is 2) (2,0) rfl rfl ?_)
 intro g9 w6 b8 ch7 bx10
 replace bx10:Bx g9 (is 2) w6 b8 [p_v,p_v1]:=bx10
 refine lo (bo g9 (is 3) (3,0) rfl cz ?_)
 intro g14 w11 b13 ch12 bx15
 replace bx15:Bx g14 (is 3) w11 b13 [vi 0,vi 0,vi 0,vb false,vb false]:=bx15
 refine ai 0 (ab (a8 (a8 (a7 rfl ?_))))
 replace bx5:=(bx5.cn ch7).cn ch12
 refine lx (ae (ds:=[vi g.1,g_v]) bS rfl bx5 rfl rfl) ?_
 have C16:=cg [] (ch2.n.seq (ch7.n.seq ch12.n))
 replace Rg:=Rg.ca C16
 refine lo (aP (v:=vb (cK g)) (aG (vals:=[vg [vi g.1,g_v]]) Try.func35 mG lQ rfl) (oh w11 g g_v (Rg).ro) ?_)
 intro w17 hb18
 replace hb18:=am hb18 g14
 refine lx (dr (b:=(cK g)) rfl) (ab ?_)
 by_cases p1:(cK g)=true
 ·
  have hm:=of_decide_eq_true p1
  have hmay:=hm
  have hm0:=hm
  obtain⟨hm1,hm2,hm3,hm4⟩:=hm0
  refine ah rfl (congrArg Bool.not p1) (au (a8 (a7 rfl ?_)))
  replace bx5:=bx5.cn hb18
  refine lx (ae (ds:=[vi g.1,g_v]) bS rfl bx5 rfl rfl) ?_
  replace bx10:=(bx10.cn ch12).cn hb18
  refine lx (ae (ds:=[p_v,p_v1]) bP rfl bx10 rfl rfl) ?_
  replace Rg:=Rg.cn hb18
  have C19:=cg [] (ch2.n.seq (ch7.n.seq (ch12.n.seq hb18.n)))
  replace Rp:=Rp.ca C19
  replace r_p_v1:=r_p_v1.ca C19
  refine lw (vg [vi g.1,g_v,p_v,p_v1,vn]) (bB (vs:=[(0,vg [vi g.1,g_v]),(1,vg [p_v,p_v1])]) rfl (by rw[Sl.form Rg,Sl.form Rp,Sl.form r_p_v1];kernel_rfl)) (lo (bC g14 (is 4) (4,0) rfl rfl ?_))
  intro g23 w20 b22 ch21 bx24
  replace bx24:Bx g23 (is 4) w20 b22 [vi g.1,g_v,p_v,p_v1,vn]:=bx24
  refine ma (vp b22 0) (ab (a8 ?_))
  clear bx5
  refine a7 rfl (mv (vp b22 0) (lo ?_))
  refine fw (σ:=Value×(List ej)×aV) (V:=λ⟨l_4_c1_v,l_4_c1,gq⟩=>vt []) (S:=λ⟨l_4_c1_v,l_4_c1,gq⟩ w=>bu w0 gq w/\Sl gq (is 0) w g_v g.2/\Sl gq (is 0) w p_v p.1/\Sl gq (is 0) w p_v1 p.2/\Bx gq (is 2) w b8 [p_v,p_v1]/\Bx gq (is 3) w b13 [vi 0,vi 0,vi 0,vb false,vb false]/\Bx gq (is 4) w b22 [vi g.1,g_v,p_v,p_v1,l_4_c1_v]/\Ow gq (is 8) (is 8) w l_4_c1_v l_4_c1/\(l_4_c1=cF g p)) (aG (vals:=[vp b22 0]) Try.func38 pD qd rfl) ?_ ?_
  ·
   refine aK Try.func38 rfl nq ?_
   replace Rg:=Rg.cn ch21
   replace Rp:=Rp.cn ch21
   replace r_p_v1:=r_p_v1.cn ch21
   refine a8 (a8 (bq g23 rfl eU (by kernel_rfl) ?_))
   intro w26 ch25
   refine qm (vp b22 0) (qv (vp b22 0) (λw' hw'=>aB rfl) (qx (λw' hw'=>a9 jV rfl rfl rfl rfl) (qx (λw' hw'=>a9 eQ rfl rfl rfl rfl) ?_)))
   replace bx24:=bx24.cn ch25
   refine qx (λw' hw'=>aa bD rfl (bx24.bel hw') rfl) ?_
   replace Rp:=Rp.cn ch25
   have len27:=(Rp).small
   refine qx (λw' hw'=>bO cT rfl (Rp.bel hw')) (qm (vp b22 0) (qv (vp b22 0) (λw' hw'=>aB rfl) (qx (λw' hw'=>a9 jV rfl rfl rfl rfl) (qx (λw' hw'=>a9 fO rfl rfl rfl rfl) (qx (λw' hw'=>aa aL rfl (bx24.bel hw') rfl) (qx (λw' hw'=>fM (m:=(p.1.length:Int)) (n:=g.1) rfl rfl) (qm (vb (!(decide ((p.1.length:Int)=g.1)))) ?_)))))))
   by_cases q18_c1:(p.1.length:Int)=g.1
   ·
    refine bv (v:=vp b22 0) (wy (congrArg Bool.not (dt q18_c1))) (λw' hw'=>aR rfl) (bv (v:=vp b22 0) (wy (congrArg Bool.not (dt q18_c1))) (λw' hw'=>aB rfl) (bv (v:=vp b22 2) (wy (congrArg Bool.not (dt q18_c1))) (λw' hw'=>a9 jV rfl rfl rfl rfl) (bv (v:=vp b22 3) (wy (congrArg Bool.not (dt q18_c1))) (λw' hw'=>a9 eQ rfl rfl rfl rfl) (bv (v:=p_v1) (wy (congrArg Bool.not (dt q18_c1))) (λw' hw'=>aa cP rfl (bx24.bel hw') rfl) ?_))))
    replace r_p_v1:=r_p_v1.cn ch25
    have len28:=(r_p_v1).small
    refine bv (v:=vi (p.2.length:Int)) (wy (congrArg Bool.not (dt q18_c1))) (λw' hw'=>bO iL rfl (r_p_v1.bel hw')) (bv (v:=vp b22 0) (wy (congrArg Bool.not (dt q18_c1))) (λw' hw'=>aR rfl) (bv (v:=vp b22 0) (wy (congrArg Bool.not (dt q18_c1))) (λw' hw'=>aB rfl) (bv (v:=vp b22 0) (wy (congrArg Bool.not (dt q18_c1))) (λw' hw'=>a9 jV rfl rfl rfl rfl) (bv (v:=vp b22 1) (wy (congrArg Bool.not (dt q18_c1))) (λw' hw'=>a9 fO rfl rfl rfl rfl) ?_))))
    refine bv (v:=g_v) (wy (congrArg Bool.not (dt q18_c1))) (λw' hw'=>aa cO rfl (bx24.bel hw') rfl) ?_
    replace Rg:=Rg.cn ch25
    have len29:=(Rg).small
    refine bv (v:=vi (g.2.length:Int)) (wy (congrArg Bool.not (dt q18_c1))) (λw' hw'=>bO iJ rfl (Rg.bel hw')) (bv (v:=vb (!(decide ((p.2.length:Int)=(g.2.length:Int))))) (wy (congrArg Bool.not (dt q18_c1))) (λw' hw'=>fM (m:=(p.2.length:Int)) (n:=(g.2.length:Int)) rfl rfl) (qv (vb (!(decide ((p.2.length:Int)=(g.2.length:Int))))) (λw' hw'=>aS rfl (congrArg Bool.not (dt q18_c1)) rfl) (bT ?_)))
    intro w30 hc31
    replace hc31:=am hc31 g23
    by_cases p0_c1:(p.2.length:Int)=(g.2.length:Int)
    ·
     refine ah rfl (congrArg Bool.not (dt p0_c1)) (au (a8 (a8 (a7 rfl (mv (vp b22 0) (lw (vp b22 0) (aB rfl) (lx (a9 jV rfl rfl rfl rfl) (lx (a9 eQ rfl rfl rfl rfl) ?_))))))))
     replace bx24:=bx24.cn hc31
     refine lx (aa bD rfl bx24 rfl) ?_
     replace Rp:=Rp.cn hc31
     refine lx (bO cT rfl Rp) (mi 0 (ab (aC ?_)))
     refine bF (σ:=Nat×Value×(List ej)×aV) (λ⟨vS,FS_v,FS,gq⟩ f w=>bu w0 gq w/\f 0=vp b22 0/\f 39=p_v/\f 40=vi (p.1.length:Int)/\f 41=vi ↑vS/\Sl gq (is 0) w g_v g.2/\Sl gq (is 0) w p_v p.1/\Sl gq (is 0) w p_v1 p.2/\Bx gq (is 2) w b8 [p_v,p_v1]/\Bx gq (is 3) w b13 [vi 0,vi 0,vi 0,vb false,vb false]/\Bx gq (is 4) w b22 [vi g.1,g_v,p_v,p_v1,FS_v]/\Ow gq (is 8) (is 8) w FS_v FS/\(vS:Int)<=((p.1.length:Int):Int)/\(FS=es (kq p) vS)) (λ⟨vS,FS_v,FS,gq⟩=>Int.toNat (((p.1.length:Int):Int)-(vS:Int))) (0,vn,[],g23) ?_ ?_
     have C33:=cg [] (ch21.n.seq (ch25.n.seq hc31.n))
     have C34:=hb18.n.seq C33
     have C32:=ch2.n.seq (ch7.n.seq (ch12.n.seq C34))
     · exact⟨bH.ca C32,rfl,rfl,rfl,rfl,Rg.cn hc31,Rp,r_p_v1.cn hc31,bx10.ca C33,bx15.ca C34,bx24,Ow.nil,by omega,by rfl⟩
     clear Rg Rp r_p_v1 bx10 bx15 bx24 bH
     rintro⟨vS,FS_v,FS,g37⟩ f35 w36 ⟨bH,zs0_c1,zs39_c1,zs40_c1,zs41_c1,Rg,Rp,r_p_v1,bx10,bx15,bx24,o_FS,hle_vS,haS⟩ back3_c1
     have halS:=ql haS
     refine a8 (a7 rfl (lx (bc (m:=↑vS) (n:=(p.1.length:Int)) zs41_c1 zs40_c1) (ab (a8 ?_))))
     by_cases p3_c1:(vS:Int)<(p.1.length:Int)
     ·
      refine ag rfl (dt p3_c1) (au (a8 (aC (a8 (a7 rfl (mz zs41_c1 (lx (af (v:=p_v) (i:=↑vS) cT rfl zs39_c1 Rp zs41_c1 (by omega) (by omega)) (lw (vg [vi ((gI p.1 ↑vS).1),vi ((gI p.1 ↑vS).2)]) (aT (v:=p_v) (i:=↑vS) aj rfl Rp (by omega) (by omega) rfl) (lo (bo g37 (is 5) (5,0) rfl aj ?_))))))))))
      intro g41 w38 b40 ch39 bx42
      replace bx42:Bx g41 (is 5) w38 b40 [vi 0,vi 0]:=bx42
      refine ai (vS:Int) (lo (ao (cs':=[vi ((gI p.1 ↑vS).1),vi ((gI p.1 ↑vS).2)]) aj rfl rfl bx42 rfl nq (AllOne.all (.cons rfl (.cons rfl .nil))) rfl ?_))
      intro w43 ch44 bx45
      clear bx42
      refine ab (a8 (a7 rfl (lx (ae (ds:=[vi ((gI p.1 ↑vS).1),vi ((gI p.1 ↑vS).2)]) aj rfl bx45 rfl rfl) (lo (aH (α:=Pt) g41 (is 6) (is 6) (6,0) rfl ([(gI p.1 ↑vS)]:List Pt) cT aj (by decide) (by decide) (vs:=[(0,vg [vi ((gI p.1 ↑vS).1),vi ((gI p.1 ↑vS).2)])]) rfl rfl (.cons rfl .nil) ?_)))))
      intro g46 w47 v48 ch49 o50
      refine lo (aP (v:=vb (decide (fF ([(gI p.1 ↑vS)]:List Pt)))) (aG (vals:=[v48]) Try.func49 i2 i4 rfl) (i3 w47 ([(gI p.1 ↑vS)]:List Pt) v48 (o50.flat).ro) ?_)
      intro w51 hb52
      replace hb52:=am hb52 g46
      refine lx (dr (b:=(decide (fF ([(gI p.1 ↑vS)]:List Pt)))) rfl) (ab ?_)
      by_cases p5_c1:(decide (fF ([(gI p.1 ↑vS)]:List Pt)))=true
      ·
       refine ah rfl (congrArg Bool.not p5_c1) (au (ap ?_))
       clear bx45 o50
       refine a7 rfl (lx (ba (m:=↑vS) (n:=1) zs41_c1 rfl (by omega)) (mi ((vS:Int)+1) (ab ?_)))
       have C53:=cg [5] (ch39.n.seq ((ch44.l rfl).seq (ch49.n.seq hb52.n)))
       refine back3_c1 (vS+1,FS_v,FS,g46) _ _ ⟨bH.ca C53,zs0_c1,zs39_c1,zs40_c1,rfl,Rg.ca C53,Rp.ca C53,r_p_v1.ca C53,bx10.ca C53,bx15.ca C53,bx24.ca C53,o_FS.ca C53,by omega,?_⟩ ?_
       · show FS=es (kq p) (vS+1)
         exact pj haS (ru ‹_›)
       · show Int.toNat (((p.1.length:Int):Int)-((vS+1):Int))<Int.toNat (((p.1.length:Int):Int)-(vS:Int))
         omega
      refine ag rfl (congrArg Bool.not (Bool.eq_false_iff.2 p5_c1)) ?_
      clear bx45 o50
      refine a7 rfl (mz zs0_c1 (mi ↑vS (lo (fa (aG (vals:=[vp b22 0,vi 2,vi ↑vS,vi 0]) Try.func48 gv gi rfl) (aK Try.func48 rfl nq ?_)))))
      have C54:=cg [5] (ch39.n.seq ((ch44.l rfl).seq (ch49.n.seq hb52.n)))
      replace Rg:=Rg.ca C54
      replace Rp:=Rp.ca C54
      replace r_p_v1:=r_p_v1.ca C54
      replace o_FS:=o_FS.ca C54
      refine a7 rfl (mv (vp b22 0) (mv (vp b22 0) (lw (vp b22 0) (aB rfl) (lx (a9 jV rfl rfl rfl rfl) ?_))))
      replace bx24:=bx24.ca C54
      refine lx (aa dg rfl bx24 rfl) (mi 2 (mi ↑vS (mi 0 (lw (vg [vi 2,vi ↑vS,vi 0]) (bB (vs:=[(0,vi 2),(1,vi ↑vS),(2,vi 0)]) rfl (by kernel_rfl)) (lo (aH (α:=ej) g46 (is 7) (is 7) (7,0) rfl ([(2,(vS:Int),0)]:List ej) nj dB (by decide) (by decide) (vs:=[(0,vg [vi 2,vi ↑vS,vi 0])]) rfl rfl (.cons rfl .nil) ?_))))))
      intro g55 w56 v57 ch58 o59
      refine lo ?_
      replace o_FS:=o_FS.cn ch58
      refine bj (α:=ej) (xs:=FS) (ys:=([(2,(vS:Int),0)]:List ej)) g55 (J:=is 8) (S:=is 8) (8,0) rfl nj dB (by decide) rfl rfl rfl o_FS o59.flat (by decide) (by(simp;omega)) ?_
      intro g60 w61 v62 ch63 o64
      clear o_FS
      refine lw (vp b22 0) (aB rfl) (lx (a9 jV rfl rfl rfl rfl) (lo ?_))
      replace bx24:=(bx24.cn ch58).ce ch63
      refine cB (cs':=[vi g.1,g_v,p_v,p_v1,v62]) dg rfl rfl bx24 (cI o64.flat) nq (dh o64.flat) rfl ?_
      intro w65 ch66 bx67
      clear bx24
      refine ab (fz (vs:=[]) Try.func48 .nil ?_)
      refine⟨vt [],rfl,?_⟩
      refine ab (ap ?_)
      clear o59
      refine a7 rfl (lx (ba (m:=↑vS) (n:=1) zs41_c1 rfl (by omega)) (mi ((vS:Int)+1) (ab ?_)))
      have C68:=cg [4,5,8] (ch39.n.seq ((ch44.l rfl).seq (ch49.n.seq (hb52.n.seq (ch58.n.seq ((ch63.l rfl).seq (ch66.l rfl)))))))
      have C69:=cg [4,8] (ch58.n.seq ((ch63.l rfl).seq (ch66.l rfl)))
      refine back3_c1 (vS+1,v62,(FS++([(2,(vS:Int),0)]:List ej)),g60) _ _ ⟨bH.ca C68,zs0_c1,zs39_c1,zs40_c1,rfl,Rg.ca C69,Rp.ca C69,r_p_v1.ca C69,bx10.ca C68,bx15.ca C68,bx67,o64.ce ch66,by omega,?_⟩ ?_
      · show(FS++([(2,(vS:Int),0)]:List ej))=es (kq p) (vS+1)
        exact nr haS (rT ‹_›)
      · show Int.toNat (((p.1.length:Int):Int)-((vS+1):Int))<Int.toNat (((p.1.length:Int):Int)-(vS:Int))
        omega
     refine ah rfl (df p3_c1) (aQ rfl (a8 (a7 rfl (mz zs0_c1 (lw (vp b22 0) (aB rfl) (lx (a9 jV rfl rfl rfl rfl) (lx (a9 eQ rfl rfl rfl rfl) (lx (aa cP rfl bx24 rfl) (lx (bO iL rfl r_p_v1) (mi 0 ?_))))))))))
     refine ab (aC ?_)
     refine bF (σ:=Value×(List ej)×Nat×aV) (λ⟨GS_v,GS,eS,gq⟩ f w=>bu w0 gq w/\f 0=vp b22 0/\f 58=p_v1/\f 59=vi (p.2.length:Int)/\f 60=vi ↑eS/\Sl gq (is 0) w g_v g.2/\Sl gq (is 0) w p_v p.1/\Sl gq (is 0) w p_v1 p.2/\Bx gq (is 2) w b8 [p_v,p_v1]/\Bx gq (is 3) w b13 [vi 0,vi 0,vi 0,vb false,vb false]/\Bx gq (is 4) w b22 [vi g.1,g_v,p_v,p_v1,GS_v]/\Ow gq (is 8) (is 8) w GS_v GS/\(eS:Int)<=((p.2.length:Int):Int)/\(GS=es (kq p) p.1.length++es (lS p) eS)) (λ⟨GS_v,GS,eS,gq⟩=>Int.toNat (((p.2.length:Int):Int)-(eS:Int))) (FS_v,FS,0,g37) ?_ ?_
     · exact⟨bH,zs0_c1,rfl,rfl,rfl,Rg,Rp,r_p_v1,bx10,bx15,bx24,o_FS,by omega,by exact oa haS (by omega)⟩
     clear Rg Rp r_p_v1 bx10 bx15 bx24 o_FS bH
     rintro⟨GS_v,GS,eS,g72⟩ f70 w71 ⟨bH,zs0_c1,zs58_c1,zs59_c1,zs60_c1,Rg,Rp,r_p_v1,bx10,bx15,bx24,o_GS,hle_eS,hbS⟩ back9_c1
     have hblS:=ph hbS
     refine a8 (a7 rfl (lx (bc (m:=↑eS) (n:=(p.2.length:Int)) zs60_c1 zs59_c1) (ab (a8 ?_))))
     by_cases p9_c1:(eS:Int)<(p.2.length:Int)
     ·
      refine ag rfl (dt p9_c1) (au (a8 (aC (a8 (a7 rfl (mz zs60_c1 (lx (af (v:=p_v1) (i:=↑eS) iL rfl zs58_c1 r_p_v1 zs60_c1 (by omega) (by omega)) ?_)))))))
      obtain⟨v73,cel74,r75⟩:=dK (r:=(eS:Int)) r_p_v1 (by omega) (by omega)
      refine lx (aZ bD rfl cel74) (ai (eS:Int) (ma v73 (ab (a8 (a7 rfl (mv v73 ?_))))))
      have len76:=(r75).small
      refine lx (bO cT rfl r75) (lx (bc (m:=(List.length (gI p.2 ↑eS):Int)) (n:=2) rfl rfl) (mv (vb (decide ((List.length (gI p.2 ↑eS):Int)<2))) ?_))
      by_cases q68_c1:(List.length (gI p.2 ↑eS):Int)<2
      ·
       refine ak (wn (dt q68_c1)) (ak (wn (dt q68_c1)) (ak (wn (dt q68_c1)) (lw (vb true) (aM rfl (dt q68_c1) rfl) (ab (ag rfl rfl ?_)))))
       clear r75
       refine a7 rfl (mz zs0_c1 (mi ↑eS (lo (fa (aG (vals:=[vp b22 0,vi 3,vi ↑eS,vi 0]) Try.func48 gv gi rfl) (aK Try.func48 rfl nq (a7 rfl (mv (vp b22 0) (mv (vp b22 0) (lw (vp b22 0) (aB rfl) ?_)))))))))
       refine lx (a9 jV rfl rfl rfl rfl) (lx (aa dg rfl bx24 rfl) (mi 3 (mi ↑eS (mi 0 (lw (vg [vi 3,vi ↑eS,vi 0]) (bB (vs:=[(0,vi 3),(1,vi ↑eS),(2,vi 0)]) rfl (by kernel_rfl)) (lo (aH (α:=ej) g72 (is 9) (is 9) (9,0) rfl ([(3,(eS:Int),0)]:List ej) nj dB (by decide) (by decide) (vs:=[(0,vg [vi 3,vi ↑eS,vi 0])]) rfl rfl (.cons rfl .nil) ?_)))))))
       intro g77 w78 v79 ch80 o81
       refine lo ?_
       replace o_GS:=o_GS.cn ch80
       refine bj (α:=ej) (xs:=GS) (ys:=([(3,(eS:Int),0)]:List ej)) g77 (J:=is 8) (S:=is 8) (8,0) rfl nj dB (by decide) rfl rfl rfl o_GS o81.flat (by decide) (by(simp;omega)) ?_
       intro g82 w83 v84 ch85 o86
       clear o_GS
       refine lw (vp b22 0) (aB rfl) (lx (a9 jV rfl rfl rfl rfl) (lo ?_))
       replace bx24:=(bx24.cn ch80).ce ch85
       refine cB (cs':=[vi g.1,g_v,p_v,p_v1,v84]) dg rfl rfl bx24 (cI o86.flat) nq (dh o86.flat) rfl ?_
       intro w87 ch88 bx89
       clear bx24
       refine ab (fz (vs:=[]) Try.func48 .nil ?_)
       refine⟨vt [],rfl,?_⟩
       refine ab (ap ?_)
       clear o81
       refine a7 rfl (lx (ba (m:=↑eS) (n:=1) zs60_c1 rfl (by omega)) (mi ((eS:Int)+1) (ab ?_)))
       have C90:=cg [4,8] (ch80.n.seq ((ch85.l rfl).seq (ch88.l rfl)))
       refine back9_c1 (v84,(GS++([(3,(eS:Int),0)]:List ej)),eS+1,g82) _ _ ⟨bH.ca C90,zs0_c1,zs58_c1,zs59_c1,rfl,Rg.ca C90,Rp.ca C90,r_p_v1.ca C90,bx10.ca C90,bx15.ca C90,bx89,o86.ce ch88,by omega,?_⟩ ?_
       · show(GS++([(3,(eS:Int),0)]:List ej))=es (kq p) p.1.length++es (lS p) (eS+1)
         exact mt hbS (sd ‹_›)
       · show Int.toNat (((p.2.length:Int):Int)-((eS+1):Int))<Int.toNat (((p.2.length:Int):Int)-(eS:Int))
         omega
      refine lv (v73) (wy (df q68_c1)) (aR rfl) (cN (wy (df q68_c1)) (aP (v:=vb (decide (fF (gI p.2 ↑eS)))) (aG (vals:=[v73]) Try.func49 i2 i4 rfl) (i3 w71 (gI p.2 ↑eS) v73 (r75).ro) ?_))
      intro w91 hb92
      replace hb92:=am hb92 g72
      refine lv (vb (!(decide (fF (gI p.2 ↑eS))))) (wy (df q68_c1)) (dr (b:=(decide (fF (gI p.2 ↑eS)))) rfl) (lw (vb (!(decide (fF (gI p.2 ↑eS))))) (aS rfl (df q68_c1) rfl) (ab ?_))
      by_cases p11_c1:(decide (fF (gI p.2 ↑eS)))=true
      ·
       refine ah rfl (congrArg Bool.not p11_c1) (au (ap ?_))
       clear r75
       refine a7 rfl (lx (ba (m:=↑eS) (n:=1) zs60_c1 rfl (by omega)) (mi ((eS:Int)+1) (ab ?_)))
       refine back9_c1 (GS_v,GS,eS+1,g72) _ _ ⟨bH.cn hb92,zs0_c1,zs58_c1,zs59_c1,rfl,Rg.cn hb92,Rp.cn hb92,r_p_v1.cn hb92,bx10.cn hb92,bx15.cn hb92,bx24.cn hb92,o_GS.cn hb92,by omega,?_⟩ ?_
       · show GS=es (kq p) p.1.length++es (lS p) (eS+1)
         exact qZ hbS (sL ‹_› ‹_›)
       · show Int.toNat (((p.2.length:Int):Int)-((eS+1):Int))<Int.toNat (((p.2.length:Int):Int)-(eS:Int))
         omega
      refine ag rfl (congrArg Bool.not (Bool.eq_false_iff.2 p11_c1)) ?_
      clear r75
      refine a7 rfl (mz zs0_c1 (mi ↑eS (lo (fa (aG (vals:=[vp b22 0,vi 3,vi ↑eS,vi 0]) Try.func48 gv gi rfl) (aK Try.func48 rfl nq ?_)))))
      replace Rg:=Rg.cn hb92
      replace Rp:=Rp.cn hb92
      replace r_p_v1:=r_p_v1.cn hb92
      replace o_GS:=o_GS.cn hb92
      refine a7 rfl (mv (vp b22 0) (mv (vp b22 0) (lw (vp b22 0) (aB rfl) (lx (a9 jV rfl rfl rfl rfl) ?_))))
      replace bx24:=bx24.cn hb92
      refine lx (aa dg rfl bx24 rfl) (mi 3 (mi ↑eS (mi 0 (lw (vg [vi 3,vi ↑eS,vi 0]) (bB (vs:=[(0,vi 3),(1,vi ↑eS),(2,vi 0)]) rfl (by kernel_rfl)) (lo (aH (α:=ej) g72 (is 10) (is 10) (10,0) rfl ([(3,(eS:Int),0)]:List ej) nj dB (by decide) (by decide) (vs:=[(0,vg [vi 3,vi ↑eS,vi 0])]) rfl rfl (.cons rfl .nil) ?_))))))
      intro g93 w94 v95 ch96 o97
      refine lo ?_
      replace o_GS:=o_GS.cn ch96
      refine bj (α:=ej) (xs:=GS) (ys:=([(3,(eS:Int),0)]:List ej)) g93 (J:=is 8) (S:=is 8) (8,0) rfl nj dB (by decide) rfl rfl rfl o_GS o97.flat (by decide) (by(simp;omega)) ?_
      intro g98 w99 v100 ch101 o102
      clear o_GS
      refine lw (vp b22 0) (aB rfl) (lx (a9 jV rfl rfl rfl rfl) (lo ?_))
      replace bx24:=(bx24.cn ch96).ce ch101
      refine cB (cs':=[vi g.1,g_v,p_v,p_v1,v100]) dg rfl rfl bx24 (cI o102.flat) nq (dh o102.flat) rfl ?_
      intro w103 ch104 bx105
      clear bx24
      refine ab (fz (vs:=[]) Try.func48 .nil ?_)
      refine⟨vt [],rfl,?_⟩
      refine ab (ap ?_)
      clear o97
      refine a7 rfl (lx (ba (m:=↑eS) (n:=1) zs60_c1 rfl (by omega)) (mi ((eS:Int)+1) (ab ?_)))
      have C107:=cg [4,8] (ch96.n.seq ((ch101.l rfl).seq (ch104.l rfl)))
      have C106:=hb92.n.seq C107
      refine back9_c1 (v100,(GS++([(3,(eS:Int),0)]:List ej)),eS+1,g98) _ _ ⟨bH.ca C106,zs0_c1,zs58_c1,zs59_c1,rfl,Rg.ca C107,Rp.ca C107,r_p_v1.ca C107,bx10.ca C106,bx15.ca C106,bx105,o102.ce ch104,by omega,?_⟩ ?_
      · show(GS++([(3,(eS:Int),0)]:List ej))=es (kq p) p.1.length++es (lS p) (eS+1)
        exact mt hbS (sI ‹_›)
      · show Int.toNat (((p.2.length:Int):Int)-((eS+1):Int))<Int.toNat (((p.2.length:Int):Int)-(eS:Int))
        omega
     refine ah rfl (df p9_c1) (aQ rfl (fz (vs:=[]) Try.func38 .nil ?_))
     refine⟨(GS_v,GS,g72),rfl,bH,Rg,Rp,r_p_v1,bx10,bx15,bx24,o_GS,?_⟩
     show GS=cF g p
     exact s4 ‹_› ‹_› hbS (by omega)
    refine ag rfl (congrArg Bool.not (df p0_c1)) (a8 (a7 rfl (mv (vp b22 0) (lo (fa (aG (vals:=[vp b22 0,vi 1,vi 0,vi 0]) Try.func48 gv gi rfl) (aK Try.func48 rfl nq ?_))))))
    replace Rg:=Rg.cn hc31
    replace Rp:=Rp.cn hc31
    replace r_p_v1:=r_p_v1.cn hc31
    refine a7 rfl (mv (vp b22 0) (mv (vp b22 0) (lw (vp b22 0) (aB rfl) (lx (a9 jV rfl rfl rfl rfl) ?_))))
    replace bx24:=bx24.cn hc31
    refine lx (aa dg rfl bx24 rfl) (mi 1 (mi 0 (mi 0 (lw (vg [vi 1,vi 0,vi 0]) (bB (vs:=[(0,vi 1),(1,vi 0),(2,vi 0)]) rfl (by kernel_rfl)) (lo (aH (α:=ej) g23 (is 11) (is 11) (11,0) rfl ([(1,0,0)]:List ej) nj dB (by decide) (by decide) (vs:=[(0,vg [vi 1,vi 0,vi 0])]) rfl rfl (.cons rfl .nil) ?_))))))
    intro g108 w109 v110 ch111 o112
    refine lo (bj (α:=ej) (xs:=([])) (ys:=([(1,0,0)]:List ej)) g108 (J:=is 8) (S:=is 8) (8,0) rfl nj dB (by decide) rfl rfl rfl Ow.nil o112.flat (by decide) (by(simp;done)) ?_)
    intro g113 w114 v115 ch116 o117
    replace o117:Ow g113 (is 8) (is 8) w114 v115 ([(1,0,0)]:List ej):=o117
    replace o117:Ow g113 (is 8) (is 8) w114 v115 (([(1,0,0)]:List ej):List ej):=o117
    refine lw (vp b22 0) (aB rfl) (lx (a9 jV rfl rfl rfl rfl) (lo ?_))
    replace bx24:=(bx24.cn ch111).ce ch116
    refine cB (cs':=[vi g.1,g_v,p_v,p_v1,v115]) dg rfl rfl bx24 (cI o117.flat) nq (dh o117.flat) rfl ?_
    intro w118 ch119 bx120
    clear bx24
    refine ab (fz (vs:=[]) Try.func48 .nil ?_)
    refine⟨vt [],rfl,?_⟩
    refine ab (aw (vs:=[]) Try.func38 .nil ?_)
    have C122:=cg [4,8] (ch111.n.seq ((ch116.l rfl).seq (ch119.l rfl)))
    have C123:=ch21.n.seq (ch25.n.seq (hc31.n.seq C122))
    have C124:=hb18.n.seq C123
    have C121:=ch2.n.seq (ch7.n.seq (ch12.n.seq C124))
    replace bH:=bH.ca C121
    replace Rg:=Rg.ca C122
    replace Rp:=Rp.ca C122
    replace r_p_v1:=r_p_v1.ca C122
    replace bx10:=bx10.ca C123
    replace bx15:=bx15.ca C124
    replace o117:=o117.ce ch119
    refine⟨(v115,([(1,0,0)]:List ej),g113),rfl,bH,Rg,Rp,r_p_v1,bx10,bx15,bx120,o117,?_⟩
    show([(1,0,0)]:List ej)=cF g p
    exact sD ‹_›
   refine aU (wn (congrArg Bool.not (df q18_c1))) (aU (wn (congrArg Bool.not (df q18_c1))) (aU (wn (congrArg Bool.not (df q18_c1))) (aU (wn (congrArg Bool.not (df q18_c1))) (aU (wn (congrArg Bool.not (df q18_c1))) (aU (wn (congrArg Bool.not (df q18_c1))) (aU (wn (congrArg Bool.not (df q18_c1))) (aU (wn (congrArg Bool.not (df q18_c1))) (aU (wn (congrArg Bool.not (df q18_c1))) (aU (wn (congrArg Bool.not (df q18_c1))) ?_)))))))))
   refine aU (wn (congrArg Bool.not (df q18_c1))) (aU (wn (congrArg Bool.not (df q18_c1))) (aU (wn (congrArg Bool.not (df q18_c1))) (qv (vb true) (λw' hw'=>aM rfl (congrArg Bool.not (df q18_c1)) rfl) (bT ?_))))
   intro w125 hc126
   replace hc126:=am hc126 g23
   refine ag rfl rfl (a8 (a7 rfl (mv (vp b22 0) (lo (fa (aG (vals:=[vp b22 0,vi 1,vi 0,vi 0]) Try.func48 gv gi rfl) (aK Try.func48 rfl nq ?_))))))
   replace Rg:=(Rg.cn ch25).cn hc126
   replace Rp:=Rp.cn hc126
   replace r_p_v1:=(r_p_v1.cn ch25).cn hc126
   refine a7 rfl (mv (vp b22 0) (mv (vp b22 0) (lw (vp b22 0) (aB rfl) (lx (a9 jV rfl rfl rfl rfl) ?_))))
   replace bx24:=bx24.cn hc126
   refine lx (aa dg rfl bx24 rfl) (mi 1 (mi 0 (mi 0 (lw (vg [vi 1,vi 0,vi 0]) (bB (vs:=[(0,vi 1),(1,vi 0),(2,vi 0)]) rfl (by kernel_rfl)) (lo (aH (α:=ej) g23 (is 12) (is 12) (12,0) rfl ([(1,0,0)]:List ej) nj dB (by decide) (by decide) (vs:=[(0,vg [vi 1,vi 0,vi 0])]) rfl rfl (.cons rfl .nil) ?_))))))
   intro g127 w128 v129 ch130 o131
   refine lo (bj (α:=ej) (xs:=([])) (ys:=([(1,0,0)]:List ej)) g127 (J:=is 8) (S:=is 8) (8,0) rfl nj dB (by decide) rfl rfl rfl Ow.nil o131.flat (by decide) (by(simp;done)) ?_)
   intro g132 w133 v134 ch135 o136
   replace o136:Ow g132 (is 8) (is 8) w133 v134 ([(1,0,0)]:List ej):=o136
   replace o136:Ow g132 (is 8) (is 8) w133 v134 (([(1,0,0)]:List ej):List ej):=o136
   refine lw (vp b22 0) (aB rfl) (lx (a9 jV rfl rfl rfl rfl) (lo ?_))
   replace bx24:=(bx24.cn ch130).ce ch135
   refine cB (cs':=[vi g.1,g_v,p_v,p_v1,v134]) dg rfl rfl bx24 (cI o136.flat) nq (dh o136.flat) rfl ?_
   intro w137 ch138 bx139
   clear bx24
   refine ab (fz (vs:=[]) Try.func48 .nil ?_)
   refine⟨vt [],rfl,?_⟩
   refine ab (aw (vs:=[]) Try.func38 .nil ?_)
   have C141:=cg [4,8] (ch130.n.seq ((ch135.l rfl).seq (ch138.l rfl)))
   have C142:=ch21.n.seq (ch25.n.seq (hc126.n.seq C141))
   have C143:=hb18.n.seq C142
   have C140:=ch2.n.seq (ch7.n.seq (ch12.n.seq C143))
   replace bH:=bH.ca C140
   replace Rg:=Rg.ca C141
   replace Rp:=Rp.ca C141
   replace r_p_v1:=r_p_v1.ca C141
   replace bx10:=bx10.ca C142
   replace bx15:=bx15.ca C143
   replace o136:=o136.ce ch138
   refine⟨(v134,([(1,0,0)]:List ej),g132),rfl,bH,Rg,Rp,r_p_v1,bx10,bx15,bx139,o136,?_⟩
   show([(1,0,0)]:List ej)=cF g p
   exact sj ‹_›
  clear Rg Rp r_p_v1 bx10 bx15 bx24 bH
  rintro⟨l_4_c1_v,l_4_c1,g145⟩ w144 ⟨bH,Rg,Rp,r_p_v1,bx10,bx15,bx24,o_l_4_c1,hsh⟩
  have hshl:=l6 (p:=p) hmay
  rw[<-hsh] at hshl
  refine ab (a8 (a8 (a7 rfl (mv (vp b22 0) (lw (vp b22 0) (aB rfl) (lx (a9 jV rfl rfl rfl rfl) (lx (aa dg rfl bx24 rfl) ?_)))))))
  have len146:=(o_l_4_c1.flat).small
  refine lx (bO nj rfl o_l_4_c1.flat) (lx (ez (m:=(l_4_c1.length:Int)) (n:=0) rfl rfl) (ab ?_))
  by_cases p5:0<(l_4_c1.length:Int)
  ·
   refine ag rfl (dt p5) (a8 ?_)
   clear bx10 bx24 o_l_4_c1
   refine a7 rfl (lw (vg [vi 0,vi 0,vi 0,vb false,vb false]) (bB (vs:=[]) rfl (by kernel_rfl)) (lo (ao (cs':=[vi 0,vi 0,vi 0,vb false,vb false]) cz rfl rfl bx15 rfl nq (AllOne.all (.cons rfl (.cons rfl (.cons rfl (.cons rfl (.cons rfl .nil)))))) rfl ?_)))
   intro w147 ch148 bx149
   clear bx15
   refine ai 24 (ab (aw (vs:=[vg [vi 0,vi 0,vi 0,vb false,vb false],vi 24]) Try.func25 (.cell rfl (bM (ds:=[vi 0,vi 0,vi 0,vb false,vb false]) cz bx149 rfl rfl) (.tmp rfl .nil)) ?_))
   have e0:((0,0,0,false,false):(Int)×(Int)×(Int)×(Bool)×(Bool))=((ad g p).1):=by
     rw[lH hm hsh ‹_›]
   have e1:(24:Int)=((ad g p).2):=by
     rw[lH hm hsh ‹_›]
   replace bH:=bH.ce ch148
   exact⟨(bR (a:=(0,0,0,false,false)) (b:=24) (λ(z0:(Int)×(Int)×(Int)×(Bool)×(Bool)) (z1:Int)=>Ending.returned (vt [vg [vi z0.1,vi z0.2.1,vi z0.2.2.1,vb z0.2.2.2.1,vb z0.2.2.2.2],vi z1])) e0 e1),bH.below⟩
  obtain⟨hF0,hsn,hs⟩:=rl hsh p5
  have hs1:=hs.n
  have hs2:=hs.m
  refine ah rfl (df p5) (au (a8 ?_))
  clear bx24 o_l_4_c1
  refine a7 rfl (lw (vg [vi 0,vi 0,vi 0,vb true,vb true]) (bB (vs:=[(3,vb true),(4,vb true)]) rfl (by kernel_rfl)) (lo (bo g145 (is 13) (13,0) rfl cz ?_)))
  intro g153 w150 b152 ch151 bx154
  replace bx154:Bx g153 (is 13) w150 b152 [vi 0,vi 0,vi 0,vb false,vb false]:=bx154
  refine lo (ao (cs':=[vi 0,vi 0,vi 0,vb true,vb true]) cz rfl rfl bx154 rfl nq (AllOne.all (.cons rfl (.cons rfl (.cons rfl (.cons rfl (.cons rfl .nil)))))) rfl ?_)
  intro w155 ch156 bx157
  clear bx154
  refine ab (a8 (a8 (a7 rfl (lx (a9 eQ rfl rfl rfl rfl) ?_))))
  replace bx10:=(bx10.cn ch151).ce ch156
  refine lx (aa cP rfl bx10 rfl) ?_
  replace r_p_v1:=(r_p_v1.cn ch151).ce ch156
  have len158:=(r_p_v1).small
  refine lx (bO iL rfl r_p_v1) (mi 0 (ab (aC ?_)))
  refine bF (σ:=Int×Bool×Nat×aV) (λ⟨bn,ax,k,gq⟩ f w=>bu w0 gq w/\f 3=vp b8 0/\f 4=vp b13 0/\f 7=vp b152 0/\f 37=p_v1/\f 38=vi (p.2.length:Int)/\f 39=vi ↑k/\Sl gq (is 0) w g_v g.2/\Sl gq (is 0) w p_v p.1/\Sl gq (is 0) w p_v1 p.2/\Bx gq (is 2) w b8 [p_v,p_v1]/\Bx gq (is 3) w b13 [vi 0,vi 0,vi 0,vb false,vb false]/\Bx gq (is 13) w b152 [vi bn,vi 0,vi 0,vb true,vb ax]/\(k:Int)<=((p.2.length:Int):Int)/\(bn=eV p k/\ax=j5 p k)) (λ⟨bn,ax,k,gq⟩=>Int.toNat (((p.2.length:Int):Int)-(k:Int))) (0,true,0,g153) ?_ ?_
  replace bH:=bH.cn ch151
  · exact⟨bH.ce ch156,rfl,rfl,rfl,rfl,rfl,rfl,(Rg.cn ch151).ce ch156,(Rp.cn ch151).ce ch156,r_p_v1,bx10,(bx15.cn ch151).ce ch156,bx157,by omega,by exact⟨rfl,rfl⟩⟩
  clear Rg Rp r_p_v1 bx10 bx15 bx157 bH
  rintro⟨bn,ax,k,g161⟩ f159 w160 ⟨bH,zs3,zs4,zs7,zs37,zs38,zs39,Rg,Rp,r_p_v1,bx10,bx15,bx157,hle_k,hbk⟩ back9
  have hbd:=k7 hs.ln k (by omega)
  refine a8 (a7 rfl (lx (bc (m:=↑k) (n:=(p.2.length:Int)) zs39 zs38) (ab (a8 ?_))))
  by_cases p9:(k:Int)<(p.2.length:Int)
  ·
   refine ag rfl (dt p9) ?_
   obtain⟨hl1,hl2,hl3⟩:=hs.ln (k:Int) (by omega) (by omega)
   refine au (a8 (aC (a8 (a7 rfl (lx (af (v:=p_v1) (i:=↑k) iL rfl zs37 r_p_v1 zs39 (by omega) (by omega)) ?_)))))
   obtain⟨v162,cel163,r164⟩:=dK (r:=(k:Int)) r_p_v1 (by omega) (by omega)
   refine lx (aZ bD rfl cel163) (ma v162 (ab (a8 (a7 rfl (lx (a9 nh rfl rfl zs7 rfl) (lx (aa aL rfl bx157 rfl) (mv v162 ?_)))))))
   have len165:=(r164).small
   refine lx (bO cT rfl r164) (lx (cW (m:=(List.length (gI p.2 ↑k):Int)) (n:=2) rfl rfl (by omega)) (lx (ba (m:=bn) (n:=(List.length (gI p.2 ↑k):Int)-2) rfl rfl (by omega)) (lx (a9 nh rfl rfl zs7 rfl) (lo (ao (cs':=[vi (bn+((List.length (gI p.2 ↑k):Int)-2)),vi 0,vi 0,vb true,vb ax]) aL rfl rfl bx157 rfl nq (AllOne.all (.cons rfl .nil)) rfl ?_)))))
   intro w166 ch167 bx168
   clear bx157
   refine ab (a8 (a7 rfl (ai 1 (ab (aC ?_)))))
   refine bF (σ:=Bool×Nat×aV) (λ⟨ay,i,gq⟩ f w=>bu w0 gq w/\f 3=vp b8 0/\f 4=vp b13 0/\f 7=vp b152 0/\f 9=v162/\f 10=vi ↑i/\f 37=p_v1/\f 38=vi (p.2.length:Int)/\f 39=vi ↑k/\Sl gq (is 0) w g_v g.2/\Sl gq (is 0) w p_v p.1/\Sl gq (is 0) w p_v1 p.2/\Bx gq (is 2) w b8 [p_v,p_v1]/\Bx gq (is 3) w b13 [vi 0,vi 0,vi 0,vb false,vb false]/\Sl gq (is 0) w v162 (gI p.2 ↑k)/\Bx gq (is 13) w b152 [vi (bn+((List.length (gI p.2 ↑k):Int)-2)),vi 0,vi 0,vb true,vb ay]/\(i:Int)<=((List.length (gI p.2 ↑k):Int):Int)/\(1<=i/\ay=(j5 p k&&eA (kY (gI p.2 ↑k)) (i-1)))) (λ⟨ay,i,gq⟩=>List.length (gI p.2 ↑k)-i) (ax,1,g161) ?_ ?_
   · exact⟨bH.ce ch167,zs3,zs4,zs7,rfl,rfl,zs37,zs38,zs39,Rg.ce ch167,Rp.ce ch167,r_p_v1.ce ch167,bx10.ce ch167,bx15.ce ch167,r164.ce ch167,bx168,by omega,by exact pL hbk.2⟩
   clear Rg Rp r_p_v1 bx10 bx15 r164 bx168 bH
   rintro⟨ay,i,g171⟩ f169 w170 ⟨bH,zs3,zs4,zs7,zs9,zs10,zs37,zs38,zs39,Rg,Rp,r_p_v1,bx10,bx15,r164,bx168,hle_i,hax⟩ back13
   have hi1:=hax.1
   refine a8 (a8 (a7 rfl (mz zs10 (mz zs9 (lx (bO cT rfl r164) (lx (bc (m:=↑i) (n:=(List.length (gI p.2 ↑k):Int)) rfl rfl) (ab ?_)))))))
   by_cases p13:(i:Int)<(List.length (gI p.2 ↑k):Int)
   ·
    refine ag rfl (dt p13) (au (a8 (aC (a8 ?_))))
    refine cj (σ:=Nat×Nat×aV) (λ⟨b176,b182,gq⟩ f w=>bu w0 gq w/\f 3=vp b8 0/\f 4=vp b13 0/\f 7=vp b152 0/\f 9=v162/\f 10=vi ↑i/\f 11=vp b176 0/\f 12=vp b182 0/\f 37=p_v1/\f 38=vi (p.2.length:Int)/\f 39=vi ↑k/\Sl gq (is 0) w g_v g.2/\Sl gq (is 0) w p_v p.1/\Sl gq (is 0) w p_v1 p.2/\Bx gq (is 2) w b8 [p_v,p_v1]/\Bx gq (is 3) w b13 [vi 0,vi 0,vi 0,vb false,vb false]/\Sl gq (is 0) w v162 (gI p.2 ↑k)/\Bx gq (is 13) w b152 [vi (bn+((List.length (gI p.2 ↑k):Int)-2)),vi 0,vi 0,vb true,vb ay]/\Bx gq (is 14) w b176 [vi ((gI (gI p.2 ↑k) ((i:Int)-1)).1),vi ((gI (gI p.2 ↑k) ((i:Int)-1)).2)]/\Bx gq (is 15) w b182 [vi ((gI (gI p.2 ↑k) ↑i).1),vi ((gI (gI p.2 ↑k) ↑i).2)]) g171 (inl [14,15]) eU ?_ ?_
    ·
     intro mid
     intro w173 ch172
     refine ht (v:=v162) 0 rfl (bh.refl _ _ _) (λw' hw'=>aR zs9) (ht (v:=vi ↑i) 1 rfl (bh.refl _ _ _) (λw' hw'=>aR zs10) (ht 2 rfl (bh.refl _ _ _) (λw' hw'=>cW (m:=↑i) (n:=1) rfl rfl (by omega)) ?_))
     replace r164:=r164.cn ch172
     refine ht 3 rfl (bh.refl _ _ _) (λw' hw'=>af (v:=v162) (i:=(i:Int)-1) cT rfl rfl (r164.chg hw' (bt rfl)) rfl (by omega) (by omega)) (ht (v:=vg [vi ((gI (gI p.2 ↑k) ((i:Int)-1)).1),vi ((gI (gI p.2 ↑k) ((i:Int)-1)).2)]) 4 rfl (bh.refl _ _ _) (λw' hw'=>aT (v:=v162) (i:=(i:Int)-1) aj rfl (r164.chg hw' (bt rfl)) (by omega) (by omega) rfl) (ht (v:=v162) 5 rfl (bh.refl _ _ _) (λw' hw'=>aR zs9) (ht (v:=vi ↑i) 6 rfl (bh.refl _ _ _) (λw' hw'=>aR zs10) (ht 7 rfl (bh.refl _ _ _) (λw' hw'=>af (v:=v162) (i:=↑i) cT rfl rfl (r164.chg hw' (bt rfl)) rfl (by omega) (by omega)) ?_))))
     refine ht (v:=vg [vi ((gI (gI p.2 ↑k) ↑i).1),vi ((gI (gI p.2 ↑k) ↑i).2)]) 8 rfl (bh.refl _ _ _) (λw' hw'=>aT (v:=v162) (i:=↑i) aj rfl (r164.chg hw' (bt rfl)) (by omega) (by omega) rfl) ?_
     refine bJ 9 [10] (by kernel_rfl) ⟨bL 9 rfl (by kernel_rfl) rfl ?_,bL 10 rfl (by kernel_rfl) rfl ?_,trivial⟩
     ·
      refine bo g171 (is 14) (14,0) rfl aj ?_
      intro g177 w174 b176 ch175 bx178
      replace bx178:Bx g177 (is 14) w174 b176 [vi 0,vi 0]:=bx178
      have hs179:bh (inl [14,15]) _ _ _ _:=ch175.n
      refine⟨hs179.same,?_⟩
      refine aE 10 rfl (by kernel_rfl) rfl (bo g177 (is 15) (15,0) rfl aj ?_)
      intro g183 w180 b182 ch181 bx184
      replace bx184:Bx g183 (is 15) w180 b182 [vi 0,vi 0]:=bx184
      have hs185:=hs179.seq (ch181.n)
      refine⟨hs185.same,?_⟩
      refine aE 11 rfl (by kernel_rfl) rfl ?_
      replace bx178:=bx178.cn ch181
      refine ao (cs':=[vi ((gI (gI p.2 ↑k) ((i:Int)-1)).1),vi ((gI (gI p.2 ↑k) ((i:Int)-1)).2)]) aj rfl rfl bx178 rfl nq (AllOne.all (.cons rfl (.cons rfl .nil))) rfl ?_
      intro w186 ch187 bx188
      clear bx178
      have hs189:=hs185.seq (ch187.l rfl)
      refine⟨hs189.same,?_⟩
      refine aE 12 rfl (by kernel_rfl) rfl ?_
      replace bx184:=bx184.ce ch187
      refine ao (cs':=[vi ((gI (gI p.2 ↑k) ↑i).1),vi ((gI (gI p.2 ↑k) ↑i).2)]) aj rfl rfl bx184 rfl nq (AllOne.all (.cons rfl (.cons rfl .nil))) rfl ?_
      intro w190 ch191 bx192
      clear bx184
      have hs193:=hs189.seq (ch191.l rfl)
      refine⟨hs193.same,?_⟩
      refine bI (by kernel_rfl) ?_
      have C194:=cg [14,15] (ch172.n.seq (ch175.n.seq (ch181.n.seq ((ch187.l rfl).seq (ch191.l rfl)))))
      replace Rg:=Rg.cn ch172
      replace Rp:=Rp.cn ch172
      replace r_p_v1:=r_p_v1.cn ch172
      replace bx10:=bx10.cn ch172
      replace bx15:=bx15.cn ch172
      replace bx168:=bx168.cn ch172
      exact mid (b176,b182,g183) _ _ ⟨bH.ca C194,zs3,zs4,zs7,zs9,zs10,rfl,rfl,zs37,zs38,zs39,(Rg.ca hs193),(Rp.ca hs193),(r_p_v1.ca hs193),(bx10.ca hs193),(bx15.ca hs193),(r164.ca hs193),(bx168.ca hs193),bx188.ce ch191,bx192⟩
     ·
      refine bo g171 (is 15) (15,0) rfl aj ?_
      intro g198 w195 b197 ch196 bx199
      replace bx199:Bx g198 (is 15) w195 b197 [vi 0,vi 0]:=bx199
      have hs200:bh (inl [14,15]) _ _ _ _:=ch196.n
      refine⟨hs200.same,?_⟩
      refine aE 9 rfl (by kernel_rfl) rfl (bo g198 (is 14) (14,0) rfl aj ?_)
      intro g204 w201 b203 ch202 bx205
      replace bx205:Bx g204 (is 14) w201 b203 [vi 0,vi 0]:=bx205
      have hs206:=hs200.seq (ch202.n)
      refine⟨hs206.same,?_⟩
      refine aE 11 rfl (by kernel_rfl) rfl (ao (cs':=[vi ((gI (gI p.2 ↑k) ((i:Int)-1)).1),vi ((gI (gI p.2 ↑k) ((i:Int)-1)).2)]) aj rfl rfl bx205 rfl nq (AllOne.all (.cons rfl (.cons rfl .nil))) rfl ?_)
      intro w207 ch208 bx209
      clear bx205
      have hs210:=hs206.seq (ch208.l rfl)
      refine⟨hs210.same,?_⟩
      refine aE 12 rfl (by kernel_rfl) rfl ?_
      replace bx199:=(bx199.cn ch202).ce ch208
      refine ao (cs':=[vi ((gI (gI p.2 ↑k) ↑i).1),vi ((gI (gI p.2 ↑k) ↑i).2)]) aj rfl rfl bx199 rfl nq (AllOne.all (.cons rfl (.cons rfl .nil))) rfl ?_
      intro w211 ch212 bx213
      clear bx199
      have hs214:=hs210.seq (ch212.l rfl)
      refine⟨hs214.same,?_⟩
      refine bI (by kernel_rfl) ?_
      have C215:=cg [14,15] (ch172.n.seq (ch196.n.seq (ch202.n.seq ((ch208.l rfl).seq (ch212.l rfl)))))
      replace Rg:=Rg.cn ch172
      replace Rp:=Rp.cn ch172
      replace r_p_v1:=r_p_v1.cn ch172
      replace bx10:=bx10.cn ch172
      replace bx15:=bx15.cn ch172
      replace bx168:=bx168.cn ch172
      exact mid (b203,b197,g204) _ _ ⟨bH.ca C215,zs3,zs4,zs7,zs9,zs10,rfl,rfl,zs37,zs38,zs39,(Rg.ca hs214),(Rp.ca hs214),(r_p_v1.ca hs214),(bx10.ca hs214),(bx15.ca hs214),(r164.ca hs214),(bx168.ca hs214),bx209.ce ch212,bx213⟩
    clear Rg Rp r_p_v1 bx10 bx15 r164 bx168 bH
    rintro⟨b176,b182,g218⟩ f216 w217 ⟨bH,zs3,zs4,zs7,zs9,zs10,zs11,zs12,zs37,zs38,zs39,Rg,Rp,r_p_v1,bx10,bx15,r164,bx168,bx188,bx192⟩
    refine a7 rfl (lx (a9 nh rfl rfl zs7 rfl) (lx (aa iy rfl bx168 rfl) (mv (vb ay) ?_)))
    by_cases q67:ay=true
    ·
     refine lv (vp b176 0) (wy q67) (a9 cL rfl rfl zs11 rfl) (lv (vi ((gI (gI p.2 ↑k) ((i:Int)-1)).1)) (wy q67) (aa aL rfl bx188 rfl) (lv (vp b182 0) (wy q67) (a9 cL rfl rfl zs12 rfl) (lv (vi ((gI (gI p.2 ↑k) ↑i).1)) (wy q67) (aa aL rfl bx192 rfl) (lv (vb (decide (((gI (gI p.2 ↑k) ((i:Int)-1)).1)=((gI (gI p.2 ↑k) ↑i).1)))) (wy q67) (d7 (m:=(gI (gI p.2 ↑k) ((i:Int)-1)).1) (n:=(gI (gI p.2 ↑k) ↑i).1) rfl rfl) (lv (vb (decide (((gI (gI p.2 ↑k) ((i:Int)-1)).1)=((gI (gI p.2 ↑k) ↑i).1)))) (wy q67) (aR rfl) ?_)))))
     by_cases q73:((gI (gI p.2 ↑k) ((i:Int)-1)).1)=((gI (gI p.2 ↑k) ↑i).1)
     ·
      refine ak (wn (dt q73)) (ak (wn (dt q73)) (ak (wn (dt q73)) (ak (wn (dt q73)) (ak (wn (dt q73)) (lv (vb true) (wy q67) (aM rfl (dt q73) rfl) (lw (vb true) (aM rfl q67 rfl) (lx (a9 nh rfl rfl zs7 rfl) (lo (ao (cs':=[vi (bn+((List.length (gI p.2 ↑k):Int)-2)),vi 0,vi 0,vb true,vb true]) iy rfl rfl bx168 rfl nq (AllOne.all (.cons rfl .nil)) rfl ?_)))))))))
      intro w219 ch220 bx221
      clear bx168
      refine ab (ap ?_)
      clear bx188 bx192
      refine a7 rfl (mz zs10 (lx (ba (m:=↑i) (n:=1) rfl rfl (by omega)) (ai ((i:Int)+1) (ab ?_))))
      refine back13 (true,i+1,g218) _ _ ⟨bH.ce ch220,zs3,zs4,zs7,zs9,rfl,zs37,zs38,zs39,Rg.ce ch220,Rp.ce ch220,r_p_v1.ce ch220,bx10.ce ch220,bx15.ce ch220,r164.ce ch220,bx221,by omega,?_⟩ ?_
      · show 1<=(i+1)/\true=(j5 p k&&eA (kY (gI p.2 ↑k)) ((i+1)-1))
        exact ta hax ‹_› ‹_›
      · show List.length (gI p.2 ↑k)-(i+1)<List.length (gI p.2 ↑k)-i
        omega
     refine lv (vp b176 1) (wy (df q73)) (a9 cL rfl rfl zs11 rfl) (lv (vi ((gI (gI p.2 ↑k) ((i:Int)-1)).2)) (wy (df q73)) (aa aL rfl bx188 rfl) (lv (vp b182 1) (wy (df q73)) (a9 cL rfl rfl zs12 rfl) (lv (vi ((gI (gI p.2 ↑k) ↑i).2)) (wy (df q73)) (aa aL rfl bx192 rfl) (lv (vb (decide (((gI (gI p.2 ↑k) ((i:Int)-1)).2)=((gI (gI p.2 ↑k) ↑i).2)))) (wy (df q73)) (d7 (m:=(gI (gI p.2 ↑k) ((i:Int)-1)).2) (n:=(gI (gI p.2 ↑k) ↑i).2) rfl rfl) ?_))))
     refine lv (vb (decide (((gI (gI p.2 ↑k) ((i:Int)-1)).2)=((gI (gI p.2 ↑k) ↑i).2)))) (wy q67) (aS rfl (df q73) rfl) (lw (vb (decide (((gI (gI p.2 ↑k) ((i:Int)-1)).2)=((gI (gI p.2 ↑k) ↑i).2)))) (aM rfl q67 rfl) (lx (a9 nh rfl rfl zs7 rfl) (lo (ao (cs':=[vi (bn+((List.length (gI p.2 ↑k):Int)-2)),vi 0,vi 0,vb true,vb (decide (((gI (gI p.2 ↑k) ((i:Int)-1)).2)=((gI (gI p.2 ↑k) ↑i).2)))]) iy rfl rfl bx168 rfl nq (AllOne.all (.cons rfl .nil)) rfl ?_))))
     intro w222 ch223 bx224
     clear bx168
     refine ab (ap ?_)
     clear bx188 bx192
     refine a7 rfl (mz zs10 (lx (ba (m:=↑i) (n:=1) rfl rfl (by omega)) (ai ((i:Int)+1) (ab ?_))))
     refine back13 (decide (((gI (gI p.2 ↑k) ((i:Int)-1)).2)=((gI (gI p.2 ↑k) ↑i).2)),i+1,g218) _ _ ⟨bH.ce ch223,zs3,zs4,zs7,zs9,rfl,zs37,zs38,zs39,Rg.ce ch223,Rp.ce ch223,r_p_v1.ce ch223,bx10.ce ch223,bx15.ce ch223,r164.ce ch223,bx224,by omega,?_⟩ ?_
     · show 1<=(i+1)/\(decide (((gI (gI p.2 ↑k) ((i:Int)-1)).2)=((gI (gI p.2 ↑k) ↑i).2)))=(j5 p k&&eA (kY (gI p.2 ↑k)) ((i+1)-1))
       exact sW hax ‹_› ‹_›
     · show List.length (gI p.2 ↑k)-(i+1)<List.length (gI p.2 ↑k)-i
       omega
    refine ak (wn (Bool.eq_false_iff.2 q67)) (ak (wn (Bool.eq_false_iff.2 q67)) (ak (wn (Bool.eq_false_iff.2 q67)) (ak (wn (Bool.eq_false_iff.2 q67)) (ak (wn (Bool.eq_false_iff.2 q67)) (ak (wn (Bool.eq_false_iff.2 q67)) (ak (bx rfl rfl rfl) (ak (bx rfl rfl rfl) (ak (bx rfl rfl rfl) (ak (bx rfl rfl rfl) ?_)))))))))
    refine ak (bx rfl rfl rfl) (ak (wn (Bool.eq_false_iff.2 q67)) (lw (vb false) (aS rfl (Bool.eq_false_iff.2 q67) rfl) (lx (a9 nh rfl rfl zs7 rfl) (lo (ao (cs':=[vi (bn+((List.length (gI p.2 ↑k):Int)-2)),vi 0,vi 0,vb true,vb false]) iy rfl rfl bx168 rfl nq (AllOne.all (.cons rfl .nil)) rfl ?_)))))
    intro w225 ch226 bx227
    clear bx168
    refine ab (ap ?_)
    clear bx188 bx192
    refine a7 rfl (mz zs10 (lx (ba (m:=↑i) (n:=1) rfl rfl (by omega)) (ai ((i:Int)+1) (ab ?_))))
    refine back13 (false,i+1,g218) _ _ ⟨bH.ce ch226,zs3,zs4,zs7,zs9,rfl,zs37,zs38,zs39,Rg.ce ch226,Rp.ce ch226,r_p_v1.ce ch226,bx10.ce ch226,bx15.ce ch226,r164.ce ch226,bx227,by omega,?_⟩ ?_
    · show 1<=(i+1)/\false=(j5 p k&&eA (kY (gI p.2 ↑k)) ((i+1)-1))
      exact t7 hax ‹_›
    · show List.length (gI p.2 ↑k)-(i+1)<List.length (gI p.2 ↑k)-i
      omega
   refine ah rfl (df p13) (aQ rfl (ap ?_))
   clear r164
   refine a7 rfl (lx (ba (m:=↑k) (n:=1) zs39 rfl (by omega)) (mi ((k:Int)+1) (ab ?_)))
   refine back9 (bn+((List.length (gI p.2 ↑k):Int)-2),ay,k+1,g171) _ _ ⟨bH,zs3,zs4,zs7,zs37,zs38,rfl,Rg,Rp,r_p_v1,bx10,bx15,bx168,by omega,?_⟩ ?_
   · show(bn+((List.length (gI p.2 ↑k):Int)-2))=eV p (k+1)/\ay=j5 p (k+1)
     exact⟨by rw[hbk.1];rfl,rM hbk.2 hax ‹_› (by omega)⟩
   · show Int.toNat (((p.2.length:Int):Int)-((k+1):Int))<Int.toNat (((p.2.length:Int):Int)-(k:Int))
     omega
  refine ah rfl (df p9) (aQ rfl (a8 (a7 rfl (lx (a9 nh rfl rfl zs7 rfl) (lx (aa aL rfl bx157 rfl) (lx (d7 (m:=bn) (n:=0) rfl rfl) (lx (a9 nh rfl rfl zs7 rfl) (lo (ao (cs':=[vi bn,vi 0,vi 0,vb (decide (bn=0)),vb ax]) iy rfl rfl bx157 rfl nq (AllOne.all (.cons rfl .nil)) rfl ?_)))))))))
  intro w228 ch229 bx230
  clear bx157
  refine ab (a8 (a8 (a7 rfl ?_)))
  replace bx10:=bx10.ce ch229
  refine lx (ae (ds:=[p_v,p_v1]) bP zs3 bx10 rfl rfl) ?_
  replace Rp:=Rp.ce ch229
  replace r_p_v1:=r_p_v1.ce ch229
  refine lo (fw (aG (vals:=[vg [p_v,p_v1]]) Try.func39 po pV rfl) (n9 w228 p p_v p_v1 (Rp).ro (r_p_v1).ro (by omega) (by omega) (by exact λe h0 h1=>(hs.ln e h0 h1).2.1)) ?_)
  rintro⟨d232,v234⟩ w231 ⟨fr233,o235⟩
  obtain⟨g236,ch237,G236⟩:=sg g161 fr233 (λn=>if n=1 then 16 else 0)
  replace o235:=o235.gl G236 16
  refine ma v234 (ab (a8 ?_))
  clear bx10
  refine a7 rfl (mv v234 ?_)
  have len238:=(o235.flat).small
  refine lx (bO cT rfl o235.flat) (lx (ez (m:=(List.length (br p):Int)) (n:=0) rfl rfl) (ab ?_))
  by_cases p20:0<(List.length (br p):Int)
  ·
   refine ag rfl (dt p20) (a8 ?_)
   refine cj (σ:=Nat×Nat×aV) (λ⟨b243,b249,gq⟩ f w=>bu w0 gq w/\f 4=vp b13 0/\f 7=vp b152 0/\f 13=v234/\f 14=vp b243 0/\f 15=vp b249 0/\Sl gq (is 0) w g_v g.2/\Sl gq (is 0) w p_v p.1/\Sl gq (is 0) w p_v1 p.2/\Bx gq (is 3) w b13 [vi 0,vi 0,vi 0,vb false,vb false]/\Bx gq (is 13) w b152 [vi bn,vi 0,vi 0,vb (decide (bn=0)),vb ax]/\Ow gq (is 16) (is 16) w v234 (br p)/\Bx gq (is 17) w b243 [vi ((gI (br p) 0).1),vi ((gI (br p) 0).2)]/\Bx gq (is 18) w b249 [vi ((gI (br p) 0).1),vi ((gI (br p) 0).2)]) g236 (inl [17,18]) eU ?_ ?_
   ·
    intro mid
    intro w240 ch239
    refine ht (v:=v234) 0 rfl (bh.refl _ _ _) (λw' hw'=>aR rfl) ?_
    replace o235:=o235.cn ch239
    refine ht 1 rfl (bh.refl _ _ _) (λw' hw'=>af (v:=v234) (i:=0) cT rfl rfl (o235.flat.chg hw' (bt rfl)) rfl (by omega) (by omega)) (ht (v:=vg [vi ((gI (br p) 0).1),vi ((gI (br p) 0).2)]) 2 rfl (bh.refl _ _ _) (λw' hw'=>aT (v:=v234) (i:=0) aj rfl (o235.flat.chg hw' (bt rfl)) (by omega) (by omega) rfl) (ht (v:=v234) 3 rfl (bh.refl _ _ _) (λw' hw'=>aR rfl) (ht 4 rfl (bh.refl _ _ _) (λw' hw'=>af (v:=v234) (i:=0) cT rfl rfl (o235.flat.chg hw' (bt rfl)) rfl (by omega) (by omega)) (ht (v:=vg [vi ((gI (br p) 0).1),vi ((gI (br p) 0).2)]) 5 rfl (bh.refl _ _ _) (λw' hw'=>aT (v:=v234) (i:=0) aj rfl (o235.flat.chg hw' (bt rfl)) (by omega) (by omega) rfl) ?_))))
    refine bJ 6 [7] (by kernel_rfl) ⟨bL 6 rfl (by kernel_rfl) rfl ?_,bL 7 rfl (by kernel_rfl) rfl ?_,trivial⟩
    ·
     refine bo g236 (is 17) (17,0) rfl aj ?_
     intro g244 w241 b243 ch242 bx245
     replace bx245:Bx g244 (is 17) w241 b243 [vi 0,vi 0]:=bx245
     have hs246:bh (inl [17,18]) _ _ _ _:=ch242.n
     refine⟨hs246.same,?_⟩
     refine aE 7 rfl (by kernel_rfl) rfl (bo g244 (is 18) (18,0) rfl aj ?_)
     intro g250 w247 b249 ch248 bx251
     replace bx251:Bx g250 (is 18) w247 b249 [vi 0,vi 0]:=bx251
     have hs252:=hs246.seq (ch248.n)
     refine⟨hs252.same,?_⟩
     refine aE 8 rfl (by kernel_rfl) rfl ?_
     replace bx245:=bx245.cn ch248
     refine ao (cs':=[vi ((gI (br p) 0).1),vi ((gI (br p) 0).2)]) aj rfl rfl bx245 rfl nq (AllOne.all (.cons rfl (.cons rfl .nil))) rfl ?_
     intro w253 ch254 bx255
     clear bx245
     have hs256:=hs252.seq (ch254.l rfl)
     refine⟨hs256.same,?_⟩
     refine aE 9 rfl (by kernel_rfl) rfl ?_
     replace bx251:=bx251.ce ch254
     refine ao (cs':=[vi ((gI (br p) 0).1),vi ((gI (br p) 0).2)]) aj rfl rfl bx251 rfl nq (AllOne.all (.cons rfl (.cons rfl .nil))) rfl ?_
     intro w257 ch258 bx259
     clear bx251
     have hs260:=hs256.seq (ch258.l rfl)
     refine⟨hs260.same,?_⟩
     refine bI (by kernel_rfl) ?_
     have C261:=cg [13,17,18] ((ch229.l rfl).seq (ch237.n.seq (ch239.n.seq (ch242.n.seq (ch248.n.seq ((ch254.l rfl).seq (ch258.l rfl)))))))
     have C262:=cg [13] ((ch229.l rfl).seq (ch237.n.seq ch239.n))
     replace Rg:=Rg.ca C262
     replace Rp:=(Rp.cn ch237).cn ch239
     replace r_p_v1:=(r_p_v1.cn ch237).cn ch239
     replace bx15:=bx15.ca C262
     replace bx230:=(bx230.cn ch237).cn ch239
     exact mid (b243,b249,g250) _ _ ⟨bH.ca C261,zs4,zs7,rfl,rfl,rfl,(Rg.ca hs260),(Rp.ca hs260),(r_p_v1.ca hs260),(bx15.ca hs260),(bx230.ca hs260),(o235.ca hs260),bx255.ce ch258,bx259⟩
    ·
     refine bo g236 (is 18) (18,0) rfl aj ?_
     intro g266 w263 b265 ch264 bx267
     replace bx267:Bx g266 (is 18) w263 b265 [vi 0,vi 0]:=bx267
     have hs268:bh (inl [17,18]) _ _ _ _:=ch264.n
     refine⟨hs268.same,?_⟩
     refine aE 6 rfl (by kernel_rfl) rfl (bo g266 (is 17) (17,0) rfl aj ?_)
     intro g272 w269 b271 ch270 bx273
     replace bx273:Bx g272 (is 17) w269 b271 [vi 0,vi 0]:=bx273
     have hs274:=hs268.seq (ch270.n)
     refine⟨hs274.same,?_⟩
     refine aE 8 rfl (by kernel_rfl) rfl (ao (cs':=[vi ((gI (br p) 0).1),vi ((gI (br p) 0).2)]) aj rfl rfl bx273 rfl nq (AllOne.all (.cons rfl (.cons rfl .nil))) rfl ?_)
     intro w275 ch276 bx277
     clear bx273
     have hs278:=hs274.seq (ch276.l rfl)
     refine⟨hs278.same,?_⟩
     refine aE 9 rfl (by kernel_rfl) rfl ?_
     replace bx267:=(bx267.cn ch270).ce ch276
     refine ao (cs':=[vi ((gI (br p) 0).1),vi ((gI (br p) 0).2)]) aj rfl rfl bx267 rfl nq (AllOne.all (.cons rfl (.cons rfl .nil))) rfl ?_
     intro w279 ch280 bx281
     clear bx267
     have hs282:=hs278.seq (ch280.l rfl)
     refine⟨hs282.same,?_⟩
     refine bI (by kernel_rfl) ?_
     have C283:=cg [13,17,18] ((ch229.l rfl).seq (ch237.n.seq (ch239.n.seq (ch264.n.seq (ch270.n.seq ((ch276.l rfl).seq (ch280.l rfl)))))))
     have C284:=cg [13] ((ch229.l rfl).seq (ch237.n.seq ch239.n))
     replace Rg:=Rg.ca C284
     replace Rp:=(Rp.cn ch237).cn ch239
     replace r_p_v1:=(r_p_v1.cn ch237).cn ch239
     replace bx15:=bx15.ca C284
     replace bx230:=(bx230.cn ch237).cn ch239
     exact mid (b271,b265,g272) _ _ ⟨bH.ca C283,zs4,zs7,rfl,rfl,rfl,(Rg.ca hs282),(Rp.ca hs282),(r_p_v1.ca hs282),(bx15.ca hs282),(bx230.ca hs282),(o235.ca hs282),bx277.ce ch280,bx281⟩
   clear Rg Rp r_p_v1 bx15 bx230 o235 bH
   rintro⟨b243,b249,g287⟩ f285 w286 ⟨bH,zs4,zs7,zs13,zs14,zs15,Rg,Rp,r_p_v1,bx15,bx230,o235,bx255,bx259⟩
   refine a8 (a8 (a7 rfl (mz zs13 (lx (bO cT rfl o235.flat) (mi 0 (ab (aC ?_)))))))
   refine bF (σ:=Int×Int×Int×Int×Nat×aV) (λ⟨t14_0,t14_1,t15_0,t15_1,q,gq⟩ f w=>bu w0 gq w/\f 4=vp b13 0/\f 7=vp b152 0/\f 14=vp b243 0/\f 15=vp b249 0/\f 98=v234/\f 99=vi (List.length (br p):Int)/\f 100=vi ↑q/\Sl gq (is 0) w g_v g.2/\Sl gq (is 0) w p_v p.1/\Sl gq (is 0) w p_v1 p.2/\Bx gq (is 3) w b13 [vi 0,vi 0,vi 0,vb false,vb false]/\Bx gq (is 13) w b152 [vi bn,vi 0,vi 0,vb (decide (bn=0)),vb ax]/\Ow gq (is 16) (is 16) w v234 (br p)/\Bx gq (is 17) w b243 [vi t14_0,vi t14_1]/\Bx gq (is 18) w b249 [vi t15_0,vi t15_1]/\(q:Int)<=((List.length (br p):Int):Int)/\((t14_0=(li (br p) q).1/\t14_1=(li (br p) q).2)/\t15_0=(kV (br p) q).1/\t15_1=(kV (br p) q).2)) (λ⟨t14_0,t14_1,t15_0,t15_1,q,gq⟩=>Int.toNat (((List.length (br p):Int):Int)-(q:Int))) ((gI (br p) 0).1,(gI (br p) 0).2,(gI (br p) 0).1,(gI (br p) 0).2,0,g287) ?_ ?_
   · exact⟨bH,zs4,zs7,zs14,zs15,rfl,rfl,rfl,Rg,Rp,r_p_v1,bx15,bx230,o235,bx255,bx259,by omega,by exact⟨⟨rfl,rfl⟩,rfl,rfl⟩⟩
   clear Rg Rp r_p_v1 bx15 bx230 o235 bx255 bx259 bH
   rintro⟨t14_0,t14_1,t15_0,t15_1,q,g290⟩ f288 w289 ⟨bH,zs4,zs7,zs14,zs15,zs98,zs99,zs100,Rg,Rp,r_p_v1,bx15,bx230,o235,bx255,bx259,hle_q,hbx⟩ back23
   refine a8 (a7 rfl (lx (bc (m:=↑q) (n:=(List.length (br p):Int)) zs100 zs99) (ab (a8 ?_))))
   by_cases p23:(q:Int)<(List.length (br p):Int)
   ·
    refine ag rfl (dt p23) (au (a8 (aC (a8 (a7 rfl (lx (af (v:=v234) (i:=↑q) cT rfl zs98 o235.flat zs100 (by omega) (by omega)) (lw (vg [vi ((gI (br p) (q:Int)).1),vi ((gI (br p) (q:Int)).2)]) (aT (v:=v234) (i:=↑q) aj rfl o235.flat (by omega) (by omega) rfl) (lo (bo g290 (is 19) (19,0) rfl aj ?_)))))))))
    intro g294 w291 b293 ch292 bx295
    replace bx295:Bx g294 (is 19) w291 b293 [vi 0,vi 0]:=bx295
    refine lo (ao (cs':=[vi ((gI (br p) (q:Int)).1),vi ((gI (br p) (q:Int)).2)]) aj rfl rfl bx295 rfl nq (AllOne.all (.cons rfl (.cons rfl .nil))) rfl ?_)
    intro w296 ch297 bx298
    clear bx295
    refine ab ?_
    refine cj (σ:=aV) (λgq f w=>bu w0 gq w/\f 4=vp b13 0/\f 7=vp b152 0/\f 14=vp b243 0/\f 15=vp b249 0/\f 98=v234/\f 99=vi (List.length (br p):Int)/\f 100=vi ↑q/\Sl gq (is 0) w g_v g.2/\Sl gq (is 0) w p_v p.1/\Sl gq (is 0) w p_v1 p.2/\Bx gq (is 3) w b13 [vi 0,vi 0,vi 0,vb false,vb false]/\Bx gq (is 13) w b152 [vi bn,vi 0,vi 0,vb (decide (bn=0)),vb ax]/\Ow gq (is 16) (is 16) w v234 (br p)/\Bx gq (is 17) w b243 [vi (min t14_0 ((gI (br p) (q:Int)).1)),vi (min t14_1 ((gI (br p) (q:Int)).2))]/\Bx gq (is 18) w b249 [vi (max t15_0 ((gI (br p) (q:Int)).1)),vi (max t15_1 ((gI (br p) (q:Int)).2))]) g294 (inl [17,18]) eU ?_ ?_
    ·
     intro mid
     intro w300 ch299
     refine ht 0 rfl (bh.refl _ _ _) (λw' hw'=>a9 cL rfl rfl zs14 rfl) (ht 2 rfl (bh.refl _ _ _) (λw' hw'=>a9 cL rfl rfl rfl rfl) ?_)
     replace bx298:=bx298.cn ch299
     refine ht 3 rfl (bh.refl _ _ _) (λw' hw'=>aa aL rfl (bx298.chg hw' (bt rfl)) rfl) (ht 5 rfl (bh.refl _ _ _) (λw' hw'=>a9 cL rfl rfl zs14 rfl) (ht 7 rfl (bh.refl _ _ _) (λw' hw'=>a9 cL rfl rfl rfl rfl) (ht 8 rfl (bh.refl _ _ _) (λw' hw'=>aa aL rfl (bx298.chg hw' (bt rfl)) rfl) (ht 10 rfl (bh.refl _ _ _) (λw' hw'=>a9 cL rfl rfl zs15 rfl) (ht 12 rfl (bh.refl _ _ _) (λw' hw'=>a9 cL rfl rfl rfl rfl) (ht 13 rfl (bh.refl _ _ _) (λw' hw'=>aa aL rfl (bx298.chg hw' (bt rfl)) rfl) (ht 15 rfl (bh.refl _ _ _) (λw' hw'=>a9 cL rfl rfl zs15 rfl) (ht 17 rfl (bh.refl _ _ _) (λw' hw'=>a9 cL rfl rfl rfl rfl) ?_))))))))
     refine ht 18 rfl (bh.refl _ _ _) (λw' hw'=>aa aL rfl (bx298.chg hw' (bt rfl)) rfl) ?_
     have C301:=cg [19] (ch292.n.seq ((ch297.l rfl).seq ch299.n))
     replace bx255:=bx255.ca C301
     refine ie (v:=vi t14_0) 1 [18,17,15,13,12,10,8,7,5,3,2,0,6,11,16,9,14,19] rfl (by kernel_rfl) (by kernel_rfl) rfl (bh.refl _ _ _) (λw' hw'=>aa aL rfl (bx255.bel hw') rfl) (ht (v:=vi (min t14_0 ((gI (br p) (q:Int)).1))) 4 rfl (bh.refl _ _ _) (λw' hw'=>lO rfl rfl) (ie (v:=vi t14_1) 6 [4,1,18,17,15,13,12,10,8,7,5,3,2,0,11,16,14,19] rfl (by kernel_rfl) (by kernel_rfl) rfl (bh.refl _ _ _) (λw' hw'=>aa aL rfl (bx255.bel hw') rfl) (ht (v:=vi (min t14_1 ((gI (br p) (q:Int)).2))) 9 rfl (bh.refl _ _ _) (λw' hw'=>lO rfl rfl) ?_)))
     replace bx259:=bx259.ca C301
     refine ie (v:=vi t15_1) 16 [9,6,4,1,18,17,15,13,12,10,8,7,5,3,2,0,11,14] rfl (by kernel_rfl) (by kernel_rfl) rfl (bh.refl _ _ _) (λw' hw'=>aa aL rfl (bx259.bel hw') rfl) (ht (v:=vi (max t15_1 ((gI (br p) (q:Int)).2))) 19 rfl (bh.refl _ _ _) (λw' hw'=>iV rfl rfl) (ht 20 rfl (bh.refl _ _ _) (λw' hw'=>a9 cL rfl rfl zs14 rfl) ?_))
     refine bJ 11 [21] (by kernel_rfl) ⟨bL 11 rfl (by kernel_rfl) rfl ?_,bL 21 rfl (by kernel_rfl) rfl ?_,trivial⟩
     ·
      refine aI (v:=vi t15_0) (aa aL rfl bx259 rfl) ?_
      refine⟨(bh.refl _ _ _),?_⟩
      refine ht (v:=vi (max t15_0 ((gI (br p) (q:Int)).1))) 14 rfl (bh.refl _ _ _) (λw' hw'=>iV rfl rfl) (aE 21 rfl (by kernel_rfl) rfl (ao (cs':=[vi (min t14_0 ((gI (br p) (q:Int)).1)),vi t14_1]) aL rfl rfl bx255 rfl nq (AllOne.all (.cons rfl .nil)) rfl ?_))
      intro w302 ch303 bx304
      clear bx255
      have hs305:bh (inl [17,18]) _ _ _ _:=ch303.l rfl
      refine⟨hs305.same,?_⟩
      refine ht 22 rfl hs305.same (λw' hw'=>a9 cL rfl rfl zs14 rfl) (aE 23 rfl (by kernel_rfl) rfl (ao (cs':=[vi (min t14_0 ((gI (br p) (q:Int)).1)),vi (min t14_1 ((gI (br p) (q:Int)).2))]) aL rfl rfl bx304 rfl nq (AllOne.all (.cons rfl .nil)) rfl ?_))
      intro w306 ch307 bx308
      clear bx304
      have hs309:=hs305.seq (ch307.l rfl)
      refine⟨hs309.same,?_⟩
      refine ht 24 rfl hs309.same (λw' hw'=>a9 cL rfl rfl zs15 rfl) (aE 25 rfl (by kernel_rfl) rfl ?_)
      replace bx259:=(bx259.ce ch303).ce ch307
      refine ao (cs':=[vi (max t15_0 ((gI (br p) (q:Int)).1)),vi t15_1]) aL rfl rfl bx259 rfl nq (AllOne.all (.cons rfl .nil)) rfl ?_
      intro w310 ch311 bx312
      clear bx259
      have hs313:=hs309.seq (ch311.l rfl)
      refine⟨hs313.same,?_⟩
      refine ht 26 rfl hs313.same (λw' hw'=>a9 cL rfl rfl zs15 rfl) (aE 27 rfl (by kernel_rfl) rfl (ao (cs':=[vi (max t15_0 ((gI (br p) (q:Int)).1)),vi (max t15_1 ((gI (br p) (q:Int)).2))]) aL rfl rfl bx312 rfl nq (AllOne.all (.cons rfl .nil)) rfl ?_))
      intro w314 ch315 bx316
      clear bx312
      have hs317:=hs313.seq (ch315.l rfl)
      refine⟨hs317.same,?_⟩
      refine bI (by kernel_rfl) ?_
      have C318:=cg [17,18,19] (ch292.n.seq ((ch297.l rfl).seq (ch299.n.seq ((ch303.l rfl).seq ((ch307.l rfl).seq ((ch311.l rfl).seq (ch315.l rfl)))))))
      replace Rg:=Rg.ca C301
      replace Rp:=Rp.ca C301
      replace r_p_v1:=r_p_v1.ca C301
      replace bx15:=bx15.ca C301
      replace bx230:=bx230.ca C301
      replace o235:=o235.ca C301
      exact mid (g294) _ _ ⟨bH.ca C318,zs4,zs7,zs14,zs15,zs98,zs99,zs100,(Rg.ca hs317),(Rp.ca hs317),(r_p_v1.ca hs317),(bx15.ca hs317),(bx230.ca hs317),(o235.ca hs317),(bx308.ce ch311).ce ch315,bx316⟩
     ·
      refine ao (cs':=[vi (min t14_0 ((gI (br p) (q:Int)).1)),vi t14_1]) aL rfl rfl bx255 rfl nq (AllOne.all (.cons rfl .nil)) rfl ?_
      intro w319 ch320 bx321
      clear bx255
      have hs322:bh (inl [17,18]) _ _ _ _:=ch320.l rfl
      refine⟨hs322.same,?_⟩
      refine ht 22 rfl hs322.same (λw' hw'=>a9 cL rfl rfl zs14 rfl) ?_
      refine bJ 11 [23] (by kernel_rfl) ⟨bL 11 rfl (by kernel_rfl) rfl ?_,bL 23 rfl (by kernel_rfl) rfl ?_,trivial⟩
      ·
       replace bx259:=bx259.ce ch320
       refine aI (v:=vi t15_0) (aa aL rfl bx259 rfl) ?_
       refine⟨hs322.same,?_⟩
       refine ht (v:=vi (max t15_0 ((gI (br p) (q:Int)).1))) 14 rfl hs322.same (λw' hw'=>iV rfl rfl) (aE 23 rfl (by kernel_rfl) rfl (ao (cs':=[vi (min t14_0 ((gI (br p) (q:Int)).1)),vi (min t14_1 ((gI (br p) (q:Int)).2))]) aL rfl rfl bx321 rfl nq (AllOne.all (.cons rfl .nil)) rfl ?_))
       intro w323 ch324 bx325
       clear bx321
       have hs326:=hs322.seq (ch324.l rfl)
       refine⟨hs326.same,?_⟩
       refine ht 24 rfl hs326.same (λw' hw'=>a9 cL rfl rfl zs15 rfl) (aE 25 rfl (by kernel_rfl) rfl ?_)
       replace bx259:=bx259.ce ch324
       refine ao (cs':=[vi (max t15_0 ((gI (br p) (q:Int)).1)),vi t15_1]) aL rfl rfl bx259 rfl nq (AllOne.all (.cons rfl .nil)) rfl ?_
       intro w327 ch328 bx329
       clear bx259
       have hs330:=hs326.seq (ch328.l rfl)
       refine⟨hs330.same,?_⟩
       refine ht 26 rfl hs330.same (λw' hw'=>a9 cL rfl rfl zs15 rfl) (aE 27 rfl (by kernel_rfl) rfl (ao (cs':=[vi (max t15_0 ((gI (br p) (q:Int)).1)),vi (max t15_1 ((gI (br p) (q:Int)).2))]) aL rfl rfl bx329 rfl nq (AllOne.all (.cons rfl .nil)) rfl ?_))
       intro w331 ch332 bx333
       clear bx329
       have hs334:=hs330.seq (ch332.l rfl)
       refine⟨hs334.same,?_⟩
       refine bI (by kernel_rfl) ?_
       have C335:=cg [17,18,19] (ch292.n.seq ((ch297.l rfl).seq (ch299.n.seq ((ch320.l rfl).seq ((ch324.l rfl).seq ((ch328.l rfl).seq (ch332.l rfl)))))))
       replace Rg:=Rg.ca C301
       replace Rp:=Rp.ca C301
       replace r_p_v1:=r_p_v1.ca C301
       replace bx15:=bx15.ca C301
       replace bx230:=bx230.ca C301
       replace o235:=o235.ca C301
       exact mid (g294) _ _ ⟨bH.ca C335,zs4,zs7,zs14,zs15,zs98,zs99,zs100,(Rg.ca hs334),(Rp.ca hs334),(r_p_v1.ca hs334),(bx15.ca hs334),(bx230.ca hs334),(o235.ca hs334),(bx325.ce ch328).ce ch332,bx333⟩
      ·
       refine ao (cs':=[vi (min t14_0 ((gI (br p) (q:Int)).1)),vi (min t14_1 ((gI (br p) (q:Int)).2))]) aL rfl rfl bx321 rfl nq (AllOne.all (.cons rfl .nil)) rfl ?_
       intro w336 ch337 bx338
       clear bx321
       have hs339:=hs322.seq (ch337.l rfl)
       refine⟨hs339.same,?_⟩
       replace bx259:=(bx259.ce ch320).ce ch337
       refine ie (v:=vi t15_0) 11 [23,22,21,20,19,16,9,6,4,1,18,17,15,13,12,10,8,7,5,3,2,0] rfl (by kernel_rfl) (by kernel_rfl) rfl hs339.same (λw' hw'=>aa aL rfl (bx259.bel hw') rfl) (ht (v:=vi (max t15_0 ((gI (br p) (q:Int)).1))) 14 rfl hs339.same (λw' hw'=>iV rfl rfl) (ht 24 rfl hs339.same (λw' hw'=>a9 cL rfl rfl zs15 rfl) (aE 25 rfl (by kernel_rfl) rfl (ao (cs':=[vi (max t15_0 ((gI (br p) (q:Int)).1)),vi t15_1]) aL rfl rfl bx259 rfl nq (AllOne.all (.cons rfl .nil)) rfl ?_))))
       intro w340 ch341 bx342
       clear bx259
       have hs343:=hs339.seq (ch341.l rfl)
       refine⟨hs343.same,?_⟩
       refine ht 26 rfl hs343.same (λw' hw'=>a9 cL rfl rfl zs15 rfl) (aE 27 rfl (by kernel_rfl) rfl (ao (cs':=[vi (max t15_0 ((gI (br p) (q:Int)).1)),vi (max t15_1 ((gI (br p) (q:Int)).2))]) aL rfl rfl bx342 rfl nq (AllOne.all (.cons rfl .nil)) rfl ?_))
       intro w344 ch345 bx346
       clear bx342
       have hs347:=hs343.seq (ch345.l rfl)
       refine⟨hs347.same,?_⟩
       refine bI (by kernel_rfl) ?_
       have C348:=cg [17,18,19] (ch292.n.seq ((ch297.l rfl).seq (ch299.n.seq ((ch320.l rfl).seq ((ch337.l rfl).seq ((ch341.l rfl).seq (ch345.l rfl)))))))
       replace Rg:=Rg.ca C301
       replace Rp:=Rp.ca C301
       replace r_p_v1:=r_p_v1.ca C301
       replace bx15:=bx15.ca C301
       replace bx230:=bx230.ca C301
       replace o235:=o235.ca C301
       exact mid (g294) _ _ ⟨bH.ca C348,zs4,zs7,zs14,zs15,zs98,zs99,zs100,(Rg.ca hs347),(Rp.ca hs347),(r_p_v1.ca hs347),(bx15.ca hs347),(bx230.ca hs347),(o235.ca hs347),(bx338.ce ch341).ce ch345,bx346⟩
    clear Rg Rp r_p_v1 bx15 bx230 o235 bx255 bx259 bx298 bH
    rintro g351 f349 w350 ⟨bH,zs4,zs7,zs14,zs15,zs98,zs99,zs100,Rg,Rp,r_p_v1,bx15,bx230,o235,bx308,bx316⟩
    refine ap (a7 rfl (lx (ba (m:=↑q) (n:=1) zs100 rfl (by omega)) (mi ((q:Int)+1) (ab ?_))))
    refine back23 (min t14_0 ((gI (br p) (q:Int)).1),min t14_1 ((gI (br p) (q:Int)).2),max t15_0 ((gI (br p) (q:Int)).1),max t15_1 ((gI (br p) (q:Int)).2),q+1,g351) _ _ ⟨bH,zs4,zs7,zs14,zs15,zs98,zs99,rfl,Rg,Rp,r_p_v1,bx15,bx230,o235,bx308,bx316,by omega,?_⟩ ?_
    · show((min t14_0 ((gI (br p) (q:Int)).1))=(li (br p) (q+1)).1/\(min t14_1 ((gI (br p) (q:Int)).2))=(li (br p) (q+1)).2)/\(max t15_0 ((gI (br p) (q:Int)).1))=(kV (br p) (q+1)).1/\(max t15_1 ((gI (br p) (q:Int)).2))=(kV (br p) (q+1)).2
      (obtain⟨⟨e1,e2⟩,e3,e4⟩:=hbx;rw[e1,e2,e3,e4];exact⟨⟨rfl,rfl⟩,rfl,rfl⟩)
    · show Int.toNat (((List.length (br p):Int):Int)-((q+1):Int))<Int.toNat (((List.length (br p):Int):Int)-(q:Int))
      omega
   refine ah rfl (df p23) (aQ rfl ?_)
   clear o235
   obtain⟨⟨hx1,hx2⟩,hx3,hx4⟩:=hbx
   obtain⟨⟨hb1,hb2⟩,hb3,hb4⟩:=nO (nJ hs) (by omega) q (by omega)
   rw[<-hx1] at hb1
   rw[<-hx2] at hb2
   rw[<-hx3] at hb3
   rw[<-hx4] at hb4
   refine dl g290 (inl [13]) eU ?_
   intro w353 ch352
   refine ht 0 rfl (bh.refl _ _ _) (λw' hw'=>a9 cL rfl rfl zs15 rfl) ?_
   replace bx259:=bx259.cn ch352
   refine ht 1 rfl (bh.refl _ _ _) (λw' hw'=>aa aL rfl (bx259.chg hw' (bt rfl)) rfl) (ht 2 rfl (bh.refl _ _ _) (λw' hw'=>a9 cL rfl rfl zs14 rfl) ?_)
   replace bx255:=bx255.cn ch352
   refine ht 3 rfl (bh.refl _ _ _) (λw' hw'=>aa aL rfl (bx255.chg hw' (bt rfl)) rfl) (ht 4 rfl (bh.refl _ _ _) (λw' hw'=>cW (m:=t15_0) (n:=t14_0) rfl rfl (by omega)) (ht 5 rfl (bh.refl _ _ _) (λw' hw'=>a9 cL rfl rfl zs15 rfl) (ht 6 rfl (bh.refl _ _ _) (λw' hw'=>aa aL rfl (bx259.chg hw' (bt rfl)) rfl) (ht 7 rfl (bh.refl _ _ _) (λw' hw'=>a9 cL rfl rfl zs14 rfl) (ht 8 rfl (bh.refl _ _ _) (λw' hw'=>aa aL rfl (bx255.chg hw' (bt rfl)) rfl) (ht 9 rfl (bh.refl _ _ _) (λw' hw'=>cW (m:=t15_1) (n:=t14_1) rfl rfl (by omega)) (ht 10 rfl (bh.refl _ _ _) (λw' hw'=>a9 nh rfl rfl zs7 rfl) (aE 11 rfl (by kernel_rfl) rfl ?_))))))))
   replace bx230:=bx230.cn ch352
   refine ao (cs':=[vi bn,vi (t15_0-t14_0),vi 0,vb (decide (bn=0)),vb ax]) aL rfl rfl bx230 rfl nq (AllOne.all (.cons rfl .nil)) rfl ?_
   intro w354 ch355 bx356
   clear bx230
   have hs357:bh (inl [13]) _ _ _ _:=ch355.l rfl
   refine⟨hs357.same,?_⟩
   refine ht 12 rfl hs357.same (λw' hw'=>a9 nh rfl rfl zs7 rfl) (aE 13 rfl (by kernel_rfl) rfl (ao (cs':=[vi bn,vi (t15_0-t14_0),vi (t15_1-t14_1),vb (decide (bn=0)),vb ax]) aL rfl rfl bx356 rfl nq (AllOne.all (.cons rfl .nil)) rfl ?_))
   intro w358 ch359 bx360
   clear bx356
   have hs361:=hs357.seq (ch359.l rfl)
   refine⟨hs361.same,?_⟩
   refine bI (by kernel_rfl) (a8 ?_)
   clear bx255 bx259
   refine a7 rfl (lx (ae (ds:=[vi bn,vi (t15_0-t14_0),vi (t15_1-t14_1),vb (decide (bn=0)),vb ax]) cz zs7 bx360 rfl rfl) (lo ?_))
   have C365:=cg [13] (ch352.n.seq ((ch355.l rfl).seq (ch359.l rfl)))
   replace bx15:=bx15.ca C365
   refine ao (cs':=[vi bn,vi (t15_0-t14_0),vi (t15_1-t14_1),vb (decide (bn=0)),vb ax]) cz zs4 rfl bx15 rfl nq (AllOne.all (.cons rfl (.cons rfl (.cons rfl (.cons rfl (.cons rfl .nil)))))) rfl ?_
   intro w362 ch363 bx364
   clear bx15
   refine ai 0 (ab (aw (vs:=[vg [vi bn,vi (t15_0-t14_0),vi (t15_1-t14_1),vb (decide (bn=0)),vb ax],vi 0]) Try.func25 (.cell zs4 (bM (ds:=[vi bn,vi (t15_0-t14_0),vi (t15_1-t14_1),vb (decide (bn=0)),vb ax]) cz bx364 rfl rfl) (.tmp rfl .nil)) ?_))
   have e0:((bn,t15_0-t14_0,t15_1-t14_1,decide (bn=0),ax):(Int)×(Int)×(Int)×(Bool)×(Bool))=((ad g p).1):=by
     (rw[jf hm hsn];exact rQ hbk.1 hbk.2 (by omega) ‹_› ⟨⟨hx1,hx2⟩,hx3,hx4⟩ (by omega))
   have e1:(0:Int)=((ad g p).2):=by
     rw[jf hm hsn]
   have C366:=cg [3,13] (ch352.n.seq ((ch355.l rfl).seq ((ch359.l rfl).seq (ch363.l rfl))))
   replace bH:=bH.ca C366
   exact⟨(bR (a:=(bn,t15_0-t14_0,t15_1-t14_1,decide (bn=0),ax)) (b:=0) (λ(z0:(Int)×(Int)×(Int)×(Bool)×(Bool)) (z1:Int)=>Ending.returned (vt [vg [vi z0.1,vi z0.2.1,vi z0.2.2.1,vb z0.2.2.2.1,vb z0.2.2.2.2],vi z1])) e0 e1),bH.below⟩
  refine ah rfl (df p20) (au (a8 ?_))
  clear o235
  refine a7 rfl ?_
  replace bx230:=bx230.cn ch237
  refine lx (ae (ds:=[vi bn,vi 0,vi 0,vb (decide (bn=0)),vb ax]) cz zs7 bx230 rfl rfl) (lo ?_)
  replace bx15:=(bx15.ce ch229).cn ch237
  refine ao (cs':=[vi bn,vi 0,vi 0,vb (decide (bn=0)),vb ax]) cz zs4 rfl bx15 rfl nq (AllOne.all (.cons rfl (.cons rfl (.cons rfl (.cons rfl (.cons rfl .nil)))))) rfl ?_
  intro w367 ch368 bx369
  clear bx15
  refine ai 0 (ab (aw (vs:=[vg [vi bn,vi 0,vi 0,vb (decide (bn=0)),vb ax],vi 0]) Try.func25 (.cell zs4 (bM (ds:=[vi bn,vi 0,vi 0,vb (decide (bn=0)),vb ax]) cz bx369 rfl rfl) (.tmp rfl .nil)) ?_))
  have e0:((bn,0,0,decide (bn=0),ax):(Int)×(Int)×(Int)×(Bool)×(Bool))=((ad g p).1):=by
    (rw[jf hm hsn];exact rL hbk.1 hbk.2 (by omega) ‹_›)
  have e1:(0:Int)=((ad g p).2):=by
    rw[jf hm hsn]
  have C370:=cg [3,13] ((ch229.l rfl).seq (ch237.n.seq (ch368.l rfl)))
  replace bH:=bH.ca C370
  exact⟨(bR (a:=(bn,0,0,decide (bn=0),ax)) (b:=0) (λ(z0:(Int)×(Int)×(Int)×(Bool)×(Bool)) (z1:Int)=>Ending.returned (vt [vg [vi z0.1,vi z0.2.1,vi z0.2.2.1,vb z0.2.2.2.1,vb z0.2.2.2.2],vi z1])) e0 e1),bH.below⟩
 have hn:¬dd g:=λh=>p1 (dt h)
 refine ag rfl (congrArg Bool.not (Bool.eq_false_iff.2 p1)) (a8 ?_)
 clear bx5 bx10
 refine a7 rfl (lw (vg [vi 0,vi 0,vi 0,vb false,vb false]) (bB (vs:=[]) rfl (by kernel_rfl)) (lo ?_))
 replace bx15:=bx15.cn hb18
 refine ao (cs':=[vi 0,vi 0,vi 0,vb false,vb false]) cz rfl rfl bx15 rfl nq (AllOne.all (.cons rfl (.cons rfl (.cons rfl (.cons rfl (.cons rfl .nil)))))) rfl ?_
 intro w371 ch372 bx373
 clear bx15
 refine ai 1 (ab (aw (vs:=[vg [vi 0,vi 0,vi 0,vb false,vb false],vi 1]) Try.func25 (.cell rfl (bM (ds:=[vi 0,vi 0,vi 0,vb false,vb false]) cz bx373 rfl rfl) (.tmp rfl .nil)) ?_))
 have e0:((0,0,0,false,false):(Int)×(Int)×(Int)×(Bool)×(Bool))=((ad g p).1):=by
   rw[nZ hn]
 have e1:(1:Int)=((ad g p).2):=by
   rw[nZ hn]
 have C374:=cg [3] (ch2.n.seq (ch7.n.seq (ch12.n.seq (hb18.n.seq (ch372.l rfl)))))
 replace bH:=bH.ca C374
 exact⟨(bR (a:=(0,0,0,false,false)) (b:=1) (λ(z0:(Int)×(Int)×(Int)×(Bool)×(Bool)) (z1:Int)=>Ending.returned (vt [vg [vi z0.1,vi z0.2.1,vi z0.2.2.1,vb z0.2.2.2.1,vb z0.2.2.2.2],vi z1])) e0 e1),bH.below⟩
end TL
