import Derived.Test.YtcblhagfadineaaJpTlP4
import Derived.Test.YtcblhagfadineaaJpTlGmA
import Derived.Test.YtcblhagfadineaaJpTlGmM
import Derived.Test.YtcblhagfadineaaJpTlGmR
import Derived.Test.YtcblhagfadineaaJpTlGenA
import Derived.Test.YtcblhagfadineaaJpTlGdA
import Derived.Test.YtcblhagfadineaaJpTlGjA
import Derived.Test.YtcblhagfadineaaJpTlGjB
import Derived.Test.YtcblhagfadineaaProg
import Derived.Test.YtcblhagfadineaaJpTlAli
set_option linter.all false
set_option maxRecDepth 20000
namespace TL
open Go Go.Proofs
theorem ia:Try.prog.follows .mixedOrders=true:=by kernel_rfl
theorem dv:Tp Try.prog 47 true 5 32 (.agg #[.int .i64 0,.int .i64 0,.int .i64 0,.bool false,.bool false]):=Tp.of (by kernel_rfl)
theorem xa:Try.f16.body.isNone=false:=rfl
theorem vI:(Try.f16.name== "runtime.NumGoroutine")=false:=by decide+kernel
theorem wO:Try.f28.body.isNone=false:=rfl
theorem wc:(Try.f28.name== "runtime.NumGoroutine")=false:=by decide+kernel
theorem lj(w0:World)(g:(Int)×(List Pt))(g_v:Value)(hg_v:Ro w0 g_v g.2)(p:(List Pt)×(List (List Pt)))(p_v p_v1:Value)(hp_v:Ro w0 p_v p.1)(hp_v1:Ro w0 p_v1 p.2):
    Calls Try.prog 7 #[vg [vi g.1,g_v],vg [p_v,p_v1]] w0 (λee w=>∃xx:aH×Value,ee= .returned ((λ⟨δ,rv0⟩=>vt [rv0,vi ((aU g p).2)]) xx)/\(λ(⟨δ,rv0⟩:aH×Value) (w:World)=>fI w0 δ w/\Ow δ (is 1) (is 1) w rv0 ((aU g p).1)) xx w):=by
 refine av Try.func7 rfl nq ?_
 have bH:=aX.start w0
 have Rg:=hg_v.sl
 have Rp:=hp_v.sl
 have r_p_v1:=hp_v1.sl
 refine aa (a8 rfl (cj rfl (bj c0 (is 1) (1,0) rfl rfl ?_)))
 intro g4 w1 b3 ch2 bx5
 replace bx5:Bx g4 (is 1) w1 b3 [vi g.1,g_v]:=bx5
 refine lo (bj g4 (is 2) (2,0) rfl rfl ?_)
 intro g9 w6 b8 ch7 bx10
 replace bx10:Bx g9 (is 2) w6 b8 [p_v,p_v1]:=bx10
 refine ma vn (ai 0 (ab (aa (aa (a8 rfl ?_)))))
 replace bx5:=bx5.cn ch7
 refine lx (ak (ds:=[vi g.1,g_v]) cL rfl bx5 rfl rfl) ?_
 replace Rg:=(Rg.cn ch2).cn ch7
 refine lo (aK (v:=vb (d6 g)) (aA (vals:=[vg [vi g.1,g_v]]) Try.func21 mZ nA rfl) (nv w6 g g_v (Rg).ro) ?_)
 intro w11 hb12
 replace hb12:=ar hb12 g9
 refine lx (dj (b:=(d6 g)) rfl) (ab ?_)
 by_cases p1:(d6 g)=true
 ·
  have hm:=of_decide_eq_true p1
  have hmay:=hm
  have hm0:=hm
  obtain⟨hm1,hm2,hm3,hm4⟩:=hm0
  refine aj rfl (congrArg Bool.not p1) (am (aa (a8 rfl ?_)))
  replace bx5:=bx5.cn hb12
  refine lx (ak (ds:=[vi g.1,g_v]) cL rfl bx5 rfl rfl) ?_
  replace bx10:=bx10.cn hb12
  refine lx (ak (ds:=[p_v,p_v1]) cP rfl bx10 rfl rfl) ?_
  replace Rg:=Rg.cn hb12
  have C13:=cg [] (ch2.n.seq (ch7.n.seq hb12.n))
  replace Rp:=Rp.ca C13
  replace r_p_v1:=r_p_v1.ca C13
  refine lo (c3 (aA (vals:=[vg [vi g.1,g_v],vg [p_v,p_v1]]) Try.func16 xa vI rfl) (oK w11 g g_v (Rg).ro p p_v p_v1 (Rp).ro (r_p_v1).ro ‹_›) ?_)
  rintro⟨d15,v17⟩ w14 ⟨fr16,o18⟩
  obtain⟨g19,ch20,G19⟩:=nH g9 fr16 (λn=>if n=1 then 3 else 0)
  replace o18:=o18.gl G19 3
  refine ma v17 (ai 0 (ab (au (vs:=[v17,vi 0]) Try.func7 (.tmp rfl (.tmp rfl .nil)) ?_)))
  have C21:=cg [] (ch2.n.seq (ch7.n.seq (hb12.n.seq ch20.n)))
  replace bH:=bH.ca C21
  have e0:(cl g p:List cv)=((aU g p).1):=by
    simp only[aU,if_pos hm]
  have e1:(0:Int)=((aU g p).2):=by
    simp only[aU,if_pos hm]
  exact⟨(fin w0 g19 (λn=>if n=3 then 1 else 0),v17),(bV (a:=cl g p) (b:=0) (λ(z0:List cv) (z1:Int)=>Ending.returned (vt [v17,vi z1])) e0 e1),bH.fresh _,(e0▸(o18.glue (γ:=c0) (ren:=(λn=>if n=3 then 1 else 0)) (k:=1) bH.col rfl rfl))⟩
 have hn:¬bF g:=λh=>p1 (dt h)
 refine ag rfl (congrArg Bool.not (Bool.eq_false_iff.2 p1)) (aa ?_)
 clear bx5 bx10
 refine a8 rfl (ma vn (ai 1 (ab (au (vs:=[vn,vi 1]) Try.func7 (.tmp rfl (.tmp rfl .nil)) ?_))))
 have C22:=cg [] (ch2.n.seq (ch7.n.seq hb12.n))
 replace bH:=bH.ca C22
 have e0:([]:List cv)=((aU g p).1):=by
   simp only[aU,if_neg hn]
 have e1:(1:Int)=((aU g p).2):=by
   simp only[aU,if_neg hn]
 exact⟨(fin w0 g9 (λn=>0),vn),(bV (a:=[]) (b:=1) (λ(z0:List cv) (z1:Int)=>Ending.returned (vt [vn,vi z1])) e0 e1),bH.fresh _,(e0▸Ow.nil)⟩
theorem rF(w0:World)(p:(List Pt)×(List (List Pt)))(p_v p_v1:Value)(hp_v:Ro w0 p_v p.1)(hp_v1:Ro w0 p_v1 p.2)(hp1:(p.1.length:Int)<=1024)(hp2:(p.2.length:Int)<=3072)(hp3:∀e:Int,0<=e->e<p.2.length->(gI p.2 e).length<=4096):
    Calls Try.prog 28 #[vg [p_v,p_v1]] w0 (λee w=>∃xx:aH×Value,ee= .returned ((λ⟨δ,rv0⟩=>rv0) xx)/\(λ(⟨δ,rv0⟩:aH×Value) (w:World)=>fI w0 δ w/\Ow δ (is 1) (is 1) w rv0 (bk p)) xx w):=by
 refine av Try.func28 rfl nq ?_
 have bH:=aX.start w0
 have Rp:=hp_v.sl
 have r_p_v1:=hp_v1.sl
 refine aa (a8 rfl (cj rfl (bj c0 (is 1) (1,0) rfl rfl ?_)))
 intro g4 w1 b3 ch2 bx5
 replace bx5:Bx g4 (is 1) w1 b3 [p_v,p_v1]:=bx5
 refine ma vn (ab (aa (a8 rfl (lx (ad iK rfl rfl rfl rfl) (lx (af bO rfl bx5 rfl) (lo ?_))))))
 replace Rp:=Rp.cn ch2
 refine b9 (α:=Pt) (xs:=([])) (ys:=p.1) g4 (J:=is 2) (S:=is 2) (2,0) rfl cX ah (by decide) rfl rfl rfl Ow.nil Rp (by decide) (by(simp;omega)) ?_
 intro g6 w7 v8 ch9 o10
 replace o10:Ow g6 (is 2) (is 2) w7 v8 p.1:=o10
 refine ma v8 (ab (aa (aa (a8 rfl (lx (ad iK rfl rfl rfl rfl) ?_)))))
 replace bx5:=bx5.ce ch9
 refine lx (af d3 rfl bx5 rfl) ?_
 replace r_p_v1:=(r_p_v1.cn ch2).ce ch9
 have len11:=(r_p_v1).small
 refine lx (aT kM rfl r_p_v1) (mi 0 (ab (aq ?_)))
 clear bx5
 refine aQ (σ:=Value×(List Pt)×Nat×aH) (λ⟨l_v,l,k,gq⟩ f w=>aX w0 gq w/\f 3=l_v/\f 10=p_v1/\f 11=vi (p.2.length:Int)/\f 12=vi ↑k/\Sl gq (is 0) w p_v p.1/\Sl gq (is 0) w p_v1 p.2/\Ow gq (is 2) (is 2) w l_v l/\(k:Int)<=((p.2.length:Int):Int)/\(l=p.1++(p.2.take k).flatten/\(l.length:Int)<=1024+4096*(k:Int))) (λ⟨l_v,l,k,gq⟩=>Int.toNat (((p.2.length:Int):Int)-(k:Int))) (v8,p.1,0,g6) ?_ ?_
 replace bH:=bH.cn ch2
 · exact⟨bH.ce ch9,rfl,rfl,rfl,rfl,Rp.ce ch9,r_p_v1,o10,by omega,by exact⟨by simp,by omega⟩⟩
 clear Rp r_p_v1 o10 bH
 rintro⟨l_v,l,k,g14⟩ f12 w13 ⟨bH,zs3,zs10,zs11,zs12,Rp,r_p_v1,o_l,hle_k,hinv⟩ back3
 obtain⟨hi1,hi2⟩:=hinv
 refine aa (a8 rfl (lx (b6 (m:=↑k) (n:=(p.2.length:Int)) zs12 zs11) (ab (aa ?_))))
 by_cases p3:(k:Int)<(p.2.length:Int)
 ·
  refine ag rfl (dt p3) ?_
  have hll:=hp3 (k:Int) (by omega) (by omega)
  refine am (aa (aq (aa (a8 rfl (lx (al (v:=p_v1) (i:=↑k) kM rfl zs10 r_p_v1 zs12 (by omega) (by omega)) ?_)))))
  obtain⟨v15,cel16,r17⟩:=dh (r:=(k:Int)) r_p_v1 (by omega) (by omega)
  refine lx (bD bO rfl cel16) (ma v15 (ab (a8 rfl (mz zs3 (mv v15 (lo (b9 (α:=Pt) (xs:=l) (ys:=(gI p.2 ↑k)) g14 (J:=is 2) (S:=is 2) (2,0) rfl cX ah (by decide) rfl rfl rfl o_l r17 (by decide) (by omega) ?_)))))))
  intro g18 w19 v20 ch21 o22
  clear o_l
  refine ma v20 (ab (ao ?_))
  clear r17
  refine a8 rfl (lx (aP (m:=↑k) (n:=1) zs12 rfl (by omega)) (mi ((k:Int)+1) (ab ?_)))
  refine back3 (v20,(l++gI p.2 ↑k),k+1,g18) _ _ ⟨bH.ce ch21,rfl,zs10,zs11,rfl,Rp.ce ch21,r_p_v1.ce ch21,o22,by omega,?_⟩ ?_
  · show(l++gI p.2 ↑k)=p.1++(p.2.take (k+1)).flatten/\((l++gI p.2 ↑k).length:Int)<=1024+4096*((k+1):Int)
    exact t7 ⟨hi1,hi2⟩ ‹_› hll
  · show Int.toNat (((p.2.length:Int):Int)-((k+1):Int))<Int.toNat (((p.2.length:Int):Int)-(k:Int))
    omega
 refine aj rfl (df p3) (aM rfl (aa (a8 rfl (mz zs3 (ma l_v (ab (au (vs:=[l_v]) Try.func28 (.tmp rfl .nil) ?_)))))))
 have e0:(l:List Pt)=(bk p):=by
   exact vK hi1 ‹_›
 exact⟨(fin w0 g14 (λn=>if n=2 then 1 else 0),l_v),(congrArg (a₁:=l) (λ(z0:List Pt)=>Ending.returned (l_v)) e0),bH.fresh _,(e0▸(o_l.glue (γ:=c0) (ren:=(λn=>if n=2 then 1 else 0)) (k:=1) bH.col rfl rfl))⟩
set_option maxHeartbeats 4000000 in
theorem u9(w0:World)(g:(Int)×(List Pt))(g_v:Value)(hg_v:Ro w0 g_v g.2)(p:(List Pt)×(List (List Pt)))(p_v p_v1:Value)(hp_v:Ro w0 p_v p.1)(hp_v1:Ro w0 p_v1 p.2):
    Calls Try.prog 12 #[vg [vi g.1,g_v],vg [p_v,p_v1]] w0 (λee w=>ee= .returned (vt [vg [vi (((bf g p).1).1),vi ((((bf g p).1).2).1),vi (((((bf g p).1).2).2).1),vb ((((((bf g p).1).2).2).2).1),vb ((((((bf g p).1).2).2).2).2)],vi ((bf g p).2)])/\dd w0.heap.size w0 w):=by
 refine av Try.func12 rfl nq ?_
 have bH:=aX.start w0
 have Rg:=hg_v.sl
 have Rp:=hp_v.sl
 have r_p_v1:=hp_v1.sl
 refine aa (a8 rfl (cj rfl (bj c0 (is 1) (1,0) rfl rfl ?_)))
 intro g4 w1 b3 ch2 bx5
 replace bx5:Bx g4 (is 1) w1 b3 [vi g.1,g_v]:=bx5
 refine lo (bj g4 (is 2) (2,0) rfl rfl ?_)
 intro g9 w6 b8 ch7 bx10
 replace bx10:Bx g9 (is 2) w6 b8 [p_v,p_v1]:=bx10
 refine lo (aY g9 (is 3) (3,0) rfl dv ?_)
 intro g14 w11 b13 ch12 bx15
 replace bx15:Bx g14 (is 3) w11 b13 [vi 0,vi 0,vi 0,vb false,vb false]:=bx15
 refine ai 0 (ab (aa (aa (a8 rfl ?_))))
 replace bx5:=(bx5.cn ch7).cn ch12
 refine lx (ak (ds:=[vi g.1,g_v]) cL rfl bx5 rfl rfl) ?_
 have C16:=cg [] (ch2.n.seq (ch7.n.seq ch12.n))
 replace Rg:=Rg.ca C16
 refine lo (aK (v:=vb (d6 g)) (aA (vals:=[vg [vi g.1,g_v]]) Try.func21 mZ nA rfl) (nv w11 g g_v (Rg).ro) ?_)
 intro w17 hb18
 replace hb18:=ar hb18 g14
 refine lx (dj (b:=(d6 g)) rfl) (ab ?_)
 by_cases p1:(d6 g)=true
 ·
  have hm:=of_decide_eq_true p1
  have hmay:=hm
  have hm0:=hm
  obtain⟨hm1,hm2,hm3,hm4⟩:=hm0
  refine aj rfl (congrArg Bool.not p1) (am (aa (a8 rfl ?_)))
  replace bx5:=bx5.cn hb18
  refine lx (ak (ds:=[vi g.1,g_v]) cL rfl bx5 rfl rfl) ?_
  replace bx10:=(bx10.cn ch12).cn hb18
  refine lx (ak (ds:=[p_v,p_v1]) cP rfl bx10 rfl rfl) ?_
  replace Rg:=Rg.cn hb18
  have C19:=cg [] (ch2.n.seq (ch7.n.seq (ch12.n.seq hb18.n)))
  replace Rp:=Rp.ca C19
  replace r_p_v1:=r_p_v1.ca C19
  refine lw (vg [vi g.1,g_v,p_v,p_v1,vn]) (bQ (vs:=[(0,vg [vi g.1,g_v]),(1,vg [p_v,p_v1])]) rfl (by rw[Sl.form Rg,Sl.form Rp,Sl.form r_p_v1];kernel_rfl)) (lo (bj g14 (is 4) (4,0) rfl rfl ?_))
  intro g23 w20 b22 ch21 bx24
  replace bx24:Bx g23 (is 4) w20 b22 [vi g.1,g_v,p_v,p_v1,vn]:=bx24
  refine ma (vp b22 0) (ab (aa ?_))
  clear bx5
  refine a8 rfl (mv (vp b22 0) (lo ?_))
  refine c3 (σ:=Value×(List cv)×aH) (V:=λ⟨l_4_c1_v,l_4_c1,gq⟩=>vt []) (S:=λ⟨l_4_c1_v,l_4_c1,gq⟩ w=>aX w0 gq w/\Sl gq (is 0) w g_v g.2/\Sl gq (is 0) w p_v p.1/\Sl gq (is 0) w p_v1 p.2/\Bx gq (is 2) w b8 [p_v,p_v1]/\Bx gq (is 3) w b13 [vi 0,vi 0,vi 0,vb false,vb false]/\Bx gq (is 4) w b22 [vi g.1,g_v,p_v,p_v1,l_4_c1_v]/\Ow gq (is 8) (is 8) w l_4_c1_v l_4_c1/\(l_4_c1=bZ g p)) (aA (vals:=[vp b22 0]) Try.func27 rp ru rfl) ?_ ?_
  ·
   refine av Try.func27 rfl nq ?_
   replace Rg:=Rg.cn ch21
   replace Rp:=Rp.cn ch21
   replace r_p_v1:=r_p_v1.cn ch21
   refine aa (aa (cD g23 rfl ia (by kernel_rfl) ?_))
   intro w26 ch25
   refine qm (vp b22 0) (qv (vp b22 0) (λw' hw'=>aB rfl) (qx (λw' hw'=>ad dO rfl rfl rfl rfl) (qx (λw' hw'=>ad iK rfl rfl rfl rfl) ?_)))
   replace bx24:=bx24.cn ch25
   refine qx (λw' hw'=>af bO rfl (bx24.bel hw') rfl) ?_
   replace Rp:=Rp.cn ch25
   have len27:=(Rp).small
   refine qx (λw' hw'=>aT cX rfl (Rp.bel hw')) (qm (vp b22 0) (qv (vp b22 0) (λw' hw'=>aB rfl) (qx (λw' hw'=>ad dO rfl rfl rfl rfl) (qx (λw' hw'=>ad fV rfl rfl rfl rfl) (qx (λw' hw'=>af aI rfl (bx24.bel hw') rfl) (qx (λw' hw'=>dU (m:=(p.1.length:Int)) (n:=g.1) rfl rfl) (qm (vb (!(decide ((p.1.length:Int)=g.1)))) ?_)))))))
   by_cases q18_c1:(p.1.length:Int)=g.1
   ·
    refine aW (v:=vp b22 0) (wy (congrArg Bool.not (dt q18_c1))) (λw' hw'=>aD rfl) (aW (v:=vp b22 0) (wy (congrArg Bool.not (dt q18_c1))) (λw' hw'=>aB rfl) (aW (v:=vp b22 2) (wy (congrArg Bool.not (dt q18_c1))) (λw' hw'=>ad dO rfl rfl rfl rfl) (aW (v:=vp b22 3) (wy (congrArg Bool.not (dt q18_c1))) (λw' hw'=>ad iK rfl rfl rfl rfl) (aW (v:=p_v1) (wy (congrArg Bool.not (dt q18_c1))) (λw' hw'=>af d3 rfl (bx24.bel hw') rfl) ?_))))
    replace r_p_v1:=r_p_v1.cn ch25
    have len28:=(r_p_v1).small
    refine aW (v:=vi (p.2.length:Int)) (wy (congrArg Bool.not (dt q18_c1))) (λw' hw'=>aT kM rfl (r_p_v1.bel hw')) (aW (v:=vp b22 0) (wy (congrArg Bool.not (dt q18_c1))) (λw' hw'=>aD rfl) (aW (v:=vp b22 0) (wy (congrArg Bool.not (dt q18_c1))) (λw' hw'=>aB rfl) (aW (v:=vp b22 0) (wy (congrArg Bool.not (dt q18_c1))) (λw' hw'=>ad dO rfl rfl rfl rfl) (aW (v:=vp b22 1) (wy (congrArg Bool.not (dt q18_c1))) (λw' hw'=>ad fV rfl rfl rfl rfl) ?_))))
    refine aW (v:=g_v) (wy (congrArg Bool.not (dt q18_c1))) (λw' hw'=>af cw rfl (bx24.bel hw') rfl) ?_
    replace Rg:=Rg.cn ch25
    have len29:=(Rg).small
    refine aW (v:=vi (g.2.length:Int)) (wy (congrArg Bool.not (dt q18_c1))) (λw' hw'=>aT jQ rfl (Rg.bel hw')) (aW (v:=vb (!(decide ((p.2.length:Int)=(g.2.length:Int))))) (wy (congrArg Bool.not (dt q18_c1))) (λw' hw'=>dU (m:=(p.2.length:Int)) (n:=(g.2.length:Int)) rfl rfl) (qv (vb (!(decide ((p.2.length:Int)=(g.2.length:Int))))) (λw' hw'=>aC rfl (congrArg Bool.not (dt q18_c1)) rfl) (dH ?_)))
    intro w30 hc31
    replace hc31:=ar hc31 g23
    by_cases p0_c1:(p.2.length:Int)=(g.2.length:Int)
    ·
     refine aj rfl (congrArg Bool.not (dt p0_c1)) (am (aa (aa (a8 rfl (mv (vp b22 0) (lw (vp b22 0) (aB rfl) (lx (ad dO rfl rfl rfl rfl) (lx (ad iK rfl rfl rfl rfl) ?_))))))))
     replace bx24:=bx24.cn hc31
     refine lx (af bO rfl bx24 rfl) ?_
     replace Rp:=Rp.cn hc31
     refine lx (aT cX rfl Rp) (mi 0 (ab (aq ?_)))
     refine aQ (σ:=Nat×Value×(List cv)×aH) (λ⟨vS,FS_v,FS,gq⟩ f w=>aX w0 gq w/\f 0=vp b22 0/\f 39=p_v/\f 40=vi (p.1.length:Int)/\f 41=vi ↑vS/\Sl gq (is 0) w g_v g.2/\Sl gq (is 0) w p_v p.1/\Sl gq (is 0) w p_v1 p.2/\Bx gq (is 2) w b8 [p_v,p_v1]/\Bx gq (is 3) w b13 [vi 0,vi 0,vi 0,vb false,vb false]/\Bx gq (is 4) w b22 [vi g.1,g_v,p_v,p_v1,FS_v]/\Ow gq (is 8) (is 8) w FS_v FS/\(vS:Int)<=((p.1.length:Int):Int)/\(FS=bg (kX p) vS)) (λ⟨vS,FS_v,FS,gq⟩=>Int.toNat (((p.1.length:Int):Int)-(vS:Int))) (0,vn,[],g23) ?_ ?_
     have C33:=cg [] (ch21.n.seq (ch25.n.seq hc31.n))
     have C34:=hb18.n.seq C33
     have C32:=ch2.n.seq (ch7.n.seq (ch12.n.seq C34))
     · exact⟨bH.ca C32,rfl,rfl,rfl,rfl,Rg.cn hc31,Rp,r_p_v1.cn hc31,bx10.ca C33,bx15.ca C34,bx24,Ow.nil,by omega,by rfl⟩
     clear Rg Rp r_p_v1 bx10 bx15 bx24 bH
     rintro⟨vS,FS_v,FS,g37⟩ f35 w36 ⟨bH,zs0_c1,zs39_c1,zs40_c1,zs41_c1,Rg,Rp,r_p_v1,bx10,bx15,bx24,o_FS,hle_vS,haS⟩ back3_c1
     have halS:=rf haS
     refine aa (a8 rfl (lx (b6 (m:=↑vS) (n:=(p.1.length:Int)) zs41_c1 zs40_c1) (ab (aa ?_))))
     by_cases p3_c1:(vS:Int)<(p.1.length:Int)
     ·
      refine ag rfl (dt p3_c1) (am (aa (aq (aa (a8 rfl (mz zs41_c1 (lx (al (v:=p_v) (i:=↑vS) cX rfl zs39_c1 Rp zs41_c1 (by omega) (by omega)) (lw (vg [vi ((gI p.1 ↑vS).1),vi ((gI p.1 ↑vS).2)]) (aJ (v:=p_v) (i:=↑vS) ah rfl Rp (by omega) (by omega) rfl) (lo (aY g37 (is 5) (5,0) rfl ah ?_))))))))))
      intro g41 w38 b40 ch39 bx42
      replace bx42:Bx g41 (is 5) w38 b40 [vi 0,vi 0]:=bx42
      refine ai (vS:Int) (lo (aw (cs':=[vi ((gI p.1 ↑vS).1),vi ((gI p.1 ↑vS).2)]) ah rfl rfl bx42 rfl nq (AllOne.all (.cons rfl (.cons rfl .nil))) rfl ?_))
      intro w43 ch44 bx45
      clear bx42
      refine ab (aa (a8 rfl (lx (ak (ds:=[vi ((gI p.1 ↑vS).1),vi ((gI p.1 ↑vS).2)]) ah rfl bx45 rfl rfl) (lo (aF (α:=Pt) g41 (is 6) (is 6) (6,0) rfl ([(gI p.1 ↑vS)]:List Pt) cX ah (by decide) (by decide) (vs:=[(0,vg [vi ((gI p.1 ↑vS).1),vi ((gI p.1 ↑vS).2)])]) rfl rfl (.cons rfl .nil) ?_)))))
      intro g46 w47 v48 ch49 o50
      refine lo (aK (v:=vb (decide (dW ([(gI p.1 ↑vS)]:List Pt)))) (aA (vals:=[v48]) Try.func33 fA fF rfl) (fC w47 ([(gI p.1 ↑vS)]:List Pt) v48 (o50.flat).ro) ?_)
      intro w51 hb52
      replace hb52:=ar hb52 g46
      refine lx (dj (b:=(decide (dW ([(gI p.1 ↑vS)]:List Pt)))) rfl) (ab ?_)
      by_cases p5_c1:(decide (dW ([(gI p.1 ↑vS)]:List Pt)))=true
      ·
       refine aj rfl (congrArg Bool.not p5_c1) (am (ao ?_))
       clear bx45 o50
       refine a8 rfl (lx (aP (m:=↑vS) (n:=1) zs41_c1 rfl (by omega)) (mi ((vS:Int)+1) (ab ?_)))
       have C53:=cg [5] (ch39.n.seq ((ch44.l rfl).seq (ch49.n.seq hb52.n)))
       refine back3_c1 (vS+1,FS_v,FS,g46) _ _ ⟨bH.ca C53,zs0_c1,zs39_c1,zs40_c1,rfl,Rg.ca C53,Rp.ca C53,r_p_v1.ca C53,bx10.ca C53,bx15.ca C53,bx24.ca C53,o_FS.ca C53,by omega,?_⟩ ?_
       · show FS=bg (kX p) (vS+1)
         exact qF haS (sY ‹_›)
       · show Int.toNat (((p.1.length:Int):Int)-((vS+1):Int))<Int.toNat (((p.1.length:Int):Int)-(vS:Int))
         omega
      refine ag rfl (congrArg Bool.not (Bool.eq_false_iff.2 p5_c1)) ?_
      clear bx45 o50
      refine a8 rfl (mz zs0_c1 (mi ↑vS (lo (bT (aA (vals:=[vp b22 0,vi 2,vi ↑vS,vi 0]) Try.func44 de dg rfl) (av Try.func44 rfl nq ?_)))))
      have C54:=cg [5] (ch39.n.seq ((ch44.l rfl).seq (ch49.n.seq hb52.n)))
      replace Rg:=Rg.ca C54
      replace Rp:=Rp.ca C54
      replace r_p_v1:=r_p_v1.ca C54
      replace o_FS:=o_FS.ca C54
      refine a8 rfl (mv (vp b22 0) (mv (vp b22 0) (lw (vp b22 0) (aB rfl) (lx (ad dO rfl rfl rfl rfl) ?_))))
      replace bx24:=bx24.ca C54
      refine lx (af bx rfl bx24 rfl) (mi 2 (mi ↑vS (mi 0 (lw (vg [vi 2,vi ↑vS,vi 0]) (bQ (vs:=[(0,vi 2),(1,vi ↑vS),(2,vi 0)]) rfl (by kernel_rfl)) (lo (aF (α:=cv) g46 (is 7) (is 7) (7,0) rfl ([(2,(vS:Int),0)]:List cv) gB bB (by decide) (by decide) (vs:=[(0,vg [vi 2,vi ↑vS,vi 0])]) rfl rfl (.cons rfl .nil) ?_))))))
      intro g55 w56 v57 ch58 o59
      refine lo ?_
      replace o_FS:=o_FS.cn ch58
      refine b9 (α:=cv) (xs:=FS) (ys:=([(2,(vS:Int),0)]:List cv)) g55 (J:=is 8) (S:=is 8) (8,0) rfl gB bB (by decide) rfl rfl rfl o_FS o59.flat (by decide) (by(simp;omega)) ?_
      intro g60 w61 v62 ch63 o64
      clear o_FS
      refine lw (vp b22 0) (aB rfl) (lx (ad dO rfl rfl rfl rfl) (lo ?_))
      replace bx24:=(bx24.cn ch58).ce ch63
      refine bL (cs':=[vi g.1,g_v,p_v,p_v1,v62]) bx rfl rfl bx24 (bK o64.flat) nq (cz o64.flat) rfl ?_
      intro w65 ch66 bx67
      clear bx24
      refine ab (ct (vs:=[]) Try.func44 .nil ?_)
      refine⟨vt [],rfl,?_⟩
      refine ab (ao ?_)
      clear o59
      refine a8 rfl (lx (aP (m:=↑vS) (n:=1) zs41_c1 rfl (by omega)) (mi ((vS:Int)+1) (ab ?_)))
      have C68:=cg [4,5,8] (ch39.n.seq ((ch44.l rfl).seq (ch49.n.seq (hb52.n.seq (ch58.n.seq ((ch63.l rfl).seq (ch66.l rfl)))))))
      have C69:=cg [4,8] (ch58.n.seq ((ch63.l rfl).seq (ch66.l rfl)))
      refine back3_c1 (vS+1,v62,(FS++([(2,(vS:Int),0)]:List cv)),g60) _ _ ⟨bH.ca C68,zs0_c1,zs39_c1,zs40_c1,rfl,Rg.ca C69,Rp.ca C69,r_p_v1.ca C69,bx10.ca C68,bx15.ca C68,bx67,o64.ce ch66,by omega,?_⟩ ?_
      · show(FS++([(2,(vS:Int),0)]:List cv))=bg (kX p) (vS+1)
        exact nN haS (u5 ‹_›)
      · show Int.toNat (((p.1.length:Int):Int)-((vS+1):Int))<Int.toNat (((p.1.length:Int):Int)-(vS:Int))
        omega
     refine aj rfl (df p3_c1) (aM rfl (aa (a8 rfl (mz zs0_c1 (lw (vp b22 0) (aB rfl) (lx (ad dO rfl rfl rfl rfl) (lx (ad iK rfl rfl rfl rfl) (lx (af d3 rfl bx24 rfl) (lx (aT kM rfl r_p_v1) (mi 0 ?_))))))))))
     refine ab (aq ?_)
     refine aQ (σ:=Value×(List cv)×Nat×aH) (λ⟨GS_v,GS,eS,gq⟩ f w=>aX w0 gq w/\f 0=vp b22 0/\f 58=p_v1/\f 59=vi (p.2.length:Int)/\f 60=vi ↑eS/\Sl gq (is 0) w g_v g.2/\Sl gq (is 0) w p_v p.1/\Sl gq (is 0) w p_v1 p.2/\Bx gq (is 2) w b8 [p_v,p_v1]/\Bx gq (is 3) w b13 [vi 0,vi 0,vi 0,vb false,vb false]/\Bx gq (is 4) w b22 [vi g.1,g_v,p_v,p_v1,GS_v]/\Ow gq (is 8) (is 8) w GS_v GS/\(eS:Int)<=((p.2.length:Int):Int)/\(GS=bg (kX p) p.1.length++bg (nJ p) eS)) (λ⟨GS_v,GS,eS,gq⟩=>Int.toNat (((p.2.length:Int):Int)-(eS:Int))) (FS_v,FS,0,g37) ?_ ?_
     · exact⟨bH,zs0_c1,rfl,rfl,rfl,Rg,Rp,r_p_v1,bx10,bx15,bx24,o_FS,by omega,by exact og haS (by omega)⟩
     clear Rg Rp r_p_v1 bx10 bx15 bx24 o_FS bH
     rintro⟨GS_v,GS,eS,g72⟩ f70 w71 ⟨bH,zs0_c1,zs58_c1,zs59_c1,zs60_c1,Rg,Rp,r_p_v1,bx10,bx15,bx24,o_GS,hle_eS,hbS⟩ back9_c1
     have hblS:=qU hbS
     refine aa (a8 rfl (lx (b6 (m:=↑eS) (n:=(p.2.length:Int)) zs60_c1 zs59_c1) (ab (aa ?_))))
     by_cases p9_c1:(eS:Int)<(p.2.length:Int)
     ·
      refine ag rfl (dt p9_c1) (am (aa (aq (aa (a8 rfl (mz zs60_c1 (lx (al (v:=p_v1) (i:=↑eS) kM rfl zs58_c1 r_p_v1 zs60_c1 (by omega) (by omega)) ?_)))))))
      obtain⟨v73,cel74,r75⟩:=dh (r:=(eS:Int)) r_p_v1 (by omega) (by omega)
      refine lx (bD bO rfl cel74) (ai (eS:Int) (ma v73 (ab (aa (a8 rfl (mv v73 ?_))))))
      have len76:=(r75).small
      refine lx (aT cX rfl r75) (lx (b6 (m:=(List.length (gI p.2 ↑eS):Int)) (n:=2) rfl rfl) (mv (vb (decide ((List.length (gI p.2 ↑eS):Int)<2))) ?_))
      by_cases q68_c1:(List.length (gI p.2 ↑eS):Int)<2
      ·
       refine ae (wn (dt q68_c1)) (ae (wn (dt q68_c1)) (ae (wn (dt q68_c1)) (lw (vb true) (aE rfl (dt q68_c1) rfl) (ab (ag rfl rfl ?_)))))
       clear r75
       refine a8 rfl (mz zs0_c1 (mi ↑eS (lo (bT (aA (vals:=[vp b22 0,vi 3,vi ↑eS,vi 0]) Try.func44 de dg rfl) (av Try.func44 rfl nq (a8 rfl (mv (vp b22 0) (mv (vp b22 0) (lw (vp b22 0) (aB rfl) ?_)))))))))
       refine lx (ad dO rfl rfl rfl rfl) (lx (af bx rfl bx24 rfl) (mi 3 (mi ↑eS (mi 0 (lw (vg [vi 3,vi ↑eS,vi 0]) (bQ (vs:=[(0,vi 3),(1,vi ↑eS),(2,vi 0)]) rfl (by kernel_rfl)) (lo (aF (α:=cv) g72 (is 9) (is 9) (9,0) rfl ([(3,(eS:Int),0)]:List cv) gB bB (by decide) (by decide) (vs:=[(0,vg [vi 3,vi ↑eS,vi 0])]) rfl rfl (.cons rfl .nil) ?_)))))))
       intro g77 w78 v79 ch80 o81
       refine lo ?_
       replace o_GS:=o_GS.cn ch80
       refine b9 (α:=cv) (xs:=GS) (ys:=([(3,(eS:Int),0)]:List cv)) g77 (J:=is 8) (S:=is 8) (8,0) rfl gB bB (by decide) rfl rfl rfl o_GS o81.flat (by decide) (by(simp;omega)) ?_
       intro g82 w83 v84 ch85 o86
       clear o_GS
       refine lw (vp b22 0) (aB rfl) (lx (ad dO rfl rfl rfl rfl) (lo ?_))
       replace bx24:=(bx24.cn ch80).ce ch85
       refine bL (cs':=[vi g.1,g_v,p_v,p_v1,v84]) bx rfl rfl bx24 (bK o86.flat) nq (cz o86.flat) rfl ?_
       intro w87 ch88 bx89
       clear bx24
       refine ab (ct (vs:=[]) Try.func44 .nil ?_)
       refine⟨vt [],rfl,?_⟩
       refine ab (ao ?_)
       clear o81
       refine a8 rfl (lx (aP (m:=↑eS) (n:=1) zs60_c1 rfl (by omega)) (mi ((eS:Int)+1) (ab ?_)))
       have C90:=cg [4,8] (ch80.n.seq ((ch85.l rfl).seq (ch88.l rfl)))
       refine back9_c1 (v84,(GS++([(3,(eS:Int),0)]:List cv)),eS+1,g82) _ _ ⟨bH.ca C90,zs0_c1,zs58_c1,zs59_c1,rfl,Rg.ca C90,Rp.ca C90,r_p_v1.ca C90,bx10.ca C90,bx15.ca C90,bx89,o86.ce ch88,by omega,?_⟩ ?_
       · show(GS++([(3,(eS:Int),0)]:List cv))=bg (kX p) p.1.length++bg (nJ p) (eS+1)
         exact gL hbS (y3 ‹_›)
       · show Int.toNat (((p.2.length:Int):Int)-((eS+1):Int))<Int.toNat (((p.2.length:Int):Int)-(eS:Int))
         omega
      refine lv (v73) (wy (df q68_c1)) (aD rfl) (cj (wy (df q68_c1)) (aK (v:=vb (decide (dW (gI p.2 ↑eS)))) (aA (vals:=[v73]) Try.func33 fA fF rfl) (fC w71 (gI p.2 ↑eS) v73 (r75).ro) ?_))
      intro w91 hb92
      replace hb92:=ar hb92 g72
      refine lv (vb (!(decide (dW (gI p.2 ↑eS))))) (wy (df q68_c1)) (dj (b:=(decide (dW (gI p.2 ↑eS)))) rfl) (lw (vb (!(decide (dW (gI p.2 ↑eS))))) (aC rfl (df q68_c1) rfl) (ab ?_))
      by_cases p11_c1:(decide (dW (gI p.2 ↑eS)))=true
      ·
       refine aj rfl (congrArg Bool.not p11_c1) (am (ao ?_))
       clear r75
       refine a8 rfl (lx (aP (m:=↑eS) (n:=1) zs60_c1 rfl (by omega)) (mi ((eS:Int)+1) (ab ?_)))
       refine back9_c1 (GS_v,GS,eS+1,g72) _ _ ⟨bH.cn hb92,zs0_c1,zs58_c1,zs59_c1,rfl,Rg.cn hb92,Rp.cn hb92,r_p_v1.cn hb92,bx10.cn hb92,bx15.cn hb92,bx24.cn hb92,o_GS.cn hb92,by omega,?_⟩ ?_
       · show GS=bg (kX p) p.1.length++bg (nJ p) (eS+1)
         exact iU hbS (xS ‹_› ‹_›)
       · show Int.toNat (((p.2.length:Int):Int)-((eS+1):Int))<Int.toNat (((p.2.length:Int):Int)-(eS:Int))
         omega
      refine ag rfl (congrArg Bool.not (Bool.eq_false_iff.2 p11_c1)) ?_
      clear r75
      refine a8 rfl (mz zs0_c1 (mi ↑eS (lo (bT (aA (vals:=[vp b22 0,vi 3,vi ↑eS,vi 0]) Try.func44 de dg rfl) (av Try.func44 rfl nq ?_)))))
      replace Rg:=Rg.cn hb92
      replace Rp:=Rp.cn hb92
      replace r_p_v1:=r_p_v1.cn hb92
      replace o_GS:=o_GS.cn hb92
      refine a8 rfl (mv (vp b22 0) (mv (vp b22 0) (lw (vp b22 0) (aB rfl) (lx (ad dO rfl rfl rfl rfl) ?_))))
      replace bx24:=bx24.cn hb92
      refine lx (af bx rfl bx24 rfl) (mi 3 (mi ↑eS (mi 0 (lw (vg [vi 3,vi ↑eS,vi 0]) (bQ (vs:=[(0,vi 3),(1,vi ↑eS),(2,vi 0)]) rfl (by kernel_rfl)) (lo (aF (α:=cv) g72 (is 10) (is 10) (10,0) rfl ([(3,(eS:Int),0)]:List cv) gB bB (by decide) (by decide) (vs:=[(0,vg [vi 3,vi ↑eS,vi 0])]) rfl rfl (.cons rfl .nil) ?_))))))
      intro g93 w94 v95 ch96 o97
      refine lo ?_
      replace o_GS:=o_GS.cn ch96
      refine b9 (α:=cv) (xs:=GS) (ys:=([(3,(eS:Int),0)]:List cv)) g93 (J:=is 8) (S:=is 8) (8,0) rfl gB bB (by decide) rfl rfl rfl o_GS o97.flat (by decide) (by(simp;omega)) ?_
      intro g98 w99 v100 ch101 o102
      clear o_GS
      refine lw (vp b22 0) (aB rfl) (lx (ad dO rfl rfl rfl rfl) (lo ?_))
      replace bx24:=(bx24.cn ch96).ce ch101
      refine bL (cs':=[vi g.1,g_v,p_v,p_v1,v100]) bx rfl rfl bx24 (bK o102.flat) nq (cz o102.flat) rfl ?_
      intro w103 ch104 bx105
      clear bx24
      refine ab (ct (vs:=[]) Try.func44 .nil ?_)
      refine⟨vt [],rfl,?_⟩
      refine ab (ao ?_)
      clear o97
      refine a8 rfl (lx (aP (m:=↑eS) (n:=1) zs60_c1 rfl (by omega)) (mi ((eS:Int)+1) (ab ?_)))
      have C107:=cg [4,8] (ch96.n.seq ((ch101.l rfl).seq (ch104.l rfl)))
      have C106:=hb92.n.seq C107
      refine back9_c1 (v100,(GS++([(3,(eS:Int),0)]:List cv)),eS+1,g98) _ _ ⟨bH.ca C106,zs0_c1,zs58_c1,zs59_c1,rfl,Rg.ca C107,Rp.ca C107,r_p_v1.ca C107,bx10.ca C106,bx15.ca C106,bx105,o102.ce ch104,by omega,?_⟩ ?_
      · show(GS++([(3,(eS:Int),0)]:List cv))=bg (kX p) p.1.length++bg (nJ p) (eS+1)
        exact gL hbS (xL ‹_›)
      · show Int.toNat (((p.2.length:Int):Int)-((eS+1):Int))<Int.toNat (((p.2.length:Int):Int)-(eS:Int))
        omega
     refine aj rfl (df p9_c1) (aM rfl (ct (vs:=[]) Try.func27 .nil ?_))
     refine⟨(GS_v,GS,g72),rfl,bH,Rg,Rp,r_p_v1,bx10,bx15,bx24,o_GS,?_⟩
     show GS=bZ g p
     exact xI ‹_› ‹_› hbS (by omega)
    refine ag rfl (congrArg Bool.not (df p0_c1)) (aa (a8 rfl (mv (vp b22 0) (lo (bT (aA (vals:=[vp b22 0,vi 1,vi 0,vi 0]) Try.func44 de dg rfl) (av Try.func44 rfl nq ?_))))))
    replace Rg:=Rg.cn hc31
    replace Rp:=Rp.cn hc31
    replace r_p_v1:=r_p_v1.cn hc31
    refine a8 rfl (mv (vp b22 0) (mv (vp b22 0) (lw (vp b22 0) (aB rfl) (lx (ad dO rfl rfl rfl rfl) ?_))))
    replace bx24:=bx24.cn hc31
    refine lx (af bx rfl bx24 rfl) (mi 1 (mi 0 (mi 0 (lw (vg [vi 1,vi 0,vi 0]) (bQ (vs:=[(0,vi 1),(1,vi 0),(2,vi 0)]) rfl (by kernel_rfl)) (lo (aF (α:=cv) g23 (is 11) (is 11) (11,0) rfl ([(1,0,0)]:List cv) gB bB (by decide) (by decide) (vs:=[(0,vg [vi 1,vi 0,vi 0])]) rfl rfl (.cons rfl .nil) ?_))))))
    intro g108 w109 v110 ch111 o112
    refine lo (b9 (α:=cv) (xs:=([])) (ys:=([(1,0,0)]:List cv)) g108 (J:=is 8) (S:=is 8) (8,0) rfl gB bB (by decide) rfl rfl rfl Ow.nil o112.flat (by decide) (by(simp;done)) ?_)
    intro g113 w114 v115 ch116 o117
    replace o117:Ow g113 (is 8) (is 8) w114 v115 ([(1,0,0)]:List cv):=o117
    replace o117:Ow g113 (is 8) (is 8) w114 v115 (([(1,0,0)]:List cv):List cv):=o117
    refine lw (vp b22 0) (aB rfl) (lx (ad dO rfl rfl rfl rfl) (lo ?_))
    replace bx24:=(bx24.cn ch111).ce ch116
    refine bL (cs':=[vi g.1,g_v,p_v,p_v1,v115]) bx rfl rfl bx24 (bK o117.flat) nq (cz o117.flat) rfl ?_
    intro w118 ch119 bx120
    clear bx24
    refine ab (ct (vs:=[]) Try.func44 .nil ?_)
    refine⟨vt [],rfl,?_⟩
    refine ab (au (vs:=[]) Try.func27 .nil ?_)
    have C122:=cg [4,8] (ch111.n.seq ((ch116.l rfl).seq (ch119.l rfl)))
    have C123:=ch21.n.seq (ch25.n.seq (hc31.n.seq C122))
    have C124:=hb18.n.seq C123
    have C121:=ch2.n.seq (ch7.n.seq (ch12.n.seq C124))
    replace bH:=bH.ca C121
    replace Rg:=Rg.ca C122
    replace Rp:=Rp.ca C122
    replace r_p_v1:=r_p_v1.ca C122
    replace bx10:=bx10.ca C123
    replace bx15:=bx15.ca C124
    replace o117:=o117.ce ch119
    refine⟨(v115,([(1,0,0)]:List cv),g113),rfl,bH,Rg,Rp,r_p_v1,bx10,bx15,bx120,o117,?_⟩
    show([(1,0,0)]:List cv)=bZ g p
    exact xW ‹_›
   refine aN (wn (congrArg Bool.not (df q18_c1))) (aN (wn (congrArg Bool.not (df q18_c1))) (aN (wn (congrArg Bool.not (df q18_c1))) (aN (wn (congrArg Bool.not (df q18_c1))) (aN (wn (congrArg Bool.not (df q18_c1))) (aN (wn (congrArg Bool.not (df q18_c1))) (aN (wn (congrArg Bool.not (df q18_c1))) (aN (wn (congrArg Bool.not (df q18_c1))) (aN (wn (congrArg Bool.not (df q18_c1))) (aN (wn (congrArg Bool.not (df q18_c1))) ?_)))))))))
   refine aN (wn (congrArg Bool.not (df q18_c1))) (aN (wn (congrArg Bool.not (df q18_c1))) (aN (wn (congrArg Bool.not (df q18_c1))) (qv (vb true) (λw' hw'=>aE rfl (congrArg Bool.not (df q18_c1)) rfl) (dH ?_))))
   intro w125 hc126
   replace hc126:=ar hc126 g23
   refine ag rfl rfl (aa (a8 rfl (mv (vp b22 0) (lo (bT (aA (vals:=[vp b22 0,vi 1,vi 0,vi 0]) Try.func44 de dg rfl) (av Try.func44 rfl nq ?_))))))
   replace Rg:=(Rg.cn ch25).cn hc126
   replace Rp:=Rp.cn hc126
   replace r_p_v1:=(r_p_v1.cn ch25).cn hc126
   refine a8 rfl (mv (vp b22 0) (mv (vp b22 0) (lw (vp b22 0) (aB rfl) (lx (ad dO rfl rfl rfl rfl) ?_))))
   replace bx24:=bx24.cn hc126
   refine lx (af bx rfl bx24 rfl) (mi 1 (mi 0 (mi 0 (lw (vg [vi 1,vi 0,vi 0]) (bQ (vs:=[(0,vi 1),(1,vi 0),(2,vi 0)]) rfl (by kernel_rfl)) (lo (aF (α:=cv) g23 (is 12) (is 12) (12,0) rfl ([(1,0,0)]:List cv) gB bB (by decide) (by decide) (vs:=[(0,vg [vi 1,vi 0,vi 0])]) rfl rfl (.cons rfl .nil) ?_))))))
   intro g127 w128 v129 ch130 o131
   refine lo (b9 (α:=cv) (xs:=([])) (ys:=([(1,0,0)]:List cv)) g127 (J:=is 8) (S:=is 8) (8,0) rfl gB bB (by decide) rfl rfl rfl Ow.nil o131.flat (by decide) (by(simp;done)) ?_)
   intro g132 w133 v134 ch135 o136
   replace o136:Ow g132 (is 8) (is 8) w133 v134 ([(1,0,0)]:List cv):=o136
   replace o136:Ow g132 (is 8) (is 8) w133 v134 (([(1,0,0)]:List cv):List cv):=o136
   refine lw (vp b22 0) (aB rfl) (lx (ad dO rfl rfl rfl rfl) (lo ?_))
   replace bx24:=(bx24.cn ch130).ce ch135
   refine bL (cs':=[vi g.1,g_v,p_v,p_v1,v134]) bx rfl rfl bx24 (bK o136.flat) nq (cz o136.flat) rfl ?_
   intro w137 ch138 bx139
   clear bx24
   refine ab (ct (vs:=[]) Try.func44 .nil ?_)
   refine⟨vt [],rfl,?_⟩
   refine ab (au (vs:=[]) Try.func27 .nil ?_)
   have C141:=cg [4,8] (ch130.n.seq ((ch135.l rfl).seq (ch138.l rfl)))
   have C142:=ch21.n.seq (ch25.n.seq (hc126.n.seq C141))
   have C143:=hb18.n.seq C142
   have C140:=ch2.n.seq (ch7.n.seq (ch12.n.seq C143))
   replace bH:=bH.ca C140
   replace Rg:=Rg.ca C141
   replace Rp:=Rp.ca C141
   replace r_p_v1:=r_p_v1.ca C141
   replace bx10:=bx10.ca C142
   replace bx15:=bx15.ca C143
   replace o136:=o136.ce ch138
   refine⟨(v134,([(1,0,0)]:List cv),g132),rfl,bH,Rg,Rp,r_p_v1,bx10,bx15,bx139,o136,?_⟩
   show([(1,0,0)]:List cv)=bZ g p
   exact xP ‹_›
  clear Rg Rp r_p_v1 bx10 bx15 bx24 bH
  rintro⟨l_4_c1_v,l_4_c1,g145⟩ w144 ⟨bH,Rg,Rp,r_p_v1,bx10,bx15,bx24,o_l_4_c1,hsh⟩
  have hshl:=lL (p:=p) hmay
  rw[<-hsh] at hshl
  refine ab (aa (aa (a8 rfl (mv (vp b22 0) (lw (vp b22 0) (aB rfl) (lx (ad dO rfl rfl rfl rfl) (lx (af bx rfl bx24 rfl) ?_)))))))
  have len146:=(o_l_4_c1.flat).small
  refine lx (aT gB rfl o_l_4_c1.flat) (lx (e8 (m:=(l_4_c1.length:Int)) (n:=0) rfl rfl) (ab ?_))
  by_cases p5:0<(l_4_c1.length:Int)
  ·
   refine ag rfl (dt p5) (aa ?_)
   clear bx10 bx24 o_l_4_c1
   refine a8 rfl (lw (vg [vi 0,vi 0,vi 0,vb false,vb false]) (bQ (vs:=[]) rfl (by kernel_rfl)) (lo (aw (cs':=[vi 0,vi 0,vi 0,vb false,vb false]) dv rfl rfl bx15 rfl nq (AllOne.all (.cons rfl (.cons rfl (.cons rfl (.cons rfl (.cons rfl .nil)))))) rfl ?_)))
   intro w147 ch148 bx149
   clear bx15
   refine ai 24 (ab (au (vs:=[vg [vi 0,vi 0,vi 0,vb false,vb false],vi 24]) Try.func12 (.cell rfl (eb (ds:=[vi 0,vi 0,vi 0,vb false,vb false]) dv bx149 rfl rfl) (.tmp rfl .nil)) ?_))
   have e0:((0,0,0,false,false):(Int)×(Int)×(Int)×(Bool)×(Bool))=((bf g p).1):=by
     rw[rh hm hsh ‹_›]
   have e1:(24:Int)=((bf g p).2):=by
     rw[rh hm hsh ‹_›]
   replace bH:=bH.ce ch148
   exact⟨(bV (a:=(0,0,0,false,false)) (b:=24) (λ(z0:(Int)×(Int)×(Int)×(Bool)×(Bool)) (z1:Int)=>Ending.returned (vt [vg [vi z0.1,vi z0.2.1,vi z0.2.2.1,vb z0.2.2.2.1,vb z0.2.2.2.2],vi z1])) e0 e1),bH.below⟩
  obtain⟨hF0,hsn,hs⟩:=tO hsh p5
  have hs1:=hs.n
  have hs2:=hs.m
  refine aj rfl (df p5) (am (aa ?_))
  clear bx24 o_l_4_c1
  refine a8 rfl (lw (vg [vi 0,vi 0,vi 0,vb true,vb true]) (bQ (vs:=[(3,vb true),(4,vb true)]) rfl (by kernel_rfl)) (lo (aY g145 (is 13) (13,0) rfl dv ?_)))
  intro g153 w150 b152 ch151 bx154
  replace bx154:Bx g153 (is 13) w150 b152 [vi 0,vi 0,vi 0,vb false,vb false]:=bx154
  refine lo (aw (cs':=[vi 0,vi 0,vi 0,vb true,vb true]) dv rfl rfl bx154 rfl nq (AllOne.all (.cons rfl (.cons rfl (.cons rfl (.cons rfl (.cons rfl .nil)))))) rfl ?_)
  intro w155 ch156 bx157
  clear bx154
  refine ab (aa (aa (a8 rfl (lx (ad iK rfl rfl rfl rfl) ?_))))
  replace bx10:=(bx10.cn ch151).ce ch156
  refine lx (af d3 rfl bx10 rfl) ?_
  replace r_p_v1:=(r_p_v1.cn ch151).ce ch156
  have len158:=(r_p_v1).small
  refine lx (aT kM rfl r_p_v1) (mi 0 (ab (aq ?_)))
  refine aQ (σ:=Int×Bool×Nat×aH) (λ⟨bn,ax,k,gq⟩ f w=>aX w0 gq w/\f 3=vp b8 0/\f 4=vp b13 0/\f 7=vp b152 0/\f 37=p_v1/\f 38=vi (p.2.length:Int)/\f 39=vi ↑k/\Sl gq (is 0) w g_v g.2/\Sl gq (is 0) w p_v p.1/\Sl gq (is 0) w p_v1 p.2/\Bx gq (is 2) w b8 [p_v,p_v1]/\Bx gq (is 3) w b13 [vi 0,vi 0,vi 0,vb false,vb false]/\Bx gq (is 13) w b152 [vi bn,vi 0,vi 0,vb true,vb ax]/\(k:Int)<=((p.2.length:Int):Int)/\(bn=ib p k/\ax=ml p k)) (λ⟨bn,ax,k,gq⟩=>Int.toNat (((p.2.length:Int):Int)-(k:Int))) (0,true,0,g153) ?_ ?_
  replace bH:=bH.cn ch151
  · exact⟨bH.ce ch156,rfl,rfl,rfl,rfl,rfl,rfl,(Rg.cn ch151).ce ch156,(Rp.cn ch151).ce ch156,r_p_v1,bx10,(bx15.cn ch151).ce ch156,bx157,by omega,by exact⟨rfl,rfl⟩⟩
  clear Rg Rp r_p_v1 bx10 bx15 bx157 bH
  rintro⟨bn,ax,k,g161⟩ f159 w160 ⟨bH,zs3,zs4,zs7,zs37,zs38,zs39,Rg,Rp,r_p_v1,bx10,bx15,bx157,hle_k,hbk⟩ back9
  have hbd:=nK hs.ln k (by omega)
  refine aa (a8 rfl (lx (b6 (m:=↑k) (n:=(p.2.length:Int)) zs39 zs38) (ab (aa ?_))))
  by_cases p9:(k:Int)<(p.2.length:Int)
  ·
   refine ag rfl (dt p9) ?_
   obtain⟨hl1,hl2,hl3⟩:=hs.ln (k:Int) (by omega) (by omega)
   refine am (aa (aq (aa (a8 rfl (lx (al (v:=p_v1) (i:=↑k) kM rfl zs37 r_p_v1 zs39 (by omega) (by omega)) ?_)))))
   obtain⟨v162,cel163,r164⟩:=dh (r:=(k:Int)) r_p_v1 (by omega) (by omega)
   refine lx (bD bO rfl cel163) (ma v162 (ab (aa (a8 rfl (lx (ad sM rfl rfl zs7 rfl) (lx (af aI rfl bx157 rfl) (mv v162 ?_)))))))
   have len165:=(r164).small
   refine lx (aT cX rfl r164) (lx (dD (m:=(List.length (gI p.2 ↑k):Int)) (n:=2) rfl rfl (by omega)) (lx (aP (m:=bn) (n:=(List.length (gI p.2 ↑k):Int)-2) rfl rfl (by omega)) (lx (ad sM rfl rfl zs7 rfl) (lo (aw (cs':=[vi (bn+((List.length (gI p.2 ↑k):Int)-2)),vi 0,vi 0,vb true,vb ax]) aI rfl rfl bx157 rfl nq (AllOne.all (.cons rfl .nil)) rfl ?_)))))
   intro w166 ch167 bx168
   clear bx157
   refine ab (aa (a8 rfl (ai 1 (ab (aq ?_)))))
   refine aQ (σ:=Bool×Nat×aH) (λ⟨ay,i,gq⟩ f w=>aX w0 gq w/\f 3=vp b8 0/\f 4=vp b13 0/\f 7=vp b152 0/\f 9=v162/\f 10=vi ↑i/\f 37=p_v1/\f 38=vi (p.2.length:Int)/\f 39=vi ↑k/\Sl gq (is 0) w g_v g.2/\Sl gq (is 0) w p_v p.1/\Sl gq (is 0) w p_v1 p.2/\Bx gq (is 2) w b8 [p_v,p_v1]/\Bx gq (is 3) w b13 [vi 0,vi 0,vi 0,vb false,vb false]/\Sl gq (is 0) w v162 (gI p.2 ↑k)/\Bx gq (is 13) w b152 [vi (bn+((List.length (gI p.2 ↑k):Int)-2)),vi 0,vi 0,vb true,vb ay]/\(i:Int)<=((List.length (gI p.2 ↑k):Int):Int)/\(1<=i/\ay=(ml p k&&gK (pD (gI p.2 ↑k)) (i-1)))) (λ⟨ay,i,gq⟩=>List.length (gI p.2 ↑k)-i) (ax,1,g161) ?_ ?_
   · exact⟨bH.ce ch167,zs3,zs4,zs7,rfl,rfl,zs37,zs38,zs39,Rg.ce ch167,Rp.ce ch167,r_p_v1.ce ch167,bx10.ce ch167,bx15.ce ch167,r164.ce ch167,bx168,by omega,by exact xw hbk.2⟩
   clear Rg Rp r_p_v1 bx10 bx15 r164 bx168 bH
   rintro⟨ay,i,g171⟩ f169 w170 ⟨bH,zs3,zs4,zs7,zs9,zs10,zs37,zs38,zs39,Rg,Rp,r_p_v1,bx10,bx15,r164,bx168,hle_i,hax⟩ back13
   have hi1:=hax.1
   refine aa (aa (a8 rfl (mz zs10 (mz zs9 (lx (aT cX rfl r164) (lx (b6 (m:=↑i) (n:=(List.length (gI p.2 ↑k):Int)) rfl rfl) (ab ?_)))))))
   by_cases p13:(i:Int)<(List.length (gI p.2 ↑k):Int)
   ·
    refine ag rfl (dt p13) (am (aa (aq (aa ?_))))
    refine ez (σ:=Nat×Nat×aH) (λ⟨b176,b182,gq⟩ f w=>aX w0 gq w/\f 3=vp b8 0/\f 4=vp b13 0/\f 7=vp b152 0/\f 9=v162/\f 10=vi ↑i/\f 11=vp b176 0/\f 12=vp b182 0/\f 37=p_v1/\f 38=vi (p.2.length:Int)/\f 39=vi ↑k/\Sl gq (is 0) w g_v g.2/\Sl gq (is 0) w p_v p.1/\Sl gq (is 0) w p_v1 p.2/\Bx gq (is 2) w b8 [p_v,p_v1]/\Bx gq (is 3) w b13 [vi 0,vi 0,vi 0,vb false,vb false]/\Sl gq (is 0) w v162 (gI p.2 ↑k)/\Bx gq (is 13) w b152 [vi (bn+((List.length (gI p.2 ↑k):Int)-2)),vi 0,vi 0,vb true,vb ay]/\Bx gq (is 14) w b176 [vi ((gI (gI p.2 ↑k) ((i:Int)-1)).1),vi ((gI (gI p.2 ↑k) ((i:Int)-1)).2)]/\Bx gq (is 15) w b182 [vi ((gI (gI p.2 ↑k) ↑i).1),vi ((gI (gI p.2 ↑k) ↑i).2)]) g171 (inl [14,15]) ia ?_ ?_
    ·
     intro mid
     intro w173 ch172
     refine ht (v:=v162) 0 rfl (b5.refl _ _ _) (λw' hw'=>aD zs9) (ht (v:=vi ↑i) 1 rfl (b5.refl _ _ _) (λw' hw'=>aD zs10) (ht 2 rfl (b5.refl _ _ _) (λw' hw'=>dD (m:=↑i) (n:=1) rfl rfl (by omega)) ?_))
     replace r164:=r164.cn ch172
     refine ht 3 rfl (b5.refl _ _ _) (λw' hw'=>al (v:=v162) (i:=(i:Int)-1) cX rfl rfl (r164.chg hw' (bA rfl)) rfl (by omega) (by omega)) (ht (v:=vg [vi ((gI (gI p.2 ↑k) ((i:Int)-1)).1),vi ((gI (gI p.2 ↑k) ((i:Int)-1)).2)]) 4 rfl (b5.refl _ _ _) (λw' hw'=>aJ (v:=v162) (i:=(i:Int)-1) ah rfl (r164.chg hw' (bA rfl)) (by omega) (by omega) rfl) (ht (v:=v162) 5 rfl (b5.refl _ _ _) (λw' hw'=>aD zs9) (ht (v:=vi ↑i) 6 rfl (b5.refl _ _ _) (λw' hw'=>aD zs10) (ht 7 rfl (b5.refl _ _ _) (λw' hw'=>al (v:=v162) (i:=↑i) cX rfl rfl (r164.chg hw' (bA rfl)) rfl (by omega) (by omega)) ?_))))
     refine ht (v:=vg [vi ((gI (gI p.2 ↑k) ↑i).1),vi ((gI (gI p.2 ↑k) ↑i).2)]) 8 rfl (b5.refl _ _ _) (λw' hw'=>aJ (v:=v162) (i:=↑i) ah rfl (r164.chg hw' (bA rfl)) (by omega) (by omega) rfl) ?_
     refine dz 9 [10] (by kernel_rfl) ⟨dr 9 rfl (by kernel_rfl) rfl ?_,dr 10 rfl (by kernel_rfl) rfl ?_,trivial⟩
     ·
      refine aY g171 (is 14) (14,0) rfl ah ?_
      intro g177 w174 b176 ch175 bx178
      replace bx178:Bx g177 (is 14) w174 b176 [vi 0,vi 0]:=bx178
      have hs179:b5 (inl [14,15]) _ _ _ _:=ch175.n
      refine⟨hs179.same,?_⟩
      refine aO 10 rfl (by kernel_rfl) rfl (aY g177 (is 15) (15,0) rfl ah ?_)
      intro g183 w180 b182 ch181 bx184
      replace bx184:Bx g183 (is 15) w180 b182 [vi 0,vi 0]:=bx184
      have hs185:=hs179.seq (ch181.n)
      refine⟨hs185.same,?_⟩
      refine aO 11 rfl (by kernel_rfl) rfl ?_
      replace bx178:=bx178.cn ch181
      refine aw (cs':=[vi ((gI (gI p.2 ↑k) ((i:Int)-1)).1),vi ((gI (gI p.2 ↑k) ((i:Int)-1)).2)]) ah rfl rfl bx178 rfl nq (AllOne.all (.cons rfl (.cons rfl .nil))) rfl ?_
      intro w186 ch187 bx188
      clear bx178
      have hs189:=hs185.seq (ch187.l rfl)
      refine⟨hs189.same,?_⟩
      refine aO 12 rfl (by kernel_rfl) rfl ?_
      replace bx184:=bx184.ce ch187
      refine aw (cs':=[vi ((gI (gI p.2 ↑k) ↑i).1),vi ((gI (gI p.2 ↑k) ↑i).2)]) ah rfl rfl bx184 rfl nq (AllOne.all (.cons rfl (.cons rfl .nil))) rfl ?_
      intro w190 ch191 bx192
      clear bx184
      have hs193:=hs189.seq (ch191.l rfl)
      refine⟨hs193.same,?_⟩
      refine cK (by kernel_rfl) ?_
      have C194:=cg [14,15] (ch172.n.seq (ch175.n.seq (ch181.n.seq ((ch187.l rfl).seq (ch191.l rfl)))))
      replace Rg:=Rg.cn ch172
      replace Rp:=Rp.cn ch172
      replace r_p_v1:=r_p_v1.cn ch172
      replace bx10:=bx10.cn ch172
      replace bx15:=bx15.cn ch172
      replace bx168:=bx168.cn ch172
      exact mid (b176,b182,g183) _ _ ⟨bH.ca C194,zs3,zs4,zs7,zs9,zs10,rfl,rfl,zs37,zs38,zs39,(Rg.ca hs193),(Rp.ca hs193),(r_p_v1.ca hs193),(bx10.ca hs193),(bx15.ca hs193),(r164.ca hs193),(bx168.ca hs193),bx188.ce ch191,bx192⟩
     ·
      refine aY g171 (is 15) (15,0) rfl ah ?_
      intro g198 w195 b197 ch196 bx199
      replace bx199:Bx g198 (is 15) w195 b197 [vi 0,vi 0]:=bx199
      have hs200:b5 (inl [14,15]) _ _ _ _:=ch196.n
      refine⟨hs200.same,?_⟩
      refine aO 9 rfl (by kernel_rfl) rfl (aY g198 (is 14) (14,0) rfl ah ?_)
      intro g204 w201 b203 ch202 bx205
      replace bx205:Bx g204 (is 14) w201 b203 [vi 0,vi 0]:=bx205
      have hs206:=hs200.seq (ch202.n)
      refine⟨hs206.same,?_⟩
      refine aO 11 rfl (by kernel_rfl) rfl (aw (cs':=[vi ((gI (gI p.2 ↑k) ((i:Int)-1)).1),vi ((gI (gI p.2 ↑k) ((i:Int)-1)).2)]) ah rfl rfl bx205 rfl nq (AllOne.all (.cons rfl (.cons rfl .nil))) rfl ?_)
      intro w207 ch208 bx209
      clear bx205
      have hs210:=hs206.seq (ch208.l rfl)
      refine⟨hs210.same,?_⟩
      refine aO 12 rfl (by kernel_rfl) rfl ?_
      replace bx199:=(bx199.cn ch202).ce ch208
      refine aw (cs':=[vi ((gI (gI p.2 ↑k) ↑i).1),vi ((gI (gI p.2 ↑k) ↑i).2)]) ah rfl rfl bx199 rfl nq (AllOne.all (.cons rfl (.cons rfl .nil))) rfl ?_
      intro w211 ch212 bx213
      clear bx199
      have hs214:=hs210.seq (ch212.l rfl)
      refine⟨hs214.same,?_⟩
      refine cK (by kernel_rfl) ?_
      have C215:=cg [14,15] (ch172.n.seq (ch196.n.seq (ch202.n.seq ((ch208.l rfl).seq (ch212.l rfl)))))
      replace Rg:=Rg.cn ch172
      replace Rp:=Rp.cn ch172
      replace r_p_v1:=r_p_v1.cn ch172
      replace bx10:=bx10.cn ch172
      replace bx15:=bx15.cn ch172
      replace bx168:=bx168.cn ch172
      exact mid (b203,b197,g204) _ _ ⟨bH.ca C215,zs3,zs4,zs7,zs9,zs10,rfl,rfl,zs37,zs38,zs39,(Rg.ca hs214),(Rp.ca hs214),(r_p_v1.ca hs214),(bx10.ca hs214),(bx15.ca hs214),(r164.ca hs214),(bx168.ca hs214),bx209.ce ch212,bx213⟩
    clear Rg Rp r_p_v1 bx10 bx15 r164 bx168 bH
    rintro⟨b176,b182,g218⟩ f216 w217 ⟨bH,zs3,zs4,zs7,zs9,zs10,zs11,zs12,zs37,zs38,zs39,Rg,Rp,r_p_v1,bx10,bx15,r164,bx168,bx188,bx192⟩
    refine a8 rfl (lx (ad sM rfl rfl zs7 rfl) (lx (af fN rfl bx168 rfl) (mv (vb ay) ?_)))
    by_cases q67:ay=true
    ·
     refine lv (vp b176 0) (wy q67) (ad dw rfl rfl zs11 rfl) (lv (vi ((gI (gI p.2 ↑k) ((i:Int)-1)).1)) (wy q67) (af aI rfl bx188 rfl) (lv (vp b182 0) (wy q67) (ad dw rfl rfl zs12 rfl) (lv (vi ((gI (gI p.2 ↑k) ↑i).1)) (wy q67) (af aI rfl bx192 rfl) (lv (vb (decide (((gI (gI p.2 ↑k) ((i:Int)-1)).1)=((gI (gI p.2 ↑k) ↑i).1)))) (wy q67) (cq (m:=(gI (gI p.2 ↑k) ((i:Int)-1)).1) (n:=(gI (gI p.2 ↑k) ↑i).1) rfl rfl) (lv (vb (decide (((gI (gI p.2 ↑k) ((i:Int)-1)).1)=((gI (gI p.2 ↑k) ↑i).1)))) (wy q67) (aD rfl) ?_)))))
     by_cases q73:((gI (gI p.2 ↑k) ((i:Int)-1)).1)=((gI (gI p.2 ↑k) ↑i).1)
     ·
      refine ae (wn (dt q73)) (ae (wn (dt q73)) (ae (wn (dt q73)) (ae (wn (dt q73)) (ae (wn (dt q73)) (lv (vb true) (wy q67) (aE rfl (dt q73) rfl) (lw (vb true) (aE rfl q67 rfl) (lx (ad sM rfl rfl zs7 rfl) (lo (aw (cs':=[vi (bn+((List.length (gI p.2 ↑k):Int)-2)),vi 0,vi 0,vb true,vb true]) fN rfl rfl bx168 rfl nq (AllOne.all (.cons rfl .nil)) rfl ?_)))))))))
      intro w219 ch220 bx221
      clear bx168
      refine ab (ao ?_)
      clear bx188 bx192
      refine a8 rfl (mz zs10 (lx (aP (m:=↑i) (n:=1) rfl rfl (by omega)) (ai ((i:Int)+1) (ab ?_))))
      refine back13 (true,i+1,g218) _ _ ⟨bH.ce ch220,zs3,zs4,zs7,zs9,rfl,zs37,zs38,zs39,Rg.ce ch220,Rp.ce ch220,r_p_v1.ce ch220,bx10.ce ch220,bx15.ce ch220,r164.ce ch220,bx221,by omega,?_⟩ ?_
      · show 1<=(i+1)/\true=(ml p k&&gK (pD (gI p.2 ↑k)) ((i+1)-1))
        exact Ap hax ‹_› ‹_›
      · show List.length (gI p.2 ↑k)-(i+1)<List.length (gI p.2 ↑k)-i
        omega
     refine lv (vp b176 1) (wy (df q73)) (ad dw rfl rfl zs11 rfl) (lv (vi ((gI (gI p.2 ↑k) ((i:Int)-1)).2)) (wy (df q73)) (af aI rfl bx188 rfl) (lv (vp b182 1) (wy (df q73)) (ad dw rfl rfl zs12 rfl) (lv (vi ((gI (gI p.2 ↑k) ↑i).2)) (wy (df q73)) (af aI rfl bx192 rfl) (lv (vb (decide (((gI (gI p.2 ↑k) ((i:Int)-1)).2)=((gI (gI p.2 ↑k) ↑i).2)))) (wy (df q73)) (cq (m:=(gI (gI p.2 ↑k) ((i:Int)-1)).2) (n:=(gI (gI p.2 ↑k) ↑i).2) rfl rfl) ?_))))
     refine lv (vb (decide (((gI (gI p.2 ↑k) ((i:Int)-1)).2)=((gI (gI p.2 ↑k) ↑i).2)))) (wy q67) (aC rfl (df q73) rfl) (lw (vb (decide (((gI (gI p.2 ↑k) ((i:Int)-1)).2)=((gI (gI p.2 ↑k) ↑i).2)))) (aE rfl q67 rfl) (lx (ad sM rfl rfl zs7 rfl) (lo (aw (cs':=[vi (bn+((List.length (gI p.2 ↑k):Int)-2)),vi 0,vi 0,vb true,vb (decide (((gI (gI p.2 ↑k) ((i:Int)-1)).2)=((gI (gI p.2 ↑k) ↑i).2)))]) fN rfl rfl bx168 rfl nq (AllOne.all (.cons rfl .nil)) rfl ?_))))
     intro w222 ch223 bx224
     clear bx168
     refine ab (ao ?_)
     clear bx188 bx192
     refine a8 rfl (mz zs10 (lx (aP (m:=↑i) (n:=1) rfl rfl (by omega)) (ai ((i:Int)+1) (ab ?_))))
     refine back13 (decide (((gI (gI p.2 ↑k) ((i:Int)-1)).2)=((gI (gI p.2 ↑k) ↑i).2)),i+1,g218) _ _ ⟨bH.ce ch223,zs3,zs4,zs7,zs9,rfl,zs37,zs38,zs39,Rg.ce ch223,Rp.ce ch223,r_p_v1.ce ch223,bx10.ce ch223,bx15.ce ch223,r164.ce ch223,bx224,by omega,?_⟩ ?_
     · show 1<=(i+1)/\(decide (((gI (gI p.2 ↑k) ((i:Int)-1)).2)=((gI (gI p.2 ↑k) ↑i).2)))=(ml p k&&gK (pD (gI p.2 ↑k)) ((i+1)-1))
       exact Ao hax ‹_› ‹_›
     · show List.length (gI p.2 ↑k)-(i+1)<List.length (gI p.2 ↑k)-i
       omega
    refine ae (wn (Bool.eq_false_iff.2 q67)) (ae (wn (Bool.eq_false_iff.2 q67)) (ae (wn (Bool.eq_false_iff.2 q67)) (ae (wn (Bool.eq_false_iff.2 q67)) (ae (wn (Bool.eq_false_iff.2 q67)) (ae (wn (Bool.eq_false_iff.2 q67)) (ae (bt rfl rfl rfl) (ae (bt rfl rfl rfl) (ae (bt rfl rfl rfl) (ae (bt rfl rfl rfl) ?_)))))))))
    refine ae (bt rfl rfl rfl) (ae (wn (Bool.eq_false_iff.2 q67)) (lw (vb false) (aC rfl (Bool.eq_false_iff.2 q67) rfl) (lx (ad sM rfl rfl zs7 rfl) (lo (aw (cs':=[vi (bn+((List.length (gI p.2 ↑k):Int)-2)),vi 0,vi 0,vb true,vb false]) fN rfl rfl bx168 rfl nq (AllOne.all (.cons rfl .nil)) rfl ?_)))))
    intro w225 ch226 bx227
    clear bx168
    refine ab (ao ?_)
    clear bx188 bx192
    refine a8 rfl (mz zs10 (lx (aP (m:=↑i) (n:=1) rfl rfl (by omega)) (ai ((i:Int)+1) (ab ?_))))
    refine back13 (false,i+1,g218) _ _ ⟨bH.ce ch226,zs3,zs4,zs7,zs9,rfl,zs37,zs38,zs39,Rg.ce ch226,Rp.ce ch226,r_p_v1.ce ch226,bx10.ce ch226,bx15.ce ch226,r164.ce ch226,bx227,by omega,?_⟩ ?_
    · show 1<=(i+1)/\false=(ml p k&&gK (pD (gI p.2 ↑k)) ((i+1)-1))
      exact Ac hax ‹_›
    · show List.length (gI p.2 ↑k)-(i+1)<List.length (gI p.2 ↑k)-i
      omega
   refine aj rfl (df p13) (aM rfl (ao ?_))
   clear r164
   refine a8 rfl (lx (aP (m:=↑k) (n:=1) zs39 rfl (by omega)) (mi ((k:Int)+1) (ab ?_)))
   refine back9 (bn+((List.length (gI p.2 ↑k):Int)-2),ay,k+1,g171) _ _ ⟨bH,zs3,zs4,zs7,zs37,zs38,rfl,Rg,Rp,r_p_v1,bx10,bx15,bx168,by omega,?_⟩ ?_
   · show(bn+((List.length (gI p.2 ↑k):Int)-2))=ib p (k+1)/\ay=ml p (k+1)
     exact⟨by rw[hbk.1];rfl,yD hbk.2 hax ‹_› (by omega)⟩
   · show Int.toNat (((p.2.length:Int):Int)-((k+1):Int))<Int.toNat (((p.2.length:Int):Int)-(k:Int))
     omega
  refine aj rfl (df p9) (aM rfl (aa (a8 rfl (lx (ad sM rfl rfl zs7 rfl) (lx (af aI rfl bx157 rfl) (lx (cq (m:=bn) (n:=0) rfl rfl) (lx (ad sM rfl rfl zs7 rfl) (lo (aw (cs':=[vi bn,vi 0,vi 0,vb (decide (bn=0)),vb ax]) fN rfl rfl bx157 rfl nq (AllOne.all (.cons rfl .nil)) rfl ?_)))))))))
  intro w228 ch229 bx230
  clear bx157
  refine ab (aa (aa (a8 rfl ?_)))
  replace bx10:=bx10.ce ch229
  refine lx (ak (ds:=[p_v,p_v1]) cP zs3 bx10 rfl rfl) ?_
  replace Rp:=Rp.ce ch229
  replace r_p_v1:=r_p_v1.ce ch229
  refine lo (c3 (aA (vals:=[vg [p_v,p_v1]]) Try.func28 wO wc rfl) (rF w228 p p_v p_v1 (Rp).ro (r_p_v1).ro (by omega) (by omega) (by exact λe h0 h1=>(hs.ln e h0 h1).2.1)) ?_)
  rintro⟨d232,v234⟩ w231 ⟨fr233,o235⟩
  obtain⟨g236,ch237,G236⟩:=nH g161 fr233 (λn=>if n=1 then 16 else 0)
  replace o235:=o235.gl G236 16
  refine ma v234 (ab (aa ?_))
  clear bx10
  refine a8 rfl (mv v234 ?_)
  have len238:=(o235.flat).small
  refine lx (aT cX rfl o235.flat) (lx (e8 (m:=(List.length (bk p):Int)) (n:=0) rfl rfl) (ab ?_))
  by_cases p20:0<(List.length (bk p):Int)
  ·
   refine ag rfl (dt p20) (aa ?_)
   refine ez (σ:=Nat×Nat×aH) (λ⟨b243,b249,gq⟩ f w=>aX w0 gq w/\f 4=vp b13 0/\f 7=vp b152 0/\f 13=v234/\f 14=vp b243 0/\f 15=vp b249 0/\Sl gq (is 0) w g_v g.2/\Sl gq (is 0) w p_v p.1/\Sl gq (is 0) w p_v1 p.2/\Bx gq (is 3) w b13 [vi 0,vi 0,vi 0,vb false,vb false]/\Bx gq (is 13) w b152 [vi bn,vi 0,vi 0,vb (decide (bn=0)),vb ax]/\Ow gq (is 16) (is 16) w v234 (bk p)/\Bx gq (is 17) w b243 [vi ((gI (bk p) 0).1),vi ((gI (bk p) 0).2)]/\Bx gq (is 18) w b249 [vi ((gI (bk p) 0).1),vi ((gI (bk p) 0).2)]) g236 (inl [17,18]) ia ?_ ?_
   ·
    intro mid
    intro w240 ch239
    refine ht (v:=v234) 0 rfl (b5.refl _ _ _) (λw' hw'=>aD rfl) ?_
    replace o235:=o235.cn ch239
    refine ht 1 rfl (b5.refl _ _ _) (λw' hw'=>al (v:=v234) (i:=0) cX rfl rfl (o235.flat.chg hw' (bA rfl)) rfl (by omega) (by omega)) (ht (v:=vg [vi ((gI (bk p) 0).1),vi ((gI (bk p) 0).2)]) 2 rfl (b5.refl _ _ _) (λw' hw'=>aJ (v:=v234) (i:=0) ah rfl (o235.flat.chg hw' (bA rfl)) (by omega) (by omega) rfl) (ht (v:=v234) 3 rfl (b5.refl _ _ _) (λw' hw'=>aD rfl) (ht 4 rfl (b5.refl _ _ _) (λw' hw'=>al (v:=v234) (i:=0) cX rfl rfl (o235.flat.chg hw' (bA rfl)) rfl (by omega) (by omega)) (ht (v:=vg [vi ((gI (bk p) 0).1),vi ((gI (bk p) 0).2)]) 5 rfl (b5.refl _ _ _) (λw' hw'=>aJ (v:=v234) (i:=0) ah rfl (o235.flat.chg hw' (bA rfl)) (by omega) (by omega) rfl) ?_))))
    refine dz 6 [7] (by kernel_rfl) ⟨dr 6 rfl (by kernel_rfl) rfl ?_,dr 7 rfl (by kernel_rfl) rfl ?_,trivial⟩
    ·
     refine aY g236 (is 17) (17,0) rfl ah ?_
     intro g244 w241 b243 ch242 bx245
     replace bx245:Bx g244 (is 17) w241 b243 [vi 0,vi 0]:=bx245
     have hs246:b5 (inl [17,18]) _ _ _ _:=ch242.n
     refine⟨hs246.same,?_⟩
     refine aO 7 rfl (by kernel_rfl) rfl (aY g244 (is 18) (18,0) rfl ah ?_)
     intro g250 w247 b249 ch248 bx251
     replace bx251:Bx g250 (is 18) w247 b249 [vi 0,vi 0]:=bx251
     have hs252:=hs246.seq (ch248.n)
     refine⟨hs252.same,?_⟩
     refine aO 8 rfl (by kernel_rfl) rfl ?_
     replace bx245:=bx245.cn ch248
     refine aw (cs':=[vi ((gI (bk p) 0).1),vi ((gI (bk p) 0).2)]) ah rfl rfl bx245 rfl nq (AllOne.all (.cons rfl (.cons rfl .nil))) rfl ?_
     intro w253 ch254 bx255
     clear bx245
     have hs256:=hs252.seq (ch254.l rfl)
     refine⟨hs256.same,?_⟩
     refine aO 9 rfl (by kernel_rfl) rfl ?_
     replace bx251:=bx251.ce ch254
     refine aw (cs':=[vi ((gI (bk p) 0).1),vi ((gI (bk p) 0).2)]) ah rfl rfl bx251 rfl nq (AllOne.all (.cons rfl (.cons rfl .nil))) rfl ?_
     intro w257 ch258 bx259
     clear bx251
     have hs260:=hs256.seq (ch258.l rfl)
     refine⟨hs260.same,?_⟩
     refine cK (by kernel_rfl) ?_
     have C261:=cg [13,17,18] ((ch229.l rfl).seq (ch237.n.seq (ch239.n.seq (ch242.n.seq (ch248.n.seq ((ch254.l rfl).seq (ch258.l rfl)))))))
     have C262:=cg [13] ((ch229.l rfl).seq (ch237.n.seq ch239.n))
     replace Rg:=Rg.ca C262
     replace Rp:=(Rp.cn ch237).cn ch239
     replace r_p_v1:=(r_p_v1.cn ch237).cn ch239
     replace bx15:=bx15.ca C262
     replace bx230:=(bx230.cn ch237).cn ch239
     exact mid (b243,b249,g250) _ _ ⟨bH.ca C261,zs4,zs7,rfl,rfl,rfl,(Rg.ca hs260),(Rp.ca hs260),(r_p_v1.ca hs260),(bx15.ca hs260),(bx230.ca hs260),(o235.ca hs260),bx255.ce ch258,bx259⟩
    ·
     refine aY g236 (is 18) (18,0) rfl ah ?_
     intro g266 w263 b265 ch264 bx267
     replace bx267:Bx g266 (is 18) w263 b265 [vi 0,vi 0]:=bx267
     have hs268:b5 (inl [17,18]) _ _ _ _:=ch264.n
     refine⟨hs268.same,?_⟩
     refine aO 6 rfl (by kernel_rfl) rfl (aY g266 (is 17) (17,0) rfl ah ?_)
     intro g272 w269 b271 ch270 bx273
     replace bx273:Bx g272 (is 17) w269 b271 [vi 0,vi 0]:=bx273
     have hs274:=hs268.seq (ch270.n)
     refine⟨hs274.same,?_⟩
     refine aO 8 rfl (by kernel_rfl) rfl (aw (cs':=[vi ((gI (bk p) 0).1),vi ((gI (bk p) 0).2)]) ah rfl rfl bx273 rfl nq (AllOne.all (.cons rfl (.cons rfl .nil))) rfl ?_)
     intro w275 ch276 bx277
     clear bx273
     have hs278:=hs274.seq (ch276.l rfl)
     refine⟨hs278.same,?_⟩
     refine aO 9 rfl (by kernel_rfl) rfl ?_
     replace bx267:=(bx267.cn ch270).ce ch276
     refine aw (cs':=[vi ((gI (bk p) 0).1),vi ((gI (bk p) 0).2)]) ah rfl rfl bx267 rfl nq (AllOne.all (.cons rfl (.cons rfl .nil))) rfl ?_
     intro w279 ch280 bx281
     clear bx267
     have hs282:=hs278.seq (ch280.l rfl)
     refine⟨hs282.same,?_⟩
     refine cK (by kernel_rfl) ?_
     have C283:=cg [13,17,18] ((ch229.l rfl).seq (ch237.n.seq (ch239.n.seq (ch264.n.seq (ch270.n.seq ((ch276.l rfl).seq (ch280.l rfl)))))))
     have C284:=cg [13] ((ch229.l rfl).seq (ch237.n.seq ch239.n))
     replace Rg:=Rg.ca C284
     replace Rp:=(Rp.cn ch237).cn ch239
     replace r_p_v1:=(r_p_v1.cn ch237).cn ch239
     replace bx15:=bx15.ca C284
     replace bx230:=(bx230.cn ch237).cn ch239
     exact mid (b271,b265,g272) _ _ ⟨bH.ca C283,zs4,zs7,rfl,rfl,rfl,(Rg.ca hs282),(Rp.ca hs282),(r_p_v1.ca hs282),(bx15.ca hs282),(bx230.ca hs282),(o235.ca hs282),bx277.ce ch280,bx281⟩
   clear Rg Rp r_p_v1 bx15 bx230 o235 bH
   rintro⟨b243,b249,g287⟩ f285 w286 ⟨bH,zs4,zs7,zs13,zs14,zs15,Rg,Rp,r_p_v1,bx15,bx230,o235,bx255,bx259⟩
   refine aa (aa (a8 rfl (mz zs13 (lx (aT cX rfl o235.flat) (mi 0 (ab (aq ?_)))))))
   refine aQ (σ:=Int×Int×Int×Int×Nat×aH) (λ⟨t14_0,t14_1,t15_0,t15_1,q,gq⟩ f w=>aX w0 gq w/\f 4=vp b13 0/\f 7=vp b152 0/\f 14=vp b243 0/\f 15=vp b249 0/\f 98=v234/\f 99=vi (List.length (bk p):Int)/\f 100=vi ↑q/\Sl gq (is 0) w g_v g.2/\Sl gq (is 0) w p_v p.1/\Sl gq (is 0) w p_v1 p.2/\Bx gq (is 3) w b13 [vi 0,vi 0,vi 0,vb false,vb false]/\Bx gq (is 13) w b152 [vi bn,vi 0,vi 0,vb (decide (bn=0)),vb ax]/\Ow gq (is 16) (is 16) w v234 (bk p)/\Bx gq (is 17) w b243 [vi t14_0,vi t14_1]/\Bx gq (is 18) w b249 [vi t15_0,vi t15_1]/\(q:Int)<=((List.length (bk p):Int):Int)/\((t14_0=(sL (bk p) q).1/\t14_1=(sL (bk p) q).2)/\t15_0=(sO (bk p) q).1/\t15_1=(sO (bk p) q).2)) (λ⟨t14_0,t14_1,t15_0,t15_1,q,gq⟩=>Int.toNat (((List.length (bk p):Int):Int)-(q:Int))) ((gI (bk p) 0).1,(gI (bk p) 0).2,(gI (bk p) 0).1,(gI (bk p) 0).2,0,g287) ?_ ?_
   · exact⟨bH,zs4,zs7,zs14,zs15,rfl,rfl,rfl,Rg,Rp,r_p_v1,bx15,bx230,o235,bx255,bx259,by omega,by exact⟨⟨rfl,rfl⟩,rfl,rfl⟩⟩
   clear Rg Rp r_p_v1 bx15 bx230 o235 bx255 bx259 bH
   rintro⟨t14_0,t14_1,t15_0,t15_1,q,g290⟩ f288 w289 ⟨bH,zs4,zs7,zs14,zs15,zs98,zs99,zs100,Rg,Rp,r_p_v1,bx15,bx230,o235,bx255,bx259,hle_q,hbx⟩ back23
   refine aa (a8 rfl (lx (b6 (m:=↑q) (n:=(List.length (bk p):Int)) zs100 zs99) (ab (aa ?_))))
   by_cases p23:(q:Int)<(List.length (bk p):Int)
   ·
    refine ag rfl (dt p23) (am (aa (aq (aa (a8 rfl (lx (al (v:=v234) (i:=↑q) cX rfl zs98 o235.flat zs100 (by omega) (by omega)) (lw (vg [vi ((gI (bk p) (q:Int)).1),vi ((gI (bk p) (q:Int)).2)]) (aJ (v:=v234) (i:=↑q) ah rfl o235.flat (by omega) (by omega) rfl) (lo (aY g290 (is 19) (19,0) rfl ah ?_)))))))))
    intro g294 w291 b293 ch292 bx295
    replace bx295:Bx g294 (is 19) w291 b293 [vi 0,vi 0]:=bx295
    refine lo (aw (cs':=[vi ((gI (bk p) (q:Int)).1),vi ((gI (bk p) (q:Int)).2)]) ah rfl rfl bx295 rfl nq (AllOne.all (.cons rfl (.cons rfl .nil))) rfl ?_)
    intro w296 ch297 bx298
    clear bx295
    refine ab ?_
    refine ez (σ:=aH) (λgq f w=>aX w0 gq w/\f 4=vp b13 0/\f 7=vp b152 0/\f 14=vp b243 0/\f 15=vp b249 0/\f 98=v234/\f 99=vi (List.length (bk p):Int)/\f 100=vi ↑q/\Sl gq (is 0) w g_v g.2/\Sl gq (is 0) w p_v p.1/\Sl gq (is 0) w p_v1 p.2/\Bx gq (is 3) w b13 [vi 0,vi 0,vi 0,vb false,vb false]/\Bx gq (is 13) w b152 [vi bn,vi 0,vi 0,vb (decide (bn=0)),vb ax]/\Ow gq (is 16) (is 16) w v234 (bk p)/\Bx gq (is 17) w b243 [vi (min t14_0 ((gI (bk p) (q:Int)).1)),vi (min t14_1 ((gI (bk p) (q:Int)).2))]/\Bx gq (is 18) w b249 [vi (max t15_0 ((gI (bk p) (q:Int)).1)),vi (max t15_1 ((gI (bk p) (q:Int)).2))]) g294 (inl [17,18]) ia ?_ ?_
    ·
     intro mid
     intro w300 ch299
     refine ht 0 rfl (b5.refl _ _ _) (λw' hw'=>ad dw rfl rfl zs14 rfl) (ht 2 rfl (b5.refl _ _ _) (λw' hw'=>ad dw rfl rfl rfl rfl) ?_)
     replace bx298:=bx298.cn ch299
     refine ht 3 rfl (b5.refl _ _ _) (λw' hw'=>af aI rfl (bx298.chg hw' (bA rfl)) rfl) (ht 5 rfl (b5.refl _ _ _) (λw' hw'=>ad dw rfl rfl zs14 rfl) (ht 7 rfl (b5.refl _ _ _) (λw' hw'=>ad dw rfl rfl rfl rfl) (ht 8 rfl (b5.refl _ _ _) (λw' hw'=>af aI rfl (bx298.chg hw' (bA rfl)) rfl) (ht 10 rfl (b5.refl _ _ _) (λw' hw'=>ad dw rfl rfl zs15 rfl) (ht 12 rfl (b5.refl _ _ _) (λw' hw'=>ad dw rfl rfl rfl rfl) (ht 13 rfl (b5.refl _ _ _) (λw' hw'=>af aI rfl (bx298.chg hw' (bA rfl)) rfl) (ht 15 rfl (b5.refl _ _ _) (λw' hw'=>ad dw rfl rfl zs15 rfl) (ht 17 rfl (b5.refl _ _ _) (λw' hw'=>ad dw rfl rfl rfl rfl) ?_))))))))
     refine ht 18 rfl (b5.refl _ _ _) (λw' hw'=>af aI rfl (bx298.chg hw' (bA rfl)) rfl) ?_
     have C301:=cg [19] (ch292.n.seq ((ch297.l rfl).seq ch299.n))
     replace bx255:=bx255.ca C301
     refine l8 (v:=vi t14_0) 1 [18,17,15,13,12,10,8,7,5,3,2,0,6,11,16,9,14,19] rfl (by kernel_rfl) (by kernel_rfl) rfl (b5.refl _ _ _) (λw' hw'=>af aI rfl (bx255.bel hw') rfl) (ht (v:=vi (min t14_0 ((gI (bk p) (q:Int)).1))) 4 rfl (b5.refl _ _ _) (λw' hw'=>oz rfl rfl) (l8 (v:=vi t14_1) 6 [4,1,18,17,15,13,12,10,8,7,5,3,2,0,11,16,14,19] rfl (by kernel_rfl) (by kernel_rfl) rfl (b5.refl _ _ _) (λw' hw'=>af aI rfl (bx255.bel hw') rfl) (ht (v:=vi (min t14_1 ((gI (bk p) (q:Int)).2))) 9 rfl (b5.refl _ _ _) (λw' hw'=>oz rfl rfl) ?_)))
     replace bx259:=bx259.ca C301
     refine l8 (v:=vi t15_1) 16 [9,6,4,1,18,17,15,13,12,10,8,7,5,3,2,0,11,14] rfl (by kernel_rfl) (by kernel_rfl) rfl (b5.refl _ _ _) (λw' hw'=>af aI rfl (bx259.bel hw') rfl) (ht (v:=vi (max t15_1 ((gI (bk p) (q:Int)).2))) 19 rfl (b5.refl _ _ _) (λw' hw'=>mj rfl rfl) (ht 20 rfl (b5.refl _ _ _) (λw' hw'=>ad dw rfl rfl zs14 rfl) ?_))
     refine dz 11 [21] (by kernel_rfl) ⟨dr 11 rfl (by kernel_rfl) rfl ?_,dr 21 rfl (by kernel_rfl) rfl ?_,trivial⟩
     ·
      refine bJ (v:=vi t15_0) (af aI rfl bx259 rfl) ?_
      refine⟨(b5.refl _ _ _),?_⟩
      refine ht (v:=vi (max t15_0 ((gI (bk p) (q:Int)).1))) 14 rfl (b5.refl _ _ _) (λw' hw'=>mj rfl rfl) (aO 21 rfl (by kernel_rfl) rfl (aw (cs':=[vi (min t14_0 ((gI (bk p) (q:Int)).1)),vi t14_1]) aI rfl rfl bx255 rfl nq (AllOne.all (.cons rfl .nil)) rfl ?_))
      intro w302 ch303 bx304
      clear bx255
      have hs305:b5 (inl [17,18]) _ _ _ _:=ch303.l rfl
      refine⟨hs305.same,?_⟩
      refine ht 22 rfl hs305.same (λw' hw'=>ad dw rfl rfl zs14 rfl) (aO 23 rfl (by kernel_rfl) rfl (aw (cs':=[vi (min t14_0 ((gI (bk p) (q:Int)).1)),vi (min t14_1 ((gI (bk p) (q:Int)).2))]) aI rfl rfl bx304 rfl nq (AllOne.all (.cons rfl .nil)) rfl ?_))
      intro w306 ch307 bx308
      clear bx304
      have hs309:=hs305.seq (ch307.l rfl)
      refine⟨hs309.same,?_⟩
      refine ht 24 rfl hs309.same (λw' hw'=>ad dw rfl rfl zs15 rfl) (aO 25 rfl (by kernel_rfl) rfl ?_)
      replace bx259:=(bx259.ce ch303).ce ch307
      refine aw (cs':=[vi (max t15_0 ((gI (bk p) (q:Int)).1)),vi t15_1]) aI rfl rfl bx259 rfl nq (AllOne.all (.cons rfl .nil)) rfl ?_
      intro w310 ch311 bx312
      clear bx259
      have hs313:=hs309.seq (ch311.l rfl)
      refine⟨hs313.same,?_⟩
      refine ht 26 rfl hs313.same (λw' hw'=>ad dw rfl rfl zs15 rfl) (aO 27 rfl (by kernel_rfl) rfl (aw (cs':=[vi (max t15_0 ((gI (bk p) (q:Int)).1)),vi (max t15_1 ((gI (bk p) (q:Int)).2))]) aI rfl rfl bx312 rfl nq (AllOne.all (.cons rfl .nil)) rfl ?_))
      intro w314 ch315 bx316
      clear bx312
      have hs317:=hs313.seq (ch315.l rfl)
      refine⟨hs317.same,?_⟩
      refine cK (by kernel_rfl) ?_
      have C318:=cg [17,18,19] (ch292.n.seq ((ch297.l rfl).seq (ch299.n.seq ((ch303.l rfl).seq ((ch307.l rfl).seq ((ch311.l rfl).seq (ch315.l rfl)))))))
      replace Rg:=Rg.ca C301
      replace Rp:=Rp.ca C301
      replace r_p_v1:=r_p_v1.ca C301
      replace bx15:=bx15.ca C301
      replace bx230:=bx230.ca C301
      replace o235:=o235.ca C301
      exact mid (g294) _ _ ⟨bH.ca C318,zs4,zs7,zs14,zs15,zs98,zs99,zs100,(Rg.ca hs317),(Rp.ca hs317),(r_p_v1.ca hs317),(bx15.ca hs317),(bx230.ca hs317),(o235.ca hs317),(bx308.ce ch311).ce ch315,bx316⟩
     ·
      refine aw (cs':=[vi (min t14_0 ((gI (bk p) (q:Int)).1)),vi t14_1]) aI rfl rfl bx255 rfl nq (AllOne.all (.cons rfl .nil)) rfl ?_
      intro w319 ch320 bx321
      clear bx255
      have hs322:b5 (inl [17,18]) _ _ _ _:=ch320.l rfl
      refine⟨hs322.same,?_⟩
      refine ht 22 rfl hs322.same (λw' hw'=>ad dw rfl rfl zs14 rfl) ?_
      refine dz 11 [23] (by kernel_rfl) ⟨dr 11 rfl (by kernel_rfl) rfl ?_,dr 23 rfl (by kernel_rfl) rfl ?_,trivial⟩
      ·
       replace bx259:=bx259.ce ch320
       refine bJ (v:=vi t15_0) (af aI rfl bx259 rfl) ?_
       refine⟨hs322.same,?_⟩
       refine ht (v:=vi (max t15_0 ((gI (bk p) (q:Int)).1))) 14 rfl hs322.same (λw' hw'=>mj rfl rfl) (aO 23 rfl (by kernel_rfl) rfl (aw (cs':=[vi (min t14_0 ((gI (bk p) (q:Int)).1)),vi (min t14_1 ((gI (bk p) (q:Int)).2))]) aI rfl rfl bx321 rfl nq (AllOne.all (.cons rfl .nil)) rfl ?_))
       intro w323 ch324 bx325
       clear bx321
       have hs326:=hs322.seq (ch324.l rfl)
       refine⟨hs326.same,?_⟩
       refine ht 24 rfl hs326.same (λw' hw'=>ad dw rfl rfl zs15 rfl) (aO 25 rfl (by kernel_rfl) rfl ?_)
       replace bx259:=bx259.ce ch324
       refine aw (cs':=[vi (max t15_0 ((gI (bk p) (q:Int)).1)),vi t15_1]) aI rfl rfl bx259 rfl nq (AllOne.all (.cons rfl .nil)) rfl ?_
       intro w327 ch328 bx329
       clear bx259
       have hs330:=hs326.seq (ch328.l rfl)
       refine⟨hs330.same,?_⟩
       refine ht 26 rfl hs330.same (λw' hw'=>ad dw rfl rfl zs15 rfl) (aO 27 rfl (by kernel_rfl) rfl (aw (cs':=[vi (max t15_0 ((gI (bk p) (q:Int)).1)),vi (max t15_1 ((gI (bk p) (q:Int)).2))]) aI rfl rfl bx329 rfl nq (AllOne.all (.cons rfl .nil)) rfl ?_))
       intro w331 ch332 bx333
       clear bx329
       have hs334:=hs330.seq (ch332.l rfl)
       refine⟨hs334.same,?_⟩
       refine cK (by kernel_rfl) ?_
       have C335:=cg [17,18,19] (ch292.n.seq ((ch297.l rfl).seq (ch299.n.seq ((ch320.l rfl).seq ((ch324.l rfl).seq ((ch328.l rfl).seq (ch332.l rfl)))))))
       replace Rg:=Rg.ca C301
       replace Rp:=Rp.ca C301
       replace r_p_v1:=r_p_v1.ca C301
       replace bx15:=bx15.ca C301
       replace bx230:=bx230.ca C301
       replace o235:=o235.ca C301
       exact mid (g294) _ _ ⟨bH.ca C335,zs4,zs7,zs14,zs15,zs98,zs99,zs100,(Rg.ca hs334),(Rp.ca hs334),(r_p_v1.ca hs334),(bx15.ca hs334),(bx230.ca hs334),(o235.ca hs334),(bx325.ce ch328).ce ch332,bx333⟩
      ·
       refine aw (cs':=[vi (min t14_0 ((gI (bk p) (q:Int)).1)),vi (min t14_1 ((gI (bk p) (q:Int)).2))]) aI rfl rfl bx321 rfl nq (AllOne.all (.cons rfl .nil)) rfl ?_
       intro w336 ch337 bx338
       clear bx321
       have hs339:=hs322.seq (ch337.l rfl)
       refine⟨hs339.same,?_⟩
       replace bx259:=(bx259.ce ch320).ce ch337
       refine l8 (v:=vi t15_0) 11 [23,22,21,20,19,16,9,6,4,1,18,17,15,13,12,10,8,7,5,3,2,0] rfl (by kernel_rfl) (by kernel_rfl) rfl hs339.same (λw' hw'=>af aI rfl (bx259.bel hw') rfl) (ht (v:=vi (max t15_0 ((gI (bk p) (q:Int)).1))) 14 rfl hs339.same (λw' hw'=>mj rfl rfl) (ht 24 rfl hs339.same (λw' hw'=>ad dw rfl rfl zs15 rfl) (aO 25 rfl (by kernel_rfl) rfl (aw (cs':=[vi (max t15_0 ((gI (bk p) (q:Int)).1)),vi t15_1]) aI rfl rfl bx259 rfl nq (AllOne.all (.cons rfl .nil)) rfl ?_))))
       intro w340 ch341 bx342
       clear bx259
       have hs343:=hs339.seq (ch341.l rfl)
       refine⟨hs343.same,?_⟩
       refine ht 26 rfl hs343.same (λw' hw'=>ad dw rfl rfl zs15 rfl) (aO 27 rfl (by kernel_rfl) rfl (aw (cs':=[vi (max t15_0 ((gI (bk p) (q:Int)).1)),vi (max t15_1 ((gI (bk p) (q:Int)).2))]) aI rfl rfl bx342 rfl nq (AllOne.all (.cons rfl .nil)) rfl ?_))
       intro w344 ch345 bx346
       clear bx342
       have hs347:=hs343.seq (ch345.l rfl)
       refine⟨hs347.same,?_⟩
       refine cK (by kernel_rfl) ?_
       have C348:=cg [17,18,19] (ch292.n.seq ((ch297.l rfl).seq (ch299.n.seq ((ch320.l rfl).seq ((ch337.l rfl).seq ((ch341.l rfl).seq (ch345.l rfl)))))))
       replace Rg:=Rg.ca C301
       replace Rp:=Rp.ca C301
       replace r_p_v1:=r_p_v1.ca C301
       replace bx15:=bx15.ca C301
       replace bx230:=bx230.ca C301
       replace o235:=o235.ca C301
       exact mid (g294) _ _ ⟨bH.ca C348,zs4,zs7,zs14,zs15,zs98,zs99,zs100,(Rg.ca hs347),(Rp.ca hs347),(r_p_v1.ca hs347),(bx15.ca hs347),(bx230.ca hs347),(o235.ca hs347),(bx338.ce ch341).ce ch345,bx346⟩
    clear Rg Rp r_p_v1 bx15 bx230 o235 bx255 bx259 bx298 bH
    rintro g351 f349 w350 ⟨bH,zs4,zs7,zs14,zs15,zs98,zs99,zs100,Rg,Rp,r_p_v1,bx15,bx230,o235,bx308,bx316⟩
    refine ao (a8 rfl (lx (aP (m:=↑q) (n:=1) zs100 rfl (by omega)) (mi ((q:Int)+1) (ab ?_))))
    refine back23 (min t14_0 ((gI (bk p) (q:Int)).1),min t14_1 ((gI (bk p) (q:Int)).2),max t15_0 ((gI (bk p) (q:Int)).1),max t15_1 ((gI (bk p) (q:Int)).2),q+1,g351) _ _ ⟨bH,zs4,zs7,zs14,zs15,zs98,zs99,rfl,Rg,Rp,r_p_v1,bx15,bx230,o235,bx308,bx316,by omega,?_⟩ ?_
    · show((min t14_0 ((gI (bk p) (q:Int)).1))=(sL (bk p) (q+1)).1/\(min t14_1 ((gI (bk p) (q:Int)).2))=(sL (bk p) (q+1)).2)/\(max t15_0 ((gI (bk p) (q:Int)).1))=(sO (bk p) (q+1)).1/\(max t15_1 ((gI (bk p) (q:Int)).2))=(sO (bk p) (q+1)).2
      (obtain⟨⟨e1,e2⟩,e3,e4⟩:=hbx;rw[e1,e2,e3,e4];exact⟨⟨rfl,rfl⟩,rfl,rfl⟩)
    · show Int.toNat (((List.length (bk p):Int):Int)-((q+1):Int))<Int.toNat (((List.length (bk p):Int):Int)-(q:Int))
      omega
   refine aj rfl (df p23) (aM rfl ?_)
   clear o235
   obtain⟨⟨hx1,hx2⟩,hx3,hx4⟩:=hbx
   obtain⟨⟨hb1,hb2⟩,hb3,hb4⟩:=xH (zc hs) (by omega) q (by omega)
   rw[<-hx1] at hb1
   rw[<-hx2] at hb2
   rw[<-hx3] at hb3
   rw[<-hx4] at hb4
   refine dQ g290 (inl [13]) ia ?_
   intro w353 ch352
   refine ht 0 rfl (b5.refl _ _ _) (λw' hw'=>ad dw rfl rfl zs15 rfl) ?_
   replace bx259:=bx259.cn ch352
   refine ht 1 rfl (b5.refl _ _ _) (λw' hw'=>af aI rfl (bx259.chg hw' (bA rfl)) rfl) (ht 2 rfl (b5.refl _ _ _) (λw' hw'=>ad dw rfl rfl zs14 rfl) ?_)
   replace bx255:=bx255.cn ch352
   refine ht 3 rfl (b5.refl _ _ _) (λw' hw'=>af aI rfl (bx255.chg hw' (bA rfl)) rfl) (ht 4 rfl (b5.refl _ _ _) (λw' hw'=>dD (m:=t15_0) (n:=t14_0) rfl rfl (by omega)) (ht 5 rfl (b5.refl _ _ _) (λw' hw'=>ad dw rfl rfl zs15 rfl) (ht 6 rfl (b5.refl _ _ _) (λw' hw'=>af aI rfl (bx259.chg hw' (bA rfl)) rfl) (ht 7 rfl (b5.refl _ _ _) (λw' hw'=>ad dw rfl rfl zs14 rfl) (ht 8 rfl (b5.refl _ _ _) (λw' hw'=>af aI rfl (bx255.chg hw' (bA rfl)) rfl) (ht 9 rfl (b5.refl _ _ _) (λw' hw'=>dD (m:=t15_1) (n:=t14_1) rfl rfl (by omega)) (ht 10 rfl (b5.refl _ _ _) (λw' hw'=>ad sM rfl rfl zs7 rfl) (aO 11 rfl (by kernel_rfl) rfl ?_))))))))
   replace bx230:=bx230.cn ch352
   refine aw (cs':=[vi bn,vi (t15_0-t14_0),vi 0,vb (decide (bn=0)),vb ax]) aI rfl rfl bx230 rfl nq (AllOne.all (.cons rfl .nil)) rfl ?_
   intro w354 ch355 bx356
   clear bx230
   have hs357:b5 (inl [13]) _ _ _ _:=ch355.l rfl
   refine⟨hs357.same,?_⟩
   refine ht 12 rfl hs357.same (λw' hw'=>ad sM rfl rfl zs7 rfl) (aO 13 rfl (by kernel_rfl) rfl (aw (cs':=[vi bn,vi (t15_0-t14_0),vi (t15_1-t14_1),vb (decide (bn=0)),vb ax]) aI rfl rfl bx356 rfl nq (AllOne.all (.cons rfl .nil)) rfl ?_))
   intro w358 ch359 bx360
   clear bx356
   have hs361:=hs357.seq (ch359.l rfl)
   refine⟨hs361.same,?_⟩
   refine cK (by kernel_rfl) (aa ?_)
   clear bx255 bx259
   refine a8 rfl (lx (ak (ds:=[vi bn,vi (t15_0-t14_0),vi (t15_1-t14_1),vb (decide (bn=0)),vb ax]) dv zs7 bx360 rfl rfl) (lo ?_))
   have C365:=cg [13] (ch352.n.seq ((ch355.l rfl).seq (ch359.l rfl)))
   replace bx15:=bx15.ca C365
   refine aw (cs':=[vi bn,vi (t15_0-t14_0),vi (t15_1-t14_1),vb (decide (bn=0)),vb ax]) dv zs4 rfl bx15 rfl nq (AllOne.all (.cons rfl (.cons rfl (.cons rfl (.cons rfl (.cons rfl .nil)))))) rfl ?_
   intro w362 ch363 bx364
   clear bx15
   refine ai 0 (ab (au (vs:=[vg [vi bn,vi (t15_0-t14_0),vi (t15_1-t14_1),vb (decide (bn=0)),vb ax],vi 0]) Try.func12 (.cell zs4 (eb (ds:=[vi bn,vi (t15_0-t14_0),vi (t15_1-t14_1),vb (decide (bn=0)),vb ax]) dv bx364 rfl rfl) (.tmp rfl .nil)) ?_))
   have e0:((bn,t15_0-t14_0,t15_1-t14_1,decide (bn=0),ax):(Int)×(Int)×(Int)×(Bool)×(Bool))=((bf g p).1):=by
     (rw[nn hm hsn];exact zj hbk.1 hbk.2 (by omega) ‹_› ⟨⟨hx1,hx2⟩,hx3,hx4⟩ (by omega))
   have e1:(0:Int)=((bf g p).2):=by
     rw[nn hm hsn]
   have C366:=cg [3,13] (ch352.n.seq ((ch355.l rfl).seq ((ch359.l rfl).seq (ch363.l rfl))))
   replace bH:=bH.ca C366
   exact⟨(bV (a:=(bn,t15_0-t14_0,t15_1-t14_1,decide (bn=0),ax)) (b:=0) (λ(z0:(Int)×(Int)×(Int)×(Bool)×(Bool)) (z1:Int)=>Ending.returned (vt [vg [vi z0.1,vi z0.2.1,vi z0.2.2.1,vb z0.2.2.2.1,vb z0.2.2.2.2],vi z1])) e0 e1),bH.below⟩
  refine aj rfl (df p20) (am (aa ?_))
  clear o235
  refine a8 rfl ?_
  replace bx230:=bx230.cn ch237
  refine lx (ak (ds:=[vi bn,vi 0,vi 0,vb (decide (bn=0)),vb ax]) dv zs7 bx230 rfl rfl) (lo ?_)
  replace bx15:=(bx15.ce ch229).cn ch237
  refine aw (cs':=[vi bn,vi 0,vi 0,vb (decide (bn=0)),vb ax]) dv zs4 rfl bx15 rfl nq (AllOne.all (.cons rfl (.cons rfl (.cons rfl (.cons rfl (.cons rfl .nil)))))) rfl ?_
  intro w367 ch368 bx369
  clear bx15
  refine ai 0 (ab (au (vs:=[vg [vi bn,vi 0,vi 0,vb (decide (bn=0)),vb ax],vi 0]) Try.func12 (.cell zs4 (eb (ds:=[vi bn,vi 0,vi 0,vb (decide (bn=0)),vb ax]) dv bx369 rfl rfl) (.tmp rfl .nil)) ?_))
  have e0:((bn,0,0,decide (bn=0),ax):(Int)×(Int)×(Int)×(Bool)×(Bool))=((bf g p).1):=by
    (rw[nn hm hsn];exact yV hbk.1 hbk.2 (by omega) ‹_›)
  have e1:(0:Int)=((bf g p).2):=by
    rw[nn hm hsn]
  have C370:=cg [3,13] ((ch229.l rfl).seq (ch237.n.seq (ch368.l rfl)))
  replace bH:=bH.ca C370
  exact⟨(bV (a:=(bn,0,0,decide (bn=0),ax)) (b:=0) (λ(z0:(Int)×(Int)×(Int)×(Bool)×(Bool)) (z1:Int)=>Ending.returned (vt [vg [vi z0.1,vi z0.2.1,vi z0.2.2.1,vb z0.2.2.2.1,vb z0.2.2.2.2],vi z1])) e0 e1),bH.below⟩
 have hn:¬bF g:=λh=>p1 (dt h)
 refine ag rfl (congrArg Bool.not (Bool.eq_false_iff.2 p1)) (aa ?_)
 clear bx5 bx10
 refine a8 rfl (lw (vg [vi 0,vi 0,vi 0,vb false,vb false]) (bQ (vs:=[]) rfl (by kernel_rfl)) (lo ?_))
 replace bx15:=bx15.cn hb18
 refine aw (cs':=[vi 0,vi 0,vi 0,vb false,vb false]) dv rfl rfl bx15 rfl nq (AllOne.all (.cons rfl (.cons rfl (.cons rfl (.cons rfl (.cons rfl .nil)))))) rfl ?_
 intro w371 ch372 bx373
 clear bx15
 refine ai 1 (ab (au (vs:=[vg [vi 0,vi 0,vi 0,vb false,vb false],vi 1]) Try.func12 (.cell rfl (eb (ds:=[vi 0,vi 0,vi 0,vb false,vb false]) dv bx373 rfl rfl) (.tmp rfl .nil)) ?_))
 have e0:((0,0,0,false,false):(Int)×(Int)×(Int)×(Bool)×(Bool))=((bf g p).1):=by
   rw[uc hn]
 have e1:(1:Int)=((bf g p).2):=by
   rw[uc hn]
 have C374:=cg [3] (ch2.n.seq (ch7.n.seq (ch12.n.seq (hb18.n.seq (ch372.l rfl)))))
 replace bH:=bH.ca C374
 exact⟨(bV (a:=(0,0,0,false,false)) (b:=1) (λ(z0:(Int)×(Int)×(Int)×(Bool)×(Bool)) (z1:Int)=>Ending.returned (vt [vg [vi z0.1,vi z0.2.1,vi z0.2.2.1,vb z0.2.2.2.1,vb z0.2.2.2.2],vi z1])) e0 e1),bH.below⟩
end TL
