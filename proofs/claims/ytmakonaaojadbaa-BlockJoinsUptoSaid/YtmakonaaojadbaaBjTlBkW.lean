import Derived.Test.YtmakonaaojadbaaBjTlP3
import Derived.Test.YtmakonaaojadbaaBjTlGmA
import Derived.Test.YtmakonaaojadbaaBjTlGenA
import Derived.Test.YtmakonaaojadbaaProg
import Derived.Test.YtmakonaaojadbaaBjTlAli
set_option linter.all false
set_option maxRecDepth 20000
namespace TL
open Go Go.Proofs
theorem eT:Try.prog.follows .mixedOrders=true:=by kernel_rfl
theorem fe:Tp Try.prog 24 true 2 32 (.agg #[.int .i64 0,.slice none 0 0]):=Tp.of (by kernel_rfl)
theorem e9:Tp Try.prog 29 false 1 24 (.slice none 0 0):=Tp.of (by kernel_rfl)
theorem cx:Tp Try.prog 32 false 1 24 (.slice none 0 0):=Tp.of (by kernel_rfl)
theorem cD:Tp Try.prog 60 true 4 96 (.agg #[.slice none 0 0,.slice none 0 0,.slice none 0 0,.slice none 0 0]):=Tp.of (by kernel_rfl)
theorem oe:Try.f36.body.isNone=false:=rfl
theorem oT:(Try.f36.name== "runtime.NumGoroutine")=false:=by decide+kernel
theorem o9:Try.f52.body.isNone=false:=rfl
theorem oW:(Try.f52.name== "runtime.NumGoroutine")=false:=by decide+kernel
theorem pq:Try.f53.body.isNone=false:=rfl
theorem pg:(Try.f53.name== "runtime.NumGoroutine")=false:=by decide+kernel
theorem ph:Try.f54.body.isNone=false:=rfl
theorem nS:(Try.f54.name== "runtime.NumGoroutine")=false:=by decide+kernel
theorem oF:Try.f62.body.isNone=false:=rfl
theorem oy:(Try.f62.name== "runtime.NumGoroutine")=false:=by decide+kernel
theorem j2:Try.f63.body.isNone=false:=rfl
theorem jn:(Try.f63.name== "runtime.NumGoroutine")=false:=by decide+kernel
theorem oh:Try.f64.body.isNone=false:=rfl
theorem pa:(Try.f64.name== "runtime.NumGoroutine")=false:=by decide+kernel
theorem lE:Try.f81.body.isNone=false:=rfl
theorem lq:(Try.f81.name== "runtime.NumGoroutine")=false:=by decide+kernel
theorem ns(w0:World)(g:(Int)×(List Pt))(g_v:Value)(hg_v:Ro w0 g_v g.2)(hlen:g.2.length<=1048576):
    Calls Try.prog 33 #[vg [vi g.1,g_v]] w0 (λee w=>∃xx:aC×Value,ee= .returned ((λ⟨δ,rv0⟩=>vg [vi g.1,rv0]) xx)/\(λ(⟨δ,rv0⟩:aC×Value) (w:World)=>fi w0 δ w/\Ow δ (is 1) (is 1) w rv0 g.2) xx w):=by
 refine ar Try.func33 rfl nq ?_
 have bH:=bj.start w0
 have Rg:=hg_v.sl
 refine a6 (a0 rfl (dG rfl (d8 c0 (is 1) (1,0) rfl rfl ?_)))
 intro g4 w1 b3 ch2 bx5
 replace bx5:Bx g4 (is 1) w1 b3 [vi g.1,g_v]:=bx5
 refine lo (bf g4 (is 2) (2,0) rfl fe ?_)
 intro g9 w6 b8 ch7 bx10
 replace bx10:Bx g9 (is 2) w6 b8 [vi 0,vn]:=bx10
 refine aa (a6 (ga g9 (inl [2,3]) eT ?_))
 intro w12 ch11
 refine ht 0 rfl (aU.refl _ _ _) (λw' hw'=>a7 d5 rfl rfl rfl rfl) ?_
 replace bx5:=(bx5.cn ch7).cn ch11
 refine ht 1 rfl (aU.refl _ _ _) (λw' hw'=>a8 ab rfl (bx5.chg hw' (bE rfl)) rfl) (ht 2 rfl (aU.refl _ _ _) (λw' hw'=>a7 d5 rfl rfl rfl rfl) (ht 3 rfl (aU.refl _ _ _) (λw' hw'=>a8 bD rfl (bx5.chg hw' (bE rfl)) rfl) (aN 4 rfl (by kernel_rfl) rfl ?_)))
 have C13:=cg [] (ch2.n.seq (ch7.n.seq ch11.n))
 replace Rg:=Rg.ca C13
 refine bv (α:=Pt) (xs:=([])) (ys:=g.2) g9 (J:=is 3) (S:=is 3) (3,0) rfl dB aE (by decide) rfl rfl rfl Ow.nil Rg (by decide) (by(simp;omega)) ?_
 intro g14 w15 v16 ch17 o18
 replace o18:Ow g14 (is 3) (is 3) w15 v16 g.2:=o18
 have hs19:aU (inl [2,3]) _ _ _ _:=ch17.l rfl
 refine⟨hs19.same,?_⟩
 refine ht (v:=vg [vi g.1,v16]) 5 rfl hs19.same (λw' hw'=>bh (vs:=[(0,vi g.1),(1,v16)]) rfl (by rw[Sl.form o18.flat];kernel_rfl)) (aN 6 rfl (by kernel_rfl) rfl ?_)
 replace bx10:=(bx10.cn ch11).ce ch17
 refine aw (cs':=[vi g.1,v16]) fe rfl rfl bx10 rfl nq (AllOne.all (.cons rfl (.cons (bp o18.flat) .nil))) rfl ?_
 intro w20 ch21 bx22
 clear bx10
 have hs23:=hs19.seq (ch21.l rfl)
 refine⟨hs23.same,?_⟩
 refine bV (by kernel_rfl) (aA (vs:=[vg [vi g.1,v16]]) Try.func33 (.cell rfl (d7 (ds:=[vi g.1,v16]) fe bx22 rfl rfl) .nil) ?_)
 have C24:=cg [2,3] (ch2.n.seq (ch7.n.seq (ch11.n.seq ((ch17.l rfl).seq (ch21.l rfl)))))
 replace bH:=bH.ca C24
 replace o18:=o18.ce ch21
 have e0:(g:(Int)×(List Pt))=(g):=by
   rfl
 exact⟨(fin w0 g14 (λn=>if n=3 then 1 else 0),v16),(congrArg (a₁:=g) (λ(z0:(Int)×(List Pt))=>Ending.returned (vg [vi z0.1,v16])) e0),bH.fresh _,((congrArg (λ(z:(Int)×(List Pt))=>z.2) e0)▸(o18.glue (γ:=c0) (ren:=(λn=>if n=3 then 1 else 0)) (k:=1) bH.col rfl rfl))⟩
theorem oH(w0:World)(g:(Int)×(List Pt))(g_v:Value)(hg_v:Ro w0 g_v g.2)(h:Int)(hh:0<=h/\h<2*(g.2.length:Int))(hlen:g.2.length<=1000000):
    Calls Try.prog 34 #[vg [vi g.1,g_v],vi h] w0 (λee w=>ee= .returned (vi (au g h))/\dE w0.heap.size w0 w):=by
 refine ar Try.func34 rfl nq ?_
 have bH:=bj.start w0
 have Rg:=hg_v.sl
 obtain⟨hh1,hh2⟩:=hh
 refine a6 (a0 rfl (dG rfl (d8 c0 (is 1) (1,0) rfl rfl ?_)))
 intro g4 w1 b3 ch2 bx5
 replace bx5:Bx g4 (is 1) w1 b3 [vi g.1,g_v]:=bx5
 refine ai 0 (aa (a6 (a0 rfl (lx (a7 d5 rfl rfl rfl rfl) (lx (a8 bD rfl bx5 rfl) (mi h (lx (ep (m:=h) (n:=2) rfl rfl (by omega) (by omega) (by omega)) (mi h (lx (fR (m:=h) (n:=2) rfl rfl (by omega) (by omega)) ?_)))))))))
 replace Rg:=Rg.cn ch2
 refine lx (a9 (v:=g_v) (i:=h/2) dB rfl rfl Rg rfl (by omega) (by omega)) (lx (bw (i:=h%2) cJ rfl rfl rfl (by omega) (by omega) (Nat.mul_one _)) (lx (bN (v:=g_v) (i:=h/2) ab rfl Rg (by omega) (by omega) (show Int.toNat (h%2)<2 by omega) (dx _ (by omega) (by omega))) (ai (pI (gI g.2 (h/2)) (h%2)) (aa (aA (vs:=[vi (pI (gI g.2 (h/2)) (h%2))]) Try.func34 (.tmp rfl .nil) ?_)))))
 have e0:(pI (gI g.2 (h/2)) (h%2):Int)=(au g h):=by
   rfl
 replace bH:=bH.cn ch2
 exact⟨(congrArg (a₁:=pI (gI g.2 (h/2)) (h%2)) (λ(z0:Int)=>Ending.returned (vi z0)) e0),bH.below⟩
theorem iO(w0:World)(n:Int)(x:Int)(hn:0<=n/\n<=1000000):
    Calls Try.prog 81 #[vi n,vi x] w0 (λee w=>∃xx:aC×Value,ee= .returned ((λ⟨δ,rv0⟩=>rv0) xx)/\(λ(⟨δ,rv0⟩:aC×Value) (w:World)=>fi w0 δ w/\Ow δ (is 1) (is 1) w rv0 (List.replicate n.toNat x)) xx w):=by
 refine ar Try.func81 rfl nq ?_
 have bH:=bj.start w0
 obtain⟨hn1,hn2⟩:=hn
 have hrep:((List.replicate n.toNat (0:Int)).length:Int)=n:=by simp;omega
 refine a6 (a0 rfl (ma vn (aa (a6 (a0 rfl (mi n (lo (cL (α:=Int) (l:=n) (cp:=n) c0 (is 1) (is 1) (1,0) rfl (0:Int) b6 ab rfl rfl rfl (by omega) (by omega) (by omega) (by omega) ?_))))))))
 intro g1 w2 v3 ch4 o5 _
 refine ma v3 (aa (a6 (a6 (a0 rfl (mv v3 ?_)))))
 have len6:=(o5.flat).small
 refine lx (bC b6 rfl o5.flat) (mi 0 (aa (al ?_)))
 refine bd (σ:=Nat×(List Int)×aC) (λ⟨k,l,gq⟩ f w=>bj w0 gq w/\f 1=vi x/\f 5=v3/\f 10=vi (List.length (List.replicate (Int.toNat n) (0:Int)):Int)/\f 11=vi ↑k/\Ow gq (is 1) (is 1) w v3 l/\(k:Int)<=((List.length (List.replicate (Int.toNat n) (0:Int)):Int):Int)/\(l=List.replicate k x++List.replicate (n.toNat-k) 0/\(k:Int)<=n)) (λ⟨k,l,gq⟩=>Int.toNat (((List.length (List.replicate (Int.toNat n) (0:Int)):Int):Int)-(k:Int))) (0,(List.replicate (Int.toNat n) (0:Int)),g1) ?_ ?_
 · exact⟨bH.cn ch4,rfl,rfl,rfl,rfl,o5,by omega,by exact⟨by simp,by omega⟩⟩
 clear o5 bH
 rintro⟨k,l,g9⟩ f7 w8 ⟨bH,zs1,zs5,zs10,zs11,o5,hle_k,hinv⟩ back3
 have hll:l.length=n.toNat:=by rw[hinv.1];simp;omega
 refine a6 (a0 rfl (lx (aZ (m:=↑k) (n:=(List.length (List.replicate (Int.toNat n) (0:Int)):Int)) zs11 zs10) (aa (a6 ?_))))
 by_cases p3:(k:Int)<(List.length (List.replicate (Int.toNat n) (0:Int)):Int)
 ·
  refine af rfl (dt p3) (ap (a6 (al (a6 (a0 rfl (mz zs11 (ai (k:Int) (aa (a0 rfl (mz zs5 (mi ↑k ?_)))))))))))
  refine mz zs1 (lx (a9 (v:=v3) (i:=↑k) b6 rfl rfl o5.flat rfl (by omega) (by omega)) (lo (av (i:=↑k) x ab rfl rfl o5 (by omega) (by omega) rfl ?_)))
  intro w10 ch11 bx12
  clear o5
  refine aa (ag (a0 rfl (lx (aD (m:=↑k) (n:=1) zs11 rfl (by omega)) (mi ((k:Int)+1) (aa ?_)))))
  refine back3 (k+1,(List.set l (Int.toNat ↑k) x),g9) _ _ ⟨bH.ce ch11,zs1,zs5,zs10,rfl,bx12,by omega,?_⟩ ?_
  · show(List.set l (Int.toNat ↑k) x)=List.replicate (k+1) x++List.replicate (n.toNat-(k+1)) 0/\((k+1):Int)<=n
    have hk1:k<n.toNat:=by simp at*;omega
    refine⟨by rw[hinv.1];exact mu hk1,by omega⟩
  · show Int.toNat (((List.length (List.replicate (Int.toNat n) (0:Int)):Int):Int)-((k+1):Int))<Int.toNat (((List.length (List.replicate (Int.toNat n) (0:Int)):Int):Int)-(k:Int))
    omega
 refine ae rfl (df p3) (aF rfl (a6 (a0 rfl (mz zs5 (ma v3 (aa (aA (vs:=[v3]) Try.func81 (.tmp rfl .nil) ?_)))))))
 have e0:(l:List Int)=(List.replicate n.toNat x):=by
   obtain⟨h1,h2⟩:=hinv
   have hk:k=n.toNat:=by simp at*;omega
   subst hk;rw[h1];simp
 exact⟨(fin w0 g9 (λn=>if n=1 then 1 else 0),v3),(congrArg (a₁:=l) (λ(z0:List Int)=>Ending.returned (v3)) e0),bH.fresh _,(e0▸(o5.glue (γ:=c0) (ren:=(λn=>if n=1 then 1 else 0)) (k:=1) bH.col rfl rfl))⟩
theorem qi(w0:World)(g:(Int)×(List Pt))(g_v:Value)(hg_v:Ro w0 g_v g.2)(s:Int):
    Calls Try.prog 52 #[vg [vi g.1,g_v],vi s] w0 (λee w=>ee= .returned (vi ((aM g s).2))/\dE w0.heap.size w0 w):=by
 refine ar Try.func52 rfl nq ?_
 have bH:=bj.start w0
 have Rg:=hg_v.sl
 refine a6 (a0 rfl (dG rfl (d8 c0 (is 1) (1,0) rfl rfl ?_)))
 intro g4 w1 b3 ch2 bx5
 replace bx5:Bx g4 (is 1) w1 b3 [vi g.1,g_v]:=bx5
 refine ai 0 (aa (a6 (al (a6 (a0 rfl (lx (aB (ds:=[vi g.1,g_v]) fe rfl bx5 rfl rfl) ?_))))))
 replace Rg:=Rg.cn ch2
 refine lo (d4 (v:=vb (cd g)) (aV (vals:=[vg [vi g.1,g_v]]) Try.func36 oe oT rfl) (g0 w1 g g_v (Rg).ro) ?_)
 intro w6 hb7
 replace hb7:=aY hb7 g4
 refine lx (dQ (b:=(cd g)) rfl) (ma (vb (!(cd g))) (aa ?_))
 by_cases p1:(cd g)=true
 ·
  refine ae rfl (congrArg Bool.not p1) (a6 (a0 rfl (mi s (lx (aZ (m:=s) (n:=0) rfl rfl) (mv (vb (decide (s<0))) ?_)))))
  by_cases q12:s<0
  ·
   refine aq (wn (dt q12)) (aq (wn (dt q12)) (aq (wn (dt q12)) (aq (wn (dt q12)) (lw (vb true) (aI rfl (dt q12) rfl) (ma (vb true) (aa (af rfl rfl (a6 ?_))))))))
   clear bx5
   refine a0 rfl (ai 2 (aa (aA (vs:=[vi 2]) Try.func52 (.tmp rfl .nil) ?_)))
   have e0:(2:Int)=((aM g s).2):=by
     rw[lf (of_decide_eq_true ‹_›) (by omega)]
   replace bH:=bH.cn ch2
   replace bH:=bH.cn hb7
   exact⟨ri e0,bH.below⟩
  refine lv (vi s) (wy (df q12)) (ak rfl) (lv (vp b3 0) (wy (df q12)) (a7 d5 rfl rfl rfl rfl) ?_)
  replace bx5:=bx5.cn hb7
  refine lv (vi g.1) (wy (df q12)) (a8 ab rfl bx5 rfl) (lv (vb (decide (g.1<=s))) (wy (df q12)) (eI (m:=s) (n:=g.1) rfl rfl) (lw (vb (decide (g.1<=s))) (b9 rfl (df q12) rfl) (ma (vb (decide (g.1<=s))) (aa ?_))))
  by_cases p3:g.1<=s
  ·
   refine af rfl (dt p3) (a6 ?_)
   clear bx5
   refine a0 rfl (ai 2 (aa (aA (vs:=[vi 2]) Try.func52 (.tmp rfl .nil) ?_)))
   have e0:(2:Int)=((aM g s).2):=by
     rw[lf (of_decide_eq_true ‹_›) (by omega)]
   replace bH:=bH.cn ch2
   replace bH:=bH.cn hb7
   exact⟨ri e0,bH.below⟩
  refine ae rfl (df p3) (ap (ag (a6 ?_)))
  clear bx5
  refine a0 rfl (ai 0 (aa (aA (vs:=[vi 0]) Try.func52 (.tmp rfl .nil) ?_)))
  have e0:(0:Int)=((aM g s).2):=by
    rw[jR (of_decide_eq_true ‹_›) (by omega)]
  replace bH:=bH.cn ch2
  replace bH:=bH.cn hb7
  exact⟨ri e0,bH.below⟩
 refine af rfl (congrArg Bool.not (Bool.eq_false_iff.2 p1)) (a6 ?_)
 clear bx5
 refine a0 rfl (ai 1 (aa (aA (vs:=[vi 1]) Try.func52 (.tmp rfl .nil) ?_)))
 have e0:(1:Int)=((aM g s).2):=by
   rw[nz (λh=>absurd (dt h) ‹_›)]
 replace bH:=bH.cn ch2
 replace bH:=bH.cn hb7
 exact⟨ri e0,bH.below⟩
set_option maxHeartbeats 4000000 in
theorem kQ(w0:World)(g:(Int)×(List Pt))(g_v:Value)(hg_v:Ro w0 g_v g.2)(s:Int):
    Calls Try.prog 32 #[vg [vi g.1,g_v],vi s] w0 (λee w=>∃xx:aC×Value×Value×Value×Value,ee= .returned ((λ⟨δ,rv0,rv1,rv2,rv3⟩=>vt [vg [rv0,rv1,rv2,rv3],vi ((aM g s).2)]) xx)/\(λ(⟨δ,rv0,rv1,rv2,rv3⟩:aC×Value×Value×Value×Value) (w:World)=>fi w0 δ w/\Ow δ (is 1) (is 1) w rv0 (((aM g s).1).1)/\Ow δ (is 2) (is 2) w rv1 ((((aM g s).1).2).1)/\Ow δ (is 3) (is 3) w rv2 (((((aM g s).1).2).2).1)/\Ow δ (is 4) (is 4) w rv3 (((((aM g s).1).2).2).2)) xx w):=by
 refine ar Try.func32 rfl nq ?_
 have bH:=bj.start w0
 have Rg:=hg_v.sl
 refine a6 (a0 rfl (dG rfl (d8 c0 (is 1) (1,0) rfl rfl ?_)))
 intro g4 w1 b3 ch2 bx5
 replace bx5:Bx g4 (is 1) w1 b3 [vi g.1,g_v]:=bx5
 refine lo (bf g4 (is 2) (2,0) rfl cD ?_)
 intro g9 w6 b8 ch7 bx10
 replace bx10:Bx g9 (is 2) w6 b8 [vn,vn,vn,vn]:=bx10
 refine ai 0 (aa (a6 (a6 (a0 rfl ?_))))
 replace bx5:=bx5.cn ch7
 refine lx (aB (ds:=[vi g.1,g_v]) fe rfl bx5 rfl rfl) (mi s ?_)
 replace Rg:=(Rg.cn ch2).cn ch7
 refine lo (d4 (v:=vi ((aM g s).2)) (aV (vals:=[vg [vi g.1,g_v],vi s]) Try.func52 o9 oW rfl) (qi w6 g g_v (Rg).ro s) ?_)
 intro w11 hb12
 replace hb12:=aY hb12 g9
 refine ai ((aM g s).2) (aa (a6 (a0 rfl (mi ((aM g s).2) (lx (eG (m:=(aM g s).2) (n:=0) rfl rfl) (aa ?_))))))
 by_cases p2:((aM g s).2)=0
 ·
  obtain⟨hm,hsn,hfa⟩:=qo p2
  have hm0:=hm
  obtain⟨hm1,hm2,hm3,hm4⟩:=hm0
  obtain⟨hs0,hs1⟩:=hsn
  have hbr:=jR hm ⟨hs0,hs1⟩
  have hrep:((List.replicate g.1.toNat (-1:Int)).length:Int)=g.1:=by simp;omega
  refine ae rfl (congrArg Bool.not (dt p2)) (ap (a6 (a0 rfl ?_)))
  replace bx5:=bx5.cn hb12
  refine lx (aB (ds:=[vi g.1,g_v]) fe rfl bx5 rfl rfl) (lo (bq (aV (vals:=[vg [vi g.1,g_v]]) Try.func53 pq pg rfl) (ar Try.func53 rfl nq ?_)))
  replace Rg:=Rg.cn hb12
  refine a6 (a0 rfl (dG rfl (d8 g9 (is 3) (3,0) rfl rfl ?_)))
  intro g16 w13 b15 ch14 bx17
  replace bx17:Bx g16 (is 3) w13 b15 [vi g.1,g_v]:=bx17
  refine ma ((Value.pointer none)) (aa (a6 (aW g16 [0,1,2,4,6] eT ?_)))
  intro w19 ch18
  replace bx17:=bx17.cn ch18
  refine xh 0 [1,2,3] rfl (λw' hw'=>aB (ds:=[vi g.1,g_v]) fe rfl (bx17.bel hw') rfl rfl) (xp 1 rfl (λw=>a7 d5 rfl rfl rfl rfl) (xv 2 [1,0] rfl (a8 ab rfl bx17 rfl) (aR 3 rfl (by kernel_rfl) rfl (fT (α:=Int) (n:=g.1) (cp:=g.1) g16 4 f6 cx rfl rfl rfl (by omega) (by omega) (by omega) (by omega) ?_))))
  intro g20 w21 v22 ch23 o24
  have C25:=cg [] (ch14.n.seq (ch18.n.seq ch23.n))
  replace Rg:=Rg.ca C25
  refine xp (v:=vg [vi g.1,g_v,v22]) 4 rfl (λw=>bh (vs:=[(0,vg [vi g.1,g_v]),(1,v22)]) rfl (by rw[Sl.form Rg,Sl.form o24.sl];kernel_rfl)) (aR 5 rfl (by kernel_rfl) rfl (d8 g20 (is 5) (5,0) rfl rfl ?_))
  intro g29 w26 b28 ch27 bx30
  replace bx30:Bx g29 (is 5) w26 b28 [vi g.1,g_v,v22]:=bx30
  refine xp (v:=vp b28 0) 6 rfl (λw=>cj rfl) (bu (by kernel_rfl) (a6 (a6 (a0 rfl (lx (a7 d5 rfl rfl rfl rfl) ?_)))))
  replace bx17:=(bx17.cn ch23).cn ch27
  refine lx (a8 bD rfl bx17 rfl) ?_
  replace Rg:=Rg.cn ch27
  have len31:=(Rg).small
  refine lx (bC dB rfl Rg) (mi 0 (aa (al ?_)))
  clear bx17
  refine bd (σ:=Nat×iu×aC) (λ⟨e_c1,O_c1,gq⟩ f w=>bj w0 gq w/\f 3=vp b28 0/\f 15=g_v/\f 16=vi (g.2.length:Int)/\f 17=vi ↑e_c1/\Sl gq (is 0) w g_v g.2/\Bx gq (is 1) w b3 [vi g.1,g_v]/\Bx gq (is 2) w b8 [vn,vn,vn,vn]/\cM gq 4 w v22 O_c1/\Bx gq (is 5) w b28 [vi g.1,g_v,v22]/\(e_c1:Int)<=((g.2.length:Int):Int)/\(cC O_c1 g e_c1)) (λ⟨e_c1,O_c1,gq⟩=>Int.toNat (((g.2.length:Int):Int)-(e_c1:Int))) (0,(List.replicate (Int.toNat g.1) []),g29) ?_ ?_
  have C33:=cg [] (ch14.n.seq (ch18.n.seq (ch23.n.seq ch27.n)))
  have C34:=hb12.n.seq C33
  have C32:=ch2.n.seq (ch7.n.seq C34)
  · exact⟨bH.ca C32,rfl,rfl,rfl,rfl,Rg,bx5.ca C33,bx10.ca C34,o24.cn ch27,bx30,by omega,by exact cC.start hm1⟩
  clear Rg bx5 bx10 o24 bx30 bH
  rintro⟨e_c1,O_c1,g37⟩ f35 w36 ⟨bH,zs3_c1,zs15_c1,zs16_c1,zs17_c1,Rg,bx5,bx10,o24,bx30,hle_e_c1,hov_c1⟩ back3_c1
  have hol_c1:=hov_c1.len
  refine a6 (a0 rfl (lx (aZ (m:=↑e_c1) (n:=(g.2.length:Int)) zs17_c1 zs16_c1) (aa (a6 ?_))))
  by_cases p3_c1:(e_c1:Int)<(g.2.length:Int)
  ·
   refine af rfl (dt p3_c1) ?_
   obtain⟨⟨he1,he2⟩,he3,he4⟩:=hm4 _ (bO (xs:=g.2) (i:=↑e_c1) (by omega) (by omega))
   have hq1:=hov_c1.rl he1 he2
   have hq2:=hov_c1.rl2 he1 he2 he3 he4 (2*(e_c1:Int))
   refine ap (a6 (al (a6 (a0 rfl (mz zs17_c1 (lx (a9 (v:=g_v) (i:=↑e_c1) dB rfl zs15_c1 Rg zs17_c1 (by omega) (by omega)) (lw (vg [vi ((gI g.2 ↑e_c1).1),vi ((gI g.2 ↑e_c1).2)]) (cG (v:=g_v) (i:=↑e_c1) aE rfl Rg (by omega) (by omega) rfl) (lo (bf g37 (is 6) (6,0) rfl aE ?_)))))))))
   intro g41 w38 b40 ch39 bx42
   replace bx42:Bx g41 (is 6) w38 b40 [vi 0,vi 0]:=bx42
   refine ai (e_c1:Int) (lo (aw (cs':=[vi ((gI g.2 ↑e_c1).1),vi ((gI g.2 ↑e_c1).2)]) aE rfl rfl bx42 rfl nq (AllOne.all (.cons rfl (.cons rfl .nil))) rfl ?_))
   intro w43 ch44 bx45
   clear bx42
   refine aa (a6 (a0 rfl (lx (aB (ds:=[vi ((gI g.2 ↑e_c1).1),vi ((gI g.2 ↑e_c1).2)]) aE rfl bx45 rfl rfl) (mi 0 (aa (al (dn (a6 ?_))))))))
   clear bx45
   refine a0 rfl (lx (aZ (m:=0) (n:=2) rfl rfl) (aa (a6 (af rfl rfl (ap (a6 (al (a6 (a0 rfl (mi 0 (lw (vi ((gI g.2 ↑e_c1).1)) (bL cJ ab rfl rfl (by decide) (by decide) rfl) ?_)))))))))))
   refine ai 0 (ai ((gI g.2 ↑e_c1).1) (aa ?_))
   refine bT (σ:=aC) (λgq f w=>bj w0 gq w/\f 3=vp b28 0/\f 4=vi ↑e_c1/\f 15=g_v/\f 16=vi (g.2.length:Int)/\f 17=vi ↑e_c1/\f 22=vg [vi ((gI g.2 ↑e_c1).1),vi ((gI g.2 ↑e_c1).2)]/\f 23=vi 0/\Sl gq (is 0) w g_v g.2/\Bx gq (is 1) w b3 [vi g.1,g_v]/\Bx gq (is 2) w b8 [vn,vn,vn,vn]/\Bx gq (is 5) w b28 [vi g.1,g_v,v22]/\cM gq 4 w v22 (List.set O_c1 (Int.toNat ((gI g.2 ↑e_c1).1)) (gI O_c1 ((gI g.2 ↑e_c1).1)++[(2*(e_c1:Int))+0]))) g41 [0,1,2,4,5,6,7,8,9,10,11,12,13,14,15,18] eT ?_ ?_
   ·
    intro mid
    intro w47 ch46
    refine xp (v:=vp b28 0) 0 rfl (λw=>ak zs3_c1) (xp (v:=vp b28 0) 1 rfl (λw=>ad rfl) (xp 2 rfl (λw=>a7 nP rfl rfl rfl rfl) (xp (v:=vi ((gI g.2 ↑e_c1).1)) 4 rfl (λw=>ak rfl) (xp (v:=vp b28 0) 5 rfl (λw=>ak zs3_c1) (xp (v:=vp b28 0) 6 rfl (λw=>ad rfl) (xp 7 rfl (λw=>a7 nP rfl rfl rfl rfl) ?_))))))
    have C48:=cg [6] (ch39.n.seq ((ch44.l rfl).seq ch46.n))
    replace bx30:=bx30.ca C48
    refine xh 8 [7,6,5,4,2,1,0,3,9,12,14,13,15,16] rfl (λw' hw'=>a8 e9 rfl (bx30.bel hw') rfl) (xp (v:=vi ((gI g.2 ↑e_c1).1)) 9 rfl (λw=>ak rfl) ?_)
    replace o24:=o24.ca C48
    refine xh 10 [9,8,7,6,5,4,2,1,0,3,12,14,13,15,16] rfl (λw' hw'=>a9 (v:=v22) (i:=(gI g.2 ↑e_c1).1) f6 rfl rfl (o24.sl.bel hw') rfl (by omega) (by omega)) ?_
    obtain⟨v49,cel50,r51⟩:=cr (r:=(gI g.2 ↑e_c1).1) o24 (by omega) (by omega)
    refine xh 11 [10,9,8,7,6,5,4,2,1,0,3,12,14,13,15,16] rfl (λw' hw'=>c5 cx rfl (fF cel50 hw')) (xp (v:=vi ↑e_c1) 12 rfl (λw=>ak rfl) (xp 13 rfl (λw=>iM (m:=2) (n:=↑e_c1) rfl rfl (by omega)) (xp (v:=vi 0) 14 rfl (λw=>ak rfl) (xp 15 rfl (λw=>aD (m:=2*(e_c1:Int)) (n:=0) rfl rfl (by omega)) ?_))))
    refine dO 3 16 rfl rfl (by kernel_rfl) rfl rfl ?_ ?_
    ·
     refine am (v:=v22) (a8 e9 rfl bx30 rfl) (aR 16 rfl (by kernel_rfl) rfl (aL (α:=Int) g41 (is 7) (is 7) (7,0) rfl [(2*(e_c1:Int))+0] b6 ab (by decide) (by decide) (vs:=[(0,vi ((2*(e_c1:Int))+0))]) rfl rfl (.cons rfl .nil) ?_))
     intro g52 w53 v54 ch55 o56
     refine aR 17 rfl (by kernel_rfl) rfl ?_
     replace o24:=o24.cn ch55
     replace r51:=r51.cn ch55
     refine bv (α:=Int) (xs:=(gI O_c1 ((gI g.2 ↑e_c1).1))) (ys:=([(2*(e_c1:Int))+0])) g52 (J:=row 4 (Int.toNat ((gI g.2 ↑e_c1).1)+1)) (S:=row 4 (Int.toNat ((gI g.2 ↑e_c1).1)+1)) (4,Int.toNat ((gI g.2 ↑e_c1).1)+1) rfl b6 ab (by decide) rfl rfl rfl r51 o56.flat (by decide) (by(simp;omega)) ?_
     intro g57 w58 v59 ch60 o61
     have o62:=o24.rowchg ch60
     clear o24 cel50 r51
     obtain⟨us63,hl64,r65⟩:=o62.vc
     try simp only[List.length_set,List.length_append,List.length_cons,List.length_nil] at hl64
     refine xv 18 [17,16,3,15,14,13,12,11,10,9,8,7,6,5,4,2,1,0] rfl (a9 (v:=v22) (i:=(gI g.2 ↑e_c1).1) f6 rfl rfl r65 rfl (by omega) (by omega)) (aR 19 rfl (by kernel_rfl) rfl (bG (r:=(gI g.2 ↑e_c1).1) cx rfl rfl o62 o61 (by omega) (by omega) ?_))
     intro w69 ch70 o71
     clear o62 o61
     refine bu (by kernel_rfl) ?_
     have C72:=cg [4,6] (ch39.n.seq ((ch44.l rfl).seq (ch46.n.seq (ch55.n.seq ((ch60.lr rfl).seq (ch70.l rfl))))))
     have C73:=cg [4] (ch55.n.seq ((ch60.lr rfl).seq (ch70.l rfl)))
     exact mid (g57) _ _ ⟨bH.ca C72,zs3_c1,rfl,zs15_c1,zs16_c1,zs17_c1,rfl,rfl,Rg.ca C72,bx5.ca C72,bx10.ca C72,bx30.ca C73,o71⟩
    ·
     refine aL (α:=Int) g41 (is 7) (is 7) (7,0) rfl [(2*(e_c1:Int))+0] b6 ab (by decide) (by decide) (vs:=[(0,vi ((2*(e_c1:Int))+0))]) rfl rfl (.cons rfl .nil) ?_
     intro g74 w75 v76 ch77 o78
     refine dO 3 17 rfl rfl (by kernel_rfl) rfl rfl ?_ ?_
     ·
      replace bx30:=bx30.cn ch77
      refine am (v:=v22) (a8 e9 rfl bx30 rfl) (aR 17 rfl (by kernel_rfl) rfl ?_)
      replace o24:=o24.cn ch77
      replace r51:=r51.cn ch77
      refine bv (α:=Int) (xs:=(gI O_c1 ((gI g.2 ↑e_c1).1))) (ys:=([(2*(e_c1:Int))+0])) g74 (J:=row 4 (Int.toNat ((gI g.2 ↑e_c1).1)+1)) (S:=row 4 (Int.toNat ((gI g.2 ↑e_c1).1)+1)) (4,Int.toNat ((gI g.2 ↑e_c1).1)+1) rfl b6 ab (by decide) rfl rfl rfl r51 o78.flat (by decide) (by(simp;omega)) ?_
      intro g79 w80 v81 ch82 o83
      have o84:=o24.rowchg ch82
      clear o24 cel50 r51
      obtain⟨us85,hl86,r87⟩:=o84.vc
      try simp only[List.length_set,List.length_append,List.length_cons,List.length_nil] at hl86
      refine xv 18 [17,3,16,15,14,13,12,11,10,9,8,7,6,5,4,2,1,0] rfl (a9 (v:=v22) (i:=(gI g.2 ↑e_c1).1) f6 rfl rfl r87 rfl (by omega) (by omega)) (aR 19 rfl (by kernel_rfl) rfl (bG (r:=(gI g.2 ↑e_c1).1) cx rfl rfl o84 o83 (by omega) (by omega) ?_))
      intro w91 ch92 o93
      clear o84 o83
      refine bu (by kernel_rfl) ?_
      have C94:=cg [4,6] (ch39.n.seq ((ch44.l rfl).seq (ch46.n.seq (ch77.n.seq ((ch82.lr rfl).seq (ch92.l rfl))))))
      exact mid (g79) _ _ ⟨bH.ca C94,zs3_c1,rfl,zs15_c1,zs16_c1,zs17_c1,rfl,rfl,Rg.ca C94,bx5.ca C94,bx10.ca C94,(bx30.chg ch82 (fV rfl)).ce ch92,o93⟩
     ·
      replace o24:=o24.cn ch77
      replace r51:=r51.cn ch77
      refine bv (α:=Int) (xs:=(gI O_c1 ((gI g.2 ↑e_c1).1))) (ys:=([(2*(e_c1:Int))+0])) g74 (J:=row 4 (Int.toNat ((gI g.2 ↑e_c1).1)+1)) (S:=row 4 (Int.toNat ((gI g.2 ↑e_c1).1)+1)) (4,Int.toNat ((gI g.2 ↑e_c1).1)+1) rfl b6 ab (by decide) rfl rfl rfl r51 o78.flat (by decide) (by(simp;omega)) ?_
      intro g95 w96 v97 ch98 o99
      have o100:=o24.rowchg ch98
      clear o24 cel50 r51
      replace bx30:=(bx30.cn ch77).chg ch98 (fV rfl)
      refine aR 3 rfl (by kernel_rfl) rfl (am (v:=v22) (a8 e9 rfl bx30 rfl) ?_)
      obtain⟨us101,hl102,r103⟩:=o100.vc
      try simp only[List.length_set,List.length_append,List.length_cons,List.length_nil] at hl102
      refine xv 18 [3,17,16,15,14,13,12,11,10,9,8,7,6,5,4,2,1,0] rfl (a9 (v:=v22) (i:=(gI g.2 ↑e_c1).1) f6 rfl rfl r103 rfl (by omega) (by omega)) (aR 19 rfl (by kernel_rfl) rfl (bG (r:=(gI g.2 ↑e_c1).1) cx rfl rfl o100 o99 (by omega) (by omega) ?_))
      intro w107 ch108 o109
      clear o100 o99
      refine bu (by kernel_rfl) ?_
      have C110:=cg [4,6] (ch39.n.seq ((ch44.l rfl).seq (ch46.n.seq (ch77.n.seq ((ch98.lr rfl).seq (ch108.l rfl))))))
      exact mid (g95) _ _ ⟨bH.ca C110,zs3_c1,rfl,zs15_c1,zs16_c1,zs17_c1,rfl,rfl,Rg.ca C110,bx5.ca C110,bx10.ca C110,bx30.ce ch108,o109⟩
   clear Rg bx5 bx10 o24 bx30 bH
   rintro g113 f111 w112 ⟨bH,zs3_c1,zs4_c1,zs15_c1,zs16_c1,zs17_c1,zs22_c1,zs23_c1,Rg,bx5,bx10,bx30,o68⟩
   refine ag (a0 rfl (lx (aD (m:=0) (n:=1) zs23_c1 rfl (by omega)) (mi 1 (aa (aX (a6 (a0 rfl (lx (aZ (m:=1) (n:=2) rfl rfl) (aa (a6 (af rfl rfl ?_)))))))))))
   refine ap (a6 (al (a6 (a0 rfl (mi 1 (lw (vi ((gI g.2 ↑e_c1).2)) (bL cJ ab zs22_c1 rfl (by decide) (by decide) rfl) (ai 1 (ai ((gI g.2 ↑e_c1).2) (aa ?_)))))))))
   refine bT (σ:=aC) (λgq f w=>bj w0 gq w/\f 3=vp b28 0/\f 4=vi ↑e_c1/\f 15=g_v/\f 16=vi (g.2.length:Int)/\f 17=vi ↑e_c1/\f 22=vg [vi ((gI g.2 ↑e_c1).1),vi ((gI g.2 ↑e_c1).2)]/\f 23=vi 1/\Sl gq (is 0) w g_v g.2/\Bx gq (is 1) w b3 [vi g.1,g_v]/\Bx gq (is 2) w b8 [vn,vn,vn,vn]/\Bx gq (is 5) w b28 [vi g.1,g_v,v22]/\cM gq 4 w v22 (List.set (List.set O_c1 (Int.toNat ((gI g.2 ↑e_c1).1)) (gI O_c1 ((gI g.2 ↑e_c1).1)++[(2*(e_c1:Int))+0])) (Int.toNat ((gI g.2 ↑e_c1).2)) (gI (List.set O_c1 (Int.toNat ((gI g.2 ↑e_c1).1)) (gI O_c1 ((gI g.2 ↑e_c1).1)++[(2*(e_c1:Int))+0])) ((gI g.2 ↑e_c1).2)++[(2*(e_c1:Int))+1]))) g113 [0,1,2,4,5,6,7,8,9,10,11,12,13,14,15,18] eT ?_ ?_
   ·
    intro mid
    intro w115 ch114
    refine xp (v:=vp b28 0) 0 rfl (λw=>ak zs3_c1) (xp (v:=vp b28 0) 1 rfl (λw=>ad rfl) (xp 2 rfl (λw=>a7 nP rfl rfl rfl rfl) (xp (v:=vi ((gI g.2 ↑e_c1).2)) 4 rfl (λw=>ak rfl) (xp (v:=vp b28 0) 5 rfl (λw=>ak zs3_c1) (xp (v:=vp b28 0) 6 rfl (λw=>ad rfl) (xp 7 rfl (λw=>a7 nP rfl rfl rfl rfl) ?_))))))
    replace bx30:=bx30.cn ch114
    refine xh 8 [7,6,5,4,2,1,0,3,9,12,14,13,15,16] rfl (λw' hw'=>a8 e9 rfl (bx30.bel hw') rfl) (xp (v:=vi ((gI g.2 ↑e_c1).2)) 9 rfl (λw=>ak rfl) ?_)
    replace o68:=o68.cn ch114
    refine xh 10 [9,8,7,6,5,4,2,1,0,3,12,14,13,15,16] rfl (λw' hw'=>a9 (v:=v22) (i:=(gI g.2 ↑e_c1).2) f6 rfl rfl (o68.sl.bel hw') rfl (by omega) (by(simp only[List.length_set,List.length_append,List.length_cons,List.length_nil,List.length_replicate,List.length_map,List.length_take,List.length_drop];omega))) ?_
    obtain⟨v116,cel117,r118⟩:=cr (r:=(gI g.2 ↑e_c1).2) o68 (by omega) (by(simp only[List.length_set,List.length_append,List.length_cons,List.length_nil,List.length_replicate,List.length_map,List.length_take,List.length_drop];omega))
    refine xh 11 [10,9,8,7,6,5,4,2,1,0,3,12,14,13,15,16] rfl (λw' hw'=>c5 cx rfl (fF cel117 hw')) (xp (v:=vi ↑e_c1) 12 rfl (λw=>ak zs4_c1) (xp 13 rfl (λw=>iM (m:=2) (n:=↑e_c1) rfl rfl (by omega)) (xp (v:=vi 1) 14 rfl (λw=>ak rfl) (xp 15 rfl (λw=>aD (m:=2*(e_c1:Int)) (n:=1) rfl rfl (by omega)) ?_))))
    refine dO 3 16 rfl rfl (by kernel_rfl) rfl rfl ?_ ?_
    ·
     refine am (v:=v22) (a8 e9 rfl bx30 rfl) (aR 16 rfl (by kernel_rfl) rfl (aL (α:=Int) g113 (is 7) (is 7) (7,0) rfl [(2*(e_c1:Int))+1] b6 ab (by decide) (by decide) (vs:=[(0,vi ((2*(e_c1:Int))+1))]) rfl rfl (.cons rfl .nil) ?_))
     intro g119 w120 v121 ch122 o123
     refine aR 17 rfl (by kernel_rfl) rfl ?_
     replace o68:=o68.cn ch122
     replace r118:=r118.cn ch122
     refine bv (α:=Int) (xs:=(gI (List.set O_c1 (Int.toNat ((gI g.2 ↑e_c1).1)) (gI O_c1 ((gI g.2 ↑e_c1).1)++[(2*(e_c1:Int))+0])) ((gI g.2 ↑e_c1).2))) (ys:=([(2*(e_c1:Int))+1])) g119 (J:=row 4 (Int.toNat ((gI g.2 ↑e_c1).2)+1)) (S:=row 4 (Int.toNat ((gI g.2 ↑e_c1).2)+1)) (4,Int.toNat ((gI g.2 ↑e_c1).2)+1) rfl b6 ab (by decide) rfl rfl rfl r118 o123.flat (by decide) (by(simp;omega)) ?_
     intro g124 w125 v126 ch127 o128
     have o129:=o68.rowchg ch127
     clear o68 cel117 r118
     obtain⟨us130,hl131,r132⟩:=o129.vc
     try simp only[List.length_set,List.length_append,List.length_cons,List.length_nil] at hl131
     refine xv 18 [17,16,3,15,14,13,12,11,10,9,8,7,6,5,4,2,1,0] rfl (a9 (v:=v22) (i:=(gI g.2 ↑e_c1).2) f6 rfl rfl r132 rfl (by omega) (by omega)) (aR 19 rfl (by kernel_rfl) rfl (bG (r:=(gI g.2 ↑e_c1).2) cx rfl rfl o129 o128 (by omega) (by(simp only[List.length_set,List.length_append,List.length_cons,List.length_nil,List.length_replicate,List.length_map,List.length_take,List.length_drop];omega)) ?_))
     intro w136 ch137 o138
     clear o129 o128
     refine bu (by kernel_rfl) ?_
     have C140:=cg [4] (ch122.n.seq ((ch127.lr rfl).seq (ch137.l rfl)))
     have C139:=ch114.n.seq C140
     exact mid (g124) _ _ ⟨bH.ca C139,zs3_c1,zs4_c1,zs15_c1,zs16_c1,zs17_c1,zs22_c1,rfl,Rg.ca C139,bx5.ca C139,bx10.ca C139,bx30.ca C140,o138⟩
    ·
     refine aL (α:=Int) g113 (is 7) (is 7) (7,0) rfl [(2*(e_c1:Int))+1] b6 ab (by decide) (by decide) (vs:=[(0,vi ((2*(e_c1:Int))+1))]) rfl rfl (.cons rfl .nil) ?_
     intro g141 w142 v143 ch144 o145
     refine dO 3 17 rfl rfl (by kernel_rfl) rfl rfl ?_ ?_
     ·
      replace bx30:=bx30.cn ch144
      refine am (v:=v22) (a8 e9 rfl bx30 rfl) (aR 17 rfl (by kernel_rfl) rfl ?_)
      replace o68:=o68.cn ch144
      replace r118:=r118.cn ch144
      refine bv (α:=Int) (xs:=(gI (List.set O_c1 (Int.toNat ((gI g.2 ↑e_c1).1)) (gI O_c1 ((gI g.2 ↑e_c1).1)++[(2*(e_c1:Int))+0])) ((gI g.2 ↑e_c1).2))) (ys:=([(2*(e_c1:Int))+1])) g141 (J:=row 4 (Int.toNat ((gI g.2 ↑e_c1).2)+1)) (S:=row 4 (Int.toNat ((gI g.2 ↑e_c1).2)+1)) (4,Int.toNat ((gI g.2 ↑e_c1).2)+1) rfl b6 ab (by decide) rfl rfl rfl r118 o145.flat (by decide) (by(simp;omega)) ?_
      intro g146 w147 v148 ch149 o150
      have o151:=o68.rowchg ch149
      clear o68 cel117 r118
      obtain⟨us152,hl153,r154⟩:=o151.vc
      try simp only[List.length_set,List.length_append,List.length_cons,List.length_nil] at hl153
      refine xv 18 [17,3,16,15,14,13,12,11,10,9,8,7,6,5,4,2,1,0] rfl (a9 (v:=v22) (i:=(gI g.2 ↑e_c1).2) f6 rfl rfl r154 rfl (by omega) (by omega)) (aR 19 rfl (by kernel_rfl) rfl (bG (r:=(gI g.2 ↑e_c1).2) cx rfl rfl o151 o150 (by omega) (by(simp only[List.length_set,List.length_append,List.length_cons,List.length_nil,List.length_replicate,List.length_map,List.length_take,List.length_drop];omega)) ?_))
      intro w158 ch159 o160
      clear o151 o150
      refine bu (by kernel_rfl) ?_
      have C161:=cg [4] (ch114.n.seq (ch144.n.seq ((ch149.lr rfl).seq (ch159.l rfl))))
      exact mid (g146) _ _ ⟨bH.ca C161,zs3_c1,zs4_c1,zs15_c1,zs16_c1,zs17_c1,zs22_c1,rfl,Rg.ca C161,bx5.ca C161,bx10.ca C161,(bx30.chg ch149 (fV rfl)).ce ch159,o160⟩
     ·
      replace o68:=o68.cn ch144
      replace r118:=r118.cn ch144
      refine bv (α:=Int) (xs:=(gI (List.set O_c1 (Int.toNat ((gI g.2 ↑e_c1).1)) (gI O_c1 ((gI g.2 ↑e_c1).1)++[(2*(e_c1:Int))+0])) ((gI g.2 ↑e_c1).2))) (ys:=([(2*(e_c1:Int))+1])) g141 (J:=row 4 (Int.toNat ((gI g.2 ↑e_c1).2)+1)) (S:=row 4 (Int.toNat ((gI g.2 ↑e_c1).2)+1)) (4,Int.toNat ((gI g.2 ↑e_c1).2)+1) rfl b6 ab (by decide) rfl rfl rfl r118 o145.flat (by decide) (by(simp;omega)) ?_
      intro g162 w163 v164 ch165 o166
      have o167:=o68.rowchg ch165
      clear o68 cel117 r118
      replace bx30:=(bx30.cn ch144).chg ch165 (fV rfl)
      refine aR 3 rfl (by kernel_rfl) rfl (am (v:=v22) (a8 e9 rfl bx30 rfl) ?_)
      obtain⟨us168,hl169,r170⟩:=o167.vc
      try simp only[List.length_set,List.length_append,List.length_cons,List.length_nil] at hl169
      refine xv 18 [3,17,16,15,14,13,12,11,10,9,8,7,6,5,4,2,1,0] rfl (a9 (v:=v22) (i:=(gI g.2 ↑e_c1).2) f6 rfl rfl r170 rfl (by omega) (by omega)) (aR 19 rfl (by kernel_rfl) rfl (bG (r:=(gI g.2 ↑e_c1).2) cx rfl rfl o167 o166 (by omega) (by(simp only[List.length_set,List.length_append,List.length_cons,List.length_nil,List.length_replicate,List.length_map,List.length_take,List.length_drop];omega)) ?_))
      intro w174 ch175 o176
      clear o167 o166
      refine bu (by kernel_rfl) ?_
      have C177:=cg [4] (ch114.n.seq (ch144.n.seq ((ch165.lr rfl).seq (ch175.l rfl))))
      exact mid (g162) _ _ ⟨bH.ca C177,zs3_c1,zs4_c1,zs15_c1,zs16_c1,zs17_c1,zs22_c1,rfl,Rg.ca C177,bx5.ca C177,bx10.ca C177,bx30.ce ch175,o176⟩
   clear Rg bx5 bx10 bx30 o68 bH
   rintro g180 f178 w179 ⟨bH,zs3_c1,zs4_c1,zs15_c1,zs16_c1,zs17_c1,zs22_c1,zs23_c1,Rg,bx5,bx10,bx30,o136⟩
   refine ag (a0 rfl (lx (aD (m:=1) (n:=1) zs23_c1 rfl (by omega)) (mi 2 (aa (aX (a6 (a0 rfl (lx (aZ (m:=2) (n:=2) rfl rfl) (aa (a6 (ae rfl rfl ?_)))))))))))
   refine aF rfl (ag (a0 rfl (lx (aD (m:=↑e_c1) (n:=1) zs17_c1 rfl (by omega)) (mi ((e_c1:Int)+1) (aa ?_)))))
   refine back3_c1 (e_c1+1,(List.set (List.set O_c1 (Int.toNat ((gI g.2 ↑e_c1).1)) (gI O_c1 ((gI g.2 ↑e_c1).1)++[(2*(e_c1:Int))+0])) (Int.toNat ((gI g.2 ↑e_c1).2)) (gI (List.set O_c1 (Int.toNat ((gI g.2 ↑e_c1).1)) (gI O_c1 ((gI g.2 ↑e_c1).1)++[(2*(e_c1:Int))+0])) ((gI g.2 ↑e_c1).2)++[(2*(e_c1:Int))+1])),g180) _ _ ⟨bH,zs3_c1,zs15_c1,zs16_c1,rfl,Rg,bx5,bx10,o136,bx30,by omega,?_⟩ ?_
   · show cC (List.set (List.set O_c1 (Int.toNat ((gI g.2 ↑e_c1).1)) (gI O_c1 ((gI g.2 ↑e_c1).1)++[(2*(e_c1:Int))+0])) (Int.toNat ((gI g.2 ↑e_c1).2)) (gI (List.set O_c1 (Int.toNat ((gI g.2 ↑e_c1).1)) (gI O_c1 ((gI g.2 ↑e_c1).1)++[(2*(e_c1:Int))+0])) ((gI g.2 ↑e_c1).2)++[(2*(e_c1:Int))+1])) g (e_c1+1)
     exact hov_c1.next he1 he2 he3 he4 (by omega) (by omega)
   · show Int.toNat (((g.2.length:Int):Int)-((e_c1+1):Int))<Int.toNat (((g.2.length:Int):Int)-(e_c1:Int))
     omega
  refine ae rfl (df p3_c1) (aF rfl (a6 (a0 rfl (mz zs3_c1 (ma (vp b28 0) (aa (aA (vs:=[vp b28 0]) Try.func53 (.tmp rfl .nil) ?_)))))))
  refine⟨vp b28 0,rfl,?_⟩
  refine mi s (lo (bq (aV (vals:=[vp b28 0,vi s]) Try.func54 ph nS rfl) (ar Try.func54 rfl nq ?_)))
  have hOut:=hov_c1.done (by omega)
  refine a6 (a0 rfl (dG rfl (bf g37 (is 8) (8,0) rfl cD ?_)))
  intro g184 w181 b183 ch182 bx185
  replace bx185:Bx g184 (is 8) w181 b183 [vn,vn,vn,vn]:=bx185
  refine aa (a6 (a0 rfl (mv (vp b28 0) (lw (vp b28 0) (ad rfl) (lx (a7 nP rfl rfl rfl rfl) (lx (a7 d5 rfl rfl rfl rfl) ?_))))))
  replace bx30:=bx30.cn ch182
  refine lx (a8 ab rfl bx30 rfl) (mi s (lo (bq (aV (vals:=[vi g.1,vi s]) Try.func62 oF oy rfl) (ar Try.func62 rfl nq (a6 (a0 rfl (dG rfl (bf g184 (is 9) (9,0) rfl cD ?_))))))))
  intro g189 w186 b188 ch187 bx190
  replace bx190:Bx g189 (is 9) w186 b188 [vn,vn,vn,vn]:=bx190
  refine aa (a6 (a0 rfl (mi s (lo (aL (α:=Int) g189 (is 10) (is 10) (10,0) rfl [s] b6 ab (by decide) (by decide) (vs:=[(0,vi s)]) rfl rfl (.cons rfl .nil) ?_)))))
  intro g191 w192 v193 ch194 o195
  refine mi g.1 (lo (cw (aV (vals:=[vi g.1,vi (-1)]) Try.func81 lE lq rfl) (iO w192 g.1 (-1) (by omega)) ?_))
  rintro⟨d197,v199⟩ w196 ⟨fr198,o200⟩
  obtain⟨g201,ch202,G201⟩:=js g191 fr198 (λn=>if n=1 then 11 else 0)
  replace o200:=o200.gl G201 11
  refine mi g.1 (lo (cw (aV (vals:=[vi g.1,vi (-1)]) Try.func81 lE lq rfl) (iO w196 g.1 (-1) (by omega)) ?_))
  rintro⟨d204,v206⟩ w203 ⟨fr205,o207⟩
  obtain⟨g208,ch209,G208⟩:=js g201 fr205 (λn=>if n=1 then 12 else 0)
  replace o207:=o207.gl G208 12
  replace o195:=(o195.cn ch202).cn ch209
  replace o200:=o200.cn ch209
  refine lw (vg [v193,v199,v206,vn]) (bh (vs:=[(0,v193),(1,v199),(2,v206)]) rfl (by rw[Sl.form o195.flat,Sl.form o200.flat,Sl.form o207.flat];kernel_rfl)) (lo (bf g208 (is 13) (13,0) rfl cD ?_))
  intro g213 w210 b212 ch211 bx214
  replace bx214:Bx g213 (is 13) w210 b212 [vn,vn,vn,vn]:=bx214
  refine lo ?_
  replace o207:=o207.cn ch211
  replace o200:=o200.cn ch211
  replace o195:=o195.cn ch211
  refine aw (cs':=[v193,v199,v206,vn]) cD rfl rfl bx214 rfl nq (AllOne.all (.cons (bp o195.flat) (.cons (bp o200.flat) (.cons (bp o207.flat) (.cons rfl .nil))))) rfl ?_
  intro w215 ch216 bx217
  clear bx214
  refine aa (a6 (a0 rfl (lx (a7 mB rfl rfl rfl rfl) (lx (a8 cx rfl bx217 rfl) (mi s ?_)))))
  replace o207:=o207.ce ch216
  refine lx (a9 (v:=v206) (i:=s) b6 rfl rfl o207.flat rfl (by omega) (by omega)) (lo (av (i:=s) 0 ab rfl rfl o207 (by omega) (by omega) rfl ?_))
  intro w218 ch219 bx220
  clear o207
  refine aa (a6 (a0 rfl ?_))
  replace bx217:=bx217.ce ch219
  refine lx (aB (ds:=[v193,v199,v206,vn]) cD rfl bx217 rfl rfl) (lo ?_)
  have C224:=cg [12,13] (ch194.n.seq (ch202.n.seq (ch209.n.seq (ch211.n.seq ((ch216.l rfl).seq (ch219.l rfl))))))
  replace bx190:=bx190.ca C224
  replace o200:=(o200.ce ch216).ce ch219
  replace o195:=(o195.ce ch216).ce ch219
  refine aw (cs':=[v193,v199,v206,vn]) cD rfl rfl bx190 rfl nq (AllOne.all (.cons (bp o195.flat) (.cons (bp o200.flat) (.cons (bp bx220.flat) (.cons rfl .nil))))) rfl ?_
  intro w221 ch222 bx223
  clear bx190
  refine aa (aA (vs:=[vg [v193,v199,v206,vn]]) Try.func62 (.cell rfl (d7 (ds:=[v193,v199,v206,vn]) cD bx223 rfl rfl) .nil) ?_)
  refine⟨vg [v193,v199,v206,vn],rfl,?_⟩
  refine lo (bf g213 (is 14) (14,0) rfl cD ?_)
  intro g228 w225 b227 ch226 bx229
  replace bx229:Bx g228 (is 14) w225 b227 [vn,vn,vn,vn]:=bx229
  refine lo ?_
  replace bx220:=(bx220.ce ch222).cn ch226
  replace o200:=(o200.ce ch222).cn ch226
  replace o195:=(o195.ce ch222).cn ch226
  refine aw (cs':=[v193,v199,v206,vn]) cD rfl rfl bx229 rfl nq (AllOne.all (.cons (bp o195.flat) (.cons (bp o200.flat) (.cons (bp bx220.flat) (.cons rfl .nil))))) rfl ?_
  intro w230 ch231 bx232
  clear bx229
  refine aa (a6 (a6 ?_))
  clear bx217 bx223
  refine a0 rfl (ai 0 (aa (al ?_)))
  refine bd (σ:=Value×(List Int)×Nat×(List Int)×(List Int)×aC) (λ⟨Or_c2_v,Or_c2,i_c2,By_c2,Fa_c2,gq⟩ f w=>bj w0 gq w/\f 0=vp b28 0/\f 4=vp b183 0/\f 5=vp b227 0/\f 6=vi ↑i_c2/\Sl gq (is 0) w g_v g.2/\Bx gq (is 1) w b3 [vi g.1,g_v]/\Bx gq (is 2) w b8 [vn,vn,vn,vn]/\cM gq 4 w v22 O_c1/\Bx gq (is 5) w b28 [vi g.1,g_v,v22]/\Bx gq (is 8) w b183 [vn,vn,vn,vn]/\Ow gq (is 11) (is 11) w v199 By_c2/\Ow gq (is 12) (is 12) w v206 Fa_c2/\Bx gq (is 14) w b227 [Or_c2_v,v199,v206,vn]/\Ow gq (is 10) (is 10) w Or_c2_v Or_c2/\(dY ⟨Or_c2,By_c2,Fa_c2⟩ g s i_c2)) (λ⟨Or_c2_v,Or_c2,i_c2,By_c2,Fa_c2,gq⟩=>Int.toNat g.1-i_c2) (v193,[s],0,List.replicate g.1.toNat (-1),(List.set (List.replicate g.1.toNat (-1)) (Int.toNat s) 0),g228) ?_ ?_
  have C234:=cg [9,12,13,14] (ch187.n.seq (ch194.n.seq (ch202.n.seq (ch209.n.seq (ch211.n.seq ((ch216.l rfl).seq ((ch219.l rfl).seq ((ch222.l rfl).seq (ch226.n.seq (ch231.l rfl))))))))))
  have C233:=ch182.n.seq C234
  · exact⟨bH.ca C233,rfl,rfl,rfl,rfl,Rg.ca C233,bx5.ca C233,bx10.ca C233,o24.ca C233,bx30.ca C234,bx185.ca C234,o200.ce ch231,bx220.ce ch231,bx232,o195.ce ch231,by exact dY.start (by omega) (by omega)⟩
  clear Rg bx5 bx10 o24 bx30 bx185 o195 o200 bx220 bx232 bH
  rintro⟨Or_c2_v,Or_c2,i_c2,By_c2,Fa_c2,g237⟩ f235 w236 ⟨bH,zs0_c2,zs4_c2,zs5_c2,zs6_c2,Rg,bx5,bx10,o24,bx30,bx185,o200,bx220,bx232,o_Or_c2,hgo_c2⟩ back3_c2
  obtain⟨hgf,hgb,hgl,hgi⟩:=hgo_c2.facts hm1
  refine a6 (a6 (a0 rfl (mz zs6_c2 (lx (a7 mB rfl rfl zs5_c2 rfl) (lx (a8 cx rfl bx232 rfl) ?_)))))
  have len238:=(o_Or_c2.flat).small
  refine lx (bC b6 rfl o_Or_c2.flat) (lx (aZ (m:=↑i_c2) (n:=(Or_c2.length:Int)) rfl rfl) (aa ?_))
  by_cases p3_c2:(i_c2:Int)<(Or_c2.length:Int)
  ·
   refine af rfl (dt p3_c2) ?_
   have hnode:=hgo_c2.node ‹_›
   have hO1:=hov_c1.len
   refine ap (a6 (al (a6 (a0 rfl (lx (a7 mB rfl rfl zs5_c2 rfl) (lx (a8 cx rfl bx232 rfl) (mz zs6_c2 (lx (a9 (v:=Or_c2_v) (i:=↑i_c2) b6 rfl rfl o_Or_c2.flat rfl (by omega) (by omega)) (lx (ah (v:=Or_c2_v) (i:=↑i_c2) ab rfl o_Or_c2.flat (by omega) (by omega) (by decide) rfl) (ai (gI Or_c2 ↑i_c2) ?_))))))))))
   refine aa (a6 (a0 rfl (mz zs0_c2 (lw (vp b28 0) (ad rfl) (lx (a7 nP rfl rfl rfl rfl) (lx (a8 e9 rfl bx30 rfl) (mi (gI Or_c2 ↑i_c2) (lx (a9 (v:=v22) (i:=(gI Or_c2 ↑i_c2)) f6 rfl rfl o24.sl rfl (by omega) (by omega)) ?_))))))))
   obtain⟨v239,cel240,r241⟩:=cr (r:=(gI Or_c2 ↑i_c2)) o24 (by omega) (by omega)
   refine lx (c5 cx rfl cel240) ?_
   have len242:=(r241.row_sl).small
   refine lx (bC b6 rfl r241.row_sl) (mi 0 (aa (al ?_)))
   refine bd (σ:=Value×(List Int)×Nat×(List Int)×(List Int)×aC) (λ⟨Os_c2_v,Os_c2,j_c2,Bs_c2,Fs_c2,gq⟩ f w=>bj w0 gq w/\f 0=vp b28 0/\f 4=vp b183 0/\f 5=vp b227 0/\f 6=vi ↑i_c2/\f 7=vi (gI Or_c2 ↑i_c2)/\f 35=v239/\f 36=vi (List.length (gI O_c1 (gI Or_c2 ↑i_c2)):Int)/\f 37=vi ↑j_c2/\Sl gq (is 0) w g_v g.2/\Bx gq (is 1) w b3 [vi g.1,g_v]/\Bx gq (is 2) w b8 [vn,vn,vn,vn]/\cM gq 4 w v22 O_c1/\Bx gq (is 5) w b28 [vi g.1,g_v,v22]/\Bx gq (is 8) w b183 [vn,vn,vn,vn]/\Ow gq (is 11) (is 11) w v199 Bs_c2/\Ow gq (is 12) (is 12) w v206 Fs_c2/\Bx gq (is 14) w b227 [Os_c2_v,v199,v206,vn]/\Ow gq (row 4 (Int.toNat (gI Or_c2 ↑i_c2)+1)) (row 4 (Int.toNat (gI Or_c2 ↑i_c2)+1)) w v239 (gI O_c1 (gI Or_c2 ↑i_c2))/\Ow gq (is 10) (is 10) w Os_c2_v Os_c2/\(j_c2:Int)<=((List.length (gI O_c1 (gI Or_c2 ↑i_c2)):Int):Int)/\(cV ⟨Os_c2,Bs_c2,Fs_c2⟩ g ⟨Or_c2,By_c2,Fa_c2⟩ (gI Or_c2 ↑i_c2) j_c2)) (λ⟨Os_c2_v,Os_c2,j_c2,Bs_c2,Fs_c2,gq⟩=>Int.toNat (((List.length (gI O_c1 (gI Or_c2 ↑i_c2)):Int):Int)-(j_c2:Int))) (Or_c2_v,Or_c2,0,By_c2,Fa_c2,g237) ?_ ?_
   · exact⟨bH,zs0_c2,zs4_c2,zs5_c2,zs6_c2,rfl,rfl,rfl,rfl,Rg,bx5,bx10,o24,bx30,bx185,o200,bx220,bx232,r241,o_Or_c2,by omega,by exact hgo_c2.row ‹_›⟩
   clear Rg bx5 bx10 o24 bx30 bx185 o200 bx220 bx232 o_Or_c2 cel240 r241 bH
   rintro⟨Os_c2_v,Os_c2,j_c2,Bs_c2,Fs_c2,g245⟩ f243 w244 ⟨bH,zs0_c2,zs4_c2,zs5_c2,zs6_c2,zs7_c2,zs35_c2,zs36_c2,zs37_c2,Rg,bx5,bx10,o24,bx30,bx185,o200,bx220,bx232,r241,o_Os_c2,hle_j_c2,hrw⟩ back7_c2
   obtain⟨hr1,hr2,hr3,hr4,hr5,hr6⟩:=hrw.facts hm1
   have hrow:=hOut _ hr4.1 hr4.2
   refine a6 (a0 rfl (lx (aZ (m:=↑j_c2) (n:=(List.length (gI O_c1 (gI Or_c2 ↑i_c2)):Int)) zs37_c2 zs36_c2) (aa (a6 ?_))))
   by_cases p7_c2:(j_c2:Int)<(List.length (gI O_c1 (gI Or_c2 ↑i_c2)):Int)
   ·
    refine af rfl (dt p7_c2) ?_
    have hjl:(j_c2:Int)<(e8 g (gI Or_c2 ↑i_c2)).length:=by rw[<-hrow];assumption
    have hhe:gI (gI O_c1 (gI Or_c2 ↑i_c2)) (j_c2:Int)=gI (e8 g (gI Or_c2 ↑i_c2)) (j_c2:Int):=by rw[hrow]
    have hhr:=(eF (bO (xs:=e8 g (gI Or_c2 ↑i_c2)) (i:=↑j_c2) (by omega) hjl)).1
    rw[<-hhe] at hhr
    have hti:=eB hm hhr.1 hhr.2
    unfold bA at hti
    refine ap (a6 (al (a6 (a0 rfl (lx (a9 (v:=v239) (i:=↑j_c2) b6 rfl zs35_c2 r241.row_sl zs37_c2 (by omega) (by omega)) (lx (ah (v:=v239) (i:=↑j_c2) ab rfl r241.row_sl (by omega) (by omega) (by decide) rfl) (ai (gI (gI O_c1 (gI Or_c2 ↑i_c2)) (j_c2:Int)) (aa (a6 ?_)))))))))
    refine bT (σ:=aC) (λgq f w=>bj w0 gq w/\f 0=vp b28 0/\f 4=vp b183 0/\f 5=vp b227 0/\f 6=vi ↑i_c2/\f 7=vi (gI Or_c2 ↑i_c2)/\f 9=vi (gI (gI O_c1 (gI Or_c2 ↑i_c2)) (j_c2:Int))/\f 35=v239/\f 36=vi (List.length (gI O_c1 (gI Or_c2 ↑i_c2)):Int)/\f 37=vi ↑j_c2/\f 48=vb (decide ((gI Fs_c2 (pI (gI g.2 ((gI (gI O_c1 (gI Or_c2 ↑i_c2)) (j_c2:Int))/2)) (1-((gI (gI O_c1 (gI Or_c2 ↑i_c2)) (j_c2:Int))%2))))<0))/\Sl gq (is 0) w g_v g.2/\Bx gq (is 1) w b3 [vi g.1,g_v]/\Bx gq (is 2) w b8 [vn,vn,vn,vn]/\cM gq 4 w v22 O_c1/\Bx gq (is 5) w b28 [vi g.1,g_v,v22]/\Bx gq (is 8) w b183 [vn,vn,vn,vn]/\Ow gq (is 11) (is 11) w v199 Bs_c2/\Ow gq (is 12) (is 12) w v206 Fs_c2/\Bx gq (is 14) w b227 [Os_c2_v,v199,v206,vn]/\Ow gq (row 4 (Int.toNat (gI Or_c2 ↑i_c2)+1)) (row 4 (Int.toNat (gI Or_c2 ↑i_c2)+1)) w v239 (gI O_c1 (gI Or_c2 ↑i_c2))/\Ow gq (is 10) (is 10) w Os_c2_v Os_c2) g245 [0,2,3,5,6,7] eT ?_ ?_
    ·
     intro mid
     intro w247 ch246
     refine xp 0 rfl (λw=>a7 mB rfl rfl zs5_c2 rfl) (xp (v:=vp b28 0) 2 rfl (λw=>ak zs0_c2) (xp (v:=vi (gI (gI O_c1 (gI Or_c2 ↑i_c2)) (j_c2:Int))) 3 rfl (λw=>ak rfl) ?_))
     refine dO 1 4 rfl rfl (by kernel_rfl) rfl rfl ?_ ?_
     ·
      replace bx232:=bx232.cn ch246
      refine am (v:=v206) (a8 cx rfl bx232 rfl) (aR 4 rfl (by kernel_rfl) rfl (bq (aV (vals:=[vp b28 0,vi (gI (gI O_c1 (gI Or_c2 ↑i_c2)) (j_c2:Int))]) Try.func63 j2 jn rfl) (ar Try.func63 rfl nq ?_)))
      replace Rg:=Rg.cn ch246
      replace o24:=o24.cn ch246
      refine a6 (a0 rfl (ai 0 (aa (a6 (a0 rfl (mv (vp b28 0) (lw (vp b28 0) (ad rfl) (lx (a7 nP rfl rfl rfl rfl) (lx (a7 d5 rfl rfl rfl rfl) ?_)))))))))
      replace bx30:=bx30.cn ch246
      refine lx (a8 bD rfl bx30 rfl) (mi (gI (gI O_c1 (gI Or_c2 ↑i_c2)) (j_c2:Int)) (lx (ep (m:=(gI (gI O_c1 (gI Or_c2 ↑i_c2)) (j_c2:Int))) (n:=2) rfl rfl (by omega) (by omega) (by omega)) (mi (gI (gI O_c1 (gI Or_c2 ↑i_c2)) (j_c2:Int)) (lx (fR (m:=(gI (gI O_c1 (gI Or_c2 ↑i_c2)) (j_c2:Int))) (n:=2) rfl rfl (by omega) (by omega)) (lx (cH (m:=1) (n:=(gI (gI O_c1 (gI Or_c2 ↑i_c2)) (j_c2:Int))%2) rfl rfl (by omega)) (lx (a9 (v:=g_v) (i:=(gI (gI O_c1 (gI Or_c2 ↑i_c2)) (j_c2:Int))/2) dB rfl rfl Rg rfl (by omega) (by omega)) (lx (bw (i:=1-((gI (gI O_c1 (gI Or_c2 ↑i_c2)) (j_c2:Int))%2)) cJ rfl rfl rfl (by omega) (by omega) (Nat.mul_one _)) ?_)))))))
      refine lx (bN (v:=g_v) (i:=(gI (gI O_c1 (gI Or_c2 ↑i_c2)) (j_c2:Int))/2) ab rfl Rg (by omega) (by omega) (show Int.toNat (1-((gI (gI O_c1 (gI Or_c2 ↑i_c2)) (j_c2:Int))%2))<2 by omega) (dx _ (by omega) (by omega))) (ai (pI (gI g.2 ((gI (gI O_c1 (gI Or_c2 ↑i_c2)) (j_c2:Int))/2)) (1-((gI (gI O_c1 (gI Or_c2 ↑i_c2)) (j_c2:Int))%2))) (aa (aA (vs:=[vi (pI (gI g.2 ((gI (gI O_c1 (gI Or_c2 ↑i_c2)) (j_c2:Int))/2)) (1-((gI (gI O_c1 (gI Or_c2 ↑i_c2)) (j_c2:Int))%2)))]) Try.func63 (.tmp rfl .nil) ?_)))
      refine⟨vi (pI (gI g.2 ((gI (gI O_c1 (gI Or_c2 ↑i_c2)) (j_c2:Int))/2)) (1-((gI (gI O_c1 (gI Or_c2 ↑i_c2)) (j_c2:Int))%2))),rfl,?_⟩
      replace bx220:=bx220.cn ch246
      refine xv 5 [4,1,3,2,0] rfl (a9 (v:=v206) (i:=pI (gI g.2 ((gI (gI O_c1 (gI Or_c2 ↑i_c2)) (j_c2:Int))/2)) (1-((gI (gI O_c1 (gI Or_c2 ↑i_c2)) (j_c2:Int))%2))) b6 rfl rfl bx220.flat rfl (by omega) (by omega)) (xv 6 [5,4,1,3,2,0] rfl (ah (v:=v206) (i:=pI (gI g.2 ((gI (gI O_c1 (gI Or_c2 ↑i_c2)) (j_c2:Int))/2)) (1-((gI (gI O_c1 (gI Or_c2 ↑i_c2)) (j_c2:Int))%2))) ab rfl bx220.flat (by omega) (by omega) (by decide) rfl) (xp 7 rfl (λw=>aZ (m:=(gI Fs_c2 (pI (gI g.2 ((gI (gI O_c1 (gI Or_c2 ↑i_c2)) (j_c2:Int))/2)) (1-((gI (gI O_c1 (gI Or_c2 ↑i_c2)) (j_c2:Int))%2))))) (n:=0) rfl rfl) (bu (by kernel_rfl) ?_)))
      exact mid (g245) _ _ ⟨bH.cn ch246,zs0_c2,zs4_c2,zs5_c2,zs6_c2,zs7_c2,rfl,zs35_c2,zs36_c2,zs37_c2,rfl,Rg,bx5.cn ch246,bx10.cn ch246,o24,bx30,bx185.cn ch246,o200.cn ch246,bx220,bx232,r241.cn ch246,o_Os_c2.cn ch246⟩
     ·
      refine bq (aV (vals:=[vp b28 0,vi (gI (gI O_c1 (gI Or_c2 ↑i_c2)) (j_c2:Int))]) Try.func63 j2 jn rfl) (ar Try.func63 rfl nq ?_)
      replace Rg:=Rg.cn ch246
      replace o24:=o24.cn ch246
      refine a6 (a0 rfl (ai 0 (aa (a6 (a0 rfl (mv (vp b28 0) (lw (vp b28 0) (ad rfl) (lx (a7 nP rfl rfl rfl rfl) (lx (a7 d5 rfl rfl rfl rfl) ?_)))))))))
      replace bx30:=bx30.cn ch246
      refine lx (a8 bD rfl bx30 rfl) (mi (gI (gI O_c1 (gI Or_c2 ↑i_c2)) (j_c2:Int)) (lx (ep (m:=(gI (gI O_c1 (gI Or_c2 ↑i_c2)) (j_c2:Int))) (n:=2) rfl rfl (by omega) (by omega) (by omega)) (mi (gI (gI O_c1 (gI Or_c2 ↑i_c2)) (j_c2:Int)) (lx (fR (m:=(gI (gI O_c1 (gI Or_c2 ↑i_c2)) (j_c2:Int))) (n:=2) rfl rfl (by omega) (by omega)) (lx (cH (m:=1) (n:=(gI (gI O_c1 (gI Or_c2 ↑i_c2)) (j_c2:Int))%2) rfl rfl (by omega)) (lx (a9 (v:=g_v) (i:=(gI (gI O_c1 (gI Or_c2 ↑i_c2)) (j_c2:Int))/2) dB rfl rfl Rg rfl (by omega) (by omega)) (lx (bw (i:=1-((gI (gI O_c1 (gI Or_c2 ↑i_c2)) (j_c2:Int))%2)) cJ rfl rfl rfl (by omega) (by omega) (Nat.mul_one _)) ?_)))))))
      refine lx (bN (v:=g_v) (i:=(gI (gI O_c1 (gI Or_c2 ↑i_c2)) (j_c2:Int))/2) ab rfl Rg (by omega) (by omega) (show Int.toNat (1-((gI (gI O_c1 (gI Or_c2 ↑i_c2)) (j_c2:Int))%2))<2 by omega) (dx _ (by omega) (by omega))) (ai (pI (gI g.2 ((gI (gI O_c1 (gI Or_c2 ↑i_c2)) (j_c2:Int))/2)) (1-((gI (gI O_c1 (gI Or_c2 ↑i_c2)) (j_c2:Int))%2))) (aa (aA (vs:=[vi (pI (gI g.2 ((gI (gI O_c1 (gI Or_c2 ↑i_c2)) (j_c2:Int))/2)) (1-((gI (gI O_c1 (gI Or_c2 ↑i_c2)) (j_c2:Int))%2)))]) Try.func63 (.tmp rfl .nil) ?_)))
      refine⟨vi (pI (gI g.2 ((gI (gI O_c1 (gI Or_c2 ↑i_c2)) (j_c2:Int))/2)) (1-((gI (gI O_c1 (gI Or_c2 ↑i_c2)) (j_c2:Int))%2))),rfl,?_⟩
      replace bx232:=bx232.cn ch246
      refine aR 1 rfl (by kernel_rfl) rfl (am (v:=v206) (a8 cx rfl bx232 rfl) ?_)
      replace bx220:=bx220.cn ch246
      refine xv 5 [1,4,3,2,0] rfl (a9 (v:=v206) (i:=pI (gI g.2 ((gI (gI O_c1 (gI Or_c2 ↑i_c2)) (j_c2:Int))/2)) (1-((gI (gI O_c1 (gI Or_c2 ↑i_c2)) (j_c2:Int))%2))) b6 rfl rfl bx220.flat rfl (by omega) (by omega)) (xv 6 [5,1,4,3,2,0] rfl (ah (v:=v206) (i:=pI (gI g.2 ((gI (gI O_c1 (gI Or_c2 ↑i_c2)) (j_c2:Int))/2)) (1-((gI (gI O_c1 (gI Or_c2 ↑i_c2)) (j_c2:Int))%2))) ab rfl bx220.flat (by omega) (by omega) (by decide) rfl) (xp 7 rfl (λw=>aZ (m:=(gI Fs_c2 (pI (gI g.2 ((gI (gI O_c1 (gI Or_c2 ↑i_c2)) (j_c2:Int))/2)) (1-((gI (gI O_c1 (gI Or_c2 ↑i_c2)) (j_c2:Int))%2))))) (n:=0) rfl rfl) (bu (by kernel_rfl) ?_)))
      exact mid (g245) _ _ ⟨bH.cn ch246,zs0_c2,zs4_c2,zs5_c2,zs6_c2,zs7_c2,rfl,zs35_c2,zs36_c2,zs37_c2,rfl,Rg,bx5.cn ch246,bx10.cn ch246,o24,bx30,bx185.cn ch246,o200.cn ch246,bx220,bx232,r241.cn ch246,o_Os_c2.cn ch246⟩
    clear Rg bx5 bx10 o24 bx30 bx185 o200 bx220 bx232 r241 o_Os_c2 bH
    rintro g250 f248 w249 ⟨bH,zs0_c2,zs4_c2,zs5_c2,zs6_c2,zs7_c2,zs9_c2,zs35_c2,zs36_c2,zs37_c2,zs48_c2,Rg,bx5,bx10,o24,bx30,bx185,o200,bx220,bx232,r241,o_Os_c2⟩
    by_cases p9_c2:(gI Fs_c2 (pI (gI g.2 ((gI (gI O_c1 (gI Or_c2 ↑i_c2)) (j_c2:Int))/2)) (1-((gI (gI O_c1 (gI Or_c2 ↑i_c2)) (j_c2:Int))%2))))<0
    ·
     refine af zs48_c2 (dt p9_c2) (a0 rfl (mz zs0_c2 (mz zs9_c2 (lx (a7 mB rfl rfl zs5_c2 rfl) (lx (a8 cx rfl bx232 rfl) (mz zs7_c2 (lx (a9 (v:=v206) (i:=(gI Or_c2 ↑i_c2)) b6 rfl rfl bx220.flat rfl (by omega) (by omega)) (lx (ah (v:=v206) (i:=(gI Or_c2 ↑i_c2)) ab rfl bx220.flat (by omega) (by omega) (by decide) rfl) (lx (aD (m:=(gI Fs_c2 (gI Or_c2 ↑i_c2))) (n:=1) rfl rfl (by omega)) ?_)))))))))
     refine lo (bq (aV (vals:=[vp b28 0,vp b227 0,vi (gI (gI O_c1 (gI Or_c2 ↑i_c2)) (j_c2:Int)),vi ((gI Fs_c2 (gI Or_c2 ↑i_c2))+1)]) Try.func64 oh pa (lY rfl (lY zs5_c2 (lY rfl (lY rfl rfl))))) (ar Try.func64 rfl nq (a6 (a0 rfl (mv (vp b28 0) (mi (gI (gI O_c1 (gI Or_c2 ↑i_c2)) (j_c2:Int)) (lo (bq (aV (vals:=[vp b28 0,vi (gI (gI O_c1 (gI Or_c2 ↑i_c2)) (j_c2:Int))]) Try.func63 j2 jn rfl) (ar Try.func63 rfl nq (a6 (a0 rfl ?_)))))))))))
     refine ai 0 (aa (a6 (a0 rfl (mv (vp b28 0) (lw (vp b28 0) (ad rfl) (lx (a7 nP rfl rfl rfl rfl) (lx (a7 d5 rfl rfl rfl rfl) (lx (a8 bD rfl bx30 rfl) (mi (gI (gI O_c1 (gI Or_c2 ↑i_c2)) (j_c2:Int)) (lx (ep (m:=(gI (gI O_c1 (gI Or_c2 ↑i_c2)) (j_c2:Int))) (n:=2) rfl rfl (by omega) (by omega) (by omega)) (mi (gI (gI O_c1 (gI Or_c2 ↑i_c2)) (j_c2:Int)) ?_)))))))))))
     refine lx (fR (m:=(gI (gI O_c1 (gI Or_c2 ↑i_c2)) (j_c2:Int))) (n:=2) rfl rfl (by omega) (by omega)) (lx (cH (m:=1) (n:=(gI (gI O_c1 (gI Or_c2 ↑i_c2)) (j_c2:Int))%2) rfl rfl (by omega)) (lx (a9 (v:=g_v) (i:=(gI (gI O_c1 (gI Or_c2 ↑i_c2)) (j_c2:Int))/2) dB rfl rfl Rg rfl (by omega) (by omega)) (lx (bw (i:=1-((gI (gI O_c1 (gI Or_c2 ↑i_c2)) (j_c2:Int))%2)) cJ rfl rfl rfl (by omega) (by omega) (Nat.mul_one _)) (lx (bN (v:=g_v) (i:=(gI (gI O_c1 (gI Or_c2 ↑i_c2)) (j_c2:Int))/2) ab rfl Rg (by omega) (by omega) (show Int.toNat (1-((gI (gI O_c1 (gI Or_c2 ↑i_c2)) (j_c2:Int))%2))<2 by omega) (dx _ (by omega) (by omega))) ?_))))
     refine ai (pI (gI g.2 ((gI (gI O_c1 (gI Or_c2 ↑i_c2)) (j_c2:Int))/2)) (1-((gI (gI O_c1 (gI Or_c2 ↑i_c2)) (j_c2:Int))%2))) (aa (aA (vs:=[vi (pI (gI g.2 ((gI (gI O_c1 (gI Or_c2 ↑i_c2)) (j_c2:Int))/2)) (1-((gI (gI O_c1 (gI Or_c2 ↑i_c2)) (j_c2:Int))%2)))]) Try.func63 (.tmp rfl .nil) ?_))
     refine⟨vi (pI (gI g.2 ((gI (gI O_c1 (gI Or_c2 ↑i_c2)) (j_c2:Int))/2)) (1-((gI (gI O_c1 (gI Or_c2 ↑i_c2)) (j_c2:Int))%2))),rfl,?_⟩
     refine ai (pI (gI g.2 ((gI (gI O_c1 (gI Or_c2 ↑i_c2)) (j_c2:Int))/2)) (1-((gI (gI O_c1 (gI Or_c2 ↑i_c2)) (j_c2:Int))%2))) (aa (a6 (a0 rfl (mv (vp b227 0) (mv (vp b227 0) (lw (vp b227 0) (ad rfl) (lx (a7 mB rfl rfl rfl rfl) (lx (a8 cx rfl bx232 rfl) (mi (pI (gI g.2 ((gI (gI O_c1 (gI Or_c2 ↑i_c2)) (j_c2:Int))/2)) (1-((gI (gI O_c1 (gI Or_c2 ↑i_c2)) (j_c2:Int))%2))) (lo ?_))))))))))
     refine aL (α:=Int) g250 (is 17) (is 17) (17,0) rfl [pI (gI g.2 ((gI (gI O_c1 (gI Or_c2 ↑i_c2)) (j_c2:Int))/2)) (1-((gI (gI O_c1 (gI Or_c2 ↑i_c2)) (j_c2:Int))%2))] b6 ab (by decide) (by decide) (vs:=[(0,vi (pI (gI g.2 ((gI (gI O_c1 (gI Or_c2 ↑i_c2)) (j_c2:Int))/2)) (1-((gI (gI O_c1 (gI Or_c2 ↑i_c2)) (j_c2:Int))%2))))]) rfl rfl (.cons rfl .nil) ?_
     intro g251 w252 v253 ch254 o255
     refine lo ?_
     replace o_Os_c2:=o_Os_c2.cn ch254
     refine bv (α:=Int) (xs:=Os_c2) (ys:=([pI (gI g.2 ((gI (gI O_c1 (gI Or_c2 ↑i_c2)) (j_c2:Int))/2)) (1-((gI (gI O_c1 (gI Or_c2 ↑i_c2)) (j_c2:Int))%2))])) g251 (J:=is 10) (S:=is 10) (10,0) rfl b6 ab (by decide) rfl rfl rfl o_Os_c2 o255.flat (by decide) (by(simp;omega)) ?_
     intro g256 w257 v258 ch259 o260
     clear o_Os_c2
     refine lw (vp b227 0) (ad rfl) (lx (a7 mB rfl rfl rfl rfl) (lo ?_))
     replace bx232:=(bx232.cn ch254).ce ch259
     refine bP (cs':=[v258,v199,v206,vn]) cx rfl rfl bx232 (cf o260.flat) nq (bp o260.flat) rfl ?_
     intro w261 ch262 bx263
     clear bx232
     refine aa ?_
     clear o255
     refine aW g256 [0,1,2,3,4,5,6,7,8,9,10,11,12,14] eT ?_
     intro w265 ch264
     refine xp (v:=vp b227 0) 0 rfl (λw=>ak rfl) (xp (v:=vp b227 0) 1 rfl (λw=>ad rfl) (xp 2 rfl (λw=>a7 mB rfl rfl rfl rfl) ?_))
     replace bx263:=bx263.cn ch264
     refine xv 3 [2,1,0,4,5,9,10,11,6,7,8] rfl (a8 cx rfl bx263 rfl) (xp (v:=vi (pI (gI g.2 ((gI (gI O_c1 (gI Or_c2 ↑i_c2)) (j_c2:Int))/2)) (1-((gI (gI O_c1 (gI Or_c2 ↑i_c2)) (j_c2:Int))%2)))) 4 rfl (λw=>ak rfl) (xp (v:=vp b227 0) 5 rfl (λw=>ak rfl) (xp (v:=vp b227 0) 6 rfl (λw=>ad rfl) (xp 7 rfl (λw=>a7 mB rfl rfl rfl rfl) (xv 8 [7,6,5,4,3,2,1,0,9,10,11] rfl (a8 cx rfl bx263 rfl) (xp (v:=vi (pI (gI g.2 ((gI (gI O_c1 (gI Or_c2 ↑i_c2)) (j_c2:Int))/2)) (1-((gI (gI O_c1 (gI Or_c2 ↑i_c2)) (j_c2:Int))%2)))) 9 rfl (λw=>ak rfl) (xp (v:=vi (gI (gI O_c1 (gI Or_c2 ↑i_c2)) (j_c2:Int))) 10 rfl (λw=>ak rfl) ?_)))))))
     refine xp (v:=vi ((gI Fs_c2 (gI Or_c2 ↑i_c2))+1)) 11 rfl (λw=>ak rfl) ?_
     have C266:=cg [10,14] (ch254.n.seq ((ch259.l rfl).seq ((ch262.l rfl).seq ch264.n)))
     replace o200:=o200.ca C266
     refine xv 12 [11,10,9,8,7,6,5,4,3,2,1,0] rfl (a9 (v:=v199) (i:=pI (gI g.2 ((gI (gI O_c1 (gI Or_c2 ↑i_c2)) (j_c2:Int))/2)) (1-((gI (gI O_c1 (gI Or_c2 ↑i_c2)) (j_c2:Int))%2))) b6 rfl rfl o200.flat rfl (by omega) (by omega)) (aR 13 rfl (by kernel_rfl) rfl (av (i:=pI (gI g.2 ((gI (gI O_c1 (gI Or_c2 ↑i_c2)) (j_c2:Int))/2)) (1-((gI (gI O_c1 (gI Or_c2 ↑i_c2)) (j_c2:Int))%2))) (gI (gI O_c1 (gI Or_c2 ↑i_c2)) (j_c2:Int)) ab rfl rfl o200 (by omega) (by omega) rfl ?_))
     intro w267 ch268 bx269
     clear o200
     have C270:=cg [10,11,14] (ch254.n.seq ((ch259.l rfl).seq ((ch262.l rfl).seq (ch264.n.seq (ch268.l rfl)))))
     replace bx220:=bx220.ca C270
     refine xv 14 [13,12,11,10,9,8,7,6,5,4,3,2,1,0] rfl (a9 (v:=v206) (i:=pI (gI g.2 ((gI (gI O_c1 (gI Or_c2 ↑i_c2)) (j_c2:Int))/2)) (1-((gI (gI O_c1 (gI Or_c2 ↑i_c2)) (j_c2:Int))%2))) b6 rfl rfl bx220.flat rfl (by omega) (by omega)) (aR 15 rfl (by kernel_rfl) rfl (av (i:=pI (gI g.2 ((gI (gI O_c1 (gI Or_c2 ↑i_c2)) (j_c2:Int))/2)) (1-((gI (gI O_c1 (gI Or_c2 ↑i_c2)) (j_c2:Int))%2))) ((gI Fs_c2 (gI Or_c2 ↑i_c2))+1) ab rfl rfl bx220 (by omega) (by omega) rfl ?_))
     intro w271 ch272 bx273
     clear bx220
     refine bu (by kernel_rfl) (cQ (vs:=[]) Try.func64 .nil ?_)
     refine⟨vt [],rfl,?_⟩
     refine aa (ag (a0 rfl (lx (aD (m:=↑j_c2) (n:=1) zs37_c2 rfl (by omega)) (mi ((j_c2:Int)+1) (aa ?_)))))
     have C274:=cg [10,11,12,14] (ch254.n.seq ((ch259.l rfl).seq ((ch262.l rfl).seq (ch264.n.seq ((ch268.l rfl).seq (ch272.l rfl))))))
     have C275:=cg [11,12,14] ((ch262.l rfl).seq (ch264.n.seq ((ch268.l rfl).seq (ch272.l rfl))))
     refine back7_c2 (v258,(Os_c2++[pI (gI g.2 ((gI (gI O_c1 (gI Or_c2 ↑i_c2)) (j_c2:Int))/2)) (1-((gI (gI O_c1 (gI Or_c2 ↑i_c2)) (j_c2:Int))%2))]),j_c2+1,(List.set Bs_c2 (Int.toNat (pI (gI g.2 ((gI (gI O_c1 (gI Or_c2 ↑i_c2)) (j_c2:Int))/2)) (1-((gI (gI O_c1 (gI Or_c2 ↑i_c2)) (j_c2:Int))%2)))) (gI (gI O_c1 (gI Or_c2 ↑i_c2)) (j_c2:Int))),(List.set Fs_c2 (Int.toNat (pI (gI g.2 ((gI (gI O_c1 (gI Or_c2 ↑i_c2)) (j_c2:Int))/2)) (1-((gI (gI O_c1 (gI Or_c2 ↑i_c2)) (j_c2:Int))%2)))) ((gI Fs_c2 (gI Or_c2 ↑i_c2))+1)),g256) _ _ ⟨bH.ca C274,zs0_c2,zs4_c2,zs5_c2,zs6_c2,zs7_c2,zs35_c2,zs36_c2,rfl,Rg.ca C274,bx5.ca C274,bx10.ca C274,o24.ca C274,bx30.ca C274,bx185.ca C274,bx269.ce ch272,bx273,(bx263.ce ch268).ce ch272,r241.chg C274 (gF rfl) (gF rfl),o260.ca C275,by omega,?_⟩ ?_
     · show cV ⟨(Os_c2++[pI (gI g.2 ((gI (gI O_c1 (gI Or_c2 ↑i_c2)) (j_c2:Int))/2)) (1-((gI (gI O_c1 (gI Or_c2 ↑i_c2)) (j_c2:Int))%2))]),(List.set Bs_c2 (Int.toNat (pI (gI g.2 ((gI (gI O_c1 (gI Or_c2 ↑i_c2)) (j_c2:Int))/2)) (1-((gI (gI O_c1 (gI Or_c2 ↑i_c2)) (j_c2:Int))%2)))) (gI (gI O_c1 (gI Or_c2 ↑i_c2)) (j_c2:Int))),(List.set Fs_c2 (Int.toNat (pI (gI g.2 ((gI (gI O_c1 (gI Or_c2 ↑i_c2)) (j_c2:Int))/2)) (1-((gI (gI O_c1 (gI Or_c2 ↑i_c2)) (j_c2:Int))%2)))) ((gI Fs_c2 (gI Or_c2 ↑i_c2))+1))⟩ g ⟨Or_c2,By_c2,Fa_c2⟩ (gI Or_c2 ↑i_c2) (j_c2+1)
       exact hrw.yes hm hjl hhe ‹_›
     · show Int.toNat (((List.length (gI O_c1 (gI Or_c2 ↑i_c2)):Int):Int)-((j_c2+1):Int))<Int.toNat (((List.length (gI O_c1 (gI Or_c2 ↑i_c2)):Int):Int)-(j_c2:Int))
       omega
    refine ae zs48_c2 (df p9_c2) (ap (ag (a0 rfl (lx (aD (m:=↑j_c2) (n:=1) zs37_c2 rfl (by omega)) (mi ((j_c2:Int)+1) (aa ?_))))))
    refine back7_c2 (Os_c2_v,Os_c2,j_c2+1,Bs_c2,Fs_c2,g250) _ _ ⟨bH,zs0_c2,zs4_c2,zs5_c2,zs6_c2,zs7_c2,zs35_c2,zs36_c2,rfl,Rg,bx5,bx10,o24,bx30,bx185,o200,bx220,bx232,r241,o_Os_c2,by omega,?_⟩ ?_
    · show cV ⟨Os_c2,Bs_c2,Fs_c2⟩ g ⟨Or_c2,By_c2,Fa_c2⟩ (gI Or_c2 ↑i_c2) (j_c2+1)
      exact hrw.no hm hjl hhe ‹_›
    · show Int.toNat (((List.length (gI O_c1 (gI Or_c2 ↑i_c2)):Int):Int)-((j_c2+1):Int))<Int.toNat (((List.length (gI O_c1 (gI Or_c2 ↑i_c2)):Int):Int)-(j_c2:Int))
      omega
   refine ae rfl (df p7_c2) (aF rfl (ag ?_))
   clear r241
   refine a0 rfl (mz zs6_c2 (lx (aD (m:=↑i_c2) (n:=1) rfl rfl (by omega)) (ai ((i_c2:Int)+1) (aa ?_))))
   refine back3_c2 (Os_c2_v,Os_c2,i_c2+1,Bs_c2,Fs_c2,g245) _ _ ⟨bH,zs0_c2,zs4_c2,zs5_c2,rfl,Rg,bx5,bx10,o24,bx30,bx185,o200,bx220,bx232,o_Os_c2,?_⟩ ?_
   · show dY ⟨Os_c2,Bs_c2,Fs_c2⟩ g s (i_c2+1)
     exact hgo_c2.next hm1 ‹_› hrw (by rw[<-hrow];assumption)
   · show Int.toNat g.1-(i_c2+1)<Int.toNat g.1-i_c2
     omega
  refine ae rfl (df p3_c2) (aF rfl (a6 (a0 rfl (lx (aB (ds:=[Or_c2_v,v199,v206,vn]) cD zs5_c2 bx232 rfl rfl) (lo (aw (cs':=[Or_c2_v,v199,v206,vn]) cD zs4_c2 rfl bx185 rfl nq (AllOne.all (.cons (bp o_Or_c2.flat) (.cons (bp o200.flat) (.cons (bp bx220.flat) (.cons rfl .nil))))) rfl ?_))))))
  intro w276 ch277 bx278
  clear bx185
  refine aa (aA (vs:=[vg [Or_c2_v,v199,v206,vn]]) Try.func54 (.cell zs4_c2 (d7 (ds:=[Or_c2_v,v199,v206,vn]) cD bx278 rfl rfl) .nil) ?_)
  refine⟨vg [Or_c2_v,v199,v206,vn],rfl,?_⟩
  refine lo ?_
  replace bx10:=bx10.ce ch277
  replace bx220:=bx220.ce ch277
  replace o200:=o200.ce ch277
  replace o_Or_c2:=o_Or_c2.ce ch277
  refine aw (cs':=[Or_c2_v,v199,v206,vn]) cD rfl rfl bx10 rfl nq (AllOne.all (.cons (bp o_Or_c2.flat) (.cons (bp o200.flat) (.cons (bp bx220.flat) (.cons rfl .nil))))) rfl ?_
  intro w279 ch280 bx281
  clear bx10
  refine ai 0 (aa (aA (vs:=[vg [Or_c2_v,v199,v206,vn],vi 0]) Try.func32 (.cell rfl (d7 (ds:=[Or_c2_v,v199,v206,vn]) cD bx281 rfl rfl) (.tmp rfl .nil)) ?_))
  replace bH:=bH.ce ch277
  replace bH:=bH.ce ch280
  replace o_Or_c2:=o_Or_c2.ce ch280
  replace o200:=o200.ce ch280
  replace bx220:=bx220.ce ch280
  have e0:((Or_c2,By_c2,Fa_c2,[]):(List Int)×(List Int)×(List Int)×(List Int))=((aM g s).1):=by
    rw[hbr];have hq:=hgo_c2.done ‹_›;rw[<-hq]
  have e1:(0:Int)=((aM g s).2):=by
    rw[hbr]
  exact⟨(fin w0 g237 (λn=>if n=10 then 1 else if n=11 then 2 else if n=12 then 3 else 0),Or_c2_v,v199,v206,vn),(dr (a:=(Or_c2,By_c2,Fa_c2,[])) (b:=0) (λ(z0:(List Int)×(List Int)×(List Int)×(List Int)) (z1:Int)=>Ending.returned (vt [vg [Or_c2_v,v199,v206,vn],vi z1])) e0 e1),bH.fresh _,((congrArg (λ(z:(List Int)×(List Int)×(List Int)×(List Int))=>z.1) e0)▸(o_Or_c2.glue (γ:=c0) (ren:=(λn=>if n=10 then 1 else if n=11 then 2 else if n=12 then 3 else 0)) (k:=1) bH.col rfl rfl)),((congrArg (λ(z:(List Int)×(List Int)×(List Int)×(List Int))=>z.2.1) e0)▸(o200.glue (γ:=c0) (ren:=(λn=>if n=10 then 1 else if n=11 then 2 else if n=12 then 3 else 0)) (k:=2) bH.col rfl rfl)),((congrArg (λ(z:(List Int)×(List Int)×(List Int)×(List Int))=>z.2.2.1) e0)▸(bx220.glue (γ:=c0) (ren:=(λn=>if n=10 then 1 else if n=11 then 2 else if n=12 then 3 else 0)) (k:=3) bH.col rfl rfl)),((congrArg (λ(z:(List Int)×(List Int)×(List Int)×(List Int))=>z.2.2.2) e0)▸Ow.nil)⟩
 have hbn:(aM g s).1=([],[],[],[]):=pY p2
 refine af rfl (congrArg Bool.not (df p2)) (a6 ?_)
 clear bx5
 refine a0 rfl (lw (vg [vn,vn,vn,vn]) (bh (vs:=[]) rfl (by kernel_rfl)) (mi ((aM g s).2) (lo ?_)))
 replace bx10:=bx10.cn hb12
 refine aw (cs':=[vn,vn,vn,vn]) cD rfl rfl bx10 rfl nq (AllOne.all (.cons rfl (.cons rfl (.cons rfl (.cons rfl .nil))))) rfl ?_
 intro w282 ch283 bx284
 clear bx10
 refine ai ((aM g s).2) (aa (aA (vs:=[vg [vn,vn,vn,vn],vi ((aM g s).2)]) Try.func32 (.cell rfl (d7 (ds:=[vn,vn,vn,vn]) cD bx284 rfl rfl) (.tmp rfl .nil)) ?_))
 have C285:=cg [2] (ch2.n.seq (ch7.n.seq (hb12.n.seq (ch283.l rfl))))
 replace bH:=bH.ca C285
 have e0:(([],[],[],[]):(List Int)×(List Int)×(List Int)×(List Int))=((aM g s).1):=by
   rw[hbn]
 have e1:((aM g s).2:Int)=((aM g s).2):=by
   rfl
 exact⟨(fin w0 g9 (λn=>0),vn,vn,vn,vn),(dr (a:=([],[],[],[])) (b:=(aM g s).2) (λ(z0:(List Int)×(List Int)×(List Int)×(List Int)) (z1:Int)=>Ending.returned (vt [vg [vn,vn,vn,vn],vi z1])) e0 e1),bH.fresh _,((congrArg (λ(z:(List Int)×(List Int)×(List Int)×(List Int))=>z.1) e0)▸Ow.nil),((congrArg (λ(z:(List Int)×(List Int)×(List Int)×(List Int))=>z.2.1) e0)▸Ow.nil),((congrArg (λ(z:(List Int)×(List Int)×(List Int)×(List Int))=>z.2.2.1) e0)▸Ow.nil),((congrArg (λ(z:(List Int)×(List Int)×(List Int)×(List Int))=>z.2.2.2) e0)▸Ow.nil)⟩
end TL
