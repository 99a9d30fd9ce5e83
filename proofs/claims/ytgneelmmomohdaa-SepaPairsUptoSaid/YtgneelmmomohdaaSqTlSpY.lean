import Derived.Test.YtgneelmmomohdaaSqTlP4
import Derived.Test.YtgneelmmomohdaaSqTlSpG
import Derived.Test.YtgneelmmomohdaaSqTlGenA
import Derived.Test.YtgneelmmomohdaaProg
import Derived.Test.YtgneelmmomohdaaSqTlAli
set_option linter.all false
set_option maxRecDepth 20000
namespace TL
open Go Go.Proofs
theorem eR:Try.prog.follows .mixedOrders=true:=by kernel_rfl
theorem fG:Tp Try.prog 50 true 5 40 (.agg #[.int .i64 0,.int .i64 0,.int .i64 0,.int .i64 0,.bool false]):=Tp.of (by kernel_rfl)
theorem wz:Try.f6.body.isNone=false:=rfl
theorem vU:(Try.f6.name== "runtime.NumGoroutine")=false:=by decide+kernel
theorem x5:Try.f7.body.isNone=false:=rfl
theorem wk:(Try.f7.name== "runtime.NumGoroutine")=false:=by decide+kernel
theorem uY:Try.f24.body.isNone=false:=rfl
theorem tY:(Try.f24.name== "runtime.NumGoroutine")=false:=by decide+kernel
theorem ou:Try.f48.body.isNone=false:=rfl
theorem py:(Try.f48.name== "runtime.NumGoroutine")=false:=by decide+kernel
theorem vo:Try.f49.body.isNone=false:=rfl
theorem u6:(Try.f49.name== "runtime.NumGoroutine")=false:=by decide+kernel
theorem oC:Try.f67.body.isNone=false:=rfl
theorem pF:(Try.f67.name== "runtime.NumGoroutine")=false:=by decide+kernel
theorem tL:Try.f68.body.isNone=false:=rfl
theorem tU:(Try.f68.name== "runtime.NumGoroutine")=false:=by decide+kernel
theorem wj(w0:World)(g:(Int)×(List Pt))(g_v:Value)(hg_v:Ro w0 g_v g.2)(h:Int)(hh:0<=h/\h<2*(g.2.length:Int))(hlen:g.2.length<=1000000):
    Calls Try.prog 68 #[vg [vi g.1,g_v],vi h] w0 (λee w=>ee= .returned (vi (aI g h))/\e8 w0.heap.size w0 w):=by
 refine ar Try.func68 rfl nq ?_
 have bH:=bq.start w0
 have Rg:=hg_v.sl
 obtain⟨hh1,hh2⟩:=hh
 refine aa (a8 rfl (cF rfl (cA c0 (is 1) (1,0) rfl rfl ?_)))
 intro g4 w1 b3 ch2 bx5
 replace bx5:Bx g4 (is 1) w1 b3 [vi g.1,g_v]:=bx5
 refine ai 0 (ad (aa (a8 rfl (lx (af d4 rfl rfl rfl rfl) (lx (ae bu rfl bx5 rfl) (mi h (lx (jp (m:=h) (n:=2) rfl rfl (by omega) (by omega) (by omega)) (mi h (lx (mQ (m:=h) (n:=2) rfl rfl (by omega) (by omega)) ?_)))))))))
 replace Rg:=Rg.cn ch2
 refine lx (ag (v:=g_v) (i:=h/2) dg rfl rfl Rg rfl (by omega) (by omega)) (lx (cj (i:=h%2) da rfl rfl rfl (by omega) (by omega) (Nat.mul_one _)) (lx (d6 (v:=g_v) (i:=h/2) ak rfl Rg (by omega) (by omega) (show Int.toNat (h%2)<2 by omega) (gU _ (by omega) (by omega))) (ai (pI (gI g.2 (h/2)) (h%2)) (ad (aD (vs:=[vi (pI (gI g.2 (h/2)) (h%2))]) Try.func68 (.tmp rfl .nil) ?_)))))
 have e0:(pI (gI g.2 (h/2)) (h%2):Int)=(aI g h):=by
   rfl
 replace bH:=bH.cn ch2
 exact⟨(congrArg (a₁:=pI (gI g.2 (h/2)) (h%2)) (λ(z0:Int)=>Ending.returned (vi z0)) e0),bH.below⟩
theorem pu(w0:World)(g:(Int)×(List Pt))(g_v:Value)(hg_v:Ro w0 g_v g.2)(hmay:b7 g):
    Calls Try.prog 49 #[vg [vi g.1,g_v]] w0 (λee w=>∃xx:aL×Value,ee= .returned ((λ⟨δ,rv0⟩=>rv0) xx)/\(λ(⟨δ,rv0⟩:aL×Value) (w:World)=>eX w0 δ w/\Ow δ (is 1) (is 1) w rv0 (cO g)) xx w):=by
 refine ar Try.func49 rfl nq ?_
 have bH:=bq.start w0
 have Rg:=hg_v.sl
 have hm0:=hmay
 obtain⟨hm1,hm2,hm3,hm4⟩:=hm0
 refine aa (a8 rfl (cF rfl (cA c0 (is 1) (1,0) rfl rfl ?_)))
 intro g4 w1 b3 ch2 bx5
 replace bx5:Bx g4 (is 1) w1 b3 [vi g.1,g_v]:=bx5
 refine ma vn (ad (aa (a8 rfl (lx (af d4 rfl rfl rfl rfl) (lx (ae ak rfl bx5 rfl) (lo (eD (α:=Int) (l:=g.1) (cp:=g.1) g4 (is 2) (is 2) (2,0) rfl (0:Int) bD ak rfl rfl rfl (by omega) (by omega) (by omega) (by omega) ?_)))))))
 intro g6 w7 v8 ch9 o10 _
 refine ma v8 (ad (aa (aa (a8 rfl (ai 0 (ad (ao ?_)))))))
 refine b9 (σ:=Nat×(List Int)×aL) (λ⟨h,l,gq⟩ f w=>bq w0 gq w/\f 1=vp b3 0/\f 3=v8/\f 4=vi ↑h/\Sl gq (is 0) w g_v g.2/\Bx gq (is 1) w b3 [vi g.1,g_v]/\Ow gq (is 2) (is 2) w v8 l/\(h:Int)<=(2*(g.2.length:Int):Int)/\(kS l g h)) (λ⟨h,l,gq⟩=>Int.toNat ((2*(g.2.length:Int):Int)-(h:Int))) (0,(List.replicate (Int.toNat g.1) (0:Int)),g6) ?_ ?_
 replace bH:=bH.cn ch2
 · exact⟨bH.cn ch9,rfl,rfl,rfl,(Rg.cn ch2).cn ch9,bx5.cn ch9,o10,by omega,by exact kS.start g hm1⟩
 clear Rg bx5 o10 bH
 rintro⟨h,l,g13⟩ f11 w12 ⟨bH,zs1,zs3,zs4,Rg,bx5,o10,hle_h,hinv⟩ back3
 have hdl:=hinv.len
 refine aa (aa (a8 rfl (mz zs4 (lx (af d4 rfl rfl zs1 rfl) (lx (ae bu rfl bx5 rfl) ?_)))))
 have len14:=(Rg).small
 refine lx (bJ dg rfl Rg) (lx (kx (m:=2) (n:=(g.2.length:Int)) rfl rfl (by omega)) (lx (bg (m:=↑h) (n:=2*(g.2.length:Int)) rfl rfl) (ad ?_)))
 by_cases p3:(h:Int)<(2*(g.2.length:Int))
 ·
  refine aj rfl (dt p3) ?_
  obtain⟨hf1,kM⟩:=uy hmay (h:=(h:Int)) (by omega) (by omega)
  have hbd:=hinv.bd hf1 kM
  refine ap (aa (ao (a8 rfl (mz zs3 (lx (aB (ds:=[vi g.1,g_v]) aK zs1 bx5 rfl rfl) (mz zs4 (lo (bT (v:=vi (aI g (h:Int))) (aQ (vals:=[vg [vi g.1,g_v],vi ↑h]) Try.func68 tL tU rfl) (wj w12 g g_v (Rg).ro (h:Int) (by omega) (by omega)) ?_))))))))
  intro w15 hb16
  replace hb16:=aT hb16 g13
  replace o10:=o10.cn hb16
  refine lx (ag (v:=v8) (i:=aI g (h:Int)) bD rfl rfl o10.flat rfl (by omega) (by omega)) (lx (aw (v:=v8) (i:=aI g (h:Int)) ak rfl o10.flat (by omega) (by omega) (by decide) rfl) (lx (aJ (m:=(gI l (aI g (h:Int)))) (n:=1) rfl rfl (by omega)) (lx (ag (v:=v8) (i:=aI g (h:Int)) bD rfl rfl o10.flat rfl (by omega) (by omega)) (lo (aP (i:=aI g (h:Int)) ((gI l (aI g (h:Int)))+1) ak rfl rfl o10 (by omega) (by omega) rfl ?_)))))
  intro w17 ch18 bx19
  clear o10
  refine ad (am (a8 rfl (mz zs4 (lx (aJ (m:=↑h) (n:=1) rfl rfl (by omega)) (ai ((h:Int)+1) (ad ?_))))))
  replace bH:=bH.cn hb16
  refine back3 (h+1,(List.set l (Int.toNat (aI g (h:Int))) ((gI l (aI g (h:Int)))+1)),g13) _ _ ⟨bH.ce ch18,zs1,zs3,rfl,(Rg.cn hb16).ce ch18,(bx5.cn hb16).ce ch18,bx19,by omega,?_⟩ ?_
  · show kS (List.set l (Int.toNat (aI g (h:Int))) ((gI l (aI g (h:Int)))+1)) g (h+1)
    exact hinv.next hf1 kM
  · show Int.toNat ((2*(g.2.length:Int):Int)-((h+1):Int))<Int.toNat ((2*(g.2.length:Int):Int)-(h:Int))
    omega
 refine ah rfl (df p3) (aM rfl (aa ?_))
 clear bx5
 refine a8 rfl (mz zs3 (ma v8 (ad (aD (vs:=[v8]) Try.func49 (.tmp rfl .nil) ?_))))
 have e0:(l:List Int)=(cO g):=by
   exact hinv.done (by omega)
 exact⟨(fin w0 g13 (λn=>if n=2 then 1 else 0),v8),(congrArg (a₁:=l) (λ(z0:List Int)=>Ending.returned (v8)) e0),bH.fresh _,(e0▸(o10.glue (γ:=c0) (ren:=(λn=>if n=2 then 1 else 0)) (k:=1) bH.col rfl rfl))⟩
theorem rf(w0:World)(e:Pt):
    Calls Try.prog 67 #[vg [vi e.1,vi e.2]] w0 (λee w=>ee= .returned (vg [vi ((cP e).1),vi ((cP e).2)])/\e8 w0.heap.size w0 w):=by
 refine ar Try.func67 rfl nq ?_
 have bH:=bq.start w0
 refine aa (a8 rfl (cF rfl (cA c0 (is 1) (1,0) rfl rfl ?_)))
 intro g4 w1 b3 ch2 bx5
 replace bx5:Bx g4 (is 1) w1 b3 [vi e.1,vi e.2]:=bx5
 refine lo (bz g4 (is 2) (2,0) rfl aW ?_)
 intro g9 w6 b8 ch7 bx10
 replace bx10:Bx g9 (is 2) w6 b8 [vi 0,vi 0]:=bx10
 refine ad (aa (aa (a8 rfl (lx (aA da rfl rfl rfl (by decide) (by decide) rfl) ?_))))
 replace bx5:=bx5.cn ch7
 refine lx (ae ak rfl bx5 rfl) (lx (aA da rfl rfl rfl (by decide) (by decide) rfl) (lx (ae ak rfl bx5 rfl) (lx (eo (m:=e.1) (n:=e.2) rfl rfl) (ad ?_))))
 by_cases p1:e.2<e.1
 ·
  refine aj rfl (dt p1) (aa (a8 rfl (lx (aA da rfl rfl rfl (by decide) (by decide) rfl) (lx (ae ak rfl bx5 rfl) (lx (aA da rfl rfl rfl (by decide) (by decide) rfl) (lx (ae ak rfl bx5 rfl) (lw (vg [vi e.2,vi e.1]) (bC (vs:=[(0,vi e.2),(1,vi e.1)]) rfl (by kernel_rfl)) (lo (aF (cs':=[vi e.2,vi e.1]) aW rfl rfl bx10 rfl nq (AllOne.all (.cons rfl (.cons rfl .nil))) rfl ?_)))))))))
  intro w11 ch12 bx13
  clear bx10
  refine ad (aD (vs:=[vg [vi e.2,vi e.1]]) Try.func67 (.cell rfl (bK (ds:=[vi e.2,vi e.1]) aW bx13 rfl rfl) .nil) ?_)
  have e0:((e.2,e.1):Pt)=(cP e):=by
    exact vy ‹_›
  have C14:=cg [2] (ch2.n.seq (ch7.n.seq (ch12.l rfl)))
  replace bH:=bH.ca C14
  exact⟨(congrArg (a₁:=(e.2,e.1)) (λ(z0:Pt)=>Ending.returned (vg [vi z0.1,vi z0.2])) e0),bH.below⟩
 refine ah rfl (df p1) (ap (aa (a8 rfl (lx (aB (ds:=[vi e.1,vi e.2]) aW rfl bx5 rfl rfl) (lo (aF (cs':=[vi e.1,vi e.2]) aW rfl rfl bx10 rfl nq (AllOne.all (.cons rfl (.cons rfl .nil))) rfl ?_))))))
 intro w15 ch16 bx17
 clear bx10
 refine ad (aD (vs:=[vg [vi e.1,vi e.2]]) Try.func67 (.cell rfl (bK (ds:=[vi e.1,vi e.2]) aW bx17 rfl rfl) .nil) ?_)
 have e0:(e:Pt)=(cP e):=by
   exact uf ‹_›
 have C18:=cg [2] (ch2.n.seq (ch7.n.seq (ch16.l rfl)))
 replace bH:=bH.ca C18
 exact⟨(congrArg (a₁:=e) (λ(z0:Pt)=>Ending.returned (vg [vi z0.1,vi z0.2])) e0),bH.below⟩
theorem kL(w0:World)(g:(Int)×(List Pt))(g_v:Value)(hg_v:Ro w0 g_v g.2)(e:Int)(he:0<=e/\e<(g.2.length:Int))(hlen:g.2.length<=1000000):
    Calls Try.prog 48 #[vg [vi g.1,g_v],vi e] w0 (λee w=>ee= .returned (vb (decide (cP (gI g.2 e)∈(g.2.map cP).take e.toNat)))/\e8 w0.heap.size w0 w):=by
 refine ar Try.func48 rfl nq ?_
 have bH:=bq.start w0
 have Rg:=hg_v.sl
 obtain⟨he1,he2⟩:=he
 refine aa (a8 rfl (cF rfl (cA c0 (is 1) (1,0) rfl rfl ?_)))
 intro g4 w1 b3 ch2 bx5
 replace bx5:Bx g4 (is 1) w1 b3 [vi g.1,g_v]:=bx5
 refine ma (vb false) (ad (aa (aa (a8 rfl (ai 0 (ad (ao ?_)))))))
 refine b9 (σ:=Nat×aL) (λ⟨i,gq⟩ f w=>bq w0 gq w/\f 1=vi e/\f 2=vp b3 0/\f 5=vi ↑i/\Sl gq (is 0) w g_v g.2/\Bx gq (is 1) w b3 [vi g.1,g_v]/\(i:Int)<=(e:Int)/\(∀j:Nat,j<i->¬cP (gI g.2 j)=cP (gI g.2 e))) (λ⟨i,gq⟩=>Int.toNat ((e:Int)-(i:Int))) (0,g4) ?_ ?_
 · exact⟨bH.cn ch2,rfl,rfl,rfl,Rg.cn ch2,bx5,by omega,by intro j hj;omega⟩
 clear Rg bx5 bH
 rintro⟨i,g8⟩ f6 w7 ⟨bH,zs1,zs2,zs5,Rg,bx5,hle_i,hinv⟩ back2
 refine aa (aa (a8 rfl (mz zs5 (mz zs1 (lx (bg (m:=↑i) (n:=e) rfl rfl) (ad ?_))))))
 by_cases p2:(i:Int)<e
 ·
  refine aj rfl (dt p2) (ap (aa (ao (aa (eH g8 rfl eR (by kernel_rfl) ?_)))))
  intro w10 ch9
  refine qx (λw' hw'=>af d4 rfl rfl zs2 rfl) ?_
  replace bx5:=bx5.cn ch9
  refine qx (λw' hw'=>ae bu rfl (bx5.bel hw') rfl) (qz zs5 ?_)
  replace Rg:=Rg.cn ch9
  refine qx (λw' hw'=>ag (v:=g_v) (i:=↑i) dg rfl rfl (Rg.bel hw') rfl (by omega) (by omega)) (qv (vg [vi ((gI g.2 ↑i).1),vi ((gI g.2 ↑i).2)]) (λw' hw'=>cv (v:=g_v) (i:=↑i) aW rfl (Rg.bel hw') (by omega) (by omega) rfl) (tm (v:=vg [vi ((cP (gI g.2 ↑i)).1),vi ((cP (gI g.2 ↑i)).2)]) rfl (λw' hw'=>aQ (vals:=[vg [vi ((gI g.2 ↑i).1),vi ((gI g.2 ↑i).2)]]) Try.func67 oC pF rfl) (λw' hw'=>(rf w' (gI g.2 ↑i)).mono λe w2 h2=>⟨h2.1,hw'.trans (h2.2.mono hw'.size)⟩) (qx (λw' hw'=>af d4 rfl rfl zs2 rfl) ?_)))
  refine qx (λw' hw'=>ae bu rfl (bx5.bel hw') rfl) (qz zs1 (qx (λw' hw'=>ag (v:=g_v) (i:=e) dg rfl rfl (Rg.bel hw') rfl (by omega) (by omega)) (qv (vg [vi ((gI g.2 e).1),vi ((gI g.2 e).2)]) (λw' hw'=>cv (v:=g_v) (i:=e) aW rfl (Rg.bel hw') (by omega) (by omega) rfl) (tm (v:=vg [vi ((cP (gI g.2 e)).1),vi ((cP (gI g.2 e)).2)]) rfl (λw' hw'=>aQ (vals:=[vg [vi ((gI g.2 e).1),vi ((gI g.2 e).2)]]) Try.func67 oC pF rfl) (λw' hw'=>(rf w' (gI g.2 e)).mono λe w2 h2=>⟨h2.1,hw'.trans (h2.2.mono hw'.size)⟩) ?_))))
  refine qv (vb (decide ((cP (gI g.2 ↑i))=(cP (gI g.2 e))))) (λw' hw'=>lF (a:=(cP (gI g.2 ↑i))) (b:=(cP (gI g.2 e))) da U3 ak (by kernel_rfl) rfl rfl) (fl ?_)
  intro w11 hc12
  replace hc12:=aT hc12 g8
  by_cases p4:(cP (gI g.2 ↑i))=(cP (gI g.2 e))
  ·
   refine aj rfl (dt p4) (aa ?_)
   clear bx5
   refine a8 rfl (ma (vb true) (ad (aD (vs:=[vb true]) Try.func48 (.tmp rfl .nil) ?_)))
   have e0:(true:Bool)=(decide (cP (gI g.2 e)∈(g.2.map cP).take e.toNat)):=by
     exact(dt (we he2 ‹_› ‹_›)).symm
   replace bH:=bH.cn ch9
   replace bH:=bH.cn hc12
   exact⟨rb e0,bH.below⟩
  refine ah rfl (df p4) (ap (am (a8 rfl (mz zs5 (lx (aJ (m:=↑i) (n:=1) rfl rfl (by omega)) (ai ((i:Int)+1) (ad ?_)))))))
  replace bH:=bH.cn ch9
  refine back2 (i+1,g8) _ _ ⟨bH.cn hc12,zs1,zs2,rfl,Rg.cn hc12,bx5.cn hc12,by omega,?_⟩ ?_
  · show∀j:Nat,j<(i+1)->¬cP (gI g.2 j)=cP (gI g.2 e)
    intro j hj
    by_cases e0:j=i
    · subst e0;assumption
    · exact hinv j (by omega)
  · show Int.toNat ((e:Int)-((i+1):Int))<Int.toNat ((e:Int)-(i:Int))
    omega
 refine ah rfl (df p2) (aM rfl (aa ?_))
 clear bx5
 refine a8 rfl (ma (vb false) (ad (aD (vs:=[vb false]) Try.func48 (.tmp rfl .nil) ?_)))
 have e0:(false:Bool)=(decide (cP (gI g.2 e)∈(g.2.map cP).take e.toNat)):=by
   exact(df (wf hinv (by omega) ‹_›)).symm
 exact⟨rb e0,bH.below⟩
theorem tD(w0:World)(g:(Int)×(List Pt))(g_v:Value)(hg_v:Ro w0 g_v g.2)(hmay:b7 g):
    Calls Try.prog 24 #[vg [vi g.1,g_v]] w0 (λee w=>ee= .returned (vg [vi (((eA g).1).1),vi ((((eA g).1).2).1),vi (((((eA g).1).2).2).1),vi ((((((eA g).1).2).2).2).1),vb ((((((eA g).1).2).2).2).2)])/\e8 w0.heap.size w0 w):=by
 refine ar Try.func24 rfl nq ?_
 have bH:=bq.start w0
 have Rg:=hg_v.sl
 have hm0:=hmay
 obtain⟨hm1,hm2,hm3,hm4⟩:=hm0
 refine aa (a8 rfl (cF rfl (cA c0 (is 1) (1,0) rfl rfl ?_)))
 intro g4 w1 b3 ch2 bx5
 replace bx5:Bx g4 (is 1) w1 b3 [vi g.1,g_v]:=bx5
 refine lo (bz g4 (is 2) (2,0) rfl fG ?_)
 intro g9 w6 b8 ch7 bx10
 replace bx10:Bx g9 (is 2) w6 b8 [vi 0,vi 0,vi 0,vi 0,vb false]:=bx10
 refine ad (aa (a8 rfl (cF rfl (bz g9 (is 3) (3,0) rfl fG ?_))))
 intro g14 w11 b13 ch12 bx15
 replace bx15:Bx g14 (is 3) w11 b13 [vi 0,vi 0,vi 0,vi 0,vb false]:=bx15
 refine ad (aa (aa (a8 rfl (ai 0 (ad (ao ?_))))))
 refine b9 (σ:=Int×Int×Nat×aL) (λ⟨k_0,k_1,i,gq⟩ f w=>bq w0 gq w/\f 1=vp b3 0/\f 2=vp b8 0/\f 3=vp b13 0/\f 4=vi ↑i/\Sl gq (is 0) w g_v g.2/\Bx gq (is 1) w b3 [vi g.1,g_v]/\Bx gq (is 2) w b8 [vi 0,vi 0,vi 0,vi 0,vb false]/\Bx gq (is 3) w b13 [vi k_0,vi k_1,vi 0,vi 0,vb false]/\(i:Int)<=((g.2.length:Int):Int)/\(k_0=dY g i/\k_1=gk g i)) (λ⟨k_0,k_1,i,gq⟩=>Int.toNat (((g.2.length:Int):Int)-(i:Int))) (0,0,0,g14) ?_ ?_
 have C16:=cg [] (ch2.n.seq (ch7.n.seq ch12.n))
 · exact⟨bH.ca C16,rfl,rfl,rfl,rfl,Rg.ca C16,(bx5.cn ch7).cn ch12,bx10.cn ch12,bx15,by omega,by exact⟨rfl,rfl⟩⟩
 clear Rg bx5 bx10 bx15 bH
 rintro⟨k_0,k_1,i,g19⟩ f17 w18 ⟨bH,zs1,zs2,zs3,zs4,Rg,bx5,bx10,bx15,hle_i,hinv⟩ back3
 have hk0:=sW g i
 have hk1:=vV g i
 have hi1:=hinv.1
 have hi2:=hinv.2
 refine aa (aa (a8 rfl (mz zs4 (lx (af d4 rfl rfl zs1 rfl) (lx (ae bu rfl bx5 rfl) ?_)))))
 have len20:=(Rg).small
 refine lx (bJ dg rfl Rg) (lx (bg (m:=↑i) (n:=(g.2.length:Int)) rfl rfl) (ad ?_))
 by_cases p3:(i:Int)<(g.2.length:Int)
 ·
  refine aj rfl (dt p3) (ap (aa (ao (aa (aa (eH g19 rfl eR (by kernel_rfl) ?_))))))
  intro w22 ch21
  refine qx (λw' hw'=>af d4 rfl rfl zs1 rfl) ?_
  replace bx5:=bx5.cn ch21
  refine qx (λw' hw'=>ae bu rfl (bx5.bel hw') rfl) (qz zs4 ?_)
  replace Rg:=Rg.cn ch21
  refine qx (λw' hw'=>ag (v:=g_v) (i:=↑i) dg rfl rfl (Rg.bel hw') rfl (by omega) (by omega)) (qx (λw' hw'=>cj da rfl rfl rfl (by decide) (by decide) rfl) (qx (λw' hw'=>d6 (v:=g_v) (i:=↑i) ak rfl (Rg.bel hw') (by omega) (by omega) (by decide) rfl) (qx (λw' hw'=>af d4 rfl rfl zs1 rfl) (qx (λw' hw'=>ae bu rfl (bx5.bel hw') rfl) (qz zs4 (qx (λw' hw'=>ag (v:=g_v) (i:=↑i) dg rfl rfl (Rg.bel hw') rfl (by omega) (by omega)) (qx (λw' hw'=>cj da rfl rfl rfl (by decide) (by decide) rfl) (qx (λw' hw'=>d6 (v:=g_v) (i:=↑i) ak rfl (Rg.bel hw') (by omega) (by omega) (by decide) rfl) ?_))))))))
  refine qx (λw' hw'=>cK (m:=(gI g.2 ↑i).1) (n:=(gI g.2 ↑i).2) rfl rfl) (fl ?_)
  intro w23 hc24
  replace hc24:=aT hc24 g19
  by_cases p5:((gI g.2 ↑i).1)=((gI g.2 ↑i).2)
  ·
   refine aj rfl (dt p5) (a8 rfl (lx (af n4 rfl rfl zs3 rfl) ?_))
   replace bx15:=(bx15.cn ch21).cn hc24
   refine lx (ae ak rfl bx15 rfl) (lx (aJ (m:=k_0) (n:=1) rfl rfl (by omega)) (lx (af n4 rfl rfl zs3 rfl) (lo (aF (cs':=[vi (k_0+1),vi k_1,vi 0,vi 0,vb false]) ak rfl rfl bx15 rfl nq (AllOne.all (.cons rfl .nil)) rfl ?_))))
   intro w25 ch26 bx27
   clear bx15
   refine ad (aa (a8 rfl ?_))
   replace bx5:=(bx5.cn hc24).ce ch26
   refine lx (aB (ds:=[vi g.1,g_v]) aK zs1 bx5 rfl rfl) (mz zs4 ?_)
   replace Rg:=(Rg.cn hc24).ce ch26
   refine lo (bT (v:=vb (decide (cP (gI g.2 ↑i)∈(g.2.map cP).take (i:Int).toNat))) (aQ (vals:=[vg [vi g.1,g_v],vi ↑i]) Try.func48 ou py rfl) (kL w25 g g_v (Rg).ro (i:Int) (by omega) (by omega)) ?_)
   intro w28 hb29
   replace hb29:=aT hb29 g19
   refine ad ?_
   by_cases p7:(decide (cP (gI g.2 ↑i)∈(g.2.map cP).take (i:Int).toNat))=true
   ·
    refine aj rfl p7 (a8 rfl (lx (af n4 rfl rfl zs3 rfl) ?_))
    replace bx27:=bx27.cn hb29
    refine lx (ae ak rfl bx27 rfl) (lx (aJ (m:=k_1) (n:=1) rfl rfl (by omega)) (lx (af n4 rfl rfl zs3 rfl) (lo (aF (cs':=[vi (k_0+1),vi (k_1+1),vi 0,vi 0,vb false]) ak rfl rfl bx27 rfl nq (AllOne.all (.cons rfl .nil)) rfl ?_))))
    intro w30 ch31 bx32
    clear bx27
    refine ad (am (a8 rfl (mz zs4 (lx (aJ (m:=↑i) (n:=1) rfl rfl (by omega)) (ai ((i:Int)+1) (ad ?_))))))
    have C33:=cg [3] (ch21.n.seq (hc24.n.seq ((ch26.l rfl).seq (hb29.n.seq (ch31.l rfl)))))
    refine back3 (k_0+1,k_1+1,i+1,g19) _ _ ⟨bH.ca C33,zs1,zs2,zs3,rfl,(Rg.cn hb29).ce ch31,(bx5.cn hb29).ce ch31,bx10.ca C33,bx32,by omega,?_⟩ ?_
    · show(k_0+1)=dY g (i+1)/\(k_1+1)=gk g (i+1)
      exact⟨tw ‹_› hi1 ‹_›,xO hi2 ‹_›⟩
    · show Int.toNat (((g.2.length:Int):Int)-((i+1):Int))<Int.toNat (((g.2.length:Int):Int)-(i:Int))
      omega
   refine ah rfl (Bool.eq_false_iff.2 p7) (ap (am (a8 rfl (mz zs4 (lx (aJ (m:=↑i) (n:=1) rfl rfl (by omega)) (ai ((i:Int)+1) (ad ?_)))))))
   have C34:=cg [3] (ch21.n.seq (hc24.n.seq ((ch26.l rfl).seq hb29.n)))
   refine back3 (k_0+1,k_1,i+1,g19) _ _ ⟨bH.ca C34,zs1,zs2,zs3,rfl,Rg.cn hb29,bx5.cn hb29,bx10.ca C34,bx27.cn hb29,by omega,?_⟩ ?_
   · show(k_0+1)=dY g (i+1)/\k_1=gk g (i+1)
     exact⟨tw ‹_› hi1 ‹_›,xC hi2 ‹_›⟩
   · show Int.toNat (((g.2.length:Int):Int)-((i+1):Int))<Int.toNat (((g.2.length:Int):Int)-(i:Int))
     omega
  refine ah rfl (df p5) (ap (aa (a8 rfl ?_)))
  replace bx5:=bx5.cn hc24
  refine lx (aB (ds:=[vi g.1,g_v]) aK zs1 bx5 rfl rfl) (mz zs4 ?_)
  replace Rg:=Rg.cn hc24
  refine lo (bT (v:=vb (decide (cP (gI g.2 ↑i)∈(g.2.map cP).take (i:Int).toNat))) (aQ (vals:=[vg [vi g.1,g_v],vi ↑i]) Try.func48 ou py rfl) (kL w23 g g_v (Rg).ro (i:Int) (by omega) (by omega)) ?_)
  intro w35 hb36
  replace hb36:=aT hb36 g19
  refine ad ?_
  by_cases p7:(decide (cP (gI g.2 ↑i)∈(g.2.map cP).take (i:Int).toNat))=true
  ·
   refine aj rfl p7 (a8 rfl (lx (af n4 rfl rfl zs3 rfl) ?_))
   have C37:=cg [] (ch21.n.seq (hc24.n.seq hb36.n))
   replace bx15:=bx15.ca C37
   refine lx (ae ak rfl bx15 rfl) (lx (aJ (m:=k_1) (n:=1) rfl rfl (by omega)) (lx (af n4 rfl rfl zs3 rfl) (lo (aF (cs':=[vi k_0,vi (k_1+1),vi 0,vi 0,vb false]) ak rfl rfl bx15 rfl nq (AllOne.all (.cons rfl .nil)) rfl ?_))))
   intro w38 ch39 bx40
   clear bx15
   refine ad (am (a8 rfl (mz zs4 (lx (aJ (m:=↑i) (n:=1) rfl rfl (by omega)) (ai ((i:Int)+1) (ad ?_))))))
   have C41:=cg [3] (ch21.n.seq (hc24.n.seq (hb36.n.seq (ch39.l rfl))))
   refine back3 (k_0,k_1+1,i+1,g19) _ _ ⟨bH.ca C41,zs1,zs2,zs3,rfl,(Rg.cn hb36).ce ch39,(bx5.cn hb36).ce ch39,bx10.ca C41,bx40,by omega,?_⟩ ?_
   · show k_0=dY g (i+1)/\(k_1+1)=gk g (i+1)
     exact⟨uJ ‹_› hi1 ‹_›,xO hi2 ‹_›⟩
   · show Int.toNat (((g.2.length:Int):Int)-((i+1):Int))<Int.toNat (((g.2.length:Int):Int)-(i:Int))
     omega
  refine ah rfl (Bool.eq_false_iff.2 p7) (ap (am (a8 rfl (mz zs4 (lx (aJ (m:=↑i) (n:=1) rfl rfl (by omega)) (ai ((i:Int)+1) (ad ?_)))))))
  have C42:=cg [] (ch21.n.seq (hc24.n.seq hb36.n))
  refine back3 (k_0,k_1,i+1,g19) _ _ ⟨bH.ca C42,zs1,zs2,zs3,rfl,Rg.cn hb36,bx5.cn hb36,bx10.ca C42,bx15.ca C42,by omega,?_⟩ ?_
  · show k_0=dY g (i+1)/\k_1=gk g (i+1)
    exact⟨uJ ‹_› hi1 ‹_›,xC hi2 ‹_›⟩
  · show Int.toNat (((g.2.length:Int):Int)-((i+1):Int))<Int.toNat (((g.2.length:Int):Int)-(i:Int))
    omega
 refine ah rfl (df p3) (aM rfl (aa (a8 rfl (lx (aB (ds:=[vi g.1,g_v]) aK zs1 bx5 rfl rfl) (lo (cd (aQ (vals:=[vg [vi g.1,g_v]]) Try.func49 vo u6 rfl) (pu w18 g g_v (Rg).ro (by exact hmay)) ?_))))))
 rintro⟨d44,v46⟩ w43 ⟨fr45,o47⟩
 obtain⟨g48,ch49,G48⟩:=jK g19 fr45 (λn=>if n=1 then 4 else 0)
 replace o47:=o47.gl G48 4
 refine ma v46 (ad (aa (aa ?_)))
 clear bx5
 refine a8 rfl (ai 0 (ad (ao ?_)))
 refine b9 (σ:=Int×Int×Nat×aL) (λ⟨k_2,k_3,v,gq⟩ f w=>bq w0 gq w/\f 2=vp b8 0/\f 3=vp b13 0/\f 5=v46/\f 6=vi ↑v/\Sl gq (is 0) w g_v g.2/\Bx gq (is 2) w b8 [vi 0,vi 0,vi 0,vi 0,vb false]/\Bx gq (is 3) w b13 [vi k_0,vi k_1,vi k_2,vi k_3,vb false]/\Ow gq (is 4) (is 4) w v46 (cO g)/\(v:Int)<=((List.length (cO g):Int):Int)/\(fK k_2 k_3 (cO g) v)) (λ⟨k_2,k_3,v,gq⟩=>Int.toNat (((List.length (cO g):Int):Int)-(v:Int))) (0,0,0,g48) ?_ ?_
 · exact⟨bH.cn ch49,zs2,zs3,rfl,rfl,Rg.cn ch49,bx10.cn ch49,bx15.cn ch49,o47,by omega,by exact fK.start _⟩
 clear Rg bx10 bx15 o47 bH
 rintro⟨k_2,k_3,v,g52⟩ f50 w51 ⟨bH,zs2,zs3,zs5,zs6,Rg,bx10,bx15,o47,hle_v,hinv2⟩ back11
 refine aa (aa (a8 rfl (mz zs6 (mz zs5 ?_))))
 have len53:=(o47.flat).small
 refine lx (bJ bD rfl o47.flat) (lx (bg (m:=↑v) (n:=(List.length (cO g):Int)) rfl rfl) (ad ?_))
 by_cases p11:(v:Int)<(List.length (cO g):Int)
 ·
  refine aj rfl (dt p11) (ap (aa (ao (aa (aa (eH g52 rfl eR (by kernel_rfl) ?_))))))
  intro w55 ch54
  refine qz zs6 (qx (λw' hw'=>cK (m:=↑v) (n:=0) rfl rfl) (qm (vb (decide ((v:Int)=0))) ?_))
  by_cases q48:(v:Int)=0
  ·
   refine b5 (wn (dt q48)) (b5 (wn (dt q48)) (b5 (wn (dt q48)) (b5 (wn (dt q48)) (b5 (wn (dt q48)) (b5 (wn (dt q48)) (b5 (wn (dt q48)) (qv (vb true) (λw' hw'=>aV rfl (dt q48) rfl) (fl ?_))))))))
   intro w56 hc57
   replace hc57:=aT hc57 g52
   refine aj rfl rfl (a8 rfl (mz zs5 (mz zs6 ?_)))
   replace o47:=(o47.cn ch54).cn hc57
   refine lx (ag (v:=v46) (i:=↑v) bD rfl rfl o47.flat rfl (by omega) (by omega)) (lx (aw (v:=v46) (i:=↑v) ak rfl o47.flat (by omega) (by omega) (by decide) rfl) (lx (af n4 rfl rfl zs3 rfl) (lo ?_)))
   replace bx15:=(bx15.cn ch54).cn hc57
   refine aF (cs':=[vi k_0,vi k_1,vi (gI (cO g) (v:Int)),vi k_3,vb false]) ak rfl rfl bx15 rfl nq (AllOne.all (.cons rfl .nil)) rfl ?_
   intro w58 ch59 bx60
   clear bx15
   refine ad (bB g52 [0,1,2,3,4,5,6,7] eR ?_)
   intro w62 ch61
   refine xp 0 rfl (λw=>af n4 rfl rfl zs3 rfl) ?_
   replace bx60:=bx60.cn ch61
   refine xv 1 [0,2,3,4,5] rfl (ae ak rfl bx60 rfl) (xp (v:=v46) 2 rfl (λw=>av zs5) (xp (v:=vi ↑v) 3 rfl (λw=>av zs6) ?_))
   replace o47:=(o47.ce ch59).cn ch61
   refine xv 4 [3,2,1,0] rfl (ag (v:=v46) (i:=↑v) bD rfl rfl o47.flat rfl (by omega) (by omega)) (xv 5 [4,3,2,1,0] rfl (aw (v:=v46) (i:=↑v) ak rfl o47.flat (by omega) (by omega) (by decide) rfl) (xp (v:=vi (max k_3 (gI (cO g) (v:Int)))) 6 rfl (λw=>lY rfl rfl) (xp 7 rfl (λw=>af n4 rfl rfl zs3 rfl) (bc 8 rfl (by kernel_rfl) rfl (aF (cs':=[vi k_0,vi k_1,vi (gI (cO g) (v:Int)),vi (max k_3 (gI (cO g) (v:Int))),vb false]) ak rfl rfl bx60 rfl nq (AllOne.all (.cons rfl .nil)) rfl ?_)))))
   intro w63 ch64 bx65
   clear bx60
   refine bY (by kernel_rfl) (am (a8 rfl (mz zs6 (lx (aJ (m:=↑v) (n:=1) rfl rfl (by omega)) (ai ((v:Int)+1) (ad ?_))))))
   have C66:=cg [3] (ch54.n.seq (hc57.n.seq ((ch59.l rfl).seq (ch61.n.seq (ch64.l rfl)))))
   refine back11 ((gI (cO g) (v:Int)),max k_3 (gI (cO g) (v:Int)),v+1,g52) _ _ ⟨bH.ca C66,zs2,zs3,zs5,rfl,Rg.ca C66,bx10.ca C66,bx65,o47.ce ch64,by omega,?_⟩ ?_
   · show fK (gI (cO g) (v:Int)) (max k_3 (gI (cO g) (v:Int))) (cO g) (v+1)
     exact hinv2.next ‹_› jk (by rw[if_pos (.inl (by omega))])
   · show Int.toNat (((List.length (cO g):Int):Int)-((v+1):Int))<Int.toNat (((List.length (cO g):Int):Int)-(v:Int))
     omega
  refine ba (v:=v46) (wy (df q48)) (λw' hw'=>av zs5) (ba (v:=vi ↑v) (wy (df q48)) (λw' hw'=>av zs6) ?_)
  replace o47:=o47.cn ch54
  refine ba (v:=Value.pointer (some (bA v46 1 (Int.toNat ↑v)))) (wy (df q48)) (λw' hw'=>ag (α:=Int) (xs:=cO g) (v:=v46) (i:=↑v) bD rfl rfl (o47.flat.bel hw') rfl (by omega) (by omega)) (ba (v:=vi (gI (cO g) (v:Int))) (wy (df q48)) (λw' hw'=>aw (α:=Int) (xs:=cO g) (v:=v46) (i:=↑v) ak rfl (o47.flat.bel hw') (by omega) (by omega) (by decide) rfl) (ba (v:=vp b13 2) (wy (df q48)) (λw' hw'=>af n4 rfl rfl zs3 rfl) ?_))
  replace bx15:=bx15.cn ch54
  refine ba (v:=vi k_2) (wy (df q48)) (λw' hw'=>ae ak rfl (bx15.bel hw') rfl) (ba (v:=vb (decide ((gI (cO g) (v:Int))<k_2))) (wy (df q48)) (λw' hw'=>bg (m:=(gI (cO g) (v:Int))) (n:=k_2) rfl rfl) (qv (vb (decide ((gI (cO g) (v:Int))<k_2))) (λw' hw'=>aS rfl (df q48) rfl) (fl ?_)))
  intro w67 hc68
  replace hc68:=aT hc68 g52
  by_cases p13:(gI (cO g) (v:Int))<k_2
  ·
   refine aj rfl (dt p13) (a8 rfl (mz zs5 (mz zs6 ?_)))
   replace o47:=o47.cn hc68
   refine lx (ag (v:=v46) (i:=↑v) bD rfl rfl o47.flat rfl (by omega) (by omega)) (lx (aw (v:=v46) (i:=↑v) ak rfl o47.flat (by omega) (by omega) (by decide) rfl) (lx (af n4 rfl rfl zs3 rfl) (lo ?_)))
   replace bx15:=bx15.cn hc68
   refine aF (cs':=[vi k_0,vi k_1,vi (gI (cO g) (v:Int)),vi k_3,vb false]) ak rfl rfl bx15 rfl nq (AllOne.all (.cons rfl .nil)) rfl ?_
   intro w69 ch70 bx71
   clear bx15
   refine ad (bB g52 [0,1,2,3,4,5,6,7] eR ?_)
   intro w73 ch72
   refine xp 0 rfl (λw=>af n4 rfl rfl zs3 rfl) ?_
   replace bx71:=bx71.cn ch72
   refine xv 1 [0,2,3,4,5] rfl (ae ak rfl bx71 rfl) (xp (v:=v46) 2 rfl (λw=>av zs5) (xp (v:=vi ↑v) 3 rfl (λw=>av zs6) ?_))
   replace o47:=(o47.ce ch70).cn ch72
   refine xv 4 [3,2,1,0] rfl (ag (v:=v46) (i:=↑v) bD rfl rfl o47.flat rfl (by omega) (by omega)) (xv 5 [4,3,2,1,0] rfl (aw (v:=v46) (i:=↑v) ak rfl o47.flat (by omega) (by omega) (by decide) rfl) (xp (v:=vi (max k_3 (gI (cO g) (v:Int)))) 6 rfl (λw=>lY rfl rfl) (xp 7 rfl (λw=>af n4 rfl rfl zs3 rfl) (bc 8 rfl (by kernel_rfl) rfl (aF (cs':=[vi k_0,vi k_1,vi (gI (cO g) (v:Int)),vi (max k_3 (gI (cO g) (v:Int))),vb false]) ak rfl rfl bx71 rfl nq (AllOne.all (.cons rfl .nil)) rfl ?_)))))
   intro w74 ch75 bx76
   clear bx71
   refine bY (by kernel_rfl) (am (a8 rfl (mz zs6 (lx (aJ (m:=↑v) (n:=1) rfl rfl (by omega)) (ai ((v:Int)+1) (ad ?_))))))
   have C77:=cg [3] (ch54.n.seq (hc68.n.seq ((ch70.l rfl).seq (ch72.n.seq (ch75.l rfl)))))
   refine back11 ((gI (cO g) (v:Int)),max k_3 (gI (cO g) (v:Int)),v+1,g52) _ _ ⟨bH.ca C77,zs2,zs3,zs5,rfl,Rg.ca C77,bx10.ca C77,bx76,o47.ce ch75,by omega,?_⟩ ?_
   · show fK (gI (cO g) (v:Int)) (max k_3 (gI (cO g) (v:Int))) (cO g) (v+1)
     exact hinv2.next ‹_› jk (by rw[if_pos (.inr ‹_›)])
   · show Int.toNat (((List.length (cO g):Int):Int)-((v+1):Int))<Int.toNat (((List.length (cO g):Int):Int)-(v:Int))
     omega
  refine ah rfl (df p13) (ap (bB g52 [0,1,2,3,4,5,6,7] eR ?_))
  intro w79 ch78
  refine xp 0 rfl (λw=>af n4 rfl rfl zs3 rfl) ?_
  replace bx15:=(bx15.cn hc68).cn ch78
  refine xv 1 [0,2,3,4,5] rfl (ae ak rfl bx15 rfl) (xp (v:=v46) 2 rfl (λw=>av zs5) (xp (v:=vi ↑v) 3 rfl (λw=>av zs6) ?_))
  replace o47:=(o47.cn hc68).cn ch78
  refine xv 4 [3,2,1,0] rfl (ag (v:=v46) (i:=↑v) bD rfl rfl o47.flat rfl (by omega) (by omega)) (xv 5 [4,3,2,1,0] rfl (aw (v:=v46) (i:=↑v) ak rfl o47.flat (by omega) (by omega) (by decide) rfl) (xp (v:=vi (max k_3 (gI (cO g) (v:Int)))) 6 rfl (λw=>lY rfl rfl) (xp 7 rfl (λw=>af n4 rfl rfl zs3 rfl) (bc 8 rfl (by kernel_rfl) rfl (aF (cs':=[vi k_0,vi k_1,vi k_2,vi (max k_3 (gI (cO g) (v:Int))),vb false]) ak rfl rfl bx15 rfl nq (AllOne.all (.cons rfl .nil)) rfl ?_)))))
  intro w80 ch81 bx82
  clear bx15
  refine bY (by kernel_rfl) (am (a8 rfl (mz zs6 (lx (aJ (m:=↑v) (n:=1) rfl rfl (by omega)) (ai ((v:Int)+1) (ad ?_))))))
  have C83:=cg [3] (ch54.n.seq (hc68.n.seq (ch78.n.seq (ch81.l rfl))))
  refine back11 (k_2,max k_3 (gI (cO g) (v:Int)),v+1,g52) _ _ ⟨bH.ca C83,zs2,zs3,zs5,rfl,Rg.ca C83,bx10.ca C83,bx82,o47.ce ch81,by omega,?_⟩ ?_
  · show fK k_2 (max k_3 (gI (cO g) (v:Int))) (cO g) (v+1)
    exact hinv2.next ‹_› jk (by rw[if_neg (by rintro(h|h)<;>omega)])
  · show Int.toNat (((List.length (cO g):Int):Int)-((v+1):Int))<Int.toNat (((List.length (cO g):Int):Int)-(v:Int))
    omega
 refine ah rfl (df p11) (aM rfl (aa ?_))
 clear o47
 refine a8 rfl (lx (af n4 rfl rfl zs3 rfl) (lx (ae ak rfl bx15 rfl) (lx (cK (m:=k_0) (n:=0) rfl rfl) (mv (vb (decide (k_0=0))) ?_))))
 by_cases q73:k_0=0
 ·
  refine lv (vp b13 1) (wy (dt q73)) (af n4 rfl rfl zs3 rfl) (lv (vi k_1) (wy (dt q73)) (ae ak rfl bx15 rfl) (lv (vb (decide (k_1=0))) (wy (dt q73)) (cK (m:=k_1) (n:=0) rfl rfl) (lw (vb (decide (k_1=0))) (aV rfl (dt q73) rfl) (lx (af n4 rfl rfl zs3 rfl) (lo (aF (cs':=[vi k_0,vi k_1,vi k_2,vi k_3,vb (decide (k_1=0))]) cE rfl rfl bx15 rfl nq (AllOne.all (.cons rfl .nil)) rfl ?_))))))
  intro w84 ch85 bx86
  clear bx15
  refine ad (aa (a8 rfl (lx (aB (ds:=[vi k_0,vi k_1,vi k_2,vi k_3,vb (decide (k_1=0))]) fG zs3 bx86 rfl rfl) (lo ?_))))
  replace bx10:=bx10.ce ch85
  refine aF (cs':=[vi k_0,vi k_1,vi k_2,vi k_3,vb (decide (k_1=0))]) fG zs2 rfl bx10 rfl nq (AllOne.all (.cons rfl (.cons rfl (.cons rfl (.cons rfl (.cons rfl .nil)))))) rfl ?_
  intro w87 ch88 bx89
  clear bx10
  refine ad (aD (vs:=[vg [vi k_0,vi k_1,vi k_2,vi k_3,vb (decide (k_1=0))]]) Try.func24 (.cell zs2 (bK (ds:=[vi k_0,vi k_1,vi k_2,vi k_3,vb (decide (k_1=0))]) fG bx89 rfl rfl) .nil) ?_)
  have e0:((k_0,k_1,k_2,k_3,decide (k_1=0)):(Int)×(Int)×(Int)×(Int)×(Bool))=((eA g).1):=by
    have hmm:=hinv2.done (by omega)
    obtain⟨hi1,hi2⟩:=hinv
    have hig:i=g.2.length:=by omega
    subst hig
    exact pR hmay hi1 hi2 hmm.1 hmm.2 (by(simp_all;done))
  replace bH:=bH.ce ch85
  replace bH:=bH.ce ch88
  exact⟨(congrArg (a₁:=(k_0,k_1,k_2,k_3,decide (k_1=0))) (λ(z0:(Int)×(Int)×(Int)×(Int)×(Bool))=>Ending.returned (vg [vi z0.1,vi z0.2.1,vi z0.2.2.1,vi z0.2.2.2.1,vb z0.2.2.2.2])) e0),bH.below⟩
 refine az (wn (df q73)) (az (wn (df q73)) (az (wn (df q73)) (lw (vb false) (aS rfl (df q73) rfl) (lx (af n4 rfl rfl zs3 rfl) (lo (aF (cs':=[vi k_0,vi k_1,vi k_2,vi k_3,vb false]) cE rfl rfl bx15 rfl nq (AllOne.all (.cons rfl .nil)) rfl ?_))))))
 intro w90 ch91 bx92
 clear bx15
 refine ad (aa (a8 rfl (lx (aB (ds:=[vi k_0,vi k_1,vi k_2,vi k_3,vb false]) fG zs3 bx92 rfl rfl) (lo ?_))))
 replace bx10:=bx10.ce ch91
 refine aF (cs':=[vi k_0,vi k_1,vi k_2,vi k_3,vb false]) fG zs2 rfl bx10 rfl nq (AllOne.all (.cons rfl (.cons rfl (.cons rfl (.cons rfl (.cons rfl .nil)))))) rfl ?_
 intro w93 ch94 bx95
 clear bx10
 refine ad (aD (vs:=[vg [vi k_0,vi k_1,vi k_2,vi k_3,vb false]]) Try.func24 (.cell zs2 (bK (ds:=[vi k_0,vi k_1,vi k_2,vi k_3,vb false]) fG bx95 rfl rfl) .nil) ?_)
 have e0:((k_0,k_1,k_2,k_3,false):(Int)×(Int)×(Int)×(Int)×(Bool))=((eA g).1):=by
   have hmm:=hinv2.done (by omega)
   obtain⟨hi1,hi2⟩:=hinv
   have hig:i=g.2.length:=by omega
   subst hig
   exact pR hmay hi1 hi2 hmm.1 hmm.2 (by(simp_all;done))
 replace bH:=bH.ce ch91
 replace bH:=bH.ce ch94
 exact⟨(congrArg (a₁:=(k_0,k_1,k_2,k_3,false)) (λ(z0:(Int)×(Int)×(Int)×(Int)×(Bool))=>Ending.returned (vg [vi z0.1,vi z0.2.1,vi z0.2.2.1,vi z0.2.2.2.1,vb z0.2.2.2.2])) e0),bH.below⟩
set_option maxHeartbeats 8000000 in
theorem nJ(w0:World)(g:(Int)×(List Pt))(g_v:Value)(hg_v:Ro w0 g_v g.2)(u:Int)(v:Int):
    Calls Try.prog 4 #[vg [vi g.1,g_v],vi u,vi v] w0 (λee w=>ee= .returned (vb true)/\e8 w0.heap.size w0 w):=by
 refine ar Try.func4 rfl nq ?_
 have bH:=bq.start w0
 have Rg:=hg_v.sl
 refine aa (a8 rfl (cF rfl (cA c0 (is 1) (1,0) rfl rfl ?_)))
 intro g4 w1 b3 ch2 bx5
 replace bx5:Bx g4 (is 1) w1 b3 [vi g.1,g_v]:=bx5
 refine ma (vb false) (ad (aa (aa (a8 rfl (cF rfl (bT (v:=vb true) (aQ (vals:=[]) Try.func6 wz vU rfl) (sr w1) ?_))))))
 intro w6 hb7
 replace hb7:=aT hb7 g4
 refine lx (eF (b:=true) rfl) (ad (ah rfl rfl (ap (aa (aa (a8 rfl ?_))))))
 replace bx5:=bx5.cn hb7
 refine lx (aB (ds:=[vi g.1,g_v]) aK rfl bx5 rfl rfl) ?_
 replace Rg:=(Rg.cn ch2).cn hb7
 refine lo (bT (v:=vb (decide (¬b7 g\/(g.1<=16/\g.2.length<=40)))) (aQ (vals:=[vg [vi g.1,g_v]]) Try.func7 x5 wk rfl) (si w6 g g_v (Rg).ro) ?_)
 intro w8 hb9
 replace hb9:=aT hb9 g4
 refine lx (eF (b:=(decide (¬b7 g\/(g.1<=16/\g.2.length<=40)))) rfl) (mv (vb (!(decide (¬b7 g\/(g.1<=16/\g.2.length<=40))))) ?_)
 by_cases q25:(decide (¬b7 g\/(g.1<=16/\g.2.length<=40)))=true
 ·
  replace bx5:=bx5.cn hb9
  refine lv (vg [vi g.1,g_v]) (wy (congrArg Bool.not q25)) (aB (ds:=[vi g.1,g_v]) aK rfl bx5 rfl rfl) ?_
  replace Rg:=Rg.cn hb9
  refine cF (wy (congrArg Bool.not q25)) (bT (v:=vb (cS g)) (aQ (vals:=[vg [vi g.1,g_v]]) Try.func14 oT pk rfl) (rc w8 g g_v (Rg).ro) ?_)
  intro w10 hb11
  replace hb11:=aT hb11 g4
  refine lv (vb (!(cS g))) (wy (congrArg Bool.not q25)) (eF (b:=(cS g)) rfl) (lw (vb (!(cS g))) (aS rfl (congrArg Bool.not q25) rfl) (ad ?_))
  by_cases p3:(cS g)=true
  ·
   refine ah rfl (congrArg Bool.not p3) (ap (aa ?_))
   have hm:b7 g:=of_decide_eq_true ‹_›
   have hm0:=hm
   obtain⟨hm1,hm2,hm3,hm4⟩:=hm0
   have hli:g.1<=16/\g.2.length<=40:=(of_decide_eq_true (p:=¬b7 g\/(g.1<=16/\g.2.length<=40)) ‹_›).resolve_left λq=>q hm
   obtain⟨hli1,hli2⟩:=hli
   refine a8 rfl ?_
   replace bx5:=bx5.cn hb11
   refine lx (aB (ds:=[vi g.1,g_v]) aK rfl bx5 rfl rfl) (mi u (mi v ?_))
   replace Rg:=Rg.cn hb11
   refine lo (cd (aQ (vals:=[vg [vi g.1,g_v],vi u,vi v]) Try.func11 pB pb rfl) (jx w10 g g_v (Rg).ro u v) ?_)
   rintro⟨d13,v15⟩ w12 ⟨fr14,o16⟩
   obtain⟨g17,ch18,G17⟩:=jK g4 fr14 (λn=>if n=1 then 2 else 0)
   replace o16:=o16.gl G17 2
   refine mv (vt [v15,vi ((aq g u v).2)]) (lx (aG rfl rfl) (lx (aG rfl rfl) (ma v15 (ai ((aq g u v).2) (ad (aa (aa ?_)))))))
   refine r8 [false,false,true] (σ:=aL) (λgq f w=>bq w0 gq w/\f 3=vp b3 0/\Sl gq (is 0) w g_v g.2/\Bx gq (is 1) w b3 [vi g.1,g_v]/\(True)) ?_ ?_
   ·
    intro mid_j1
    refine a8 rfl (mi ((aq g u v).2) (lx (cK (m:=(aq g u v).2) (n:=0) rfl rfl) (ad ?_)))
    by_cases p6:((aq g u v).2)=0
    ·
     refine aj rfl (dt p6) (aa ?_)
     have hF:=xS (u:=u) (v:=v) (g:=g) ‹_›
     refine a8 rfl (lx (af d4 rfl rfl rfl rfl) ?_)
     replace bx5:=bx5.cn ch18
     refine lx (ae bu rfl bx5 rfl) ?_
     replace Rg:=Rg.cn ch18
     have len19:=(Rg).small
     refine lx (bJ dg rfl Rg) (lo (eD (α:=Bool) (l:=(g.2.length:Int)) (cp:=(g.2.length:Int)) g17 (is 3) (is 3) (3,0) rfl false gA cE rfl rfl rfl (by omega) (by omega) (by omega) (by omega) ?_))
     intro g20 w21 v22 ch23 o24 _
     refine ma v22 (ad (aa (a8 rfl (ai 0 (ad (aa (aa (a8 rfl (ai 0 (ad (ao ?_)))))))))))
     refine b9 (σ:=Int×Nat×(List Bool)×aL) (λ⟨n,i,se,gq⟩ f w=>bq w0 gq w/\f 3=vp b3 0/\f 7=v15/\f 9=v22/\f 10=vi n/\f 11=vi ↑i/\Sl gq (is 0) w g_v g.2/\Bx gq (is 1) w b3 [vi g.1,g_v]/\dJ gq 2 w v15 ((aq g u v).1)/\Ow gq (is 3) (is 3) w v22 se/\(i:Int)<=((List.length ((aq g u v).1):Int):Int)/\(jJ g.2.length ((aq g u v).1) i 0 se n)) (λ⟨n,i,se,gq⟩=>Int.toNat (((List.length ((aq g u v).1):Int):Int)-(i:Int))) (0,0,(List.replicate (Int.toNat (g.2.length:Int)) false),g20) ?_ ?_
     have C25:=cg [] (ch2.n.seq (hb7.n.seq (hb9.n.seq (hb11.n.seq (ch18.n.seq ch23.n)))))
     · exact⟨bH.ca C25,rfl,rfl,rfl,rfl,rfl,Rg.cn ch23,bx5.cn ch23,o16.cn ch23,o24,by omega,by exact jJ.start⟩
     clear Rg bx5 o16 o24 bH
     rintro⟨n,i,se,g28⟩ f26 w27 ⟨bH,zs3,zs7,zs9,zs10,zs11,Rg,bx5,o16,o24,hle_i,hsw⟩ back10
     have hsl:=hsw.ln
     obtain⟨hn0,hn1⟩:=hsw.le hF (by omega)
     refine aa (aa (a8 rfl (mz zs11 (mz zs7 ?_))))
     have len29:=(o16.sl).small
     refine lx (bJ dU rfl o16.sl) (lx (bg (m:=↑i) (n:=(List.length ((aq g u v).1):Int)) rfl rfl) (ad ?_))
     by_cases p10:(i:Int)<(List.length ((aq g u v).1):Int)
     ·
      refine aj rfl (dt p10) (ap (aa (ao (aa (a8 rfl (ai 0 (ad (ao ?_))))))))
      refine b9 (σ:=Int×Nat×(List Bool)×aL) (λ⟨n2,k,se2,gq⟩ f w=>bq w0 gq w/\f 3=vp b3 0/\f 7=v15/\f 9=v22/\f 10=vi n2/\f 11=vi ↑i/\f 12=vi ↑k/\Sl gq (is 0) w g_v g.2/\Bx gq (is 1) w b3 [vi g.1,g_v]/\dJ gq 2 w v15 ((aq g u v).1)/\Ow gq (is 3) (is 3) w v22 se2/\(k:Int)<=((List.length (gI ((aq g u v).1) (i:Int)):Int):Int)/\(jJ g.2.length ((aq g u v).1) i k se2 n2)) (λ⟨n2,k,se2,gq⟩=>Int.toNat (((List.length (gI ((aq g u v).1) (i:Int)):Int):Int)-(k:Int))) (n,0,se,g28) ?_ ?_
      · exact⟨bH,zs3,zs7,zs9,zs10,zs11,rfl,Rg,bx5,o16,o24,by omega,by exact hsw⟩
      clear Rg bx5 o16 o24 bH
      rintro⟨n2,k,se2,g32⟩ f30 w31 ⟨bH,zs3,zs7,zs9,zs10,zs11,zs12,Rg,bx5,o16,o24,hle_k,hsw2⟩ back13
      have hsl2:=hsw2.ln
      obtain⟨hn20,hn21⟩:=hsw2.le hF (by omega)
      refine aa (aa (a8 rfl (mz zs12 (mz zs7 (mz zs11 (lx (ag (v:=v15) (i:=↑i) dU rfl rfl o16.sl rfl (by omega) (by omega)) ?_))))))
      obtain⟨v33,cel34,r35⟩:=c8 (r:=(i:Int)) o16 (by omega) (by omega)
      refine lx (bU aZ rfl cel34) ?_
      have len36:=(r35.row_sl).small
      refine lx (bJ bD rfl r35.row_sl) (lx (bg (m:=↑k) (n:=(List.length (gI ((aq g u v).1) (i:Int)):Int)) rfl rfl) (ad ?_))
      by_cases p13:(k:Int)<(List.length (gI ((aq g u v).1) (i:Int)):Int)
      ·
       refine aj rfl (dt p13) (ap (aa (ao (aa (aa ?_)))))
       clear cel34 r35
       obtain⟨⟨hel0,hel1⟩,_⟩:=jJ.el hF ‹_› ‹_›
       have hfr:=hsw2.fresh hF ‹_› ‹_›
       have hasc:=hF.asc ‹_› ‹_›
       have hhd:=hF.heads (i:=i) ‹_›
       have hrl:=hF.prev (i:=i) ‹_›
       have hrl2:=hF.prev1 (i:=i) ‹_›
       refine eH g32 rfl eR (by kernel_rfl) ?_
       intro w38 ch37
       refine qz zs9 (qz zs7 (qz zs11 ?_))
       replace o16:=o16.cn ch37
       refine qx (λw' hw'=>ag (v:=v15) (i:=↑i) dU rfl rfl (o16.sl.bel hw') rfl (by omega) (by omega)) ?_
       obtain⟨v39,cel40,r41⟩:=c8 (r:=(i:Int)) o16 (by omega) (by omega)
       refine qx (λw' hw'=>bU aZ rfl (eV cel40 hw')) (qz zs12 (qx (λw' hw'=>ag (v:=v39) (i:=↑k) bD rfl rfl (r41.row_sl.bel hw') rfl (by omega) (by omega)) (qx (λw' hw'=>aw (v:=v39) (i:=↑k) ak rfl (r41.row_sl.bel hw') (by omega) (by omega) (by decide) rfl) ?_)))
       replace o24:=o24.cn ch37
       refine qx (λw' hw'=>ag (v:=v22) (i:=(gI (gI ((aq g u v).1) (i:Int)) (k:Int))) gA rfl rfl (o24.flat.bel hw') rfl (by omega) (by omega)) (qx (λw' hw'=>aw (v:=v22) (i:=(gI (gI ((aq g u v).1) (i:Int)) (k:Int))) cE rfl (o24.flat.bel hw') (by omega) (by omega) (by decide) rfl) (qm (vb (gI se2 (gI (gI ((aq g u v).1) (i:Int)) (k:Int)))) ?_))
       have q68:¬((gI se2 (gI (gI ((aq g u v).1) (i:Int)) (k:Int)))=true):=by exact Bool.eq_false_iff.1 hfr
       refine ba (v:=vi ↑k) (wy (Bool.eq_false_iff.2 q68)) (λw' hw'=>av zs12) (ba (v:=vb (decide (0<(k:Int)))) (wy (Bool.eq_false_iff.2 q68)) (λw' hw'=>eo (m:=↑k) (n:=0) rfl rfl) (ba (v:=vb (decide (0<(k:Int)))) (wy (Bool.eq_false_iff.2 q68)) (λw' hw'=>av rfl) ?_))
       by_cases q71:0<(k:Int)
       ·
        refine ba (v:=v15) (wy (dt q71)) (λw' hw'=>av zs7) (ba (v:=vi ↑i) (wy (dt q71)) (λw' hw'=>av zs11) (ba (v:=Value.pointer (some (bA v15 1 (Int.toNat ↑i)))) (wy (dt q71)) (λw' hw'=>ag (α:=List Int) (xs:=(aq g u v).1) (v:=v15) (i:=↑i) dU rfl rfl (o16.sl.bel hw') rfl (by omega) (by omega)) ?_))
        obtain⟨v42,cel43,r44⟩:=c8 (r:=(i:Int)) o16 (by omega) (by omega)
        refine ba (v:=v42) (wy (dt q71)) (λw' hw'=>bU aZ rfl (eV cel43 hw')) (ba (v:=vi ↑k) (wy (dt q71)) (λw' hw'=>av zs12) (ba (v:=vi ((k:Int)-1)) (wy (dt q71)) (λw' hw'=>dF (m:=↑k) (n:=1) rfl rfl (by omega)) (ba (v:=Value.pointer (some (bA v42 1 (Int.toNat ((k:Int)-1))))) (wy (dt q71)) (λw' hw'=>ag (α:=Int) (xs:=gI ((aq g u v).1) (i:Int)) (v:=v42) (i:=(k:Int)-1) bD rfl rfl (r44.row_sl.bel hw') rfl (by omega) (by omega)) ?_)))
        refine ba (v:=vi (gI (gI ((aq g u v).1) (i:Int)) ((k:Int)-1))) (wy (dt q71)) (λw' hw'=>aw (α:=Int) (xs:=gI ((aq g u v).1) (i:Int)) (v:=v42) (i:=(k:Int)-1) ak rfl (r44.row_sl.bel hw') (by omega) (by omega) (by decide) rfl) (ba (v:=v15) (wy (dt q71)) (λw' hw'=>av zs7) (ba (v:=vi ↑i) (wy (dt q71)) (λw' hw'=>av zs11) (ba (v:=Value.pointer (some (bA v15 1 (Int.toNat ↑i)))) (wy (dt q71)) (λw' hw'=>ag (α:=List Int) (xs:=(aq g u v).1) (v:=v15) (i:=↑i) dU rfl rfl (o16.sl.bel hw') rfl (by omega) (by omega)) ?_)))
        obtain⟨v45,cel46,r47⟩:=c8 (r:=(i:Int)) o16 (by omega) (by omega)
        refine ba (v:=v45) (wy (dt q71)) (λw' hw'=>bU aZ rfl (eV cel46 hw')) (ba (v:=vi ↑k) (wy (dt q71)) (λw' hw'=>av zs12) (ba (v:=Value.pointer (some (bA v45 1 (Int.toNat ↑k)))) (wy (dt q71)) (λw' hw'=>ag (α:=Int) (xs:=gI ((aq g u v).1) (i:Int)) (v:=v45) (i:=↑k) bD rfl rfl (r47.row_sl.bel hw') rfl (by omega) (by omega)) (ba (v:=vi (gI (gI ((aq g u v).1) (i:Int)) (k:Int))) (wy (dt q71)) (λw' hw'=>aw (α:=Int) (xs:=gI ((aq g u v).1) (i:Int)) (v:=v45) (i:=↑k) ak rfl (r47.row_sl.bel hw') (by omega) (by omega) (by decide) rfl) ?_)))
        refine ba (v:=vb (decide ((gI (gI ((aq g u v).1) (i:Int)) (k:Int))<=(gI (gI ((aq g u v).1) (i:Int)) ((k:Int)-1))))) (wy (dt q71)) (λw' hw'=>fP (m:=(gI (gI ((aq g u v).1) (i:Int)) ((k:Int)-1))) (n:=(gI (gI ((aq g u v).1) (i:Int)) (k:Int))) rfl rfl) (ba (v:=vb (decide ((gI (gI ((aq g u v).1) (i:Int)) (k:Int))<=(gI (gI ((aq g u v).1) (i:Int)) ((k:Int)-1))))) (wy (Bool.eq_false_iff.2 q68)) (λw' hw'=>aV rfl (dt q71) rfl) (qv (vb (decide ((gI (gI ((aq g u v).1) (i:Int)) (k:Int))<=(gI (gI ((aq g u v).1) (i:Int)) ((k:Int)-1))))) (λw' hw'=>aS rfl (Bool.eq_false_iff.2 q68) rfl) ?_))
        refine qm (vb (decide ((gI (gI ((aq g u v).1) (i:Int)) (k:Int))<=(gI (gI ((aq g u v).1) (i:Int)) ((k:Int)-1))))) ?_
        have q90:¬((gI (gI ((aq g u v).1) (i:Int)) (k:Int))<=(gI (gI ((aq g u v).1) (i:Int)) ((k:Int)-1))):=by exact Int.not_le.2 (hasc ‹_›)
        refine ba (v:=vi ↑i) (wy (df q90)) (λw' hw'=>av zs11) (ba (v:=vb (decide (0<(i:Int)))) (wy (df q90)) (λw' hw'=>eo (m:=↑i) (n:=0) rfl rfl) (ba (v:=vb (decide (0<(i:Int)))) (wy (df q90)) (λw' hw'=>av rfl) ?_))
        by_cases q93:0<(i:Int)
        ·
         refine ba (v:=vi ↑k) (wy (dt q93)) (λw' hw'=>av zs12) (ba (v:=vb (decide ((k:Int)=0))) (wy (dt q93)) (λw' hw'=>cK (m:=↑k) (n:=0) rfl rfl) (ba (v:=vb (decide ((k:Int)=0))) (wy (df q90)) (λw' hw'=>aV rfl (dt q93) rfl) (ba (v:=vb (decide ((k:Int)=0))) (wy (df q90)) (λw' hw'=>av rfl) ?_)))
         by_cases q97:(k:Int)=0
         ·
          refine ba (v:=v15) (wy (dt q97)) (λw' hw'=>av zs7) (ba (v:=vi ↑i) (wy (dt q97)) (λw' hw'=>av zs11) (ba (v:=vi ((i:Int)-1)) (wy (dt q97)) (λw' hw'=>dF (m:=↑i) (n:=1) rfl rfl (by omega)) (ba (v:=Value.pointer (some (bA v15 1 (Int.toNat ((i:Int)-1))))) (wy (dt q97)) (λw' hw'=>ag (α:=List Int) (xs:=(aq g u v).1) (v:=v15) (i:=(i:Int)-1) dU rfl rfl (o16.sl.bel hw') rfl (by omega) (by omega)) ?_)))
          obtain⟨v48,cel49,r50⟩:=c8 (r:=(i:Int)-1) o16 (by omega) (by omega)
          refine ba (v:=v48) (wy (dt q97)) (λw' hw'=>bU aZ rfl (eV cel49 hw')) (ba (v:=Value.pointer (some (bA v48 1 (Int.toNat 0)))) (wy (dt q97)) (λw' hw'=>ag (α:=Int) (xs:=gI ((aq g u v).1) ((i:Int)-1)) (v:=v48) (i:=0) bD rfl rfl (r50.row_sl.bel hw') rfl (by omega) (by omega)) (ba (v:=vi (gI (gI ((aq g u v).1) ((i:Int)-1)) 0)) (wy (dt q97)) (λw' hw'=>aw (α:=Int) (xs:=gI ((aq g u v).1) ((i:Int)-1)) (v:=v48) (i:=0) ak rfl (r50.row_sl.bel hw') (by omega) (by omega) (by decide) rfl) (ba (v:=v15) (wy (dt q97)) (λw' hw'=>av zs7) ?_)))
          refine ba (v:=vi ↑i) (wy (dt q97)) (λw' hw'=>av zs11) (ba (v:=Value.pointer (some (bA v15 1 (Int.toNat ↑i)))) (wy (dt q97)) (λw' hw'=>ag (α:=List Int) (xs:=(aq g u v).1) (v:=v15) (i:=↑i) dU rfl rfl (o16.sl.bel hw') rfl (by omega) (by omega)) ?_)
          obtain⟨v51,cel52,r53⟩:=c8 (r:=(i:Int)) o16 (by omega) (by omega)
          refine ba (v:=v51) (wy (dt q97)) (λw' hw'=>bU aZ rfl (eV cel52 hw')) (ba (v:=Value.pointer (some (bA v51 1 (Int.toNat 0)))) (wy (dt q97)) (λw' hw'=>ag (α:=Int) (xs:=gI ((aq g u v).1) (i:Int)) (v:=v51) (i:=0) bD rfl rfl (r53.row_sl.bel hw') rfl (by omega) (by omega)) (ba (v:=vi (gI (gI ((aq g u v).1) (i:Int)) 0)) (wy (dt q97)) (λw' hw'=>aw (α:=Int) (xs:=gI ((aq g u v).1) (i:Int)) (v:=v51) (i:=0) ak rfl (r53.row_sl.bel hw') (by omega) (by omega) (by decide) rfl) ?_))
          refine ba (v:=vb (decide ((gI (gI ((aq g u v).1) (i:Int)) 0)<=(gI (gI ((aq g u v).1) ((i:Int)-1)) 0)))) (wy (dt q97)) (λw' hw'=>fP (m:=(gI (gI ((aq g u v).1) ((i:Int)-1)) 0)) (n:=(gI (gI ((aq g u v).1) (i:Int)) 0)) rfl rfl) (ba (v:=vb (decide ((gI (gI ((aq g u v).1) (i:Int)) 0)<=(gI (gI ((aq g u v).1) ((i:Int)-1)) 0)))) (wy (df q90)) (λw' hw'=>aV rfl (dt q97) rfl) (qv (vb (decide ((gI (gI ((aq g u v).1) (i:Int)) 0)<=(gI (gI ((aq g u v).1) ((i:Int)-1)) 0)))) (λw' hw'=>aS rfl (df q90) rfl) (fl ?_)))
          intro w54 hc55
          replace hc55:=aT hc55 g32
          have p15:¬((gI (gI ((aq g u v).1) (i:Int)) 0)<=(gI (gI ((aq g u v).1) ((i:Int)-1)) 0)):=by exact Int.not_le.2 (hhd ‹_›)
          refine ah rfl (df p15) (ap (aa ?_))
          clear cel40 r41 cel43 r44 cel46 r47 cel49 r50 cel52 r53
          refine a8 rfl (mz zs9 (mz zs7 (mz zs11 ?_)))
          replace o16:=o16.cn hc55
          refine lx (ag (v:=v15) (i:=↑i) dU rfl rfl o16.sl rfl (by omega) (by omega)) ?_
          obtain⟨v56,cel57,r58⟩:=c8 (r:=(i:Int)) o16 (by omega) (by omega)
          refine lx (bU aZ rfl cel57) (mz zs12 (lx (ag (v:=v56) (i:=↑k) bD rfl rfl r58.row_sl rfl (by omega) (by omega)) (lx (aw (v:=v56) (i:=↑k) ak rfl r58.row_sl (by omega) (by omega) (by decide) rfl) ?_)))
          replace o24:=o24.cn hc55
          refine lx (ag (v:=v22) (i:=(gI (gI ((aq g u v).1) (i:Int)) (k:Int))) gA rfl rfl o24.flat rfl (by omega) (by omega)) (lo (aP (i:=(gI (gI ((aq g u v).1) (i:Int)) (k:Int))) true cE rfl rfl o24 (by omega) (by omega) rfl ?_))
          intro w59 ch60 bx61
          clear o24 cel57
          refine ad ?_
          clear r58
          refine a8 rfl (mz zs10 (lx (aJ (m:=n2) (n:=1) rfl rfl (by omega)) (ai (n2+1) (ad (am (a8 rfl (mz zs12 (lx (aJ (m:=↑k) (n:=1) rfl rfl (by omega)) (ai ((k:Int)+1) ?_)))))))))
          refine ad ?_
          have C62:=cg [3] (ch37.n.seq (hc55.n.seq (ch60.l rfl)))
          refine back13 (n2+1,k+1,(List.set se2 (Int.toNat (gI (gI ((aq g u v).1) (i:Int)) (k:Int))) true),g32) _ _ ⟨bH.ca C62,zs3,zs7,zs9,rfl,zs11,rfl,Rg.ca C62,bx5.ca C62,o16.ce ch60,bx61,by omega,?_⟩ ?_
          · show jJ g.2.length ((aq g u v).1) i (k+1) (List.set se2 (Int.toNat (gI (gI ((aq g u v).1) (i:Int)) (k:Int))) true) (n2+1)
            exact hsw2.next hF ‹_› ‹_›
          · show Int.toNat (((List.length (gI ((aq g u v).1) (i:Int)):Int):Int)-((k+1):Int))<Int.toNat (((List.length (gI ((aq g u v).1) (i:Int)):Int):Int)-(k:Int))
            omega
         refine b5 (wn (df q97)) (b5 (wn (df q97)) (b5 (wn (df q97)) (b5 (wn (df q97)) (b5 (wn (df q97)) (b5 (wn (df q97)) (b5 (wn (df q97)) (b5 (wn (df q97)) (b5 (wn (df q97)) (b5 (wn (df q97)) ?_)))))))))
         refine b5 (wn (df q97)) (b5 (wn (df q97)) (b5 (wn (df q97)) (b5 (wn (df q97)) (ba (v:=vb false) (wy (df q90)) (λw' hw'=>aS rfl (df q97) rfl) (qv (vb false) (λw' hw'=>aS rfl (df q90) rfl) (fl ?_))))))
         intro w63 hc64
         replace hc64:=aT hc64 g32
         refine ah rfl rfl (ap (aa ?_))
         clear cel40 r41 cel43 r44 cel46 r47
         refine a8 rfl (mz zs9 (mz zs7 (mz zs11 ?_)))
         replace o16:=o16.cn hc64
         refine lx (ag (v:=v15) (i:=↑i) dU rfl rfl o16.sl rfl (by omega) (by omega)) ?_
         obtain⟨v65,cel66,r67⟩:=c8 (r:=(i:Int)) o16 (by omega) (by omega)
         refine lx (bU aZ rfl cel66) (mz zs12 (lx (ag (v:=v65) (i:=↑k) bD rfl rfl r67.row_sl rfl (by omega) (by omega)) (lx (aw (v:=v65) (i:=↑k) ak rfl r67.row_sl (by omega) (by omega) (by decide) rfl) ?_)))
         replace o24:=o24.cn hc64
         refine lx (ag (v:=v22) (i:=(gI (gI ((aq g u v).1) (i:Int)) (k:Int))) gA rfl rfl o24.flat rfl (by omega) (by omega)) (lo (aP (i:=(gI (gI ((aq g u v).1) (i:Int)) (k:Int))) true cE rfl rfl o24 (by omega) (by omega) rfl ?_))
         intro w68 ch69 bx70
         clear o24 cel66
         refine ad ?_
         clear r67
         refine a8 rfl (mz zs10 (lx (aJ (m:=n2) (n:=1) rfl rfl (by omega)) (ai (n2+1) (ad (am (a8 rfl (mz zs12 (lx (aJ (m:=↑k) (n:=1) rfl rfl (by omega)) (ai ((k:Int)+1) ?_)))))))))
         refine ad ?_
         have C71:=cg [3] (ch37.n.seq (hc64.n.seq (ch69.l rfl)))
         refine back13 (n2+1,k+1,(List.set se2 (Int.toNat (gI (gI ((aq g u v).1) (i:Int)) (k:Int))) true),g32) _ _ ⟨bH.ca C71,zs3,zs7,zs9,rfl,zs11,rfl,Rg.ca C71,bx5.ca C71,o16.ce ch69,bx70,by omega,?_⟩ ?_
         · show jJ g.2.length ((aq g u v).1) i (k+1) (List.set se2 (Int.toNat (gI (gI ((aq g u v).1) (i:Int)) (k:Int))) true) (n2+1)
           exact hsw2.next hF ‹_› ‹_›
         · show Int.toNat (((List.length (gI ((aq g u v).1) (i:Int)):Int):Int)-((k+1):Int))<Int.toNat (((List.length (gI ((aq g u v).1) (i:Int)):Int):Int)-(k:Int))
           omega
        refine b5 (wn (df q93)) (b5 (wn (df q93)) (ba (v:=vb false) (wy (df q90)) (λw' hw'=>aS rfl (df q93) rfl) (ba (v:=vb false) (wy (df q90)) (λw' hw'=>av rfl) (b5 (wn rfl) (b5 (wn rfl) (b5 (wn rfl) (b5 (wn rfl) (b5 (wn rfl) (b5 (wn rfl) ?_)))))))))
        refine b5 (wn rfl) (b5 (wn rfl) (b5 (wn rfl) (b5 (wn rfl) (b5 (wn rfl) (b5 (wn rfl) (b5 (wn rfl) (b5 (wn rfl) (ba (v:=vb false) (wy (df q90)) (λw' hw'=>aS rfl rfl rfl) (qv (vb false) (λw' hw'=>aS rfl (df q90) rfl) ?_)))))))))
        refine fl ?_
        intro w72 hc73
        replace hc73:=aT hc73 g32
        refine ah rfl rfl (ap (aa ?_))
        clear cel40 r41 cel43 r44 cel46 r47
        refine a8 rfl (mz zs9 (mz zs7 (mz zs11 ?_)))
        replace o16:=o16.cn hc73
        refine lx (ag (v:=v15) (i:=↑i) dU rfl rfl o16.sl rfl (by omega) (by omega)) ?_
        obtain⟨v74,cel75,r76⟩:=c8 (r:=(i:Int)) o16 (by omega) (by omega)
        refine lx (bU aZ rfl cel75) (mz zs12 (lx (ag (v:=v74) (i:=↑k) bD rfl rfl r76.row_sl rfl (by omega) (by omega)) (lx (aw (v:=v74) (i:=↑k) ak rfl r76.row_sl (by omega) (by omega) (by decide) rfl) ?_)))
        replace o24:=o24.cn hc73
        refine lx (ag (v:=v22) (i:=(gI (gI ((aq g u v).1) (i:Int)) (k:Int))) gA rfl rfl o24.flat rfl (by omega) (by omega)) (lo (aP (i:=(gI (gI ((aq g u v).1) (i:Int)) (k:Int))) true cE rfl rfl o24 (by omega) (by omega) rfl ?_))
        intro w77 ch78 bx79
        clear o24 cel75
        refine ad ?_
        clear r76
        refine a8 rfl (mz zs10 (lx (aJ (m:=n2) (n:=1) rfl rfl (by omega)) (ai (n2+1) (ad (am (a8 rfl (mz zs12 (lx (aJ (m:=↑k) (n:=1) rfl rfl (by omega)) (ai ((k:Int)+1) ?_)))))))))
        refine ad ?_
        have C80:=cg [3] (ch37.n.seq (hc73.n.seq (ch78.l rfl)))
        refine back13 (n2+1,k+1,(List.set se2 (Int.toNat (gI (gI ((aq g u v).1) (i:Int)) (k:Int))) true),g32) _ _ ⟨bH.ca C80,zs3,zs7,zs9,rfl,zs11,rfl,Rg.ca C80,bx5.ca C80,o16.ce ch78,bx79,by omega,?_⟩ ?_
        · show jJ g.2.length ((aq g u v).1) i (k+1) (List.set se2 (Int.toNat (gI (gI ((aq g u v).1) (i:Int)) (k:Int))) true) (n2+1)
          exact hsw2.next hF ‹_› ‹_›
        · show Int.toNat (((List.length (gI ((aq g u v).1) (i:Int)):Int):Int)-((k+1):Int))<Int.toNat (((List.length (gI ((aq g u v).1) (i:Int)):Int):Int)-(k:Int))
          omega
       refine b5 (wn (df q71)) (b5 (wn (df q71)) (b5 (wn (df q71)) (b5 (wn (df q71)) (b5 (wn (df q71)) (b5 (wn (df q71)) (b5 (wn (df q71)) (b5 (wn (df q71)) (b5 (wn (df q71)) (b5 (wn (df q71)) ?_)))))))))
       refine b5 (wn (df q71)) (b5 (wn (df q71)) (b5 (wn (df q71)) (b5 (wn (df q71)) (b5 (wn (df q71)) (b5 (wn (df q71)) (ba (v:=vb false) (wy (Bool.eq_false_iff.2 q68)) (λw' hw'=>aS rfl (df q71) rfl) (qv (vb false) (λw' hw'=>aS rfl (Bool.eq_false_iff.2 q68) rfl) (qm (vb false) (ba (v:=vi ↑i) (wy rfl) (λw' hw'=>av zs11) ?_)))))))))
       refine ba (v:=vb (decide (0<(i:Int)))) (wy rfl) (λw' hw'=>eo (m:=↑i) (n:=0) rfl rfl) (ba (v:=vb (decide (0<(i:Int)))) (wy rfl) (λw' hw'=>av rfl) ?_)
       by_cases q93:0<(i:Int)
       ·
        refine ba (v:=vi ↑k) (wy (dt q93)) (λw' hw'=>av zs12) (ba (v:=vb (decide ((k:Int)=0))) (wy (dt q93)) (λw' hw'=>cK (m:=↑k) (n:=0) rfl rfl) (ba (v:=vb (decide ((k:Int)=0))) (wy rfl) (λw' hw'=>aV rfl (dt q93) rfl) (ba (v:=vb (decide ((k:Int)=0))) (wy rfl) (λw' hw'=>av rfl) ?_)))
        by_cases q97:(k:Int)=0
        ·
         refine ba (v:=v15) (wy (dt q97)) (λw' hw'=>av zs7) (ba (v:=vi ↑i) (wy (dt q97)) (λw' hw'=>av zs11) (ba (v:=vi ((i:Int)-1)) (wy (dt q97)) (λw' hw'=>dF (m:=↑i) (n:=1) rfl rfl (by omega)) (ba (v:=Value.pointer (some (bA v15 1 (Int.toNat ((i:Int)-1))))) (wy (dt q97)) (λw' hw'=>ag (α:=List Int) (xs:=(aq g u v).1) (v:=v15) (i:=(i:Int)-1) dU rfl rfl (o16.sl.bel hw') rfl (by omega) (by omega)) ?_)))
         obtain⟨v81,cel82,r83⟩:=c8 (r:=(i:Int)-1) o16 (by omega) (by omega)
         refine ba (v:=v81) (wy (dt q97)) (λw' hw'=>bU aZ rfl (eV cel82 hw')) (ba (v:=Value.pointer (some (bA v81 1 (Int.toNat 0)))) (wy (dt q97)) (λw' hw'=>ag (α:=Int) (xs:=gI ((aq g u v).1) ((i:Int)-1)) (v:=v81) (i:=0) bD rfl rfl (r83.row_sl.bel hw') rfl (by omega) (by omega)) (ba (v:=vi (gI (gI ((aq g u v).1) ((i:Int)-1)) 0)) (wy (dt q97)) (λw' hw'=>aw (α:=Int) (xs:=gI ((aq g u v).1) ((i:Int)-1)) (v:=v81) (i:=0) ak rfl (r83.row_sl.bel hw') (by omega) (by omega) (by decide) rfl) (ba (v:=v15) (wy (dt q97)) (λw' hw'=>av zs7) ?_)))
         refine ba (v:=vi ↑i) (wy (dt q97)) (λw' hw'=>av zs11) (ba (v:=Value.pointer (some (bA v15 1 (Int.toNat ↑i)))) (wy (dt q97)) (λw' hw'=>ag (α:=List Int) (xs:=(aq g u v).1) (v:=v15) (i:=↑i) dU rfl rfl (o16.sl.bel hw') rfl (by omega) (by omega)) ?_)
         obtain⟨v84,cel85,r86⟩:=c8 (r:=(i:Int)) o16 (by omega) (by omega)
         refine ba (v:=v84) (wy (dt q97)) (λw' hw'=>bU aZ rfl (eV cel85 hw')) (ba (v:=Value.pointer (some (bA v84 1 (Int.toNat 0)))) (wy (dt q97)) (λw' hw'=>ag (α:=Int) (xs:=gI ((aq g u v).1) (i:Int)) (v:=v84) (i:=0) bD rfl rfl (r86.row_sl.bel hw') rfl (by omega) (by omega)) (ba (v:=vi (gI (gI ((aq g u v).1) (i:Int)) 0)) (wy (dt q97)) (λw' hw'=>aw (α:=Int) (xs:=gI ((aq g u v).1) (i:Int)) (v:=v84) (i:=0) ak rfl (r86.row_sl.bel hw') (by omega) (by omega) (by decide) rfl) ?_))
         refine ba (v:=vb (decide ((gI (gI ((aq g u v).1) (i:Int)) 0)<=(gI (gI ((aq g u v).1) ((i:Int)-1)) 0)))) (wy (dt q97)) (λw' hw'=>fP (m:=(gI (gI ((aq g u v).1) ((i:Int)-1)) 0)) (n:=(gI (gI ((aq g u v).1) (i:Int)) 0)) rfl rfl) (ba (v:=vb (decide ((gI (gI ((aq g u v).1) (i:Int)) 0)<=(gI (gI ((aq g u v).1) ((i:Int)-1)) 0)))) (wy rfl) (λw' hw'=>aV rfl (dt q97) rfl) (qv (vb (decide ((gI (gI ((aq g u v).1) (i:Int)) 0)<=(gI (gI ((aq g u v).1) ((i:Int)-1)) 0)))) (λw' hw'=>aS rfl rfl rfl) (fl ?_)))
         intro w87 hc88
         replace hc88:=aT hc88 g32
         have p15_89:¬((gI (gI ((aq g u v).1) (i:Int)) 0)<=(gI (gI ((aq g u v).1) ((i:Int)-1)) 0)):=by exact Int.not_le.2 (hhd ‹_›)
         refine ah rfl (df p15_89) (ap (aa ?_))
         clear cel40 r41 cel82 r83 cel85 r86
         refine a8 rfl (mz zs9 (mz zs7 (mz zs11 ?_)))
         replace o16:=o16.cn hc88
         refine lx (ag (v:=v15) (i:=↑i) dU rfl rfl o16.sl rfl (by omega) (by omega)) ?_
         obtain⟨v90,cel91,r92⟩:=c8 (r:=(i:Int)) o16 (by omega) (by omega)
         refine lx (bU aZ rfl cel91) (mz zs12 (lx (ag (v:=v90) (i:=↑k) bD rfl rfl r92.row_sl rfl (by omega) (by omega)) (lx (aw (v:=v90) (i:=↑k) ak rfl r92.row_sl (by omega) (by omega) (by decide) rfl) ?_)))
         replace o24:=o24.cn hc88
         refine lx (ag (v:=v22) (i:=(gI (gI ((aq g u v).1) (i:Int)) (k:Int))) gA rfl rfl o24.flat rfl (by omega) (by omega)) (lo (aP (i:=(gI (gI ((aq g u v).1) (i:Int)) (k:Int))) true cE rfl rfl o24 (by omega) (by omega) rfl ?_))
         intro w93 ch94 bx95
         clear o24 cel91
         refine ad ?_
         clear r92
         refine a8 rfl (mz zs10 (lx (aJ (m:=n2) (n:=1) rfl rfl (by omega)) (ai (n2+1) (ad (am (a8 rfl (mz zs12 (lx (aJ (m:=↑k) (n:=1) rfl rfl (by omega)) (ai ((k:Int)+1) ?_)))))))))
         refine ad ?_
         have C96:=cg [3] (ch37.n.seq (hc88.n.seq (ch94.l rfl)))
         refine back13 (n2+1,k+1,(List.set se2 (Int.toNat (gI (gI ((aq g u v).1) (i:Int)) (k:Int))) true),g32) _ _ ⟨bH.ca C96,zs3,zs7,zs9,rfl,zs11,rfl,Rg.ca C96,bx5.ca C96,o16.ce ch94,bx95,by omega,?_⟩ ?_
         · show jJ g.2.length ((aq g u v).1) i (k+1) (List.set se2 (Int.toNat (gI (gI ((aq g u v).1) (i:Int)) (k:Int))) true) (n2+1)
           exact hsw2.next hF ‹_› ‹_›
         · show Int.toNat (((List.length (gI ((aq g u v).1) (i:Int)):Int):Int)-((k+1):Int))<Int.toNat (((List.length (gI ((aq g u v).1) (i:Int)):Int):Int)-(k:Int))
           omega
        refine b5 (wn (df q97)) (b5 (wn (df q97)) (b5 (wn (df q97)) (b5 (wn (df q97)) (b5 (wn (df q97)) (b5 (wn (df q97)) (b5 (wn (df q97)) (b5 (wn (df q97)) (b5 (wn (df q97)) (b5 (wn (df q97)) ?_)))))))))
        refine b5 (wn (df q97)) (b5 (wn (df q97)) (b5 (wn (df q97)) (b5 (wn (df q97)) (ba (v:=vb false) (wy rfl) (λw' hw'=>aS rfl (df q97) rfl) (qv (vb false) (λw' hw'=>aS rfl rfl rfl) (fl ?_))))))
        intro w97 hc98
        replace hc98:=aT hc98 g32
        refine ah rfl rfl (ap (aa ?_))
        clear cel40 r41
        refine a8 rfl (mz zs9 (mz zs7 (mz zs11 ?_)))
        replace o16:=o16.cn hc98
        refine lx (ag (v:=v15) (i:=↑i) dU rfl rfl o16.sl rfl (by omega) (by omega)) ?_
        obtain⟨v99,cel100,r101⟩:=c8 (r:=(i:Int)) o16 (by omega) (by omega)
        refine lx (bU aZ rfl cel100) (mz zs12 (lx (ag (v:=v99) (i:=↑k) bD rfl rfl r101.row_sl rfl (by omega) (by omega)) (lx (aw (v:=v99) (i:=↑k) ak rfl r101.row_sl (by omega) (by omega) (by decide) rfl) ?_)))
        replace o24:=o24.cn hc98
        refine lx (ag (v:=v22) (i:=(gI (gI ((aq g u v).1) (i:Int)) (k:Int))) gA rfl rfl o24.flat rfl (by omega) (by omega)) (lo (aP (i:=(gI (gI ((aq g u v).1) (i:Int)) (k:Int))) true cE rfl rfl o24 (by omega) (by omega) rfl ?_))
        intro w102 ch103 bx104
        clear o24 cel100
        refine ad ?_
        clear r101
        refine a8 rfl (mz zs10 (lx (aJ (m:=n2) (n:=1) rfl rfl (by omega)) (ai (n2+1) (ad (am (a8 rfl (mz zs12 (lx (aJ (m:=↑k) (n:=1) rfl rfl (by omega)) (ai ((k:Int)+1) ?_)))))))))
        refine ad ?_
        have C105:=cg [3] (ch37.n.seq (hc98.n.seq (ch103.l rfl)))
        refine back13 (n2+1,k+1,(List.set se2 (Int.toNat (gI (gI ((aq g u v).1) (i:Int)) (k:Int))) true),g32) _ _ ⟨bH.ca C105,zs3,zs7,zs9,rfl,zs11,rfl,Rg.ca C105,bx5.ca C105,o16.ce ch103,bx104,by omega,?_⟩ ?_
        · show jJ g.2.length ((aq g u v).1) i (k+1) (List.set se2 (Int.toNat (gI (gI ((aq g u v).1) (i:Int)) (k:Int))) true) (n2+1)
          exact hsw2.next hF ‹_› ‹_›
        · show Int.toNat (((List.length (gI ((aq g u v).1) (i:Int)):Int):Int)-((k+1):Int))<Int.toNat (((List.length (gI ((aq g u v).1) (i:Int)):Int):Int)-(k:Int))
          omega
       refine b5 (wn (df q93)) (b5 (wn (df q93)) (ba (v:=vb false) (wy rfl) (λw' hw'=>aS rfl (df q93) rfl) (ba (v:=vb false) (wy rfl) (λw' hw'=>av rfl) (b5 (wn rfl) (b5 (wn rfl) (b5 (wn rfl) (b5 (wn rfl) (b5 (wn rfl) (b5 (wn rfl) ?_)))))))))
       refine b5 (wn rfl) (b5 (wn rfl) (b5 (wn rfl) (b5 (wn rfl) (b5 (wn rfl) (b5 (wn rfl) (b5 (wn rfl) (b5 (wn rfl) (ba (v:=vb false) (wy rfl) (λw' hw'=>aS rfl rfl rfl) (qv (vb false) (λw' hw'=>aS rfl rfl rfl) ?_)))))))))
       refine fl ?_
       intro w106 hc107
       replace hc107:=aT hc107 g32
       refine ah rfl rfl (ap (aa ?_))
       clear cel40 r41
       refine a8 rfl (mz zs9 (mz zs7 (mz zs11 ?_)))
       replace o16:=o16.cn hc107
       refine lx (ag (v:=v15) (i:=↑i) dU rfl rfl o16.sl rfl (by omega) (by omega)) ?_
       obtain⟨v108,cel109,r110⟩:=c8 (r:=(i:Int)) o16 (by omega) (by omega)
       refine lx (bU aZ rfl cel109) (mz zs12 (lx (ag (v:=v108) (i:=↑k) bD rfl rfl r110.row_sl rfl (by omega) (by omega)) (lx (aw (v:=v108) (i:=↑k) ak rfl r110.row_sl (by omega) (by omega) (by decide) rfl) ?_)))
       replace o24:=o24.cn hc107
       refine lx (ag (v:=v22) (i:=(gI (gI ((aq g u v).1) (i:Int)) (k:Int))) gA rfl rfl o24.flat rfl (by omega) (by omega)) (lo (aP (i:=(gI (gI ((aq g u v).1) (i:Int)) (k:Int))) true cE rfl rfl o24 (by omega) (by omega) rfl ?_))
       intro w111 ch112 bx113
       clear o24 cel109
       refine ad ?_
       clear r110
       refine a8 rfl (mz zs10 (lx (aJ (m:=n2) (n:=1) rfl rfl (by omega)) (ai (n2+1) (ad (am (a8 rfl (mz zs12 (lx (aJ (m:=↑k) (n:=1) rfl rfl (by omega)) (ai ((k:Int)+1) ?_)))))))))
       refine ad ?_
       have C114:=cg [3] (ch37.n.seq (hc107.n.seq (ch112.l rfl)))
       refine back13 (n2+1,k+1,(List.set se2 (Int.toNat (gI (gI ((aq g u v).1) (i:Int)) (k:Int))) true),g32) _ _ ⟨bH.ca C114,zs3,zs7,zs9,rfl,zs11,rfl,Rg.ca C114,bx5.ca C114,o16.ce ch112,bx113,by omega,?_⟩ ?_
       · show jJ g.2.length ((aq g u v).1) i (k+1) (List.set se2 (Int.toNat (gI (gI ((aq g u v).1) (i:Int)) (k:Int))) true) (n2+1)
         exact hsw2.next hF ‹_› ‹_›
       · show Int.toNat (((List.length (gI ((aq g u v).1) (i:Int)):Int):Int)-((k+1):Int))<Int.toNat (((List.length (gI ((aq g u v).1) (i:Int)):Int):Int)-(k:Int))
         omega
      refine ah rfl (df p13) (aM rfl (am ?_))
      clear cel34 r35
      refine a8 rfl (mz zs11 (lx (aJ (m:=↑i) (n:=1) rfl rfl (by omega)) (ai ((i:Int)+1) (ad ?_))))
      refine back10 (n2,i+1,se2,g32) _ _ ⟨bH,zs3,zs7,zs9,zs10,rfl,Rg,bx5,o16,o24,by omega,?_⟩ ?_
      · show jJ g.2.length ((aq g u v).1) (i+1) 0 se2 n2
        exact hsw2.row ‹_› ‹_›
      · show Int.toNat (((List.length ((aq g u v).1):Int):Int)-((i+1):Int))<Int.toNat (((List.length ((aq g u v).1):Int):Int)-(i:Int))
        omega
     refine ah rfl (df p10) (aM rfl (aa ?_))
     clear o16 o24
     refine a8 rfl (mz zs10 (lx (af d4 rfl rfl zs3 rfl) (lx (ae bu rfl bx5 rfl) (lx (bJ dg rfl Rg) (lx (dv (m:=n) (n:=(g.2.length:Int)) rfl rfl) (ad ?_))))))
     have p19:n=(g.2.length:Int):=by exact hsw.done hF ‹_›
     refine ah rfl (congrArg Bool.not (dt p19)) (ap (aa ?_))
     refine mid_j1 (g28) _ _ ⟨bH,zs3,Rg,bx5,?_⟩
     show True
     trivial
    refine ah rfl (df p6) (ap (aa ?_))
    clear o16
    have C115:=cg [] (ch2.n.seq (hb7.n.seq (hb9.n.seq (hb11.n.seq ch18.n))))
    refine mid_j1 (g17) _ _ ⟨bH.ca C115,rfl,Rg.cn ch18,bx5.cn ch18,?_⟩
    show True
    trivial
   clear Rg bx5 o16 bH
   rintro g118 f116 w117 ⟨bH,z119_3,Rg,bx5,hjn_j1⟩
   refine a8 rfl (lx (aB (ds:=[vi g.1,g_v]) aK z119_3 bx5 rfl rfl) (lo (cd (aQ (vals:=[vg [vi g.1,g_v]]) Try.func12 pJ po rfl) (lD w117 g g_v (Rg).ro) ?_)))
   rintro⟨d121,v123⟩ w120 ⟨fr122,o124⟩
   obtain⟨g125,ch126,G125⟩:=jK g118 fr122 (λn=>if n=1 then 4 else 0)
   replace o124:=o124.gl G125 4
   refine mv (vt [v123,vi ((aY g).2)]) (lx (aG rfl rfl) (lx (aG rfl rfl) (ma v123 (ai ((aY g).2) (ad (aa (a8 rfl ?_)))))))
   replace bx5:=bx5.cn ch126
   refine lx (aB (ds:=[vi g.1,g_v]) aK z119_3 bx5 rfl rfl) ?_
   replace Rg:=Rg.cn ch126
   refine lo (bT (v:=vt [vi ((bp g).1),vi ((bp g).2)]) (aQ (vals:=[vg [vi g.1,g_v]]) Try.func9 r5 rJ rfl) (ng w120 g g_v (Rg).ro) ?_)
   intro w127 hb128
   replace hb128:=aT hb128 g125
   refine mv (vt [vi ((bp g).1),vi ((bp g).2)]) (lx (aG rfl rfl) (lx (aG rfl rfl) (ai ((bp g).1) (ai ((bp g).2) (ad (aa (aa ?_)))))))
   obtain⟨hA1,⟨hA2,hA3⟩,hA4,hA5⟩:=un hm
   refine a8 rfl (mi ((aY g).2) (lx (dv (m:=(aY g).2) (n:=0) rfl rfl) (ad ?_)))
   by_cases p23:((aY g).2)=0
   ·
    refine ah rfl (congrArg Bool.not (dt p23)) (ap (aa (aa ?_)))
    refine r8 [false,false,true] (σ:=aL) (λgq f w=>bq w0 gq w/\f 3=vp b3 0/\f 13=v123/\f 14=vi ((bp g).1)/\Sl gq (is 0) w g_v g.2/\Bx gq (is 1) w b3 [vi g.1,g_v]/\Ow gq (is 4) (is 4) w v123 ((aY g).1)/\(True)) ?_ ?_
    ·
     intro mid_j2
     refine a8 rfl (mi ((bp g).1) (lx (cK (m:=(bp g).1) (n:=3) rfl rfl) (mv (vb (decide (((bp g).1)=3))) ?_)))
     by_cases q147:((bp g).1)=3
     ·
      replace bx5:=bx5.cn hb128
      refine lv (vg [vi g.1,g_v]) (wy (dt q147)) (aB (ds:=[vi g.1,g_v]) aK z119_3 bx5 rfl rfl) ?_
      replace Rg:=Rg.cn hb128
      refine cF (wy (dt q147)) (bT (v:=vg [vi (((eA g).1).1),vi ((((eA g).1).2).1),vi (((((eA g).1).2).2).1),vi ((((((eA g).1).2).2).2).1),vb ((((((eA g).1).2).2).2).2)]) (aQ (vals:=[vg [vi g.1,g_v]]) Try.func24 uY tY rfl) (tD w127 g g_v (Rg).ro (by exact hm)) ?_)
      intro w129 hb130
      replace hb130:=aT hb130 g125
      refine lv (vi ((((eA g).1).2).1)) (wy (dt q147)) (lV n4 rfl ak rfl rfl) (lv (vb (decide (((((eA g).1).2).1)=0))) (wy (dt q147)) (cK (m:=(((eA g).1).2).1) (n:=0) rfl rfl) (lw (vb (decide (((((eA g).1).2).1)=0))) (aV rfl (dt q147) rfl) (mv (vb (decide (((((eA g).1).2).1)=0))) ?_)))
      by_cases q153:((((eA g).1).2).1)=0
      ·
       refine lv (v123) (wy (dt q153)) (av rfl) ?_
       replace o124:=(o124.cn hb128).cn hb130
       have len131:=(o124.flat).small
       refine lv (vi (List.length ((aY g).1):Int)) (wy (dt q153)) (bJ dg rfl o124.flat) (lv (vb (!(decide ((List.length ((aY g).1):Int)=0)))) (wy (dt q153)) (dv (m:=(List.length ((aY g).1):Int)) (n:=0) rfl rfl) (lw (vb (!(decide ((List.length ((aY g).1):Int)=0)))) (aV rfl (dt q153) rfl) (ad ?_)))
       have p25:(List.length ((aY g).1):Int)=0:=by exact vL hm ‹_› ‹_› ‹_›
       refine ah rfl (congrArg Bool.not (dt p25)) (ap (aa ?_))
       have C132:=cg [] (ch126.n.seq (hb128.n.seq hb130.n))
       refine mid_j2 (g125) _ _ ⟨bH.ca C132,z119_3,rfl,rfl,Rg.cn hb130,bx5.cn hb130,o124,?_⟩
       show True
       trivial
      refine az (wn (df q153)) (az (wn (df q153)) (az (wn (df q153)) (lw (vb false) (aS rfl (df q153) rfl) (ad (ah rfl rfl (ap (aa ?_)))))))
      have C133:=cg [] (ch126.n.seq (hb128.n.seq hb130.n))
      refine mid_j2 (g125) _ _ ⟨bH.ca C133,z119_3,rfl,rfl,Rg.cn hb130,bx5.cn hb130,(o124.cn hb128).cn hb130,?_⟩
      show True
      trivial
     refine az (wn (df q147)) (az (wn (df q147)) (az (wn (df q147)) (az (wn (df q147)) (lw (vb false) (aS rfl (df q147) rfl) (mv (vb false) (az (wn rfl) (az (wn rfl) (az (wn rfl) (lw (vb false) (aS rfl rfl rfl) (ad (ah rfl rfl ?_)))))))))))
     refine ap (aa ?_)
     replace bH:=bH.cn ch126
     refine mid_j2 (g125) _ _ ⟨bH.cn hb128,z119_3,rfl,rfl,Rg.cn hb128,bx5.cn hb128,o124.cn hb128,?_⟩
     show True
     trivial
    clear Rg bx5 o124 bH
    rintro g136 f134 w135 ⟨bH,z137_3,z137_13,z137_14,Rg,bx5,o124,hjn_j2⟩
    refine a8 rfl (lx (aB (ds:=[vi g.1,g_v]) aK z137_3 bx5 rfl rfl) (lo (cd (aQ (vals:=[vg [vi g.1,g_v]]) Try.func10 ov pT rfl) (lg w135 g g_v (Rg).ro) ?_)))
    rintro⟨d139,v141⟩ w138 ⟨fr140,o142⟩
    obtain⟨g143,ch144,G143⟩:=jK g136 fr140 (λn=>if n=1 then 5 else 0)
    replace o142:=o142.gl G143 5
    refine mv (vt [v141,vi ((bn g).2)]) (lx (aG rfl rfl) (lx (aG rfl rfl) (ma v141 (ai ((bn g).2) (ad (aa (aa ?_)))))))
    clear bx5
    refine a8 rfl (mi ((bn g).2) (lx (dv (m:=(bn g).2) (n:=0) rfl rfl) (ad ?_)))
    by_cases p28:((bn g).2)=0
    ·
     refine ah rfl (congrArg Bool.not (dt p28)) (ap (aa ?_))
     obtain⟨hL2,hPe⟩:=hA4 ‹_›
     obtain⟨hbc,hSe⟩:=hA2 ‹_›
     have hsub:∀z∈(bn g).1,z∈(aY g).1:=by rw[hPe,hSe];exact xW hm hL2
     have ho1:(aY g).1.Pairwise iJ:=by rw[hSe];exact wZ
     have ho2:(bn g).1.Pairwise iJ:=by rw[hPe];exact wD g
     refine a8 rfl (ai 0 (ad (aa (aa (a8 rfl (ai 0 (ad (ao ?_))))))))
     refine b9 (σ:=Int×Nat×aL) (λ⟨at1,i,gq⟩ f w=>bq w0 gq w/\f 13=v123/\f 16=v141/\f 18=vi at1/\f 19=vi ↑i/\Sl gq (is 0) w g_v g.2/\Ow gq (is 4) (is 4) w v123 ((aY g).1)/\Ow gq (is 5) (is 5) w v141 ((bn g).1)/\(i:Int)<=((List.length ((bn g).1):Int):Int)/\(∃a:Nat,at1=(a:Int)/\qa (aY g).1 (bn g).1 i a)) (λ⟨at1,i,gq⟩=>Int.toNat (((List.length ((bn g).1):Int):Int)-(i:Int))) (0,0,g143) ?_ ?_
     · exact⟨bH.cn ch144,z137_13,rfl,rfl,rfl,Rg.cn ch144,o124.cn ch144,o142,by omega,by exact⟨0,rfl,qa.start⟩⟩
     clear Rg o124 o142 bH
     rintro⟨at1,i,g147⟩ f145 w146 ⟨bH,zs13,zs16,zs18,zs19,Rg,o124,o142,hle_i,hmg⟩ back32
     obtain⟨a1,hat,hmg1⟩:=hmg
     refine aa (aa (a8 rfl (mz zs19 (mz zs16 ?_))))
     have len148:=(o142.flat).small
     refine lx (bJ dg rfl o142.flat) (lx (bg (m:=↑i) (n:=(List.length ((bn g).1):Int)) rfl rfl) (ad ?_))
     by_cases p32:(i:Int)<(List.length ((bn g).1):Int)
     ·
      refine aj rfl (dt p32) (ap (aa (ao (aa (ao ?_)))))
      refine b9 (σ:=Int×aL) (λ⟨at2,gq⟩ f w=>bq w0 gq w/\f 13=v123/\f 16=v141/\f 18=vi at2/\f 19=vi ↑i/\Sl gq (is 0) w g_v g.2/\Ow gq (is 4) (is 4) w v123 ((aY g).1)/\Ow gq (is 5) (is 5) w v141 ((bn g).1)/\(∃a:Nat,at2=(a:Int)/\qa (aY g).1 (bn g).1 i a)) (λ⟨at2,gq⟩=>((aY g).1.length-at2.toNat)) (at1,g147) ?_ ?_
      · exact⟨bH,zs13,zs16,zs18,zs19,Rg,o124,o142,by exact⟨a1,hat,hmg1⟩⟩
      clear Rg o124 o142 bH
      rintro⟨at2,g151⟩ f149 w150 ⟨bH,zs13,zs16,zs18,zs19,Rg,o124,o142,hmg0⟩ back34
      obtain⟨a2,hat2,hmg2⟩:=hmg0
      have halt:=hmg2.lt hsub (i:=i) ‹_›
      refine aa (aa (eH g151 rfl eR (by kernel_rfl) ?_))
      intro w153 ch152
      refine qz zs18 (qz zs13 ?_)
      replace o124:=o124.cn ch152
      have len154:=(o124.flat).small
      refine qx (λw' hw'=>bJ dg rfl (o124.flat.bel hw')) (qx (λw' hw'=>bg (m:=at2) (n:=(List.length ((aY g).1):Int)) rfl rfl) (qm (vb (decide (at2<(List.length ((aY g).1):Int)))) ?_))
      have q177:at2<(List.length ((aY g).1):Int):=by omega
      refine ba (v:=v123) (wy (dt q177)) (λw' hw'=>av zs13) (ba (v:=vi at2) (wy (dt q177)) (λw' hw'=>av zs18) (ba (v:=Value.pointer (some (bA v123 2 (Int.toNat at2)))) (wy (dt q177)) (λw' hw'=>ag (α:=Pt) (xs:=(aY g).1) (v:=v123) (i:=at2) dg rfl rfl (o124.flat.bel hw') rfl (by omega) (by omega)) (ba (v:=vg [vi ((gI ((aY g).1) at2).1),vi ((gI ((aY g).1) at2).2)]) (wy (dt q177)) (λw' hw'=>cv (α:=Pt) (xs:=(aY g).1) (v:=v123) (i:=at2) aW rfl (o124.flat.bel hw') (by omega) (by omega) rfl) ?_)))
      refine ba (v:=v141) (wy (dt q177)) (λw' hw'=>av zs16) (ba (v:=vi ↑i) (wy (dt q177)) (λw' hw'=>av zs19) ?_)
      replace o142:=o142.cn ch152
      refine ba (v:=Value.pointer (some (bA v141 2 (Int.toNat ↑i)))) (wy (dt q177)) (λw' hw'=>ag (α:=Pt) (xs:=(bn g).1) (v:=v141) (i:=↑i) dg rfl rfl (o142.flat.bel hw') rfl (by omega) (by omega)) (ba (v:=vg [vi ((gI ((bn g).1) (i:Int)).1),vi ((gI ((bn g).1) (i:Int)).2)]) (wy (dt q177)) (λw' hw'=>cv (α:=Pt) (xs:=(bn g).1) (v:=v141) (i:=↑i) aW rfl (o142.flat.bel hw') (by omega) (by omega) rfl) ?_)
      refine ba (v:=vb (!(decide ((gI ((aY g).1) at2)=(gI ((bn g).1) (i:Int)))))) (wy (dt q177)) (λw' hw'=>qM (a:=(gI ((aY g).1) at2)) (b:=(gI ((bn g).1) (i:Int))) da U3 ak (by kernel_rfl) rfl rfl) (qv (vb (!(decide ((gI ((aY g).1) at2)=(gI ((bn g).1) (i:Int)))))) (λw' hw'=>aV rfl (dt q177) rfl) (fl ?_))
      intro w155 hc156
      replace hc156:=aT hc156 g151
      by_cases p34:(gI ((aY g).1) at2)=(gI ((bn g).1) (i:Int))
      ·
       refine ah rfl (congrArg Bool.not (dt p34)) (aM rfl (aa (a8 rfl (mz zs18 (mz zs13 ?_)))))
       replace o124:=o124.cn hc156
       refine lx (bJ dg rfl o124.flat) (lx (cK (m:=at2) (n:=(List.length ((aY g).1):Int)) rfl rfl) (ad ?_))
       have p36:¬(at2=(List.length ((aY g).1):Int)):=by omega
       refine ah rfl (df p36) (ap (am (a8 rfl (mz zs19 (lx (aJ (m:=↑i) (n:=1) rfl rfl (by omega)) (ai ((i:Int)+1) (ad ?_)))))))
       replace bH:=bH.cn ch152
       refine back32 (at2,i+1,g151) _ _ ⟨bH.cn hc156,zs13,zs16,zs18,rfl,(Rg.cn ch152).cn hc156,o124,o142.cn hc156,by omega,?_⟩ ?_
       · show∃a:Nat,at2=(a:Int)/\qa (aY g).1 (bn g).1 (i+1) a
         exact⟨a2,hat2,hmg2.next⟩
       · show Int.toNat (((List.length ((bn g).1):Int):Int)-((i+1):Int))<Int.toNat (((List.length ((bn g).1):Int):Int)-(i:Int))
         omega
      refine aj rfl (congrArg Bool.not (df p34)) (ap (ao (a8 rfl (mz zs18 (lx (aJ (m:=at2) (n:=1) rfl rfl (by omega)) (ai (at2+1) (ad (am ?_))))))))
      replace bH:=bH.cn ch152
      refine back34 (at2+1,g151) _ _ ⟨bH.cn hc156,zs13,zs16,rfl,zs19,(Rg.cn ch152).cn hc156,o124.cn hc156,o142.cn hc156,?_⟩ ?_
      · show∃a:Nat,(at2+1)=(a:Int)/\qa (aY g).1 (bn g).1 i a
        refine⟨a2+1,by omega,hmg2.step ho1 ho2 hsub ‹_› halt (by rw[<-hat2];assumption)⟩
      · show((aY g).1.length-(at2+1).toNat)<((aY g).1.length-at2.toNat)
        omega
     refine ah rfl (df p32) (aM rfl (aa ?_))
     clear o124 o142
     refine a8 rfl (ma (vb true) (ad (aD (vs:=[vb true]) Try.func4 (.tmp rfl .nil) ?_)))
     have e0:(true:Bool)=(true):=by
       rfl
     exact⟨rb e0,bH.below⟩
    refine aj rfl (congrArg Bool.not (df p28)) (aa ?_)
    clear o124 o142
    refine a8 rfl (mz z137_14 (lx (bg (m:=(bp g).1) (n:=2) rfl rfl) (ma (vb (decide (((bp g).1)<2))) (ad (aD (vs:=[vb (decide (((bp g).1)<2))]) Try.func4 (.tmp rfl .nil) ?_)))))
    have e0:(decide (((bp g).1)<2):Bool)=(true):=by
      exact dt (hA5 ‹_›)
    replace bH:=bH.cn ch144
    exact⟨(congrArg (a₁:=decide (((bp g).1)<2)) (λ(z0:Bool)=>Ending.returned (vb z0)) e0),bH.below⟩
   refine aj rfl (congrArg Bool.not (df p23)) (aa ?_)
   clear bx5
   refine a8 rfl (mv v123 ?_)
   replace o124:=o124.cn hb128
   have len157:=(o124.flat).small
   refine lx (bJ dg rfl o124.flat) (lx (cK (m:=(List.length ((aY g).1):Int)) (n:=0) rfl rfl) (ma (vb (decide ((List.length ((aY g).1):Int)=0))) (ad (aD (vs:=[vb (decide ((List.length ((aY g).1):Int)=0))]) Try.func4 (.tmp rfl .nil) ?_))))
   have e0:(decide ((List.length ((aY g).1):Int)=0):Bool)=(true):=by
     exact dt (hA3 ‹_›)
   replace bH:=bH.cn ch126
   replace bH:=bH.cn hb128
   exact⟨(congrArg (a₁:=decide ((List.length ((aY g).1):Int)=0)) (λ(z0:Bool)=>Ending.returned (vb z0)) e0),bH.below⟩
  refine aj rfl (congrArg Bool.not (Bool.eq_false_iff.2 p3)) (aa ?_)
  clear bx5
  refine a8 rfl (ma (vb true) (ad (aD (vs:=[vb true]) Try.func4 (.tmp rfl .nil) ?_)))
  have e0:(true:Bool)=(true):=by
    rfl
  have C158:=cg [] (ch2.n.seq (hb7.n.seq (hb9.n.seq hb11.n)))
  replace bH:=bH.ca C158
  exact⟨rb e0,bH.below⟩
 refine az (wn (congrArg Bool.not (Bool.eq_false_iff.2 q25))) (az (wn (congrArg Bool.not (Bool.eq_false_iff.2 q25))) (az (wn (congrArg Bool.not (Bool.eq_false_iff.2 q25))) (lw (vb true) (aV rfl (congrArg Bool.not (Bool.eq_false_iff.2 q25)) rfl) (ad (aj rfl rfl (aa ?_))))))
 clear bx5
 refine a8 rfl (ma (vb true) (ad (aD (vs:=[vb true]) Try.func4 (.tmp rfl .nil) ?_)))
 have e0:(true:Bool)=(true):=by
   rfl
 have C159:=cg [] (ch2.n.seq (hb7.n.seq hb9.n))
 replace bH:=bH.ca C159
 exact⟨rb e0,bH.below⟩
end TL
