import Derived.Test.YtbpphaeianpdpaaPzTlP2
import Derived.Test.YtbpphaeianpdpaaPzTlGmA
import Derived.Test.YtbpphaeianpdpaaPzTlGenA
import Derived.Test.YtbpphaeianpdpaaProg
import Derived.Test.YtbpphaeianpdpaaPzTlAli
set_option linter.all false
set_option maxRecDepth 20000
namespace TL
open Go Go.Proofs
theorem hF:Try.prog.follows .mixedOrders=true:=by kernel_rfl
theorem aF:Tp Try.prog 26 false 1 24 (.slice none 0 0):=Tp.of (by kernel_rfl)
theorem aL:Tp Try.prog 31 false 1 8 (.float .f64 0):=Tp.of (by kernel_rfl)
theorem lh:Try.f54.body.isNone=false:=rfl
theorem kA:(Try.f54.name== "runtime.NumGoroutine")=false:=by decide+kernel
theorem pp:Try.f57.body.isNone=false:=rfl
theorem oQ:(Try.f57.name== "runtime.NumGoroutine")=false:=by decide+kernel
theorem pm:Try.f63.body.isNone=false:=rfl
theorem po:(Try.f63.name== "runtime.NumGoroutine")=false:=by decide+kernel
theorem gu(w0:World)(f:Nat)(sign:Int)(hs:sign=1):
    Calls Try.prog 25 #[Value.float .f64 f,vi sign] w0 (λee w=>ee= .returned (vb (dx f 9218868437227405311))/\cl w0.heap.size w0 w):=by
 refine ar Try.func25 rfl nq ?_
 have bH:=aU.start w0
 refine a7 (a6 rfl (ma (vb false) (a8 (a7 (a7 (a6 rfl (mi sign (lx (du (m:=sign) (n:=0) rfl rfl) (a8 ?_)))))))))
 by_cases p1:sign=0
 ·
  omega
 refine ag rfl (df p1) (a7 (a6 rfl (mi sign (lx (aW (m:=sign) (n:=0) rfl rfl) (a8 ?_)))))
 by_cases p3:sign<0
 ·
  omega
 refine ag rfl (df p3) (ak (a7 (a6 rfl (mv (Value.float .f64 f) (lw (vb (dx f 9218868437227405311)) (pZ (a:=f) (b:=9218868437227405311) rfl rfl rfl) (ma (vb (dx f 9218868437227405311)) (a8 (au (vs:=[vb (dx f 9218868437227405311)]) Try.func25 (.tmp rfl .nil) ?_))))))))
 have e0:(dx f 9218868437227405311:Bool)=(dx f 9218868437227405311):=by
   rfl
 exact⟨rb e0,bH.below⟩
theorem n5(w0:World)(sign:Int)(hs:0<=sign):
    Calls Try.prog 34 #[vi sign] w0 (λee w=>ee= .returned (Value.float .f64 aJ)/\cl w0.heap.size w0 w):=by
 refine ar Try.func34 rfl nq ?_
 have bH:=aU.start w0
 refine a7 (a6 rfl (ma (Value.float .f64 0) (a8 (a7 (a6 rfl (ma (Value.int .u64 0) (a8 (a7 (a7 (a6 rfl (mi sign (lx (dm (m:=sign) (n:=0) rfl rfl) (a8 ?_)))))))))))))
 by_cases p2:0<=sign
 ·
  refine af rfl (dt p2) (a6 rfl (ma (Value.int .u64 9218868437227405312) (a8 (a7 (a6 rfl (mv (Value.int .u64 9218868437227405312) (lw (Value.float .f64 9218868437227405312) (dX (n:=9218868437227405312) Try.func37 (by kernel_rfl) (by kernel_rfl) (by kernel_rfl) (by kernel_rfl) rfl) (ma (Value.float .f64 9218868437227405312) (a8 (au (vs:=[Value.float .f64 9218868437227405312]) Try.func34 (.tmp rfl .nil) ?_))))))))))
  have e0:(9218868437227405312:Nat)=(aJ):=by
    rfl
  exact⟨(congrArg (a₁:=9218868437227405312) (λ(z0:Nat)=>Ending.returned (Value.float .f64 z0)) e0),bH.below⟩
 omega
theorem nA(w0:World)(x:Nat)(hx:db x=true\/x<=aJ):
    Calls Try.prog 57 #[Value.float .f64 x] w0 (λee w=>ee= .returned (Value.float .f64 (bQ x))/\cl w0.heap.size w0 w):=by
 refine ar Try.func57 rfl nq ?_
 have bH:=aU.start w0
 refine a7 (a6 rfl (ma (Value.float .f64 0) (a8 (a7 (a7 (a6 rfl (mv (Value.float .f64 x) (mv (Value.float .f64 x) (lw (vb (db x)) (gg (a:=x) rfl rfl) (a8 ?_))))))))))
 by_cases p1:db x=true
 ·
  refine af rfl p1 (a7 (a6 rfl (lw (Value.float .f64 9221120237041090561) (dX (n:=9221120237041090561) Try.func37 (by kernel_rfl) (by kernel_rfl) (by kernel_rfl) (by kernel_rfl) rfl) (ma (Value.float .f64 9221120237041090561) (a8 (au (vs:=[Value.float .f64 9221120237041090561]) Try.func57 (.tmp rfl .nil) ?_))))))
  have e0:(9221120237041090561:Nat)=(bQ x):=by
    exact l7 p1
  exact⟨(congrArg (a₁:=9221120237041090561) (λ(z0:Nat)=>Ending.returned (Value.float .f64 z0)) e0),bH.below⟩
 have hx2:=hx.resolve_left p1
 refine ag rfl (Bool.eq_false_iff.2 p1) (ak (a7 (a7 (a6 rfl (mv (Value.float .f64 x) (lw (vb (decide (x=0))) (jc (a:=x) (b:=0) rfl rfl ‹_› (by decide)) (a8 ?_)))))))
 by_cases p3:x=0
 ·
  refine af rfl (dt p3) (a7 (a6 rfl (ma (Value.float .f64 0) (a8 (au (vs:=[Value.float .f64 0]) Try.func57 (.tmp rfl .nil) ?_)))))
  have e0:(0:Nat)=(bQ x):=by
    exact kD p1 ‹_›
  exact⟨(congrArg (a₁:=0) (λ(z0:Nat)=>Ending.returned (Value.float .f64 z0)) e0),bH.below⟩
 refine ag rfl (df p3) (ak (a7 (a6 rfl (mv (Value.float .f64 x) (ma (Value.float .f64 x) (a8 (au (vs:=[Value.float .f64 x]) Try.func57 (.tmp rfl .nil) ?_)))))))
 have e0:(x:Nat)=(bQ x):=by
   exact kG p1
 exact⟨(congrArg (a₁:=x) (λ(z0:Nat)=>Ending.returned (Value.float .f64 z0)) e0),bH.below⟩
theorem nZ(w0:World)(x:Nat):
    Calls Try.prog 63 #[Value.float .f64 x] w0 (λee w=>ee= .returned (vb (dd x 0))/\cl w0.heap.size w0 w):=by
 refine ar Try.func63 rfl nq ?_
 have bH:=aU.start w0
 refine a7 (a6 rfl (ma (vb false) (a8 (a7 (a6 rfl (mv (Value.float .f64 x) (lw (vb (dd x 0)) (kS (a:=x) (b:=0) rfl rfl rfl) (ma (vb (dd x 0)) (a8 (au (vs:=[vb (dd x 0)]) Try.func63 (.tmp rfl .nil) ?_))))))))))
 have e0:(dd x 0:Bool)=(dd x 0):=by
   rfl
 exact⟨rb e0,bH.below⟩
theorem lP(w0:World)(a:Nat)(b:Nat)(ha:a<=aJ)(hb:ef b):
    Calls Try.prog 27 #[Value.float .f64 a,Value.float .f64 b] w0 (λee w=>ee= .returned (Value.float .f64 (aT a (zf b)))/\cl w0.heap.size w0 w):=by
 refine ar Try.func27 rfl nq ?_
 have bH:=aU.start w0
 refine a7 (a6 rfl (ma (Value.float .f64 0) (a8 (a7 (a6 rfl (mv (Value.float .f64 a) (mv (Value.float .f64 b) (lw (Value.float .f64 (aT a (zf b))) (n4 (a:=a) (b:=b) rfl rfl (ek ‹_› ‹_›).1) ?_))))))))
 have nn1:aT a (zf b)<=aJ:=(ek (d:=a) (x:=b) ‹_› ‹_›).2
 refine lo (aZ (v:=Value.float .f64 (bQ (aT a (zf b)))) (aE (vals:=[Value.float .f64 (aT a (zf b))]) Try.func57 pp oQ rfl) (nA w0 (aT a (zf b)) (by exact .inr ‹_›)) ?_)
 intro w2 hb3
 replace hb3:=av hb3 c0
 refine ma (Value.float .f64 (bQ (aT a (zf b)))) (a8 (au (vs:=[Value.float .f64 (bQ (aT a (zf b)))]) Try.func27 (.tmp rfl .nil) ?_))
 have e0:(bQ (aT a (zf b)):Nat)=(aT a (zf b)):=by
   exact jO ‹_›
 replace bH:=bH.cn hb3
 exact⟨(congrArg (a₁:=bQ (aT a (zf b))) (λ(z0:Nat)=>Ending.returned (Value.float .f64 z0)) e0),bH.below⟩
theorem i8(w0:World)(g:(Int)×(List Pt))(g_v:Value)(hg_v:Ro w0 g_v g.2)(ws:List Nat)(ws_v:Value)(hws_v:Ro w0 ws_v ws):
    Calls Try.prog 38 #[vg [vi g.1,g_v],ws_v] w0 (λee w=>ee= .returned (vi (ci g ws))/\cl w0.heap.size w0 w):=by
 refine ar Try.func38 rfl nq ?_
 have bH:=aU.start w0
 have Rg:=hg_v.sl
 have Rws:=hws_v.sl
 refine a7 (a6 rfl (cu rfl (cN c0 (is 1) (1,0) rfl rfl ?_)))
 intro g4 w1 b3 ch2 bx5
 replace bx5:Bx g4 (is 1) w1 b3 [vi g.1,g_v]:=bx5
 refine ai 0 (a8 (a7 (a7 (a6 rfl (lx (aR (ds:=[vi g.1,g_v]) bP rfl bx5 rfl rfl) ?_)))))
 replace Rg:=Rg.cn ch2
 refine lo (aZ (v:=vb (bZ g)) (aE (vals:=[vg [vi g.1,g_v]]) Try.func54 lh kA rfl) (nu w1 g g_v (Rg).ro) ?_)
 intro w6 hb7
 replace hb7:=av hb7 g4
 refine lx (cv (b:=(bZ g)) rfl) (mv (vb (!(bZ g))) ?_)
 by_cases q10:(bZ g)=true
 ·
  refine lv (ws_v) (wy (congrArg Bool.not q10)) (ao rfl) ?_
  replace Rws:=(Rws.cn ch2).cn hb7
  have len8:=(Rws).small
  refine lv (vi (ws.length:Int)) (wy (congrArg Bool.not q10)) (aV cG rfl Rws) (lv (vp b3 1) (wy (congrArg Bool.not q10)) (ad cT rfl rfl rfl rfl) ?_)
  replace bx5:=bx5.cn hb7
  refine lv (g_v) (wy (congrArg Bool.not q10)) (ae bJ rfl bx5 rfl) ?_
  replace Rg:=Rg.cn hb7
  have len9:=(Rg).small
  refine lv (vi (g.2.length:Int)) (wy (congrArg Bool.not q10)) (aV fu rfl Rg) (lv (vb (!(decide ((ws.length:Int)=(g.2.length:Int))))) (wy (congrArg Bool.not q10)) (ch (m:=(ws.length:Int)) (n:=(g.2.length:Int)) rfl rfl) (lw (vb (!(decide ((ws.length:Int)=(g.2.length:Int))))) (aI rfl (congrArg Bool.not q10) rfl) (a8 ?_)))
  by_cases p1:(ws.length:Int)=(g.2.length:Int)
  ·
   refine ag rfl (congrArg Bool.not (dt p1)) (ak (a7 (a7 ?_)))
   clear bx5
   refine a6 rfl (mv ws_v (lx (aV cG rfl Rws) (mi 0 (a8 (al ?_)))))
   refine aP (σ:=Nat×aA) (λ⟨k,gq⟩ f w=>aU w0 gq w/\f 18=ws_v/\f 19=vi (ws.length:Int)/\f 20=vi ↑k/\Sl gq (is 0) w g_v g.2/\Sl gq (is 0) w ws_v ws/\(k:Int)<=((ws.length:Int):Int)/\(∀i:Nat,i<k->ef (gI ws ↑i))) (λ⟨k,gq⟩=>Int.toNat (((ws.length:Int):Int)-(k:Int))) (0,g4) ?_ ?_
   replace bH:=bH.cn ch2
   · exact⟨bH.cn hb7,rfl,rfl,rfl,Rg,Rws,by omega,by exact λi h=>absurd h (Nat.not_lt_zero _)⟩
   clear Rg Rws bH
   rintro⟨k,g12⟩ f10 w11 ⟨bH,zs18,zs19,zs20,Rg,Rws,hle_k,hk⟩ back4
   refine a7 (a6 rfl (lx (aW (m:=↑k) (n:=(ws.length:Int)) zs20 zs19) (a8 (a7 ?_))))
   by_cases p4:(k:Int)<(ws.length:Int)
   ·
    refine af rfl (dt p4) (ak (a7 (al (a7 (a6 rfl (lx (aa (v:=ws_v) (i:=↑k) cG rfl zs18 Rws zs20 (by omega) (by omega)) (lx (az (v:=ws_v) (i:=↑k) aL rfl Rws (by omega) (by omega) (by decide) rfl) (ma (Value.float .f64 (gI ws ↑k)) (a8 (a7 (a6 rfl (mv (Value.float .f64 (gI ws ↑k)) ?_))))))))))))
    refine lo (aZ (v:=vb (dd (gI ws ↑k) 0)) (aE (vals:=[Value.float .f64 (gI ws ↑k)]) Try.func63 pm po rfl) (nZ w11 (gI ws ↑k)) ?_)
    intro w13 hb14
    replace hb14:=av hb14 g12
    refine lx (cv (b:=(dd (gI ws ↑k) 0)) rfl) (a8 ?_)
    by_cases p6:(dd (gI ws ↑k) 0)=true
    ·
     refine ag rfl (congrArg Bool.not p6) (ak (aq (a6 rfl (lx (aY (m:=↑k) (n:=1) zs20 rfl (by omega)) (mi ((k:Int)+1) (a8 ?_))))))
     refine back4 (k+1,g12) _ _ ⟨bH.cn hb14,zs18,zs19,rfl,Rg.cn hb14,Rws.cn hb14,by omega,?_⟩ ?_
     · show∀i:Nat,i<(k+1)->ef (gI ws ↑i)
       exact kC hk ‹_›
     · show Int.toNat (((ws.length:Int):Int)-((k+1):Int))<Int.toNat (((ws.length:Int):Int)-(k:Int))
       omega
    refine af rfl (congrArg Bool.not (Bool.eq_false_iff.2 p6)) (a7 (a6 rfl (ai 13 (a8 (au (vs:=[vi 13]) Try.func38 (.tmp rfl .nil) ?_)))))
    have e0:(13:Int)=(ci g ws):=by
      exact(mH (k:=(k:Int)) ‹_› (by omega) (by omega) ‹_›).symm
    replace bH:=bH.cn hb14
    exact⟨ri e0,bH.below⟩
   refine ag rfl (df p4) (aD rfl (a7 (a6 rfl (ai 0 (a8 (au (vs:=[vi 0]) Try.func38 (.tmp rfl .nil) ?_))))))
   have e0:(0:Int)=(ci g ws):=by
     exact(nG ‹_› (by omega) hk (by omega)).symm
   exact⟨ri e0,bH.below⟩
  refine af rfl (congrArg Bool.not (df p1)) (a7 ?_)
  clear bx5
  refine a6 rfl (ai 1 (a8 (au (vs:=[vi 1]) Try.func38 (.tmp rfl .nil) ?_)))
  have e0:(1:Int)=(ci g ws):=by
    exact(nX ‹_›).symm
  replace bH:=bH.cn ch2
  replace bH:=bH.cn hb7
  exact⟨ri e0,bH.below⟩
 refine ah (wn (congrArg Bool.not (Bool.eq_false_iff.2 q10))) (ah (wn (congrArg Bool.not (Bool.eq_false_iff.2 q10))) (ah (wn (congrArg Bool.not (Bool.eq_false_iff.2 q10))) (ah (wn (congrArg Bool.not (Bool.eq_false_iff.2 q10))) (ah (wn (congrArg Bool.not (Bool.eq_false_iff.2 q10))) (ah (wn (congrArg Bool.not (Bool.eq_false_iff.2 q10))) (lw (vb true) (aB rfl (congrArg Bool.not (Bool.eq_false_iff.2 q10)) rfl) (a8 (af rfl rfl (a7 ?_)))))))))
 clear bx5
 refine a6 rfl (ai 1 (a8 (au (vs:=[vi 1]) Try.func38 (.tmp rfl .nil) ?_)))
 have e0:(1:Int)=(ci g ws):=by
   exact(np ‹_›).symm
 replace bH:=bH.cn ch2
 replace bH:=bH.cn hb7
 exact⟨ri e0,bH.below⟩
theorem nk(w0:World)(g:(Int)×(List Pt))(g_v:Value)(hg_v:Ro w0 g_v g.2)(hm:bU g):
    Calls Try.prog 39 #[vg [vi g.1,g_v]] w0 (λee w=>∃xx:aA×Value,ee= .returned ((λ⟨δ,rv0⟩=>rv0) xx)/\(λ(⟨δ,rv0⟩:aA×Value) (w:World)=>eh w0 δ w/\cj δ 1 w rv0 (ab g)) xx w):=by
 refine ar Try.func39 rfl nq ?_
 have bH:=aU.start w0
 have Rg:=hg_v.sl
 have hm0:=hm
 obtain⟨hm1,hm2,hm3,hm4⟩:=hm0
 refine a7 (a6 rfl (cu rfl (cN c0 (is 1) (1,0) rfl rfl ?_)))
 intro g4 w1 b3 ch2 bx5
 replace bx5:Bx g4 (is 1) w1 b3 [vi g.1,g_v]:=bx5
 refine ma vn (a8 (a7 (a6 rfl (lx (ad cT rfl rfl rfl rfl) (lx (ae ay rfl bx5 rfl) (lo (ic (α:=Int) (n:=g.1) (cp:=g.1) g4 2 cW aF rfl rfl rfl (by omega) (by omega) (by omega) (by omega) ?_)))))))
 intro g6 w7 v8 ch9 o10
 refine ma v8 (a8 (a7 (a7 (a6 rfl (lx (ad cT rfl rfl rfl rfl) ?_)))))
 replace bx5:=bx5.cn ch9
 refine lx (ae bJ rfl bx5 rfl) ?_
 replace Rg:=(Rg.cn ch2).cn ch9
 have len11:=(Rg).small
 refine lx (aV fu rfl Rg) (mi 0 (a8 (al ?_)))
 clear bx5
 refine aP (σ:=Nat×fK×aA) (λ⟨e,O,gq⟩ f w=>aU w0 gq w/\f 3=v8/\f 12=g_v/\f 13=vi (g.2.length:Int)/\f 14=vi ↑e/\Sl gq (is 0) w g_v g.2/\cj gq 2 w v8 O/\(e:Int)<=((g.2.length:Int):Int)/\(cE O g e)) (λ⟨e,O,gq⟩=>Int.toNat (((g.2.length:Int):Int)-(e:Int))) (0,(List.replicate (Int.toNat g.1) []),g6) ?_ ?_
 replace bH:=bH.cn ch2
 · exact⟨bH.cn ch9,rfl,rfl,rfl,rfl,Rg,o10,by omega,by exact cE.start hm1⟩
 clear Rg o10 bH
 rintro⟨e,O,g14⟩ f12 w13 ⟨bH,zs3,zs12,zs13,zs14,Rg,o10,hle_e,hov⟩ back3
 have hol:=hov.len
 refine a7 (a6 rfl (lx (aW (m:=↑e) (n:=(g.2.length:Int)) zs14 zs13) (a8 (a7 ?_))))
 by_cases p3:(e:Int)<(g.2.length:Int)
 ·
  refine af rfl (dt p3) ?_
  obtain⟨⟨he1,he2⟩,he3,he4⟩:=hm4 _ (bu (xs:=g.2) (i:=↑e) (by omega) (by omega))
  have hq1:=hov.rl he1 he2
  have hq2:=hov.rl2 he1 he2 he3 he4 (2*(e:Int))
  refine ak (a7 (al (a7 (a6 rfl (mz zs14 (lx (aa (v:=g_v) (i:=↑e) fu rfl zs12 Rg zs14 (by omega) (by omega)) (lw (vg [vi ((gI g.2 ↑e).1),vi ((gI g.2 ↑e).2)]) (bN (v:=g_v) (i:=↑e) e9 rfl Rg (by omega) (by omega) rfl) (lo (bR g14 (is 3) (3,0) rfl e9 ?_)))))))))
  intro g18 w15 b17 ch16 bx19
  replace bx19:Bx g18 (is 3) w15 b17 [vi 0,vi 0]:=bx19
  refine ai (e:Int) (lo (aQ (cs':=[vi ((gI g.2 ↑e).1),vi ((gI g.2 ↑e).2)]) e9 rfl rfl bx19 rfl nq (AllOne.all (.cons rfl (.cons rfl .nil))) rfl ?_))
  intro w20 ch21 bx22
  clear bx19
  refine a8 (a7 (a6 rfl (lx (aR (ds:=[vi ((gI g.2 ↑e).1),vi ((gI g.2 ↑e).2)]) e9 rfl bx22 rfl rfl) (mi 0 (a8 (al (cS (a7 ?_))))))))
  clear bx22
  refine a6 rfl (lx (aW (m:=0) (n:=2) rfl rfl) (a8 (a7 (af rfl rfl (ak (a7 (al (a7 (a6 rfl (mi 0 (lw (vi ((gI g.2 ↑e).1)) (dC iy ay rfl rfl (by decide) (by decide) rfl) ?_)))))))))))
  refine ai 0 (ai ((gI g.2 ↑e).1) (a8 (a6 rfl (mz zs3 (mi ((gI g.2 ↑e).1) (mz zs3 (mi ((gI g.2 ↑e).1) ?_)))))))
  replace o10:=(o10.cn ch16).ce ch21
  refine lx (aa (v:=v8) (i:=(gI g.2 ↑e).1) cW rfl rfl o10.sl rfl (by omega) (by omega)) ?_
  obtain⟨v23,cel24,r25⟩:=bw (r:=(gI g.2 ↑e).1) o10 (by omega) (by omega)
  refine lx (bb aF rfl cel24) (mi ↑e (lx (jq (m:=2) (n:=↑e) rfl rfl (by omega)) (mi 0 (lx (aY (m:=2*(e:Int)) (n:=0) rfl rfl (by omega)) (lo (aN (α:=Int) g18 (is 4) (is 4) (4,0) rfl [(2*(e:Int))+0] bM ay (by decide) (by decide) (vs:=[(0,vi ((2*(e:Int))+0))]) rfl rfl (.cons rfl .nil) ?_))))))
  intro g26 w27 v28 ch29 o30
  refine lo ?_
  replace o10:=o10.cn ch29
  replace r25:=r25.cn ch29
  refine bs (α:=Int) (xs:=(gI O ((gI g.2 ↑e).1))) (ys:=([(2*(e:Int))+0])) g26 (J:=row 2 (Int.toNat ((gI g.2 ↑e).1)+1)) (S:=row 2 (Int.toNat ((gI g.2 ↑e).1)+1)) (2,Int.toNat ((gI g.2 ↑e).1)+1) rfl bM ay (by decide) rfl rfl rfl r25 o30.flat (by decide) (by(simp;omega)) ?_
  intro g31 w32 v33 ch34 o35
  have o36:=o10.rowchg ch34
  clear o10 cel24 r25
  obtain⟨us37,hl38,r39⟩:=o36.vc
  try simp only[List.length_set,List.length_append,List.length_cons,List.length_nil] at hl38
  refine lx (aa (v:=v8) (i:=(gI g.2 ↑e).1) cW rfl rfl r39 rfl (by omega) (by omega)) (lo (bE (r:=(gI g.2 ↑e).1) aF rfl rfl o36 o35 (by omega) (by omega) ?_))
  intro w43 ch44 o45
  clear o36 o35
  refine a8 (aq ?_)
  clear o30
  refine a6 rfl (lx (aY (m:=0) (n:=1) rfl rfl (by omega)) (mi 1 (a8 (ck (a7 (a6 rfl (lx (aW (m:=1) (n:=2) rfl rfl) (a8 (a7 (af rfl rfl (ak ?_)))))))))))
  refine a7 (al (a7 (a6 rfl (mi 1 (lw (vi ((gI g.2 ↑e).2)) (dC iy ay rfl rfl (by decide) (by decide) rfl) (ai 1 (ai ((gI g.2 ↑e).2) (a8 (a6 rfl (mz zs3 (mi ((gI g.2 ↑e).2) ?_)))))))))))
  refine mz zs3 (mi ((gI g.2 ↑e).2) (lx (aa (v:=v8) (i:=(gI g.2 ↑e).2) cW rfl rfl o45.sl rfl (by omega) (by(simp only[List.length_set,List.length_append,List.length_cons,List.length_nil,List.length_replicate,List.length_map,List.length_take,List.length_drop];omega))) ?_))
  obtain⟨v46,cel47,r48⟩:=bw (r:=(gI g.2 ↑e).2) o45 (by omega) (by(simp only[List.length_set,List.length_append,List.length_cons,List.length_nil,List.length_replicate,List.length_map,List.length_take,List.length_drop];omega))
  refine lx (bb aF rfl cel47) (mi ↑e (lx (jq (m:=2) (n:=↑e) rfl rfl (by omega)) (mi 1 (lx (aY (m:=2*(e:Int)) (n:=1) rfl rfl (by omega)) (lo (aN (α:=Int) g31 (is 4) (is 4) (4,0) rfl [(2*(e:Int))+1] bM ay (by decide) (by decide) (vs:=[(0,vi ((2*(e:Int))+1))]) rfl rfl (.cons rfl .nil) ?_))))))
  intro g49 w50 v51 ch52 o53
  refine lo ?_
  replace o45:=o45.cn ch52
  replace r48:=r48.cn ch52
  refine bs (α:=Int) (xs:=(gI (List.set O (Int.toNat ((gI g.2 ↑e).1)) (gI O ((gI g.2 ↑e).1)++[(2*(e:Int))+0])) ((gI g.2 ↑e).2))) (ys:=([(2*(e:Int))+1])) g49 (J:=row 2 (Int.toNat ((gI g.2 ↑e).2)+1)) (S:=row 2 (Int.toNat ((gI g.2 ↑e).2)+1)) (2,Int.toNat ((gI g.2 ↑e).2)+1) rfl bM ay (by decide) rfl rfl rfl r48 o53.flat (by decide) (by(simp;omega)) ?_
  intro g54 w55 v56 ch57 o58
  have o59:=o45.rowchg ch57
  clear o45 cel47 r48
  obtain⟨us60,hl61,r62⟩:=o59.vc
  try simp only[List.length_set,List.length_append,List.length_cons,List.length_nil] at hl61
  refine lx (aa (v:=v8) (i:=(gI g.2 ↑e).2) cW rfl rfl r62 rfl (by omega) (by omega)) (lo (bE (r:=(gI g.2 ↑e).2) aF rfl rfl o59 o58 (by omega) (by(simp only[List.length_set,List.length_append,List.length_cons,List.length_nil,List.length_replicate,List.length_map,List.length_take,List.length_drop];omega)) ?_))
  intro w66 ch67 o68
  clear o59 o58
  refine a8 (aq ?_)
  clear o53
  refine a6 rfl (lx (aY (m:=1) (n:=1) rfl rfl (by omega)) (mi 2 (a8 (ck (a7 (a6 rfl (lx (aW (m:=2) (n:=2) rfl rfl) (a8 (a7 (ag rfl rfl (aD rfl ?_)))))))))))
  refine aq (a6 rfl (lx (aY (m:=↑e) (n:=1) zs14 rfl (by omega)) (mi ((e:Int)+1) (a8 ?_))))
  have C69:=cg [2,3] (ch16.n.seq ((ch21.l rfl).seq (ch29.n.seq ((ch34.lr rfl).seq ((ch44.l rfl).seq (ch52.n.seq ((ch57.lr rfl).seq (ch67.l rfl))))))))
  refine back3 (e+1,(List.set (List.set O (Int.toNat ((gI g.2 ↑e).1)) (gI O ((gI g.2 ↑e).1)++[(2*(e:Int))+0])) (Int.toNat ((gI g.2 ↑e).2)) (gI (List.set O (Int.toNat ((gI g.2 ↑e).1)) (gI O ((gI g.2 ↑e).1)++[(2*(e:Int))+0])) ((gI g.2 ↑e).2)++[(2*(e:Int))+1])),g54) _ _ ⟨bH.ca C69,zs3,zs12,zs13,rfl,Rg.ca C69,o68,by omega,?_⟩ ?_
  · show cE (List.set (List.set O (Int.toNat ((gI g.2 ↑e).1)) (gI O ((gI g.2 ↑e).1)++[(2*(e:Int))+0])) (Int.toNat ((gI g.2 ↑e).2)) (gI (List.set O (Int.toNat ((gI g.2 ↑e).1)) (gI O ((gI g.2 ↑e).1)++[(2*(e:Int))+0])) ((gI g.2 ↑e).2)++[(2*(e:Int))+1])) g (e+1)
    exact hov.next he1 he2 he3 he4 (by omega) (by omega)
  · show Int.toNat (((g.2.length:Int):Int)-((e+1):Int))<Int.toNat (((g.2.length:Int):Int)-(e:Int))
    omega
 refine ag rfl (df p3) (aD rfl (a7 (a6 rfl (mz zs3 (ma v8 (a8 (au (vs:=[v8]) Try.func39 (.tmp rfl .nil) ?_)))))))
 have e0:(O:fK)=(ab g):=by
   exact hov.first (by omega)
 exact⟨(fin w0 g14 (λn=>if n=2 then 1 else 0),v8),(congrArg (a₁:=O) (λ(z0:fK)=>Ending.returned (v8)) e0),bH.fresh _,(e0▸(o10.glue (γ:=c0) (ren:=(λn=>if n=2 then 1 else 0)) (k:=1) bH.col rfl rfl))⟩
theorem iS(w0:World)(xs:List ((Nat)×(Int)))(xs_v:Value)(hxs_v:Ro w0 xs_v xs):
    Calls Try.prog 40 #[xs_v] w0 (λee w=>ee= .returned (vi (xs.length:Int))/\cl w0.heap.size w0 w):=by
 refine ar Try.func40 rfl nq ?_
 have bH:=aU.start w0
 have Rxs:=hxs_v.sl
 refine a7 (a6 rfl (ai 0 (a8 (a7 (a6 rfl (mv xs_v ?_))))))
 have len1:=(Rxs).small
 refine lx (aV f8 rfl Rxs) (ai (xs.length:Int) (a8 (au (vs:=[vi (xs.length:Int)]) Try.func40 (.tmp rfl .nil) ?_)))
 have e0:((xs.length:Int):Int)=((xs.length:Int)):=by
   rfl
 exact⟨ri e0,bH.below⟩
theorem eD(w0:World)(xs:List ((Nat)×(Int)))(xs_v:Value)(hxs_v:Ro w0 xs_v xs)(i:Int)(j:Int)(hi:0<=i/\i<(xs.length:Int))(hj:0<=j/\j<(xs.length:Int))(hn:∀x∈xs,x.1<=aJ):
    Calls Try.prog 122 #[xs_v,vi i,vi j] w0 (λee w=>ee= .returned (vb (decide (cz (gI xs i) (gI xs j))))/\cl w0.heap.size w0 w):=by
 refine ar Try.func122 rfl nq ?_
 have bH:=aU.start w0
 have Rxs:=hxs_v.sl
 obtain⟨hi0,hi1⟩:=hi
 obtain⟨hj0,hj1⟩:=hj
 have n1:=hn _ (bu (xs:=xs) (i:=i) hi0 hi1)
 have n2:=hn _ (bu (xs:=xs) (i:=j) hj0 hj1)
 refine a7 (a6 rfl (ma (vb false) (a8 (a7 (a7 (bL c0 rfl hF (by kernel_rfl) ?_))))))
 intro w2 ch1
 refine qm xs_v (qm (vi i) ?_)
 replace Rxs:=Rxs.cn ch1
 refine qx (λw' hw'=>aa (v:=xs_v) (i:=i) f8 rfl rfl (Rxs.bel hw') rfl (by omega) (by omega)) (qv (Value.pointer (some ⟨(aO xs_v 2 (Int.toNat i)).block,(aO xs_v 2 (Int.toNat i)).off+0,none⟩)) (λw' hw'=>cd lU rfl rfl rfl rfl) (qx (λw' hw'=>b9 (v:=xs_v) (i:=i) aL rfl (Rxs.bel hw') (by omega) (by omega) (by decide) rfl) (qm xs_v (qm (vi j) (qx (λw' hw'=>aa (v:=xs_v) (i:=j) f8 rfl rfl (Rxs.bel hw') rfl (by omega) (by omega)) (qv (Value.pointer (some ⟨(aO xs_v 2 (Int.toNat j)).block,(aO xs_v 2 (Int.toNat j)).off+0,none⟩)) (λw' hw'=>cd lU rfl rfl rfl rfl) (qx (λw' hw'=>b9 (v:=xs_v) (i:=j) aL rfl (Rxs.bel hw') (by omega) (by omega) (by decide) rfl) ?_)))))))
 refine qv (vb (!(decide (((gI xs i).1)=((gI xs j).1))))) (λw' hw'=>nE (a:=((gI xs i).1)) (b:=((gI xs j).1)) rfl rfl ‹_› ‹_›) (cm ?_)
 intro w3 hc4
 replace hc4:=av hc4 c0
 by_cases p1:((gI xs i).1)=((gI xs j).1)
 ·
  refine ag rfl (congrArg Bool.not (dt p1)) (ak (a7 (bL c0 rfl hF (by kernel_rfl) ?_)))
  intro w6 ch5
  refine qm xs_v (qm (vi i) ?_)
  replace Rxs:=(Rxs.cn hc4).cn ch5
  refine qx (λw' hw'=>aa (v:=xs_v) (i:=i) f8 rfl rfl (Rxs.bel hw') rfl (by omega) (by omega)) (qv (Value.pointer (some ⟨(aO xs_v 2 (Int.toNat i)).block,(aO xs_v 2 (Int.toNat i)).off+1,none⟩)) (λw' hw'=>cd lU rfl rfl rfl rfl) (qx (λw' hw'=>b9 (v:=xs_v) (i:=i) ay rfl (Rxs.bel hw') (by omega) (by omega) (by decide) rfl) (qm xs_v (qm (vi j) (qx (λw' hw'=>aa (v:=xs_v) (i:=j) f8 rfl rfl (Rxs.bel hw') rfl (by omega) (by omega)) (qv (Value.pointer (some ⟨(aO xs_v 2 (Int.toNat j)).block,(aO xs_v 2 (Int.toNat j)).off+1,none⟩)) (λw' hw'=>cd lU rfl rfl rfl rfl) (qx (λw' hw'=>b9 (v:=xs_v) (i:=j) ay rfl (Rxs.bel hw') (by omega) (by omega) (by decide) rfl) ?_)))))))
  refine qx (λw' hw'=>aW (m:=(gI xs i).2) (n:=(gI xs j).2) rfl rfl) (qv (vb (decide (((gI xs i).2)<((gI xs j).2)))) (λw' hw'=>bh rfl) (cm ?_))
  intro w7 hc8
  replace hc8:=av hc8 c0
  refine au (vs:=[vb (decide (((gI xs i).2)<((gI xs j).2)))]) Try.func122 (.tmp rfl .nil) ?_
  have e0:(decide (((gI xs i).2)<((gI xs j).2)):Bool)=(decide (cz (gI xs i) (gI xs j))):=by
    exact qN ‹_›
  have C9:=cg [] (ch1.n.seq (hc4.n.seq (ch5.n.seq hc8.n)))
  replace bH:=bH.ca C9
  exact⟨(congrArg (a₁:=decide (((gI xs i).2)<((gI xs j).2))) (λ(z0:Bool)=>Ending.returned (vb z0)) e0),bH.below⟩
 refine af rfl (congrArg Bool.not (df p1)) (a7 (bL c0 rfl hF (by kernel_rfl) ?_))
 intro w11 ch10
 refine qm xs_v (qm (vi i) ?_)
 replace Rxs:=(Rxs.cn hc4).cn ch10
 refine qx (λw' hw'=>aa (v:=xs_v) (i:=i) f8 rfl rfl (Rxs.bel hw') rfl (by omega) (by omega)) (qv (Value.pointer (some ⟨(aO xs_v 2 (Int.toNat i)).block,(aO xs_v 2 (Int.toNat i)).off+0,none⟩)) (λw' hw'=>cd lU rfl rfl rfl rfl) (qx (λw' hw'=>b9 (v:=xs_v) (i:=i) aL rfl (Rxs.bel hw') (by omega) (by omega) (by decide) rfl) (qm xs_v (qm (vi j) (qx (λw' hw'=>aa (v:=xs_v) (i:=j) f8 rfl rfl (Rxs.bel hw') rfl (by omega) (by omega)) (qv (Value.pointer (some ⟨(aO xs_v 2 (Int.toNat j)).block,(aO xs_v 2 (Int.toNat j)).off+0,none⟩)) (λw' hw'=>cd lU rfl rfl rfl rfl) (qx (λw' hw'=>b9 (v:=xs_v) (i:=j) aL rfl (Rxs.bel hw') (by omega) (by omega) (by decide) rfl) ?_)))))))
 refine qv (vb (decide (((gI xs i).1)<((gI xs j).1)))) (λw' hw'=>i9 (a:=((gI xs i).1)) (b:=((gI xs j).1)) rfl rfl ‹_› ‹_›) (qv (vb (decide (((gI xs i).1)<((gI xs j).1)))) (λw' hw'=>bh rfl) (cm ?_))
 intro w12 hc13
 replace hc13:=av hc13 c0
 refine au (vs:=[vb (decide (((gI xs i).1)<((gI xs j).1)))]) Try.func122 (.tmp rfl .nil) ?_
 have e0:(decide (((gI xs i).1)<((gI xs j).1)):Bool)=(decide (cz (gI xs i) (gI xs j))):=by
   exact qZ ‹_›
 have C14:=cg [] (ch1.n.seq (hc4.n.seq (ch10.n.seq hc13.n)))
 replace bH:=bH.ca C14
 exact⟨(congrArg (a₁:=decide (((gI xs i).1)<((gI xs j).1))) (λ(z0:Bool)=>Ending.returned (vb z0)) e0),bH.below⟩
end TL
