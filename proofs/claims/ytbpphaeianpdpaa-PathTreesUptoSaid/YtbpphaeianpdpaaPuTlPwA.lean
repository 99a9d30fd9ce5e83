import Derived.Test.YtbpphaeianpdpaaPuTlP2
import Derived.Test.YtbpphaeianpdpaaPuTlGmA
import Derived.Test.YtbpphaeianpdpaaPuTlGenA
import Derived.Test.YtbpphaeianpdpaaProg
import Derived.Test.YtbpphaeianpdpaaPuTlAli
set_option linter.all false
set_option maxRecDepth 20000
namespace TL
open Go Go.Proofs
theorem gO:Try.prog.follows .mixedOrders=true:=by kernel_rfl
theorem br:Tp Try.prog 26 false 1 24 (.slice none 0 0):=Tp.of (by kernel_rfl)
theorem aT:Tp Try.prog 31 false 1 8 (.float .f64 0):=Tp.of (by kernel_rfl)
theorem kb:Try.f54.body.isNone=false:=rfl
theorem kM:(Try.f54.name== "runtime.NumGoroutine")=false:=by decide+kernel
theorem oF:Try.f57.body.isNone=false:=rfl
theorem oU:(Try.f57.name== "runtime.NumGoroutine")=false:=by decide+kernel
theorem o3:Try.f63.body.isNone=false:=rfl
theorem nB:(Try.f63.name== "runtime.NumGoroutine")=false:=by decide+kernel
theorem hX(w0:World)(f:Nat)(sign:Int)(hs:sign=1):
    Calls Try.prog 25 #[Value.float .f64 f,vi sign] w0 (λee w=>ee= .returned (vb (dz f 9218868437227405311))/\ch w0.heap.size w0 w):=by
 refine ap Try.func25 rfl nq ?_
 have bH:=aX.start w0
 refine a7 (a6 rfl (ma (vb false) (a8 (a7 (a7 (a6 rfl (mi sign (lx (eh (m:=sign) (n:=0) rfl rfl) (a8 ?_)))))))))
 by_cases p1:sign=0
 ·
  omega
 refine af rfl (df p1) (a7 (a6 rfl (mi sign (lx (b9 (m:=sign) (n:=0) rfl rfl) (a8 ?_)))))
 by_cases p3:sign<0
 ·
  omega
 refine af rfl (df p3) (al (a7 (a6 rfl (mv (Value.float .f64 f) (lw (vb (dz f 9218868437227405311)) (oM (a:=f) (b:=9218868437227405311) rfl rfl rfl) (ma (vb (dz f 9218868437227405311)) (a8 (aq (vs:=[vb (dz f 9218868437227405311)]) Try.func25 (.tmp rfl .nil) ?_))))))))
 have e0:(dz f 9218868437227405311:Bool)=(dz f 9218868437227405311):=by
   rfl
 exact⟨rb e0,bH.below⟩
theorem qt(w0:World)(sign:Int)(hs:0<=sign):
    Calls Try.prog 34 #[vi sign] w0 (λee w=>ee= .returned (Value.float .f64 aM)/\ch w0.heap.size w0 w):=by
 refine ap Try.func34 rfl nq ?_
 have bH:=aX.start w0
 refine a7 (a6 rfl (ma (Value.float .f64 0) (a8 (a7 (a6 rfl (ma (Value.int .u64 0) (a8 (a7 (a7 (a6 rfl (mi sign (lx (da (m:=sign) (n:=0) rfl rfl) (a8 ?_)))))))))))))
 by_cases p2:0<=sign
 ·
  refine ae rfl (dt p2) (a6 rfl (ma (Value.int .u64 9218868437227405312) (a8 (a7 (a6 rfl (mv (Value.int .u64 9218868437227405312) (lw (Value.float .f64 9218868437227405312) (gC (n:=9218868437227405312) Try.func37 (by kernel_rfl) (by kernel_rfl) (by kernel_rfl) (by kernel_rfl) rfl) (ma (Value.float .f64 9218868437227405312) (a8 (aq (vs:=[Value.float .f64 9218868437227405312]) Try.func34 (.tmp rfl .nil) ?_))))))))))
  have e0:(9218868437227405312:Nat)=(aM):=by
    rfl
  exact⟨(congrArg (a₁:=9218868437227405312) (λ(z0:Nat)=>Ending.returned (Value.float .f64 z0)) e0),bH.below⟩
 omega
theorem ng(w0:World)(x:Nat)(hx:dZ x=true\/x<=aM):
    Calls Try.prog 57 #[Value.float .f64 x] w0 (λee w=>ee= .returned (Value.float .f64 (bZ x))/\ch w0.heap.size w0 w):=by
 refine ap Try.func57 rfl nq ?_
 have bH:=aX.start w0
 refine a7 (a6 rfl (ma (Value.float .f64 0) (a8 (a7 (a7 (a6 rfl (mv (Value.float .f64 x) (mv (Value.float .f64 x) (lw (vb (dZ x)) (k5 (a:=x) rfl rfl) (a8 ?_))))))))))
 by_cases p1:dZ x=true
 ·
  refine ae rfl p1 (a7 (a6 rfl (lw (Value.float .f64 9221120237041090561) (gC (n:=9221120237041090561) Try.func37 (by kernel_rfl) (by kernel_rfl) (by kernel_rfl) (by kernel_rfl) rfl) (ma (Value.float .f64 9221120237041090561) (a8 (aq (vs:=[Value.float .f64 9221120237041090561]) Try.func57 (.tmp rfl .nil) ?_))))))
  have e0:(9221120237041090561:Nat)=(bZ x):=by
    exact nw p1
  exact⟨(congrArg (a₁:=9221120237041090561) (λ(z0:Nat)=>Ending.returned (Value.float .f64 z0)) e0),bH.below⟩
 have hx2:=hx.resolve_left p1
 refine af rfl (Bool.eq_false_iff.2 p1) (al (a7 (a7 (a6 rfl (mv (Value.float .f64 x) (lw (vb (decide (x=0))) (k8 (a:=x) (b:=0) rfl rfl ‹_› (by decide)) (a8 ?_)))))))
 by_cases p3:x=0
 ·
  refine ae rfl (dt p3) (a7 (a6 rfl (ma (Value.float .f64 0) (a8 (aq (vs:=[Value.float .f64 0]) Try.func57 (.tmp rfl .nil) ?_)))))
  have e0:(0:Nat)=(bZ x):=by
    exact oD p1 ‹_›
  exact⟨(congrArg (a₁:=0) (λ(z0:Nat)=>Ending.returned (Value.float .f64 z0)) e0),bH.below⟩
 refine af rfl (df p3) (al (a7 (a6 rfl (mv (Value.float .f64 x) (ma (Value.float .f64 x) (a8 (aq (vs:=[Value.float .f64 x]) Try.func57 (.tmp rfl .nil) ?_)))))))
 have e0:(x:Nat)=(bZ x):=by
   exact oS p1
 exact⟨(congrArg (a₁:=x) (λ(z0:Nat)=>Ending.returned (Value.float .f64 z0)) e0),bH.below⟩
theorem lR(w0:World)(x:Nat):
    Calls Try.prog 63 #[Value.float .f64 x] w0 (λee w=>ee= .returned (vb (eN x 0))/\ch w0.heap.size w0 w):=by
 refine ap Try.func63 rfl nq ?_
 have bH:=aX.start w0
 refine a7 (a6 rfl (ma (vb false) (a8 (a7 (a6 rfl (mv (Value.float .f64 x) (lw (vb (eN x 0)) (pe (a:=x) (b:=0) rfl rfl rfl) (ma (vb (eN x 0)) (a8 (aq (vs:=[vb (eN x 0)]) Try.func63 (.tmp rfl .nil) ?_))))))))))
 have e0:(eN x 0:Bool)=(eN x 0):=by
   rfl
 exact⟨rb e0,bH.below⟩
theorem kK(w0:World)(a:Nat)(b:Nat)(ha:a<=aM)(hb:fI b):
    Calls Try.prog 27 #[Value.float .f64 a,Value.float .f64 b] w0 (λee w=>ee= .returned (Value.float .f64 (b6 a (zf b)))/\ch w0.heap.size w0 w):=by
 refine ap Try.func27 rfl nq ?_
 have bH:=aX.start w0
 refine a7 (a6 rfl (ma (Value.float .f64 0) (a8 (a7 (a6 rfl (mv (Value.float .f64 a) (mv (Value.float .f64 b) (lw (Value.float .f64 (b6 a (zf b))) (mO (a:=a) (b:=b) rfl rfl (ip ‹_› ‹_›).1) ?_))))))))
 have nn1:b6 a (zf b)<=aM:=(ip (d:=a) (x:=b) ‹_› ‹_›).2
 refine lo (bu (v:=Value.float .f64 (bZ (b6 a (zf b)))) (aG (vals:=[Value.float .f64 (b6 a (zf b))]) Try.func57 oF oU rfl) (ng w0 (b6 a (zf b)) (by exact .inr ‹_›)) ?_)
 intro w2 hb3
 replace hb3:=ax hb3 c0
 refine ma (Value.float .f64 (bZ (b6 a (zf b)))) (a8 (aq (vs:=[Value.float .f64 (bZ (b6 a (zf b)))]) Try.func27 (.tmp rfl .nil) ?_))
 have e0:(bZ (b6 a (zf b)):Nat)=(b6 a (zf b)):=by
   exact nh ‹_›
 replace bH:=bH.cn hb3
 exact⟨(congrArg (a₁:=bZ (b6 a (zf b))) (λ(z0:Nat)=>Ending.returned (Value.float .f64 z0)) e0),bH.below⟩
theorem gN(w0:World)(g:(Int)×(List Pt))(g_v:Value)(hg_v:Ro w0 g_v g.2)(ws:List Nat)(ws_v:Value)(hws_v:Ro w0 ws_v ws):
    Calls Try.prog 38 #[vg [vi g.1,g_v],ws_v] w0 (λee w=>ee= .returned (vi (cZ g ws))/\ch w0.heap.size w0 w):=by
 refine ap Try.func38 rfl nq ?_
 have bH:=aX.start w0
 have Rg:=hg_v.sl
 have Rws:=hws_v.sl
 refine a7 (a6 rfl (dA rfl (cY c0 (is 1) (1,0) rfl rfl ?_)))
 intro g4 w1 b3 ch2 bx5
 replace bx5:Bx g4 (is 1) w1 b3 [vi g.1,g_v]:=bx5
 refine ai 0 (a8 (a7 (a7 (a6 rfl (lx (aO (ds:=[vi g.1,g_v]) bm rfl bx5 rfl rfl) ?_)))))
 replace Rg:=Rg.cn ch2
 refine lo (bu (v:=vb (cl g)) (aG (vals:=[vg [vi g.1,g_v]]) Try.func54 kb kM rfl) (mw w1 g g_v (Rg).ro) ?_)
 intro w6 hb7
 replace hb7:=ax hb7 g4
 refine lx (e9 (b:=(cl g)) rfl) (mv (vb (!(cl g))) ?_)
 by_cases q10:(cl g)=true
 ·
  refine lv (ws_v) (wy (congrArg Bool.not q10)) (am rfl) ?_
  replace Rws:=(Rws.cn ch2).cn hb7
  have len8:=(Rws).small
  refine lv (vi (ws.length:Int)) (wy (congrArg Bool.not q10)) (bl eD rfl Rws) (lv (vp b3 1) (wy (congrArg Bool.not q10)) (aj cS rfl rfl rfl rfl) ?_)
  replace bx5:=bx5.cn hb7
  refine lv (g_v) (wy (congrArg Bool.not q10)) (ah bw rfl bx5 rfl) ?_
  replace Rg:=Rg.cn hb7
  have len9:=(Rg).small
  refine lv (vi (g.2.length:Int)) (wy (congrArg Bool.not q10)) (bl eZ rfl Rg) (lv (vb (!(decide ((ws.length:Int)=(g.2.length:Int))))) (wy (congrArg Bool.not q10)) (cM (m:=(ws.length:Int)) (n:=(g.2.length:Int)) rfl rfl) (lw (vb (!(decide ((ws.length:Int)=(g.2.length:Int))))) (aH rfl (congrArg Bool.not q10) rfl) (a8 ?_)))
  by_cases p1:(ws.length:Int)=(g.2.length:Int)
  ·
   refine af rfl (congrArg Bool.not (dt p1)) (al (a7 (a7 ?_)))
   clear bx5
   refine a6 rfl (mv ws_v (lx (bl eD rfl Rws) (mi 0 (a8 (ao ?_)))))
   refine aR (σ:=Nat×aw) (λ⟨k,gq⟩ f w=>aX w0 gq w/\f 18=ws_v/\f 19=vi (ws.length:Int)/\f 20=vi ↑k/\Sl gq (is 0) w g_v g.2/\Sl gq (is 0) w ws_v ws/\(k:Int)<=((ws.length:Int):Int)/\(∀i:Nat,i<k->fI (gI ws ↑i))) (λ⟨k,gq⟩=>Int.toNat (((ws.length:Int):Int)-(k:Int))) (0,g4) ?_ ?_
   replace bH:=bH.cn ch2
   · exact⟨bH.cn hb7,rfl,rfl,rfl,Rg,Rws,by omega,by exact λi h=>absurd h (Nat.not_lt_zero _)⟩
   clear Rg Rws bH
   rintro⟨k,g12⟩ f10 w11 ⟨bH,zs18,zs19,zs20,Rg,Rws,hle_k,hk⟩ back4
   refine a7 (a6 rfl (lx (b9 (m:=↑k) (n:=(ws.length:Int)) zs20 zs19) (a8 (a7 ?_))))
   by_cases p4:(k:Int)<(ws.length:Int)
   ·
    refine ae rfl (dt p4) (al (a7 (ao (a7 (a6 rfl (lx (aa (v:=ws_v) (i:=↑k) eD rfl zs18 Rws zs20 (by omega) (by omega)) (lx (au (v:=ws_v) (i:=↑k) aT rfl Rws (by omega) (by omega) (by decide) rfl) (ma (Value.float .f64 (gI ws ↑k)) (a8 (a7 (a6 rfl (mv (Value.float .f64 (gI ws ↑k)) ?_))))))))))))
    refine lo (bu (v:=vb (eN (gI ws ↑k) 0)) (aG (vals:=[Value.float .f64 (gI ws ↑k)]) Try.func63 o3 nB rfl) (lR w11 (gI ws ↑k)) ?_)
    intro w13 hb14
    replace hb14:=ax hb14 g12
    refine lx (e9 (b:=(eN (gI ws ↑k) 0)) rfl) (a8 ?_)
    by_cases p6:(eN (gI ws ↑k) 0)=true
    ·
     refine af rfl (congrArg Bool.not p6) (al (ar (a6 rfl (lx (bg (m:=↑k) (n:=1) zs20 rfl (by omega)) (mi ((k:Int)+1) (a8 ?_))))))
     refine back4 (k+1,g12) _ _ ⟨bH.cn hb14,zs18,zs19,rfl,Rg.cn hb14,Rws.cn hb14,by omega,?_⟩ ?_
     · show∀i:Nat,i<(k+1)->fI (gI ws ↑i)
       exact oR hk ‹_›
     · show Int.toNat (((ws.length:Int):Int)-((k+1):Int))<Int.toNat (((ws.length:Int):Int)-(k:Int))
       omega
    refine ae rfl (congrArg Bool.not (Bool.eq_false_iff.2 p6)) (a7 (a6 rfl (ai 13 (a8 (aq (vs:=[vi 13]) Try.func38 (.tmp rfl .nil) ?_)))))
    have e0:(13:Int)=(cZ g ws):=by
      exact(pS (k:=(k:Int)) ‹_› (by omega) (by omega) ‹_›).symm
    replace bH:=bH.cn hb14
    exact⟨ri e0,bH.below⟩
   refine af rfl (df p4) (aF rfl (a7 (a6 rfl (ai 0 (a8 (aq (vs:=[vi 0]) Try.func38 (.tmp rfl .nil) ?_))))))
   have e0:(0:Int)=(cZ g ws):=by
     exact(q6 ‹_› (by omega) hk (by omega)).symm
   exact⟨ri e0,bH.below⟩
  refine ae rfl (congrArg Bool.not (df p1)) (a7 ?_)
  clear bx5
  refine a6 rfl (ai 1 (a8 (aq (vs:=[vi 1]) Try.func38 (.tmp rfl .nil) ?_)))
  have e0:(1:Int)=(cZ g ws):=by
    exact(qj ‹_›).symm
  replace bH:=bH.cn ch2
  replace bH:=bH.cn hb7
  exact⟨ri e0,bH.below⟩
 refine ad (wn (congrArg Bool.not (Bool.eq_false_iff.2 q10))) (ad (wn (congrArg Bool.not (Bool.eq_false_iff.2 q10))) (ad (wn (congrArg Bool.not (Bool.eq_false_iff.2 q10))) (ad (wn (congrArg Bool.not (Bool.eq_false_iff.2 q10))) (ad (wn (congrArg Bool.not (Bool.eq_false_iff.2 q10))) (ad (wn (congrArg Bool.not (Bool.eq_false_iff.2 q10))) (lw (vb true) (aA rfl (congrArg Bool.not (Bool.eq_false_iff.2 q10)) rfl) (a8 (ae rfl rfl (a7 ?_)))))))))
 clear bx5
 refine a6 rfl (ai 1 (a8 (aq (vs:=[vi 1]) Try.func38 (.tmp rfl .nil) ?_)))
 have e0:(1:Int)=(cZ g ws):=by
   exact(q7 ‹_›).symm
 replace bH:=bH.cn ch2
 replace bH:=bH.cn hb7
 exact⟨ri e0,bH.below⟩
theorem lY(w0:World)(g:(Int)×(List Pt))(g_v:Value)(hg_v:Ro w0 g_v g.2)(hm:aV g):
    Calls Try.prog 39 #[vg [vi g.1,g_v]] w0 (λee w=>∃xx:aw×Value,ee= .returned ((λ⟨δ,rv0⟩=>rv0) xx)/\(λ(⟨δ,rv0⟩:aw×Value) (w:World)=>ej w0 δ w/\cU δ 1 w rv0 (ab g)) xx w):=by
 refine ap Try.func39 rfl nq ?_
 have bH:=aX.start w0
 have Rg:=hg_v.sl
 have hm0:=hm
 obtain⟨hm1,hm2,hm3,hm4⟩:=hm0
 refine a7 (a6 rfl (dA rfl (cY c0 (is 1) (1,0) rfl rfl ?_)))
 intro g4 w1 b3 ch2 bx5
 replace bx5:Bx g4 (is 1) w1 b3 [vi g.1,g_v]:=bx5
 refine ma vn (a8 (a7 (a6 rfl (lx (aj cS rfl rfl rfl rfl) (lx (ah av rfl bx5 rfl) (lo (gQ (α:=Int) (n:=g.1) (cp:=g.1) g4 2 j4 br rfl rfl rfl (by omega) (by omega) (by omega) (by omega) ?_)))))))
 intro g6 w7 v8 ch9 o10
 refine ma v8 (a8 (a7 (a7 (a6 rfl (lx (aj cS rfl rfl rfl rfl) ?_)))))
 replace bx5:=bx5.cn ch9
 refine lx (ah bw rfl bx5 rfl) ?_
 replace Rg:=(Rg.cn ch2).cn ch9
 have len11:=(Rg).small
 refine lx (bl eZ rfl Rg) (mi 0 (a8 (ao ?_)))
 clear bx5
 refine aR (σ:=Nat×gT×aw) (λ⟨e,O,gq⟩ f w=>aX w0 gq w/\f 3=v8/\f 12=g_v/\f 13=vi (g.2.length:Int)/\f 14=vi ↑e/\Sl gq (is 0) w g_v g.2/\cU gq 2 w v8 O/\(e:Int)<=((g.2.length:Int):Int)/\(cj O g e)) (λ⟨e,O,gq⟩=>Int.toNat (((g.2.length:Int):Int)-(e:Int))) (0,(List.replicate (Int.toNat g.1) []),g6) ?_ ?_
 replace bH:=bH.cn ch2
 · exact⟨bH.cn ch9,rfl,rfl,rfl,rfl,Rg,o10,by omega,by exact cj.start hm1⟩
 clear Rg o10 bH
 rintro⟨e,O,g14⟩ f12 w13 ⟨bH,zs3,zs12,zs13,zs14,Rg,o10,hle_e,hov⟩ back3
 have hol:=hov.len
 refine a7 (a6 rfl (lx (b9 (m:=↑e) (n:=(g.2.length:Int)) zs14 zs13) (a8 (a7 ?_))))
 by_cases p3:(e:Int)<(g.2.length:Int)
 ·
  refine ae rfl (dt p3) ?_
  obtain⟨⟨he1,he2⟩,he3,he4⟩:=hm4 _ (aU (xs:=g.2) (i:=↑e) (by omega) (by omega))
  have hq1:=hov.rl he1 he2
  have hq2:=hov.rl2 he1 he2 he3 he4 (2*(e:Int))
  refine al (a7 (ao (a7 (a6 rfl (mz zs14 (lx (aa (v:=g_v) (i:=↑e) eZ rfl zs12 Rg zs14 (by omega) (by omega)) (lw (vg [vi ((gI g.2 ↑e).1),vi ((gI g.2 ↑e).2)]) (bt (v:=g_v) (i:=↑e) cT rfl Rg (by omega) (by omega) rfl) (lo (bP g14 (is 3) (3,0) rfl cT ?_)))))))))
  intro g18 w15 b17 ch16 bx19
  replace bx19:Bx g18 (is 3) w15 b17 [vi 0,vi 0]:=bx19
  refine ai (e:Int) (lo (aQ (cs':=[vi ((gI g.2 ↑e).1),vi ((gI g.2 ↑e).2)]) cT rfl rfl bx19 rfl nq (AllOne.all (.cons rfl (.cons rfl .nil))) rfl ?_))
  intro w20 ch21 bx22
  clear bx19
  refine a8 (a7 (a6 rfl (lx (aO (ds:=[vi ((gI g.2 ↑e).1),vi ((gI g.2 ↑e).2)]) cT rfl bx22 rfl rfl) (mi 0 (a8 (ao (d6 (a7 ?_))))))))
  clear bx22
  refine a6 rfl (lx (b9 (m:=0) (n:=2) rfl rfl) (a8 (a7 (ae rfl rfl (al (a7 (ao (a7 (a6 rfl (mi 0 (lw (vi ((gI g.2 ↑e).1)) (du ik av rfl rfl (by decide) (by decide) rfl) ?_)))))))))))
  refine ai 0 (ai ((gI g.2 ↑e).1) (a8 (a6 rfl (mz zs3 (mi ((gI g.2 ↑e).1) (mz zs3 (mi ((gI g.2 ↑e).1) ?_)))))))
  replace o10:=(o10.cn ch16).ce ch21
  refine lx (aa (v:=v8) (i:=(gI g.2 ↑e).1) j4 rfl rfl o10.sl rfl (by omega) (by omega)) ?_
  obtain⟨v23,cel24,r25⟩:=cJ (r:=(gI g.2 ↑e).1) o10 (by omega) (by omega)
  refine lx (c7 br rfl cel24) (mi ↑e (lx (kJ (m:=2) (n:=↑e) rfl rfl (by omega)) (mi 0 (lx (bg (m:=2*(e:Int)) (n:=0) rfl rfl (by omega)) (lo (aI (α:=Int) g18 (is 4) (is 4) (4,0) rfl [(2*(e:Int))+0] bI av (by decide) (by decide) (vs:=[(0,vi ((2*(e:Int))+0))]) rfl rfl (.cons rfl .nil) ?_))))))
  intro g26 w27 v28 ch29 o30
  refine lo ?_
  replace o10:=o10.cn ch29
  replace r25:=r25.cn ch29
  refine bG (α:=Int) (xs:=(gI O ((gI g.2 ↑e).1))) (ys:=([(2*(e:Int))+0])) g26 (J:=row 2 (Int.toNat ((gI g.2 ↑e).1)+1)) (S:=row 2 (Int.toNat ((gI g.2 ↑e).1)+1)) (2,Int.toNat ((gI g.2 ↑e).1)+1) rfl bI av (by decide) rfl rfl rfl r25 o30.flat (by decide) (by(simp;omega)) ?_
  intro g31 w32 v33 ch34 o35
  have o36:=o10.rowchg ch34
  clear o10 cel24 r25
  obtain⟨us37,hl38,r39⟩:=o36.vc
  try simp only[List.length_set,List.length_append,List.length_cons,List.length_nil] at hl38
  refine lx (aa (v:=v8) (i:=(gI g.2 ↑e).1) j4 rfl rfl r39 rfl (by omega) (by omega)) (lo (c5 (r:=(gI g.2 ↑e).1) br rfl rfl o36 o35 (by omega) (by omega) ?_))
  intro w43 ch44 o45
  clear o36 o35
  refine a8 (ar ?_)
  clear o30
  refine a6 rfl (lx (bg (m:=0) (n:=1) rfl rfl (by omega)) (mi 1 (a8 (cz (a7 (a6 rfl (lx (b9 (m:=1) (n:=2) rfl rfl) (a8 (a7 (ae rfl rfl (al ?_)))))))))))
  refine a7 (ao (a7 (a6 rfl (mi 1 (lw (vi ((gI g.2 ↑e).2)) (du ik av rfl rfl (by decide) (by decide) rfl) (ai 1 (ai ((gI g.2 ↑e).2) (a8 (a6 rfl (mz zs3 (mi ((gI g.2 ↑e).2) ?_)))))))))))
  refine mz zs3 (mi ((gI g.2 ↑e).2) (lx (aa (v:=v8) (i:=(gI g.2 ↑e).2) j4 rfl rfl o45.sl rfl (by omega) (by(simp only[List.length_set,List.length_append,List.length_cons,List.length_nil,List.length_replicate,List.length_map,List.length_take,List.length_drop];omega))) ?_))
  obtain⟨v46,cel47,r48⟩:=cJ (r:=(gI g.2 ↑e).2) o45 (by omega) (by(simp only[List.length_set,List.length_append,List.length_cons,List.length_nil,List.length_replicate,List.length_map,List.length_take,List.length_drop];omega))
  refine lx (c7 br rfl cel47) (mi ↑e (lx (kJ (m:=2) (n:=↑e) rfl rfl (by omega)) (mi 1 (lx (bg (m:=2*(e:Int)) (n:=1) rfl rfl (by omega)) (lo (aI (α:=Int) g31 (is 4) (is 4) (4,0) rfl [(2*(e:Int))+1] bI av (by decide) (by decide) (vs:=[(0,vi ((2*(e:Int))+1))]) rfl rfl (.cons rfl .nil) ?_))))))
  intro g49 w50 v51 ch52 o53
  refine lo ?_
  replace o45:=o45.cn ch52
  replace r48:=r48.cn ch52
  refine bG (α:=Int) (xs:=(gI (List.set O (Int.toNat ((gI g.2 ↑e).1)) (gI O ((gI g.2 ↑e).1)++[(2*(e:Int))+0])) ((gI g.2 ↑e).2))) (ys:=([(2*(e:Int))+1])) g49 (J:=row 2 (Int.toNat ((gI g.2 ↑e).2)+1)) (S:=row 2 (Int.toNat ((gI g.2 ↑e).2)+1)) (2,Int.toNat ((gI g.2 ↑e).2)+1) rfl bI av (by decide) rfl rfl rfl r48 o53.flat (by decide) (by(simp;omega)) ?_
  intro g54 w55 v56 ch57 o58
  have o59:=o45.rowchg ch57
  clear o45 cel47 r48
  obtain⟨us60,hl61,r62⟩:=o59.vc
  try simp only[List.length_set,List.length_append,List.length_cons,List.length_nil] at hl61
  refine lx (aa (v:=v8) (i:=(gI g.2 ↑e).2) j4 rfl rfl r62 rfl (by omega) (by omega)) (lo (c5 (r:=(gI g.2 ↑e).2) br rfl rfl o59 o58 (by omega) (by(simp only[List.length_set,List.length_append,List.length_cons,List.length_nil,List.length_replicate,List.length_map,List.length_take,List.length_drop];omega)) ?_))
  intro w66 ch67 o68
  clear o59 o58
  refine a8 (ar ?_)
  clear o53
  refine a6 rfl (lx (bg (m:=1) (n:=1) rfl rfl (by omega)) (mi 2 (a8 (cz (a7 (a6 rfl (lx (b9 (m:=2) (n:=2) rfl rfl) (a8 (a7 (af rfl rfl (aF rfl ?_)))))))))))
  refine ar (a6 rfl (lx (bg (m:=↑e) (n:=1) zs14 rfl (by omega)) (mi ((e:Int)+1) (a8 ?_))))
  have C69:=cg [2,3] (ch16.n.seq ((ch21.l rfl).seq (ch29.n.seq ((ch34.lr rfl).seq ((ch44.l rfl).seq (ch52.n.seq ((ch57.lr rfl).seq (ch67.l rfl))))))))
  refine back3 (e+1,(List.set (List.set O (Int.toNat ((gI g.2 ↑e).1)) (gI O ((gI g.2 ↑e).1)++[(2*(e:Int))+0])) (Int.toNat ((gI g.2 ↑e).2)) (gI (List.set O (Int.toNat ((gI g.2 ↑e).1)) (gI O ((gI g.2 ↑e).1)++[(2*(e:Int))+0])) ((gI g.2 ↑e).2)++[(2*(e:Int))+1])),g54) _ _ ⟨bH.ca C69,zs3,zs12,zs13,rfl,Rg.ca C69,o68,by omega,?_⟩ ?_
  · show cj (List.set (List.set O (Int.toNat ((gI g.2 ↑e).1)) (gI O ((gI g.2 ↑e).1)++[(2*(e:Int))+0])) (Int.toNat ((gI g.2 ↑e).2)) (gI (List.set O (Int.toNat ((gI g.2 ↑e).1)) (gI O ((gI g.2 ↑e).1)++[(2*(e:Int))+0])) ((gI g.2 ↑e).2)++[(2*(e:Int))+1])) g (e+1)
    exact hov.next he1 he2 he3 he4 (by omega) (by omega)
  · show Int.toNat (((g.2.length:Int):Int)-((e+1):Int))<Int.toNat (((g.2.length:Int):Int)-(e:Int))
    omega
 refine af rfl (df p3) (aF rfl (a7 (a6 rfl (mz zs3 (ma v8 (a8 (aq (vs:=[v8]) Try.func39 (.tmp rfl .nil) ?_)))))))
 have e0:(O:gT)=(ab g):=by
   exact hov.first (by omega)
 exact⟨(fin w0 g14 (λn=>if n=2 then 1 else 0),v8),(congrArg (a₁:=O) (λ(z0:gT)=>Ending.returned (v8)) e0),bH.fresh _,(e0▸(o10.glue (γ:=c0) (ren:=(λn=>if n=2 then 1 else 0)) (k:=1) bH.col rfl rfl))⟩
theorem iX(w0:World)(xs:List ((Nat)×(Int)))(xs_v:Value)(hxs_v:Ro w0 xs_v xs):
    Calls Try.prog 40 #[xs_v] w0 (λee w=>ee= .returned (vi (xs.length:Int))/\ch w0.heap.size w0 w):=by
 refine ap Try.func40 rfl nq ?_
 have bH:=aX.start w0
 have Rxs:=hxs_v.sl
 refine a7 (a6 rfl (ai 0 (a8 (a7 (a6 rfl (mv xs_v ?_))))))
 have len1:=(Rxs).small
 refine lx (bl eM rfl Rxs) (ai (xs.length:Int) (a8 (aq (vs:=[vi (xs.length:Int)]) Try.func40 (.tmp rfl .nil) ?_)))
 have e0:((xs.length:Int):Int)=((xs.length:Int)):=by
   rfl
 exact⟨ri e0,bH.below⟩
theorem eA(w0:World)(xs:List ((Nat)×(Int)))(xs_v:Value)(hxs_v:Ro w0 xs_v xs)(i:Int)(j:Int)(hi:0<=i/\i<(xs.length:Int))(hj:0<=j/\j<(xs.length:Int))(hn:∀x∈xs,x.1<=aM):
    Calls Try.prog 122 #[xs_v,vi i,vi j] w0 (λee w=>ee= .returned (vb (decide (c6 (gI xs i) (gI xs j))))/\ch w0.heap.size w0 w):=by
 refine ap Try.func122 rfl nq ?_
 have bH:=aX.start w0
 have Rxs:=hxs_v.sl
 obtain⟨hi0,hi1⟩:=hi
 obtain⟨hj0,hj1⟩:=hj
 have n1:=hn _ (aU (xs:=xs) (i:=i) hi0 hi1)
 have n2:=hn _ (aU (xs:=xs) (i:=j) hj0 hj1)
 refine a7 (a6 rfl (ma (vb false) (a8 (a7 (a7 (bS c0 rfl gO (by kernel_rfl) ?_))))))
 intro w2 ch1
 refine qm xs_v (qm (vi i) ?_)
 replace Rxs:=Rxs.cn ch1
 refine qx (λw' hw'=>aa (v:=xs_v) (i:=i) eM rfl rfl (Rxs.bel hw') rfl (by omega) (by omega)) (qv (Value.pointer (some ⟨(aC xs_v 2 (Int.toNat i)).block,(aC xs_v 2 (Int.toNat i)).off+0,none⟩)) (λw' hw'=>bR kd rfl rfl rfl rfl) (qx (λw' hw'=>aP (v:=xs_v) (i:=i) aT rfl (Rxs.bel hw') (by omega) (by omega) (by decide) rfl) (qm xs_v (qm (vi j) (qx (λw' hw'=>aa (v:=xs_v) (i:=j) eM rfl rfl (Rxs.bel hw') rfl (by omega) (by omega)) (qv (Value.pointer (some ⟨(aC xs_v 2 (Int.toNat j)).block,(aC xs_v 2 (Int.toNat j)).off+0,none⟩)) (λw' hw'=>bR kd rfl rfl rfl rfl) (qx (λw' hw'=>aP (v:=xs_v) (i:=j) aT rfl (Rxs.bel hw') (by omega) (by omega) (by decide) rfl) ?_)))))))
 refine qv (vb (!(decide (((gI xs i).1)=((gI xs j).1))))) (λw' hw'=>lX (a:=((gI xs i).1)) (b:=((gI xs j).1)) rfl rfl ‹_› ‹_›) (cX ?_)
 intro w3 hc4
 replace hc4:=ax hc4 c0
 by_cases p1:((gI xs i).1)=((gI xs j).1)
 ·
  refine af rfl (congrArg Bool.not (dt p1)) (al (a7 (bS c0 rfl gO (by kernel_rfl) ?_)))
  intro w6 ch5
  refine qm xs_v (qm (vi i) ?_)
  replace Rxs:=(Rxs.cn hc4).cn ch5
  refine qx (λw' hw'=>aa (v:=xs_v) (i:=i) eM rfl rfl (Rxs.bel hw') rfl (by omega) (by omega)) (qv (Value.pointer (some ⟨(aC xs_v 2 (Int.toNat i)).block,(aC xs_v 2 (Int.toNat i)).off+1,none⟩)) (λw' hw'=>bR kd rfl rfl rfl rfl) (qx (λw' hw'=>aP (v:=xs_v) (i:=i) av rfl (Rxs.bel hw') (by omega) (by omega) (by decide) rfl) (qm xs_v (qm (vi j) (qx (λw' hw'=>aa (v:=xs_v) (i:=j) eM rfl rfl (Rxs.bel hw') rfl (by omega) (by omega)) (qv (Value.pointer (some ⟨(aC xs_v 2 (Int.toNat j)).block,(aC xs_v 2 (Int.toNat j)).off+1,none⟩)) (λw' hw'=>bR kd rfl rfl rfl rfl) (qx (λw' hw'=>aP (v:=xs_v) (i:=j) av rfl (Rxs.bel hw') (by omega) (by omega) (by decide) rfl) ?_)))))))
  refine qx (λw' hw'=>b9 (m:=(gI xs i).2) (n:=(gI xs j).2) rfl rfl) (qv (vb (decide (((gI xs i).2)<((gI xs j).2)))) (λw' hw'=>bz rfl) (cX ?_))
  intro w7 hc8
  replace hc8:=ax hc8 c0
  refine aq (vs:=[vb (decide (((gI xs i).2)<((gI xs j).2)))]) Try.func122 (.tmp rfl .nil) ?_
  have e0:(decide (((gI xs i).2)<((gI xs j).2)):Bool)=(decide (c6 (gI xs i) (gI xs j))):=by
    exact pY ‹_›
  have C9:=cg [] (ch1.n.seq (hc4.n.seq (ch5.n.seq hc8.n)))
  replace bH:=bH.ca C9
  exact⟨(congrArg (a₁:=decide (((gI xs i).2)<((gI xs j).2))) (λ(z0:Bool)=>Ending.returned (vb z0)) e0),bH.below⟩
 refine ae rfl (congrArg Bool.not (df p1)) (a7 (bS c0 rfl gO (by kernel_rfl) ?_))
 intro w11 ch10
 refine qm xs_v (qm (vi i) ?_)
 replace Rxs:=(Rxs.cn hc4).cn ch10
 refine qx (λw' hw'=>aa (v:=xs_v) (i:=i) eM rfl rfl (Rxs.bel hw') rfl (by omega) (by omega)) (qv (Value.pointer (some ⟨(aC xs_v 2 (Int.toNat i)).block,(aC xs_v 2 (Int.toNat i)).off+0,none⟩)) (λw' hw'=>bR kd rfl rfl rfl rfl) (qx (λw' hw'=>aP (v:=xs_v) (i:=i) aT rfl (Rxs.bel hw') (by omega) (by omega) (by decide) rfl) (qm xs_v (qm (vi j) (qx (λw' hw'=>aa (v:=xs_v) (i:=j) eM rfl rfl (Rxs.bel hw') rfl (by omega) (by omega)) (qv (Value.pointer (some ⟨(aC xs_v 2 (Int.toNat j)).block,(aC xs_v 2 (Int.toNat j)).off+0,none⟩)) (λw' hw'=>bR kd rfl rfl rfl rfl) (qx (λw' hw'=>aP (v:=xs_v) (i:=j) aT rfl (Rxs.bel hw') (by omega) (by omega) (by decide) rfl) ?_)))))))
 refine qv (vb (decide (((gI xs i).1)<((gI xs j).1)))) (λw' hw'=>mJ (a:=((gI xs i).1)) (b:=((gI xs j).1)) rfl rfl ‹_› ‹_›) (qv (vb (decide (((gI xs i).1)<((gI xs j).1)))) (λw' hw'=>bz rfl) (cX ?_))
 intro w12 hc13
 replace hc13:=ax hc13 c0
 refine aq (vs:=[vb (decide (((gI xs i).1)<((gI xs j).1)))]) Try.func122 (.tmp rfl .nil) ?_
 have e0:(decide (((gI xs i).1)<((gI xs j).1)):Bool)=(decide (c6 (gI xs i) (gI xs j))):=by
   exact pQ ‹_›
 have C14:=cg [] (ch1.n.seq (hc4.n.seq (ch10.n.seq hc13.n)))
 replace bH:=bH.ca C14
 exact⟨(congrArg (a₁:=decide (((gI xs i).1)<((gI xs j).1))) (λ(z0:Bool)=>Ending.returned (vb z0)) e0),bH.below⟩
end TL
