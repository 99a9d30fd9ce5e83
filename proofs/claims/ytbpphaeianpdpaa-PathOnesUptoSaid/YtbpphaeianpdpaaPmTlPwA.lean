import Derived.Test.YtbpphaeianpdpaaPmTlP2
import Derived.Test.YtbpphaeianpdpaaPmTlGmA
import Derived.Test.YtbpphaeianpdpaaPmTlGenA
import Derived.Test.YtbpphaeianpdpaaProg
import Derived.Test.YtbpphaeianpdpaaPmTlAli
set_option linter.all false
set_option maxRecDepth 20000
namespace TL
open Go Go.Proofs
theorem gx:Try.prog.follows .mixedOrders=true:=by kernel_rfl
theorem bL:Tp Try.prog 26 false 1 24 (.slice none 0 0):=Tp.of (by kernel_rfl)
theorem aF:Tp Try.prog 31 false 1 8 (.float .f64 0):=Tp.of (by kernel_rfl)
theorem kW:Try.f54.body.isNone=false:=rfl
theorem lp:(Try.f54.name== "runtime.NumGoroutine")=false:=by decide+kernel
theorem oE:Try.f57.body.isNone=false:=rfl
theorem ph:(Try.f57.name== "runtime.NumGoroutine")=false:=by decide+kernel
theorem oU:Try.f63.body.isNone=false:=rfl
theorem pu:(Try.f63.name== "runtime.NumGoroutine")=false:=by decide+kernel
theorem dK(w0:World)(f:Nat)(sign:Int)(hs:sign=1):
    Calls Try.prog 25 #[Value.float .f64 f,vi sign] w0 (λee w=>ee= .returned (vb (ck f 9218868437227405311))/\cr w0.heap.size w0 w):=by
 refine am Try.func25 rfl nq ?_
 have bH:=b7.start w0
 refine a8 (a7 rfl (ma (vb false) (aa (a8 (a8 (a7 rfl (mi sign (lx (en (m:=sign) (n:=0) rfl rfl) (aa ?_)))))))))
 by_cases p1:sign=0
 ·
  omega
 refine aj rfl (df p1) (a8 (a7 rfl (mi sign (lx (aX (m:=sign) (n:=0) rfl rfl) (aa ?_)))))
 by_cases p3:sign<0
 ·
  omega
 refine aj rfl (df p3) (ap (a8 (a7 rfl (mv (Value.float .f64 f) (lw (vb (ck f 9218868437227405311)) (oN (a:=f) (b:=9218868437227405311) rfl rfl rfl) (ma (vb (ck f 9218868437227405311)) (aa (ar (vs:=[vb (ck f 9218868437227405311)]) Try.func25 (.tmp rfl .nil) ?_))))))))
 have e0:(ck f 9218868437227405311:Bool)=(ck f 9218868437227405311):=by
   rfl
 exact⟨rb e0,bH.below⟩
theorem kh(w0:World)(sign:Int)(hs:0<=sign):
    Calls Try.prog 34 #[vi sign] w0 (λee w=>ee= .returned (Value.float .f64 az)/\cr w0.heap.size w0 w):=by
 refine am Try.func34 rfl nq ?_
 have bH:=b7.start w0
 refine a8 (a7 rfl (ma (Value.float .f64 0) (aa (a8 (a7 rfl (ma (Value.int .u64 0) (aa (a8 (a8 (a7 rfl (mi sign (lx (d7 (m:=sign) (n:=0) rfl rfl) (aa ?_)))))))))))))
 by_cases p2:0<=sign
 ·
  refine ah rfl (dt p2) (a7 rfl (ma (Value.int .u64 9218868437227405312) (aa (a8 (a7 rfl (mv (Value.int .u64 9218868437227405312) (lw (Value.float .f64 9218868437227405312) (eZ (n:=9218868437227405312) Try.func37 (by kernel_rfl) (by kernel_rfl) (by kernel_rfl) (by kernel_rfl) rfl) (ma (Value.float .f64 9218868437227405312) (aa (ar (vs:=[Value.float .f64 9218868437227405312]) Try.func34 (.tmp rfl .nil) ?_))))))))))
  have e0:(9218868437227405312:Nat)=(az):=by
    rfl
  exact⟨(congrArg (a₁:=9218868437227405312) (λ(z0:Nat)=>Ending.returned (Value.float .f64 z0)) e0),bH.below⟩
 omega
theorem mb(w0:World)(x:Nat)(hx:e8 x=true\/x<=az):
    Calls Try.prog 57 #[Value.float .f64 x] w0 (λee w=>ee= .returned (Value.float .f64 (co x))/\cr w0.heap.size w0 w):=by
 refine am Try.func57 rfl nq ?_
 have bH:=b7.start w0
 refine a8 (a7 rfl (ma (Value.float .f64 0) (aa (a8 (a8 (a7 rfl (mv (Value.float .f64 x) (mv (Value.float .f64 x) (lw (vb (e8 x)) (k9 (a:=x) rfl rfl) (aa ?_))))))))))
 by_cases p1:e8 x=true
 ·
  refine ah rfl p1 (a8 (a7 rfl (lw (Value.float .f64 9221120237041090561) (eZ (n:=9221120237041090561) Try.func37 (by kernel_rfl) (by kernel_rfl) (by kernel_rfl) (by kernel_rfl) rfl) (ma (Value.float .f64 9221120237041090561) (aa (ar (vs:=[Value.float .f64 9221120237041090561]) Try.func57 (.tmp rfl .nil) ?_))))))
  have e0:(9221120237041090561:Nat)=(co x):=by
    exact ou p1
  exact⟨(congrArg (a₁:=9221120237041090561) (λ(z0:Nat)=>Ending.returned (Value.float .f64 z0)) e0),bH.below⟩
 have hx2:=hx.resolve_left p1
 refine aj rfl (Bool.eq_false_iff.2 p1) (ap (a8 (a8 (a7 rfl (mv (Value.float .f64 x) (lw (vb (decide (x=0))) (kf (a:=x) (b:=0) rfl rfl ‹_› (by decide)) (aa ?_)))))))
 by_cases p3:x=0
 ·
  refine ah rfl (dt p3) (a8 (a7 rfl (ma (Value.float .f64 0) (aa (ar (vs:=[Value.float .f64 0]) Try.func57 (.tmp rfl .nil) ?_)))))
  have e0:(0:Nat)=(co x):=by
    exact oY p1 ‹_›
  exact⟨(congrArg (a₁:=0) (λ(z0:Nat)=>Ending.returned (Value.float .f64 z0)) e0),bH.below⟩
 refine aj rfl (df p3) (ap (a8 (a7 rfl (mv (Value.float .f64 x) (ma (Value.float .f64 x) (aa (ar (vs:=[Value.float .f64 x]) Try.func57 (.tmp rfl .nil) ?_)))))))
 have e0:(x:Nat)=(co x):=by
   exact oC p1
 exact⟨(congrArg (a₁:=x) (λ(z0:Nat)=>Ending.returned (Value.float .f64 z0)) e0),bH.below⟩
theorem nh(w0:World)(x:Nat):
    Calls Try.prog 63 #[Value.float .f64 x] w0 (λee w=>ee= .returned (vb (eK x 0))/\cr w0.heap.size w0 w):=by
 refine am Try.func63 rfl nq ?_
 have bH:=b7.start w0
 refine a8 (a7 rfl (ma (vb false) (aa (a8 (a7 rfl (mv (Value.float .f64 x) (lw (vb (eK x 0)) (o7 (a:=x) (b:=0) rfl rfl rfl) (ma (vb (eK x 0)) (aa (ar (vs:=[vb (eK x 0)]) Try.func63 (.tmp rfl .nil) ?_))))))))))
 have e0:(eK x 0:Bool)=(eK x 0):=by
   rfl
 exact⟨rb e0,bH.below⟩
theorem kH(w0:World)(a:Nat)(b:Nat)(ha:a<=az)(hb:dS b):
    Calls Try.prog 27 #[Value.float .f64 a,Value.float .f64 b] w0 (λee w=>ee= .returned (Value.float .f64 (aU a (zf b)))/\cr w0.heap.size w0 w):=by
 refine am Try.func27 rfl nq ?_
 have bH:=b7.start w0
 refine a8 (a7 rfl (ma (Value.float .f64 0) (aa (a8 (a7 rfl (mv (Value.float .f64 a) (mv (Value.float .f64 b) (lw (Value.float .f64 (aU a (zf b))) (qL (a:=a) (b:=b) rfl rfl (j5 ‹_› ‹_›).1) ?_))))))))
 have nn1:aU a (zf b)<=az:=(j5 (d:=a) (x:=b) ‹_› ‹_›).2
 refine lo (bB (v:=Value.float .f64 (co (aU a (zf b)))) (aE (vals:=[Value.float .f64 (aU a (zf b))]) Try.func57 oE ph rfl) (mb w0 (aU a (zf b)) (by exact .inr ‹_›)) ?_)
 intro w2 hb3
 replace hb3:=aA hb3 c0
 refine ma (Value.float .f64 (co (aU a (zf b)))) (aa (ar (vs:=[Value.float .f64 (co (aU a (zf b)))]) Try.func27 (.tmp rfl .nil) ?_))
 have e0:(co (aU a (zf b)):Nat)=(aU a (zf b)):=by
   exact mu ‹_›
 replace bH:=bH.cn hb3
 exact⟨(congrArg (a₁:=co (aU a (zf b))) (λ(z0:Nat)=>Ending.returned (Value.float .f64 z0)) e0),bH.below⟩
theorem gX(w0:World)(g:(Int)×(List Pt))(g_v:Value)(hg_v:Ro w0 g_v g.2)(ws:List Nat)(ws_v:Value)(hws_v:Ro w0 ws_v ws):
    Calls Try.prog 38 #[vg [vi g.1,g_v],ws_v] w0 (λee w=>ee= .returned (vi (dd g ws))/\cr w0.heap.size w0 w):=by
 refine am Try.func38 rfl nq ?_
 have bH:=b7.start w0
 have Rg:=hg_v.sl
 have Rws:=hws_v.sl
 refine a8 (a7 rfl (d8 rfl (cW c0 (is 1) (1,0) rfl rfl ?_)))
 intro g4 w1 b3 ch2 bx5
 replace bx5:Bx g4 (is 1) w1 b3 [vi g.1,g_v]:=bx5
 refine ai 0 (aa (a8 (a8 (a7 rfl (lx (aN (ds:=[vi g.1,g_v]) bv rfl bx5 rfl rfl) ?_)))))
 replace Rg:=Rg.cn ch2
 refine lo (bB (v:=vb (bX g)) (aE (vals:=[vg [vi g.1,g_v]]) Try.func54 kW lp rfl) (jX w1 g g_v (Rg).ro) ?_)
 intro w6 hb7
 replace hb7:=aA hb7 g4
 refine lx (e7 (b:=(bX g)) rfl) (mv (vb (!(bX g))) ?_)
 by_cases q10:(bX g)=true
 ·
  refine lv (ws_v) (wy (congrArg Bool.not q10)) (al rfl) ?_
  replace Rws:=(Rws.cn ch2).cn hb7
  have len8:=(Rws).small
  refine lv (vi (ws.length:Int)) (wy (congrArg Bool.not q10)) (bA cR rfl Rws) (lv (vp b3 1) (wy (congrArg Bool.not q10)) (ad d5 rfl rfl rfl rfl) ?_)
  replace bx5:=bx5.cn hb7
  refine lv (g_v) (wy (congrArg Bool.not q10)) (ae bC rfl bx5 rfl) ?_
  replace Rg:=Rg.cn hb7
  have len9:=(Rg).small
  refine lv (vi (g.2.length:Int)) (wy (congrArg Bool.not q10)) (bA eN rfl Rg) (lv (vb (!(decide ((ws.length:Int)=(g.2.length:Int))))) (wy (congrArg Bool.not q10)) (cY (m:=(ws.length:Int)) (n:=(g.2.length:Int)) rfl rfl) (lw (vb (!(decide ((ws.length:Int)=(g.2.length:Int))))) (aI rfl (congrArg Bool.not q10) rfl) (aa ?_)))
  by_cases p1:(ws.length:Int)=(g.2.length:Int)
  ·
   refine aj rfl (congrArg Bool.not (dt p1)) (ap (a8 (a8 ?_)))
   clear bx5
   refine a7 rfl (mv ws_v (lx (bA cR rfl Rws) (mi 0 (aa (aq ?_)))))
   refine ba (σ:=Nat×ay) (λ⟨k,gq⟩ f w=>b7 w0 gq w/\f 18=ws_v/\f 19=vi (ws.length:Int)/\f 20=vi ↑k/\Sl gq (is 0) w g_v g.2/\Sl gq (is 0) w ws_v ws/\(k:Int)<=((ws.length:Int):Int)/\(∀i:Nat,i<k->dS (gI ws ↑i))) (λ⟨k,gq⟩=>Int.toNat (((ws.length:Int):Int)-(k:Int))) (0,g4) ?_ ?_
   replace bH:=bH.cn ch2
   · exact⟨bH.cn hb7,rfl,rfl,rfl,Rg,Rws,by omega,by exact λi h=>absurd h (Nat.not_lt_zero _)⟩
   clear Rg Rws bH
   rintro⟨k,g12⟩ f10 w11 ⟨bH,zs18,zs19,zs20,Rg,Rws,hle_k,hk⟩ back4
   refine a8 (a7 rfl (lx (aX (m:=↑k) (n:=(ws.length:Int)) zs20 zs19) (aa (a8 ?_))))
   by_cases p4:(k:Int)<(ws.length:Int)
   ·
    refine ah rfl (dt p4) (ap (a8 (aq (a8 (a7 rfl (lx (ab (v:=ws_v) (i:=↑k) cR rfl zs18 Rws zs20 (by omega) (by omega)) (lx (aw (v:=ws_v) (i:=↑k) aF rfl Rws (by omega) (by omega) (by decide) rfl) (ma (Value.float .f64 (gI ws ↑k)) (aa (a8 (a7 rfl (mv (Value.float .f64 (gI ws ↑k)) ?_))))))))))))
    refine lo (bB (v:=vb (eK (gI ws ↑k) 0)) (aE (vals:=[Value.float .f64 (gI ws ↑k)]) Try.func63 oU pu rfl) (nh w11 (gI ws ↑k)) ?_)
    intro w13 hb14
    replace hb14:=aA hb14 g12
    refine lx (e7 (b:=(eK (gI ws ↑k) 0)) rfl) (aa ?_)
    by_cases p6:(eK (gI ws ↑k) 0)=true
    ·
     refine aj rfl (congrArg Bool.not p6) (ap (au (a7 rfl (lx (bg (m:=↑k) (n:=1) zs20 rfl (by omega)) (mi ((k:Int)+1) (aa ?_))))))
     refine back4 (k+1,g12) _ _ ⟨bH.cn hb14,zs18,zs19,rfl,Rg.cn hb14,Rws.cn hb14,by omega,?_⟩ ?_
     · show∀i:Nat,i<(k+1)->dS (gI ws ↑i)
       exact pE hk ‹_›
     · show Int.toNat (((ws.length:Int):Int)-((k+1):Int))<Int.toNat (((ws.length:Int):Int)-(k:Int))
       omega
    refine ah rfl (congrArg Bool.not (Bool.eq_false_iff.2 p6)) (a8 (a7 rfl (ai 13 (aa (ar (vs:=[vi 13]) Try.func38 (.tmp rfl .nil) ?_)))))
    have e0:(13:Int)=(dd g ws):=by
      exact(qW (k:=(k:Int)) ‹_› (by omega) (by omega) ‹_›).symm
    replace bH:=bH.cn hb14
    exact⟨ri e0,bH.below⟩
   refine aj rfl (df p4) (aO rfl (a8 (a7 rfl (ai 0 (aa (ar (vs:=[vi 0]) Try.func38 (.tmp rfl .nil) ?_))))))
   have e0:(0:Int)=(dd g ws):=by
     exact(qo ‹_› (by omega) hk (by omega)).symm
   exact⟨ri e0,bH.below⟩
  refine ah rfl (congrArg Bool.not (df p1)) (a8 ?_)
  clear bx5
  refine a7 rfl (ai 1 (aa (ar (vs:=[vi 1]) Try.func38 (.tmp rfl .nil) ?_)))
  have e0:(1:Int)=(dd g ws):=by
    exact(qD ‹_›).symm
  replace bH:=bH.cn ch2
  replace bH:=bH.cn hb7
  exact⟨ri e0,bH.below⟩
 refine ak (wn (congrArg Bool.not (Bool.eq_false_iff.2 q10))) (ak (wn (congrArg Bool.not (Bool.eq_false_iff.2 q10))) (ak (wn (congrArg Bool.not (Bool.eq_false_iff.2 q10))) (ak (wn (congrArg Bool.not (Bool.eq_false_iff.2 q10))) (ak (wn (congrArg Bool.not (Bool.eq_false_iff.2 q10))) (ak (wn (congrArg Bool.not (Bool.eq_false_iff.2 q10))) (lw (vb true) (aH rfl (congrArg Bool.not (Bool.eq_false_iff.2 q10)) rfl) (aa (ah rfl rfl (a8 ?_)))))))))
 clear bx5
 refine a7 rfl (ai 1 (aa (ar (vs:=[vi 1]) Try.func38 (.tmp rfl .nil) ?_)))
 have e0:(1:Int)=(dd g ws):=by
   exact(q6 ‹_›).symm
 replace bH:=bH.cn ch2
 replace bH:=bH.cn hb7
 exact⟨ri e0,bH.below⟩
theorem mM(w0:World)(g:(Int)×(List Pt))(g_v:Value)(hg_v:Ro w0 g_v g.2)(hm:aY g):
    Calls Try.prog 39 #[vg [vi g.1,g_v]] w0 (λee w=>∃xx:ay×Value,ee= .returned ((λ⟨δ,rv0⟩=>rv0) xx)/\(λ(⟨δ,rv0⟩:ay×Value) (w:World)=>eQ w0 δ w/\da δ 1 w rv0 (af g)) xx w):=by
 refine am Try.func39 rfl nq ?_
 have bH:=b7.start w0
 have Rg:=hg_v.sl
 have hm0:=hm
 obtain⟨hm1,hm2,hm3,hm4⟩:=hm0
 refine a8 (a7 rfl (d8 rfl (cW c0 (is 1) (1,0) rfl rfl ?_)))
 intro g4 w1 b3 ch2 bx5
 replace bx5:Bx g4 (is 1) w1 b3 [vi g.1,g_v]:=bx5
 refine ma vn (aa (a8 (a7 rfl (lx (ad d5 rfl rfl rfl rfl) (lx (ae ax rfl bx5 rfl) (lo (gR (α:=Int) (n:=g.1) (cp:=g.1) g4 2 jT bL rfl rfl rfl (by omega) (by omega) (by omega) (by omega) ?_)))))))
 intro g6 w7 v8 ch9 o10
 refine ma v8 (aa (a8 (a8 (a7 rfl (lx (ad d5 rfl rfl rfl rfl) ?_)))))
 replace bx5:=bx5.cn ch9
 refine lx (ae bC rfl bx5 rfl) ?_
 replace Rg:=(Rg.cn ch2).cn ch9
 have len11:=(Rg).small
 refine lx (bA eN rfl Rg) (mi 0 (aa (aq ?_)))
 clear bx5
 refine ba (σ:=Nat×kg×ay) (λ⟨e,O,gq⟩ f w=>b7 w0 gq w/\f 3=v8/\f 12=g_v/\f 13=vi (g.2.length:Int)/\f 14=vi ↑e/\Sl gq (is 0) w g_v g.2/\da gq 2 w v8 O/\(e:Int)<=((g.2.length:Int):Int)/\(c7 O g e)) (λ⟨e,O,gq⟩=>Int.toNat (((g.2.length:Int):Int)-(e:Int))) (0,(List.replicate (Int.toNat g.1) []),g6) ?_ ?_
 replace bH:=bH.cn ch2
 · exact⟨bH.cn ch9,rfl,rfl,rfl,rfl,Rg,o10,by omega,by exact c7.start hm1⟩
 clear Rg o10 bH
 rintro⟨e,O,g14⟩ f12 w13 ⟨bH,zs3,zs12,zs13,zs14,Rg,o10,hle_e,hov⟩ back3
 have hol:=hov.len
 refine a8 (a7 rfl (lx (aX (m:=↑e) (n:=(g.2.length:Int)) zs14 zs13) (aa (a8 ?_))))
 by_cases p3:(e:Int)<(g.2.length:Int)
 ·
  refine ah rfl (dt p3) ?_
  obtain⟨⟨he1,he2⟩,he3,he4⟩:=hm4 _ (bh (xs:=g.2) (i:=↑e) (by omega) (by omega))
  have hq1:=hov.rl he1 he2
  have hq2:=hov.rl2 he1 he2 he3 he4 (2*(e:Int))
  refine ap (a8 (aq (a8 (a7 rfl (mz zs14 (lx (ab (v:=g_v) (i:=↑e) eN rfl zs12 Rg zs14 (by omega) (by omega)) (lw (vg [vi ((gI g.2 ↑e).1),vi ((gI g.2 ↑e).2)]) (br (v:=g_v) (i:=↑e) cB rfl Rg (by omega) (by omega) rfl) (lo (bn g14 (is 3) (3,0) rfl cB ?_)))))))))
  intro g18 w15 b17 ch16 bx19
  replace bx19:Bx g18 (is 3) w15 b17 [vi 0,vi 0]:=bx19
  refine ai (e:Int) (lo (aG (cs':=[vi ((gI g.2 ↑e).1),vi ((gI g.2 ↑e).2)]) cB rfl rfl bx19 rfl nq (AllOne.all (.cons rfl (.cons rfl .nil))) rfl ?_))
  intro w20 ch21 bx22
  clear bx19
  refine aa (a8 (a7 rfl (lx (aN (ds:=[vi ((gI g.2 ↑e).1),vi ((gI g.2 ↑e).2)]) cB rfl bx22 rfl rfl) (mi 0 (aa (aq (cQ (a8 ?_))))))))
  clear bx22
  refine a7 rfl (lx (aX (m:=0) (n:=2) rfl rfl) (aa (a8 (ah rfl rfl (ap (a8 (aq (a8 (a7 rfl (mi 0 (lw (vi ((gI g.2 ↑e).1)) (cL i4 ax rfl rfl (by decide) (by decide) rfl) ?_)))))))))))
  refine ai 0 (ai ((gI g.2 ↑e).1) (aa (a7 rfl (mz zs3 (mi ((gI g.2 ↑e).1) (mz zs3 (mi ((gI g.2 ↑e).1) ?_)))))))
  replace o10:=(o10.cn ch16).ce ch21
  refine lx (ab (v:=v8) (i:=(gI g.2 ↑e).1) jT rfl rfl o10.sl rfl (by omega) (by omega)) ?_
  obtain⟨v23,cel24,r25⟩:=eC (r:=(gI g.2 ↑e).1) o10 (by omega) (by omega)
  refine lx (dg bL rfl cel24) (mi ↑e (lx (jR (m:=2) (n:=↑e) rfl rfl (by omega)) (mi 0 (lx (bg (m:=2*(e:Int)) (n:=0) rfl rfl (by omega)) (lo (aQ (α:=Int) g18 (is 4) (is 4) (4,0) rfl [(2*(e:Int))+0] bQ ax (by decide) (by decide) (vs:=[(0,vi ((2*(e:Int))+0))]) rfl rfl (.cons rfl .nil) ?_))))))
  intro g26 w27 v28 ch29 o30
  refine lo ?_
  replace o10:=o10.cn ch29
  replace r25:=r25.cn ch29
  refine bI (α:=Int) (xs:=(gI O ((gI g.2 ↑e).1))) (ys:=([(2*(e:Int))+0])) g26 (J:=row 2 (Int.toNat ((gI g.2 ↑e).1)+1)) (S:=row 2 (Int.toNat ((gI g.2 ↑e).1)+1)) (2,Int.toNat ((gI g.2 ↑e).1)+1) rfl bQ ax (by decide) rfl rfl rfl r25 o30.flat (by decide) (by(simp;omega)) ?_
  intro g31 w32 v33 ch34 o35
  have o36:=o10.rowchg ch34
  clear o10 cel24 r25
  obtain⟨us37,hl38,r39⟩:=o36.vc
  try simp only[List.length_set,List.length_append,List.length_cons,List.length_nil] at hl38
  refine lx (ab (v:=v8) (i:=(gI g.2 ↑e).1) jT rfl rfl r39 rfl (by omega) (by omega)) (lo (bZ (r:=(gI g.2 ↑e).1) bL rfl rfl o36 o35 (by omega) (by omega) ?_))
  intro w43 ch44 o45
  clear o36 o35
  refine aa (au ?_)
  clear o30
  refine a7 rfl (lx (bg (m:=0) (n:=1) rfl rfl (by omega)) (mi 1 (aa (c5 (a8 (a7 rfl (lx (aX (m:=1) (n:=2) rfl rfl) (aa (a8 (ah rfl rfl (ap ?_)))))))))))
  refine a8 (aq (a8 (a7 rfl (mi 1 (lw (vi ((gI g.2 ↑e).2)) (cL i4 ax rfl rfl (by decide) (by decide) rfl) (ai 1 (ai ((gI g.2 ↑e).2) (aa (a7 rfl (mz zs3 (mi ((gI g.2 ↑e).2) ?_)))))))))))
  refine mz zs3 (mi ((gI g.2 ↑e).2) (lx (ab (v:=v8) (i:=(gI g.2 ↑e).2) jT rfl rfl o45.sl rfl (by omega) (by(simp only[List.length_set,List.length_append,List.length_cons,List.length_nil,List.length_replicate,List.length_map,List.length_take,List.length_drop];omega))) ?_))
  obtain⟨v46,cel47,r48⟩:=eC (r:=(gI g.2 ↑e).2) o45 (by omega) (by(simp only[List.length_set,List.length_append,List.length_cons,List.length_nil,List.length_replicate,List.length_map,List.length_take,List.length_drop];omega))
  refine lx (dg bL rfl cel47) (mi ↑e (lx (jR (m:=2) (n:=↑e) rfl rfl (by omega)) (mi 1 (lx (bg (m:=2*(e:Int)) (n:=1) rfl rfl (by omega)) (lo (aQ (α:=Int) g31 (is 4) (is 4) (4,0) rfl [(2*(e:Int))+1] bQ ax (by decide) (by decide) (vs:=[(0,vi ((2*(e:Int))+1))]) rfl rfl (.cons rfl .nil) ?_))))))
  intro g49 w50 v51 ch52 o53
  refine lo ?_
  replace o45:=o45.cn ch52
  replace r48:=r48.cn ch52
  refine bI (α:=Int) (xs:=(gI (List.set O (Int.toNat ((gI g.2 ↑e).1)) (gI O ((gI g.2 ↑e).1)++[(2*(e:Int))+0])) ((gI g.2 ↑e).2))) (ys:=([(2*(e:Int))+1])) g49 (J:=row 2 (Int.toNat ((gI g.2 ↑e).2)+1)) (S:=row 2 (Int.toNat ((gI g.2 ↑e).2)+1)) (2,Int.toNat ((gI g.2 ↑e).2)+1) rfl bQ ax (by decide) rfl rfl rfl r48 o53.flat (by decide) (by(simp;omega)) ?_
  intro g54 w55 v56 ch57 o58
  have o59:=o45.rowchg ch57
  clear o45 cel47 r48
  obtain⟨us60,hl61,r62⟩:=o59.vc
  try simp only[List.length_set,List.length_append,List.length_cons,List.length_nil] at hl61
  refine lx (ab (v:=v8) (i:=(gI g.2 ↑e).2) jT rfl rfl r62 rfl (by omega) (by omega)) (lo (bZ (r:=(gI g.2 ↑e).2) bL rfl rfl o59 o58 (by omega) (by(simp only[List.length_set,List.length_append,List.length_cons,List.length_nil,List.length_replicate,List.length_map,List.length_take,List.length_drop];omega)) ?_))
  intro w66 ch67 o68
  clear o59 o58
  refine aa (au ?_)
  clear o53
  refine a7 rfl (lx (bg (m:=1) (n:=1) rfl rfl (by omega)) (mi 2 (aa (c5 (a8 (a7 rfl (lx (aX (m:=2) (n:=2) rfl rfl) (aa (a8 (aj rfl rfl (aO rfl ?_)))))))))))
  refine au (a7 rfl (lx (bg (m:=↑e) (n:=1) zs14 rfl (by omega)) (mi ((e:Int)+1) (aa ?_))))
  have C69:=cg [2,3] (ch16.n.seq ((ch21.l rfl).seq (ch29.n.seq ((ch34.lr rfl).seq ((ch44.l rfl).seq (ch52.n.seq ((ch57.lr rfl).seq (ch67.l rfl))))))))
  refine back3 (e+1,(List.set (List.set O (Int.toNat ((gI g.2 ↑e).1)) (gI O ((gI g.2 ↑e).1)++[(2*(e:Int))+0])) (Int.toNat ((gI g.2 ↑e).2)) (gI (List.set O (Int.toNat ((gI g.2 ↑e).1)) (gI O ((gI g.2 ↑e).1)++[(2*(e:Int))+0])) ((gI g.2 ↑e).2)++[(2*(e:Int))+1])),g54) _ _ ⟨bH.ca C69,zs3,zs12,zs13,rfl,Rg.ca C69,o68,by omega,?_⟩ ?_
  · show c7 (List.set (List.set O (Int.toNat ((gI g.2 ↑e).1)) (gI O ((gI g.2 ↑e).1)++[(2*(e:Int))+0])) (Int.toNat ((gI g.2 ↑e).2)) (gI (List.set O (Int.toNat ((gI g.2 ↑e).1)) (gI O ((gI g.2 ↑e).1)++[(2*(e:Int))+0])) ((gI g.2 ↑e).2)++[(2*(e:Int))+1])) g (e+1)
    exact hov.next he1 he2 he3 he4 (by omega) (by omega)
  · show Int.toNat (((g.2.length:Int):Int)-((e+1):Int))<Int.toNat (((g.2.length:Int):Int)-(e:Int))
    omega
 refine aj rfl (df p3) (aO rfl (a8 (a7 rfl (mz zs3 (ma v8 (aa (ar (vs:=[v8]) Try.func39 (.tmp rfl .nil) ?_)))))))
 have e0:(O:kg)=(af g):=by
   exact hov.first (by omega)
 exact⟨(fin w0 g14 (λn=>if n=2 then 1 else 0),v8),(congrArg (a₁:=O) (λ(z0:kg)=>Ending.returned (v8)) e0),bH.fresh _,(e0▸(o10.glue (γ:=c0) (ren:=(λn=>if n=2 then 1 else 0)) (k:=1) bH.col rfl rfl))⟩
theorem iO(w0:World)(xs:List ((Nat)×(Int)))(xs_v:Value)(hxs_v:Ro w0 xs_v xs):
    Calls Try.prog 40 #[xs_v] w0 (λee w=>ee= .returned (vi (xs.length:Int))/\cr w0.heap.size w0 w):=by
 refine am Try.func40 rfl nq ?_
 have bH:=b7.start w0
 have Rxs:=hxs_v.sl
 refine a8 (a7 rfl (ai 0 (aa (a8 (a7 rfl (mv xs_v ?_))))))
 have len1:=(Rxs).small
 refine lx (bA eM rfl Rxs) (ai (xs.length:Int) (aa (ar (vs:=[vi (xs.length:Int)]) Try.func40 (.tmp rfl .nil) ?_)))
 have e0:((xs.length:Int):Int)=((xs.length:Int)):=by
   rfl
 exact⟨ri e0,bH.below⟩
theorem e9(w0:World)(xs:List ((Nat)×(Int)))(xs_v:Value)(hxs_v:Ro w0 xs_v xs)(i:Int)(j:Int)(hi:0<=i/\i<(xs.length:Int))(hj:0<=j/\j<(xs.length:Int))(hn:∀x∈xs,x.1<=az):
    Calls Try.prog 122 #[xs_v,vi i,vi j] w0 (λee w=>ee= .returned (vb (decide (cv (gI xs i) (gI xs j))))/\cr w0.heap.size w0 w):=by
 refine am Try.func122 rfl nq ?_
 have bH:=b7.start w0
 have Rxs:=hxs_v.sl
 obtain⟨hi0,hi1⟩:=hi
 obtain⟨hj0,hj1⟩:=hj
 have n1:=hn _ (bh (xs:=xs) (i:=i) hi0 hi1)
 have n2:=hn _ (bh (xs:=xs) (i:=j) hj0 hj1)
 refine a8 (a7 rfl (ma (vb false) (aa (a8 (a8 (cd c0 rfl gx (by kernel_rfl) ?_))))))
 intro w2 ch1
 refine qm xs_v (qm (vi i) ?_)
 replace Rxs:=Rxs.cn ch1
 refine qx (λw' hw'=>ab (v:=xs_v) (i:=i) eM rfl rfl (Rxs.bel hw') rfl (by omega) (by omega)) (qv (Value.pointer (some ⟨(aL xs_v 2 (Int.toNat i)).block,(aL xs_v 2 (Int.toNat i)).off+0,none⟩)) (λw' hw'=>bY l6 rfl rfl rfl rfl) (qx (λw' hw'=>aW (v:=xs_v) (i:=i) aF rfl (Rxs.bel hw') (by omega) (by omega) (by decide) rfl) (qm xs_v (qm (vi j) (qx (λw' hw'=>ab (v:=xs_v) (i:=j) eM rfl rfl (Rxs.bel hw') rfl (by omega) (by omega)) (qv (Value.pointer (some ⟨(aL xs_v 2 (Int.toNat j)).block,(aL xs_v 2 (Int.toNat j)).off+0,none⟩)) (λw' hw'=>bY l6 rfl rfl rfl rfl) (qx (λw' hw'=>aW (v:=xs_v) (i:=j) aF rfl (Rxs.bel hw') (by omega) (by omega) (by decide) rfl) ?_)))))))
 refine qv (vb (!(decide (((gI xs i).1)=((gI xs j).1))))) (λw' hw'=>gS (a:=((gI xs i).1)) (b:=((gI xs j).1)) rfl rfl ‹_› ‹_›) (d4 ?_)
 intro w3 hc4
 replace hc4:=aA hc4 c0
 by_cases p1:((gI xs i).1)=((gI xs j).1)
 ·
  refine aj rfl (congrArg Bool.not (dt p1)) (ap (a8 (cd c0 rfl gx (by kernel_rfl) ?_)))
  intro w6 ch5
  refine qm xs_v (qm (vi i) ?_)
  replace Rxs:=(Rxs.cn hc4).cn ch5
  refine qx (λw' hw'=>ab (v:=xs_v) (i:=i) eM rfl rfl (Rxs.bel hw') rfl (by omega) (by omega)) (qv (Value.pointer (some ⟨(aL xs_v 2 (Int.toNat i)).block,(aL xs_v 2 (Int.toNat i)).off+1,none⟩)) (λw' hw'=>bY l6 rfl rfl rfl rfl) (qx (λw' hw'=>aW (v:=xs_v) (i:=i) ax rfl (Rxs.bel hw') (by omega) (by omega) (by decide) rfl) (qm xs_v (qm (vi j) (qx (λw' hw'=>ab (v:=xs_v) (i:=j) eM rfl rfl (Rxs.bel hw') rfl (by omega) (by omega)) (qv (Value.pointer (some ⟨(aL xs_v 2 (Int.toNat j)).block,(aL xs_v 2 (Int.toNat j)).off+1,none⟩)) (λw' hw'=>bY l6 rfl rfl rfl rfl) (qx (λw' hw'=>aW (v:=xs_v) (i:=j) ax rfl (Rxs.bel hw') (by omega) (by omega) (by decide) rfl) ?_)))))))
  refine qx (λw' hw'=>aX (m:=(gI xs i).2) (n:=(gI xs j).2) rfl rfl) (qv (vb (decide (((gI xs i).2)<((gI xs j).2)))) (λw' hw'=>aR rfl) (d4 ?_))
  intro w7 hc8
  replace hc8:=aA hc8 c0
  refine ar (vs:=[vb (decide (((gI xs i).2)<((gI xs j).2)))]) Try.func122 (.tmp rfl .nil) ?_
  have e0:(decide (((gI xs i).2)<((gI xs j).2)):Bool)=(decide (cv (gI xs i) (gI xs j))):=by
    exact qy ‹_›
  have C9:=cg [] (ch1.n.seq (hc4.n.seq (ch5.n.seq hc8.n)))
  replace bH:=bH.ca C9
  exact⟨(congrArg (a₁:=decide (((gI xs i).2)<((gI xs j).2))) (λ(z0:Bool)=>Ending.returned (vb z0)) e0),bH.below⟩
 refine ah rfl (congrArg Bool.not (df p1)) (a8 (cd c0 rfl gx (by kernel_rfl) ?_))
 intro w11 ch10
 refine qm xs_v (qm (vi i) ?_)
 replace Rxs:=(Rxs.cn hc4).cn ch10
 refine qx (λw' hw'=>ab (v:=xs_v) (i:=i) eM rfl rfl (Rxs.bel hw') rfl (by omega) (by omega)) (qv (Value.pointer (some ⟨(aL xs_v 2 (Int.toNat i)).block,(aL xs_v 2 (Int.toNat i)).off+0,none⟩)) (λw' hw'=>bY l6 rfl rfl rfl rfl) (qx (λw' hw'=>aW (v:=xs_v) (i:=i) aF rfl (Rxs.bel hw') (by omega) (by omega) (by decide) rfl) (qm xs_v (qm (vi j) (qx (λw' hw'=>ab (v:=xs_v) (i:=j) eM rfl rfl (Rxs.bel hw') rfl (by omega) (by omega)) (qv (Value.pointer (some ⟨(aL xs_v 2 (Int.toNat j)).block,(aL xs_v 2 (Int.toNat j)).off+0,none⟩)) (λw' hw'=>bY l6 rfl rfl rfl rfl) (qx (λw' hw'=>aW (v:=xs_v) (i:=j) aF rfl (Rxs.bel hw') (by omega) (by omega) (by decide) rfl) ?_)))))))
 refine qv (vb (decide (((gI xs i).1)<((gI xs j).1)))) (λw' hw'=>mQ (a:=((gI xs i).1)) (b:=((gI xs j).1)) rfl rfl ‹_› ‹_›) (qv (vb (decide (((gI xs i).1)<((gI xs j).1)))) (λw' hw'=>aR rfl) (d4 ?_))
 intro w12 hc13
 replace hc13:=aA hc13 c0
 refine ar (vs:=[vb (decide (((gI xs i).1)<((gI xs j).1)))]) Try.func122 (.tmp rfl .nil) ?_
 have e0:(decide (((gI xs i).1)<((gI xs j).1)):Bool)=(decide (cv (gI xs i) (gI xs j))):=by
   exact qJ ‹_›
 have C14:=cg [] (ch1.n.seq (hc4.n.seq (ch10.n.seq hc13.n)))
 replace bH:=bH.ca C14
 exact⟨(congrArg (a₁:=decide (((gI xs i).1)<((gI xs j).1))) (λ(z0:Bool)=>Ending.returned (vb z0)) e0),bH.below⟩
end TL
