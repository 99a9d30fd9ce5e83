import Derived.Test.YtbpphaeianpdpaaPqTlP2
import Derived.Test.YtbpphaeianpdpaaPqTlGmA
import Derived.Test.YtbpphaeianpdpaaPqTlGenA
import Derived.Test.YtbpphaeianpdpaaProg
import Derived.Test.YtbpphaeianpdpaaPqTlAli
set_option linter.all false
set_option maxRecDepth 20000
namespace TL
open Go Go.Proofs
theorem fA:Try.prog.follows .mixedOrders=true:=by kernel_rfl
theorem ci:Tp Try.prog 26 false 1 24 (.slice none 0 0):=Tp.of (by kernel_rfl)
theorem aI:Tp Try.prog 31 false 1 8 (.float .f64 0):=Tp.of (by kernel_rfl)
theorem ji:Try.f54.body.isNone=false:=rfl
theorem jx:(Try.f54.name== "runtime.NumGoroutine")=false:=by decide+kernel
theorem mM:Try.f57.body.isNone=false:=rfl
theorem me:(Try.f57.name== "runtime.NumGoroutine")=false:=by decide+kernel
theorem nf:Try.f63.body.isNone=false:=rfl
theorem lI:(Try.f63.name== "runtime.NumGoroutine")=false:=by decide+kernel
theorem g0(w0:World)(f:Nat)(sign:Int)(hs:sign=1):
    Calls Try.prog 25 #[Value.float .f64 f,vi sign] w0 (λee w=>ee= .returned (vb (cS f 9218868437227405311))/\bZ w0.heap.size w0 w):=by
 refine am Try.func25 rfl nq ?_
 have bH:=aX.start w0
 refine a8 (a7 rfl (ma (vb false) (ab (a8 (a8 (a7 rfl (mi sign (lx (eB (m:=sign) (n:=0) rfl rfl) (ab ?_)))))))))
 by_cases p1:sign=0
 ·
  omega
 refine aj rfl (df p1) (a8 (a7 rfl (mi sign (lx (b7 (m:=sign) (n:=0) rfl rfl) (ab ?_)))))
 by_cases p3:sign<0
 ·
  omega
 refine aj rfl (df p3) (ao (a8 (a7 rfl (mv (Value.float .f64 f) (lw (vb (cS f 9218868437227405311)) (mf (a:=f) (b:=9218868437227405311) rfl rfl rfl) (ma (vb (cS f 9218868437227405311)) (ab (ap (vs:=[vb (cS f 9218868437227405311)]) Try.func25 (.tmp rfl .nil) ?_))))))))
 have e0:(cS f 9218868437227405311:Bool)=(cS f 9218868437227405311):=by
   rfl
 exact⟨rb e0,bH.below⟩
theorem oE(w0:World)(sign:Int)(hs:0<=sign):
    Calls Try.prog 34 #[vi sign] w0 (λee w=>ee= .returned (Value.float .f64 aw)/\bZ w0.heap.size w0 w):=by
 refine am Try.func34 rfl nq ?_
 have bH:=aX.start w0
 refine a8 (a7 rfl (ma (Value.float .f64 0) (ab (a8 (a7 rfl (ma (Value.int .u64 0) (ab (a8 (a8 (a7 rfl (mi sign (lx (di (m:=sign) (n:=0) rfl rfl) (ab ?_)))))))))))))
 by_cases p2:0<=sign
 ·
  refine ae rfl (dt p2) (a7 rfl (ma (Value.int .u64 9218868437227405312) (ab (a8 (a7 rfl (mv (Value.int .u64 9218868437227405312) (lw (Value.float .f64 9218868437227405312) (fH (n:=9218868437227405312) Try.func37 (by kernel_rfl) (by kernel_rfl) (by kernel_rfl) (by kernel_rfl) rfl) (ma (Value.float .f64 9218868437227405312) (ab (ap (vs:=[Value.float .f64 9218868437227405312]) Try.func34 (.tmp rfl .nil) ?_))))))))))
  have e0:(9218868437227405312:Nat)=(aw):=by
    rfl
  exact⟨(congrArg (a₁:=9218868437227405312) (λ(z0:Nat)=>Ending.returned (Value.float .f64 z0)) e0),bH.below⟩
 omega
theorem kO(w0:World)(x:Nat)(hx:dj x=true\/x<=aw):
    Calls Try.prog 57 #[Value.float .f64 x] w0 (λee w=>ee= .returned (Value.float .f64 (bK x))/\bZ w0.heap.size w0 w):=by
 refine am Try.func57 rfl nq ?_
 have bH:=aX.start w0
 refine a8 (a7 rfl (ma (Value.float .f64 0) (ab (a8 (a8 (a7 rfl (mv (Value.float .f64 x) (mv (Value.float .f64 x) (lw (vb (dj x)) (j3 (a:=x) rfl rfl) (ab ?_))))))))))
 by_cases p1:dj x=true
 ·
  refine ae rfl p1 (a8 (a7 rfl (lw (Value.float .f64 9221120237041090561) (fH (n:=9221120237041090561) Try.func37 (by kernel_rfl) (by kernel_rfl) (by kernel_rfl) (by kernel_rfl) rfl) (ma (Value.float .f64 9221120237041090561) (ab (ap (vs:=[Value.float .f64 9221120237041090561]) Try.func57 (.tmp rfl .nil) ?_))))))
  have e0:(9221120237041090561:Nat)=(bK x):=by
    exact mX p1
  exact⟨(congrArg (a₁:=9221120237041090561) (λ(z0:Nat)=>Ending.returned (Value.float .f64 z0)) e0),bH.below⟩
 have hx2:=hx.resolve_left p1
 refine aj rfl (Bool.eq_false_iff.2 p1) (ao (a8 (a8 (a7 rfl (mv (Value.float .f64 x) (lw (vb (decide (x=0))) (gA (a:=x) (b:=0) rfl rfl ‹_› (by decide)) (ab ?_)))))))
 by_cases p3:x=0
 ·
  refine ae rfl (dt p3) (a8 (a7 rfl (ma (Value.float .f64 0) (ab (ap (vs:=[Value.float .f64 0]) Try.func57 (.tmp rfl .nil) ?_)))))
  have e0:(0:Nat)=(bK x):=by
    exact lX p1 ‹_›
  exact⟨(congrArg (a₁:=0) (λ(z0:Nat)=>Ending.returned (Value.float .f64 z0)) e0),bH.below⟩
 refine aj rfl (df p3) (ao (a8 (a7 rfl (mv (Value.float .f64 x) (ma (Value.float .f64 x) (ab (ap (vs:=[Value.float .f64 x]) Try.func57 (.tmp rfl .nil) ?_)))))))
 have e0:(x:Nat)=(bK x):=by
   exact mL p1
 exact⟨(congrArg (a₁:=x) (λ(z0:Nat)=>Ending.returned (Value.float .f64 z0)) e0),bH.below⟩
theorem la(w0:World)(x:Nat):
    Calls Try.prog 63 #[Value.float .f64 x] w0 (λee w=>ee= .returned (vb (ed x 0))/\bZ w0.heap.size w0 w):=by
 refine am Try.func63 rfl nq ?_
 have bH:=aX.start w0
 refine a8 (a7 rfl (ma (vb false) (ab (a8 (a7 rfl (mv (Value.float .f64 x) (lw (vb (ed x 0)) (mP (a:=x) (b:=0) rfl rfl rfl) (ma (vb (ed x 0)) (ab (ap (vs:=[vb (ed x 0)]) Try.func63 (.tmp rfl .nil) ?_))))))))))
 have e0:(ed x 0:Bool)=(ed x 0):=by
   rfl
 exact⟨rb e0,bH.below⟩
theorem jl(w0:World)(a:Nat)(b:Nat)(ha:a<=aw)(hb:eh b):
    Calls Try.prog 27 #[Value.float .f64 a,Value.float .f64 b] w0 (λee w=>ee= .returned (Value.float .f64 (aD a (zf b)))/\bZ w0.heap.size w0 w):=by
 refine am Try.func27 rfl nq ?_
 have bH:=aX.start w0
 refine a8 (a7 rfl (ma (Value.float .f64 0) (ab (a8 (a7 rfl (mv (Value.float .f64 a) (mv (Value.float .f64 b) (lw (Value.float .f64 (aD a (zf b))) (kJ (a:=a) (b:=b) rfl rfl (gO ‹_› ‹_›).1) ?_))))))))
 have nn1:aD a (zf b)<=aw:=(gO (d:=a) (x:=b) ‹_› ‹_›).2
 refine lo (bk (v:=Value.float .f64 (bK (aD a (zf b)))) (aF (vals:=[Value.float .f64 (aD a (zf b))]) Try.func57 mM me rfl) (kO w0 (aD a (zf b)) (by exact .inr ‹_›)) ?_)
 intro w2 hb3
 replace hb3:=ay hb3 c0
 refine ma (Value.float .f64 (bK (aD a (zf b)))) (ab (ap (vs:=[Value.float .f64 (bK (aD a (zf b)))]) Try.func27 (.tmp rfl .nil) ?_))
 have e0:(bK (aD a (zf b)):Nat)=(aD a (zf b)):=by
   exact lk ‹_›
 replace bH:=bH.cn hb3
 exact⟨(congrArg (a₁:=bK (aD a (zf b))) (λ(z0:Nat)=>Ending.returned (Value.float .f64 z0)) e0),bH.below⟩
theorem fL(w0:World)(g:(Int)×(List Pt))(g_v:Value)(hg_v:Ro w0 g_v g.2)(ws:List Nat)(ws_v:Value)(hws_v:Ro w0 ws_v ws):
    Calls Try.prog 38 #[vg [vi g.1,g_v],ws_v] w0 (λee w=>ee= .returned (vi (cA g ws))/\bZ w0.heap.size w0 w):=by
 refine am Try.func38 rfl nq ?_
 have bH:=aX.start w0
 have Rg:=hg_v.sl
 have Rws:=hws_v.sl
 refine a8 (a7 rfl (dW rfl (dz c0 (is 1) (1,0) rfl rfl ?_)))
 intro g4 w1 b3 ch2 bx5
 replace bx5:Bx g4 (is 1) w1 b3 [vi g.1,g_v]:=bx5
 refine ai 0 (ab (a8 (a8 (a7 rfl (lx (ba (ds:=[vi g.1,g_v]) cD rfl bx5 rfl rfl) ?_)))))
 replace Rg:=Rg.cn ch2
 refine lo (bk (v:=vb (bW g)) (aF (vals:=[vg [vi g.1,g_v]]) Try.func54 ji jx rfl) (kR w1 g g_v (Rg).ro) ?_)
 intro w6 hb7
 replace hb7:=ay hb7 g4
 refine lx (dX (b:=(bW g)) rfl) (mv (vb (!(bW g))) ?_)
 by_cases q10:(bW g)=true
 ·
  refine lv (ws_v) (wy (congrArg Bool.not q10)) (al rfl) ?_
  replace Rws:=(Rws.cn ch2).cn hb7
  have len8:=(Rws).small
  refine lv (vi (ws.length:Int)) (wy (congrArg Bool.not q10)) (bn dJ rfl Rws) (lv (vp b3 1) (wy (congrArg Bool.not q10)) (ah dl rfl rfl rfl rfl) ?_)
  replace bx5:=bx5.cn hb7
  refine lv (g_v) (wy (congrArg Bool.not q10)) (ag bL rfl bx5 rfl) ?_
  replace Rg:=Rg.cn hb7
  have len9:=(Rg).small
  refine lv (vi (g.2.length:Int)) (wy (congrArg Bool.not q10)) (bn gg rfl Rg) (lv (vb (!(decide ((ws.length:Int)=(g.2.length:Int))))) (wy (congrArg Bool.not q10)) (d4 (m:=(ws.length:Int)) (n:=(g.2.length:Int)) rfl rfl) (lw (vb (!(decide ((ws.length:Int)=(g.2.length:Int))))) (aL rfl (congrArg Bool.not q10) rfl) (ab ?_)))
  by_cases p1:(ws.length:Int)=(g.2.length:Int)
  ·
   refine aj rfl (congrArg Bool.not (dt p1)) (ao (a8 (a8 ?_)))
   clear bx5
   refine a7 rfl (mv ws_v (lx (bn dJ rfl Rws) (mi 0 (ab (aq ?_)))))
   refine b9 (σ:=Nat×ar) (λ⟨k,gq⟩ f w=>aX w0 gq w/\f 18=ws_v/\f 19=vi (ws.length:Int)/\f 20=vi ↑k/\Sl gq (is 0) w g_v g.2/\Sl gq (is 0) w ws_v ws/\(k:Int)<=((ws.length:Int):Int)/\(∀i:Nat,i<k->eh (gI ws ↑i))) (λ⟨k,gq⟩=>Int.toNat (((ws.length:Int):Int)-(k:Int))) (0,g4) ?_ ?_
   replace bH:=bH.cn ch2
   · exact⟨bH.cn hb7,rfl,rfl,rfl,Rg,Rws,by omega,by exact λi h=>absurd h (Nat.not_lt_zero _)⟩
   clear Rg Rws bH
   rintro⟨k,g12⟩ f10 w11 ⟨bH,zs18,zs19,zs20,Rg,Rws,hle_k,hk⟩ back4
   refine a8 (a7 rfl (lx (b7 (m:=↑k) (n:=(ws.length:Int)) zs20 zs19) (ab (a8 ?_))))
   by_cases p4:(k:Int)<(ws.length:Int)
   ·
    refine ae rfl (dt p4) (ao (a8 (aq (a8 (a7 rfl (lx (ad (v:=ws_v) (i:=↑k) dJ rfl zs18 Rws zs20 (by omega) (by omega)) (lx (aA (v:=ws_v) (i:=↑k) aI rfl Rws (by omega) (by omega) (by decide) rfl) (ma (Value.float .f64 (gI ws ↑k)) (ab (a8 (a7 rfl (mv (Value.float .f64 (gI ws ↑k)) ?_))))))))))))
    refine lo (bk (v:=vb (ed (gI ws ↑k) 0)) (aF (vals:=[Value.float .f64 (gI ws ↑k)]) Try.func63 nf lI rfl) (la w11 (gI ws ↑k)) ?_)
    intro w13 hb14
    replace hb14:=ay hb14 g12
    refine lx (dX (b:=(ed (gI ws ↑k) 0)) rfl) (ab ?_)
    by_cases p6:(ed (gI ws ↑k) 0)=true
    ·
     refine aj rfl (congrArg Bool.not p6) (ao (av (a7 rfl (lx (bw (m:=↑k) (n:=1) zs20 rfl (by omega)) (mi ((k:Int)+1) (ab ?_))))))
     refine back4 (k+1,g12) _ _ ⟨bH.cn hb14,zs18,zs19,rfl,Rg.cn hb14,Rws.cn hb14,by omega,?_⟩ ?_
     · show∀i:Nat,i<(k+1)->eh (gI ws ↑i)
       exact lJ hk ‹_›
     · show Int.toNat (((ws.length:Int):Int)-((k+1):Int))<Int.toNat (((ws.length:Int):Int)-(k:Int))
       omega
    refine ae rfl (congrArg Bool.not (Bool.eq_false_iff.2 p6)) (a8 (a7 rfl (ai 13 (ab (ap (vs:=[vi 13]) Try.func38 (.tmp rfl .nil) ?_)))))
    have e0:(13:Int)=(cA g ws):=by
      exact(nL (k:=(k:Int)) ‹_› (by omega) (by omega) ‹_›).symm
    replace bH:=bH.cn hb14
    exact⟨ri e0,bH.below⟩
   refine aj rfl (df p4) (aJ rfl (a8 (a7 rfl (ai 0 (ab (ap (vs:=[vi 0]) Try.func38 (.tmp rfl .nil) ?_))))))
   have e0:(0:Int)=(cA g ws):=by
     exact(oA ‹_› (by omega) hk (by omega)).symm
   exact⟨ri e0,bH.below⟩
  refine ae rfl (congrArg Bool.not (df p1)) (a8 ?_)
  clear bx5
  refine a7 rfl (ai 1 (ab (ap (vs:=[vi 1]) Try.func38 (.tmp rfl .nil) ?_)))
  have e0:(1:Int)=(cA g ws):=by
    exact(ot ‹_›).symm
  replace bH:=bH.cn ch2
  replace bH:=bH.cn hb7
  exact⟨ri e0,bH.below⟩
 refine af (wn (congrArg Bool.not (Bool.eq_false_iff.2 q10))) (af (wn (congrArg Bool.not (Bool.eq_false_iff.2 q10))) (af (wn (congrArg Bool.not (Bool.eq_false_iff.2 q10))) (af (wn (congrArg Bool.not (Bool.eq_false_iff.2 q10))) (af (wn (congrArg Bool.not (Bool.eq_false_iff.2 q10))) (af (wn (congrArg Bool.not (Bool.eq_false_iff.2 q10))) (lw (vb true) (az rfl (congrArg Bool.not (Bool.eq_false_iff.2 q10)) rfl) (ab (ae rfl rfl (a8 ?_)))))))))
 clear bx5
 refine a7 rfl (ai 1 (ab (ap (vs:=[vi 1]) Try.func38 (.tmp rfl .nil) ?_)))
 have e0:(1:Int)=(cA g ws):=by
   exact(nU ‹_›).symm
 replace bH:=bH.cn ch2
 replace bH:=bH.cn hb7
 exact⟨ri e0,bH.below⟩
theorem kS(w0:World)(g:(Int)×(List Pt))(g_v:Value)(hg_v:Ro w0 g_v g.2)(hm:bo g):
    Calls Try.prog 39 #[vg [vi g.1,g_v]] w0 (λee w=>∃xx:ar×Value,ee= .returned ((λ⟨δ,rv0⟩=>rv0) xx)/\(λ(⟨δ,rv0⟩:ar×Value) (w:World)=>fM w0 δ w/\cH δ 1 w rv0 (aa g)) xx w):=by
 refine am Try.func39 rfl nq ?_
 have bH:=aX.start w0
 have Rg:=hg_v.sl
 have hm0:=hm
 obtain⟨hm1,hm2,hm3,hm4⟩:=hm0
 refine a8 (a7 rfl (dW rfl (dz c0 (is 1) (1,0) rfl rfl ?_)))
 intro g4 w1 b3 ch2 bx5
 replace bx5:Bx g4 (is 1) w1 b3 [vi g.1,g_v]:=bx5
 refine ma vn (ab (a8 (a7 rfl (lx (ah dl rfl rfl rfl rfl) (lx (ag aB rfl bx5 rfl) (lo (iN (α:=Int) (n:=g.1) (cp:=g.1) g4 2 oL ci rfl rfl rfl (by omega) (by omega) (by omega) (by omega) ?_)))))))
 intro g6 w7 v8 ch9 o10
 refine ma v8 (ab (a8 (a8 (a7 rfl (lx (ah dl rfl rfl rfl rfl) ?_)))))
 replace bx5:=bx5.cn ch9
 refine lx (ag bL rfl bx5 rfl) ?_
 replace Rg:=(Rg.cn ch2).cn ch9
 have len11:=(Rg).small
 refine lx (bn gg rfl Rg) (mi 0 (ab (aq ?_)))
 clear bx5
 refine b9 (σ:=Nat×lC×ar) (λ⟨e,O,gq⟩ f w=>aX w0 gq w/\f 3=v8/\f 12=g_v/\f 13=vi (g.2.length:Int)/\f 14=vi ↑e/\Sl gq (is 0) w g_v g.2/\cH gq 2 w v8 O/\(e:Int)<=((g.2.length:Int):Int)/\(bR O g e)) (λ⟨e,O,gq⟩=>Int.toNat (((g.2.length:Int):Int)-(e:Int))) (0,(List.replicate (Int.toNat g.1) []),g6) ?_ ?_
 replace bH:=bH.cn ch2
 · exact⟨bH.cn ch9,rfl,rfl,rfl,rfl,Rg,o10,by omega,by exact bR.start hm1⟩
 clear Rg o10 bH
 rintro⟨e,O,g14⟩ f12 w13 ⟨bH,zs3,zs12,zs13,zs14,Rg,o10,hle_e,hov⟩ back3
 have hol:=hov.len
 refine a8 (a7 rfl (lx (b7 (m:=↑e) (n:=(g.2.length:Int)) zs14 zs13) (ab (a8 ?_))))
 by_cases p3:(e:Int)<(g.2.length:Int)
 ·
  refine ae rfl (dt p3) ?_
  obtain⟨⟨he1,he2⟩,he3,he4⟩:=hm4 _ (bd (xs:=g.2) (i:=↑e) (by omega) (by omega))
  have hq1:=hov.rl he1 he2
  have hq2:=hov.rl2 he1 he2 he3 he4 (2*(e:Int))
  refine ao (a8 (aq (a8 (a7 rfl (mz zs14 (lx (ad (v:=g_v) (i:=↑e) gg rfl zs12 Rg zs14 (by omega) (by omega)) (lw (vg [vi ((gI g.2 ↑e).1),vi ((gI g.2 ↑e).2)]) (bb (v:=g_v) (i:=↑e) db rfl Rg (by omega) (by omega) rfl) (lo (bI g14 (is 3) (3,0) rfl db ?_)))))))))
  intro g18 w15 b17 ch16 bx19
  replace bx19:Bx g18 (is 3) w15 b17 [vi 0,vi 0]:=bx19
  refine ai (e:Int) (lo (aK (cs':=[vi ((gI g.2 ↑e).1),vi ((gI g.2 ↑e).2)]) db rfl rfl bx19 rfl nq (AllOne.all (.cons rfl (.cons rfl .nil))) rfl ?_))
  intro w20 ch21 bx22
  clear bx19
  refine ab (a8 (a7 rfl (lx (ba (ds:=[vi ((gI g.2 ↑e).1),vi ((gI g.2 ↑e).2)]) db rfl bx22 rfl rfl) (mi 0 (ab (aq (cw (a8 ?_))))))))
  clear bx22
  refine a7 rfl (lx (b7 (m:=0) (n:=2) rfl rfl) (ab (a8 (ae rfl rfl (ao (a8 (aq (a8 (a7 rfl (mi 0 (lw (vi ((gI g.2 ↑e).1)) (cL iL aB rfl rfl (by decide) (by decide) rfl) ?_)))))))))))
  refine ai 0 (ai ((gI g.2 ↑e).1) (ab (a7 rfl (mz zs3 (mi ((gI g.2 ↑e).1) (mz zs3 (mi ((gI g.2 ↑e).1) ?_)))))))
  replace o10:=(o10.cn ch16).ce ch21
  refine lx (ad (v:=v8) (i:=(gI g.2 ↑e).1) oL rfl rfl o10.sl rfl (by omega) (by omega)) ?_
  obtain⟨v23,cel24,r25⟩:=gL (r:=(gI g.2 ↑e).1) o10 (by omega) (by omega)
  refine lx (dN ci rfl cel24) (mi ↑e (lx (lA (m:=2) (n:=↑e) rfl rfl (by omega)) (mi 0 (lx (bw (m:=2*(e:Int)) (n:=0) rfl rfl (by omega)) (lo (bc (α:=Int) g18 (is 4) (is 4) (4,0) rfl [(2*(e:Int))+0] cI aB (by decide) (by decide) (vs:=[(0,vi ((2*(e:Int))+0))]) rfl rfl (.cons rfl .nil) ?_))))))
  intro g26 w27 v28 ch29 o30
  refine lo ?_
  replace o10:=o10.cn ch29
  replace r25:=r25.cn ch29
  refine cZ (α:=Int) (xs:=(gI O ((gI g.2 ↑e).1))) (ys:=([(2*(e:Int))+0])) g26 (J:=ct 2 (Int.toNat ((gI g.2 ↑e).1)+1)) (S:=ct 2 (Int.toNat ((gI g.2 ↑e).1)+1)) (2,Int.toNat ((gI g.2 ↑e).1)+1) rfl cI aB (by decide) rfl rfl rfl r25 o30.flat (by decide) (by(simp;omega)) ?_
  intro g31 w32 v33 ch34 o35
  have o36:=o10.rowchg ch34
  clear o10 cel24 r25
  obtain⟨us37,hl38,r39⟩:=o36.vc
  try simp only[List.length_set,List.length_append,List.length_cons,List.length_nil] at hl38
  refine lx (ad (v:=v8) (i:=(gI g.2 ↑e).1) oL rfl rfl r39 rfl (by omega) (by omega)) (lo (f3 (r:=(gI g.2 ↑e).1) ci rfl rfl o36 o35 (by omega) (by omega) ?_))
  intro w43 ch44 o45
  clear o36 o35
  refine ab (av ?_)
  clear o30
  refine a7 rfl (lx (bw (m:=0) (n:=1) rfl rfl (by omega)) (mi 1 (ab (c8 (a8 (a7 rfl (lx (b7 (m:=1) (n:=2) rfl rfl) (ab (a8 (ae rfl rfl (ao ?_)))))))))))
  refine a8 (aq (a8 (a7 rfl (mi 1 (lw (vi ((gI g.2 ↑e).2)) (cL iL aB rfl rfl (by decide) (by decide) rfl) (ai 1 (ai ((gI g.2 ↑e).2) (ab (a7 rfl (mz zs3 (mi ((gI g.2 ↑e).2) ?_)))))))))))
  refine mz zs3 (mi ((gI g.2 ↑e).2) (lx (ad (v:=v8) (i:=(gI g.2 ↑e).2) oL rfl rfl o45.sl rfl (by omega) (by(simp only[List.length_set,List.length_append,List.length_cons,List.length_nil,List.length_replicate,List.length_map,List.length_take,List.length_drop];omega))) ?_))
  obtain⟨v46,cel47,r48⟩:=gL (r:=(gI g.2 ↑e).2) o45 (by omega) (by(simp only[List.length_set,List.length_append,List.length_cons,List.length_nil,List.length_replicate,List.length_map,List.length_take,List.length_drop];omega))
  refine lx (dN ci rfl cel47) (mi ↑e (lx (lA (m:=2) (n:=↑e) rfl rfl (by omega)) (mi 1 (lx (bw (m:=2*(e:Int)) (n:=1) rfl rfl (by omega)) (lo (bc (α:=Int) g31 (is 4) (is 4) (4,0) rfl [(2*(e:Int))+1] cI aB (by decide) (by decide) (vs:=[(0,vi ((2*(e:Int))+1))]) rfl rfl (.cons rfl .nil) ?_))))))
  intro g49 w50 v51 ch52 o53
  refine lo ?_
  replace o45:=o45.cn ch52
  replace r48:=r48.cn ch52
  refine cZ (α:=Int) (xs:=(gI (List.set O (Int.toNat ((gI g.2 ↑e).1)) (gI O ((gI g.2 ↑e).1)++[(2*(e:Int))+0])) ((gI g.2 ↑e).2))) (ys:=([(2*(e:Int))+1])) g49 (J:=ct 2 (Int.toNat ((gI g.2 ↑e).2)+1)) (S:=ct 2 (Int.toNat ((gI g.2 ↑e).2)+1)) (2,Int.toNat ((gI g.2 ↑e).2)+1) rfl cI aB (by decide) rfl rfl rfl r48 o53.flat (by decide) (by(simp;omega)) ?_
  intro g54 w55 v56 ch57 o58
  have o59:=o45.rowchg ch57
  clear o45 cel47 r48
  obtain⟨us60,hl61,r62⟩:=o59.vc
  try simp only[List.length_set,List.length_append,List.length_cons,List.length_nil] at hl61
  refine lx (ad (v:=v8) (i:=(gI g.2 ↑e).2) oL rfl rfl r62 rfl (by omega) (by omega)) (lo (f3 (r:=(gI g.2 ↑e).2) ci rfl rfl o59 o58 (by omega) (by(simp only[List.length_set,List.length_append,List.length_cons,List.length_nil,List.length_replicate,List.length_map,List.length_take,List.length_drop];omega)) ?_))
  intro w66 ch67 o68
  clear o59 o58
  refine ab (av ?_)
  clear o53
  refine a7 rfl (lx (bw (m:=1) (n:=1) rfl rfl (by omega)) (mi 2 (ab (c8 (a8 (a7 rfl (lx (b7 (m:=2) (n:=2) rfl rfl) (ab (a8 (aj rfl rfl (aJ rfl ?_)))))))))))
  refine av (a7 rfl (lx (bw (m:=↑e) (n:=1) zs14 rfl (by omega)) (mi ((e:Int)+1) (ab ?_))))
  have C69:=cg [2,3] (ch16.n.seq ((ch21.l rfl).seq (ch29.n.seq ((ch34.lr rfl).seq ((ch44.l rfl).seq (ch52.n.seq ((ch57.lr rfl).seq (ch67.l rfl))))))))
  refine back3 (e+1,(List.set (List.set O (Int.toNat ((gI g.2 ↑e).1)) (gI O ((gI g.2 ↑e).1)++[(2*(e:Int))+0])) (Int.toNat ((gI g.2 ↑e).2)) (gI (List.set O (Int.toNat ((gI g.2 ↑e).1)) (gI O ((gI g.2 ↑e).1)++[(2*(e:Int))+0])) ((gI g.2 ↑e).2)++[(2*(e:Int))+1])),g54) _ _ ⟨bH.ca C69,zs3,zs12,zs13,rfl,Rg.ca C69,o68,by omega,?_⟩ ?_
  · show bR (List.set (List.set O (Int.toNat ((gI g.2 ↑e).1)) (gI O ((gI g.2 ↑e).1)++[(2*(e:Int))+0])) (Int.toNat ((gI g.2 ↑e).2)) (gI (List.set O (Int.toNat ((gI g.2 ↑e).1)) (gI O ((gI g.2 ↑e).1)++[(2*(e:Int))+0])) ((gI g.2 ↑e).2)++[(2*(e:Int))+1])) g (e+1)
    exact hov.next he1 he2 he3 he4 (by omega) (by omega)
  · show Int.toNat (((g.2.length:Int):Int)-((e+1):Int))<Int.toNat (((g.2.length:Int):Int)-(e:Int))
    omega
 refine aj rfl (df p3) (aJ rfl (a8 (a7 rfl (mz zs3 (ma v8 (ab (ap (vs:=[v8]) Try.func39 (.tmp rfl .nil) ?_)))))))
 have e0:(O:lC)=(aa g):=by
   exact hov.first (by omega)
 exact⟨(fin w0 g14 (λn=>if n=2 then 1 else 0),v8),(congrArg (a₁:=O) (λ(z0:lC)=>Ending.returned (v8)) e0),bH.fresh _,(e0▸(o10.glue (γ:=c0) (ren:=(λn=>if n=2 then 1 else 0)) (k:=1) bH.col rfl rfl))⟩
theorem gZ(w0:World)(xs:List ((Nat)×(Int)))(xs_v:Value)(hxs_v:Ro w0 xs_v xs):
    Calls Try.prog 40 #[xs_v] w0 (λee w=>ee= .returned (vi (xs.length:Int))/\bZ w0.heap.size w0 w):=by
 refine am Try.func40 rfl nq ?_
 have bH:=aX.start w0
 have Rxs:=hxs_v.sl
 refine a8 (a7 rfl (ai 0 (ab (a8 (a7 rfl (mv xs_v ?_))))))
 have len1:=(Rxs).small
 refine lx (bn dU rfl Rxs) (ai (xs.length:Int) (ab (ap (vs:=[vi (xs.length:Int)]) Try.func40 (.tmp rfl .nil) ?_)))
 have e0:((xs.length:Int):Int)=((xs.length:Int)):=by
   rfl
 exact⟨ri e0,bH.below⟩
theorem dA(w0:World)(xs:List ((Nat)×(Int)))(xs_v:Value)(hxs_v:Ro w0 xs_v xs)(i:Int)(j:Int)(hi:0<=i/\i<(xs.length:Int))(hj:0<=j/\j<(xs.length:Int))(hn:∀x∈xs,x.1<=aw):
    Calls Try.prog 122 #[xs_v,vi i,vi j] w0 (λee w=>ee= .returned (vb (decide (bO (gI xs i) (gI xs j))))/\bZ w0.heap.size w0 w):=by
 refine am Try.func122 rfl nq ?_
 have bH:=aX.start w0
 have Rxs:=hxs_v.sl
 obtain⟨hi0,hi1⟩:=hi
 obtain⟨hj0,hj1⟩:=hj
 have n1:=hn _ (bd (xs:=xs) (i:=i) hi0 hi1)
 have n2:=hn _ (bd (xs:=xs) (i:=j) hj0 hj1)
 refine a8 (a7 rfl (ma (vb false) (ab (a8 (a8 (bT c0 rfl fA (by kernel_rfl) ?_))))))
 intro w2 ch1
 refine qm xs_v (qm (vi i) ?_)
 replace Rxs:=Rxs.cn ch1
 refine qx (λw' hw'=>ad (v:=xs_v) (i:=i) dU rfl rfl (Rxs.bel hw') rfl (by omega) (by omega)) (qv (Value.pointer (some ⟨(aC xs_v 2 (Int.toNat i)).block,(aC xs_v 2 (Int.toNat i)).off+0,none⟩)) (λw' hw'=>bC jp rfl rfl rfl rfl) (qx (λw' hw'=>aN (v:=xs_v) (i:=i) aI rfl (Rxs.bel hw') (by omega) (by omega) (by decide) rfl) (qm xs_v (qm (vi j) (qx (λw' hw'=>ad (v:=xs_v) (i:=j) dU rfl rfl (Rxs.bel hw') rfl (by omega) (by omega)) (qv (Value.pointer (some ⟨(aC xs_v 2 (Int.toNat j)).block,(aC xs_v 2 (Int.toNat j)).off+0,none⟩)) (λw' hw'=>bC jp rfl rfl rfl rfl) (qx (λw' hw'=>aN (v:=xs_v) (i:=j) aI rfl (Rxs.bel hw') (by omega) (by omega) (by decide) rfl) ?_)))))))
 refine qv (vb (!(decide (((gI xs i).1)=((gI xs j).1))))) (λw' hw'=>oz (a:=((gI xs i).1)) (b:=((gI xs j).1)) rfl rfl ‹_› ‹_›) (dg ?_)
 intro w3 hc4
 replace hc4:=ay hc4 c0
 by_cases p1:((gI xs i).1)=((gI xs j).1)
 ·
  refine aj rfl (congrArg Bool.not (dt p1)) (ao (a8 (bT c0 rfl fA (by kernel_rfl) ?_)))
  intro w6 ch5
  refine qm xs_v (qm (vi i) ?_)
  replace Rxs:=(Rxs.cn hc4).cn ch5
  refine qx (λw' hw'=>ad (v:=xs_v) (i:=i) dU rfl rfl (Rxs.bel hw') rfl (by omega) (by omega)) (qv (Value.pointer (some ⟨(aC xs_v 2 (Int.toNat i)).block,(aC xs_v 2 (Int.toNat i)).off+1,none⟩)) (λw' hw'=>bC jp rfl rfl rfl rfl) (qx (λw' hw'=>aN (v:=xs_v) (i:=i) aB rfl (Rxs.bel hw') (by omega) (by omega) (by decide) rfl) (qm xs_v (qm (vi j) (qx (λw' hw'=>ad (v:=xs_v) (i:=j) dU rfl rfl (Rxs.bel hw') rfl (by omega) (by omega)) (qv (Value.pointer (some ⟨(aC xs_v 2 (Int.toNat j)).block,(aC xs_v 2 (Int.toNat j)).off+1,none⟩)) (λw' hw'=>bC jp rfl rfl rfl rfl) (qx (λw' hw'=>aN (v:=xs_v) (i:=j) aB rfl (Rxs.bel hw') (by omega) (by omega) (by decide) rfl) ?_)))))))
  refine qx (λw' hw'=>b7 (m:=(gI xs i).2) (n:=(gI xs j).2) rfl rfl) (qv (vb (decide (((gI xs i).2)<((gI xs j).2)))) (λw' hw'=>bf rfl) (dg ?_))
  intro w7 hc8
  replace hc8:=ay hc8 c0
  refine ap (vs:=[vb (decide (((gI xs i).2)<((gI xs j).2)))]) Try.func122 (.tmp rfl .nil) ?_
  have e0:(decide (((gI xs i).2)<((gI xs j).2)):Bool)=(decide (bO (gI xs i) (gI xs j))):=by
    exact og ‹_›
  have C9:=cg [] (ch1.n.seq (hc4.n.seq (ch5.n.seq hc8.n)))
  replace bH:=bH.ca C9
  exact⟨(congrArg (a₁:=decide (((gI xs i).2)<((gI xs j).2))) (λ(z0:Bool)=>Ending.returned (vb z0)) e0),bH.below⟩
 refine ae rfl (congrArg Bool.not (df p1)) (a8 (bT c0 rfl fA (by kernel_rfl) ?_))
 intro w11 ch10
 refine qm xs_v (qm (vi i) ?_)
 replace Rxs:=(Rxs.cn hc4).cn ch10
 refine qx (λw' hw'=>ad (v:=xs_v) (i:=i) dU rfl rfl (Rxs.bel hw') rfl (by omega) (by omega)) (qv (Value.pointer (some ⟨(aC xs_v 2 (Int.toNat i)).block,(aC xs_v 2 (Int.toNat i)).off+0,none⟩)) (λw' hw'=>bC jp rfl rfl rfl rfl) (qx (λw' hw'=>aN (v:=xs_v) (i:=i) aI rfl (Rxs.bel hw') (by omega) (by omega) (by decide) rfl) (qm xs_v (qm (vi j) (qx (λw' hw'=>ad (v:=xs_v) (i:=j) dU rfl rfl (Rxs.bel hw') rfl (by omega) (by omega)) (qv (Value.pointer (some ⟨(aC xs_v 2 (Int.toNat j)).block,(aC xs_v 2 (Int.toNat j)).off+0,none⟩)) (λw' hw'=>bC jp rfl rfl rfl rfl) (qx (λw' hw'=>aN (v:=xs_v) (i:=j) aI rfl (Rxs.bel hw') (by omega) (by omega) (by decide) rfl) ?_)))))))
 refine qv (vb (decide (((gI xs i).1)<((gI xs j).1)))) (λw' hw'=>l4 (a:=((gI xs i).1)) (b:=((gI xs j).1)) rfl rfl ‹_› ‹_›) (qv (vb (decide (((gI xs i).1)<((gI xs j).1)))) (λw' hw'=>bf rfl) (dg ?_))
 intro w12 hc13
 replace hc13:=ay hc13 c0
 refine ap (vs:=[vb (decide (((gI xs i).1)<((gI xs j).1)))]) Try.func122 (.tmp rfl .nil) ?_
 have e0:(decide (((gI xs i).1)<((gI xs j).1)):Bool)=(decide (bO (gI xs i) (gI xs j))):=by
   exact oq ‹_›
 have C14:=cg [] (ch1.n.seq (hc4.n.seq (ch10.n.seq hc13.n)))
 replace bH:=bH.ca C14
 exact⟨(congrArg (a₁:=decide (((gI xs i).1)<((gI xs j).1))) (λ(z0:Bool)=>Ending.returned (vb z0)) e0),bH.below⟩
end TL
