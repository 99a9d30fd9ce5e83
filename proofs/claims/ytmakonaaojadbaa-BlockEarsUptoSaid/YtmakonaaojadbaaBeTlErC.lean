import Derived.Test.YtmakonaaojadbaaBeTlP4
import Derived.Test.YtmakonaaojadbaaBeTlGmA
import Derived.Test.YtmakonaaojadbaaBeTlGenA
import Derived.Test.YtmakonaaojadbaaBeTlErB
import Derived.Test.YtmakonaaojadbaaProg
import Derived.Test.YtmakonaaojadbaaBeTlAli
set_option linter.all false
set_option maxRecDepth 20000
namespace TL
open Go Go.Proofs
theorem dQ:Try.prog.follows .mixedOrders=true:=by kernel_rfl
theorem tc:Try.f17.body.isNone=false:=rfl
theorem sY:(Try.f17.name== "runtime.NumGoroutine")=false:=by decide+kernel
theorem t8:Try.f45.body.isNone=false:=rfl
theorem tK:(Try.f45.name== "runtime.NumGoroutine")=false:=by decide+kernel
theorem sB:Try.f49.body.isNone=false:=rfl
theorem tj:(Try.f49.name== "runtime.NumGoroutine")=false:=by decide+kernel
theorem su:Try.f50.body.isNone=false:=rfl
theorem sj:(Try.f50.name== "runtime.NumGoroutine")=false:=by decide+kernel
theorem pE(w0:World)(g:(Int)×(List Pt))(g_v:Value)(hg_v:Ro w0 g_v g.2)(l:List Int)(l_v:Value)(hl_v:Ro w0 l_v l)(round_:Bool)(hm:bf g)(hw:vq g l round_):
    Calls Try.prog 49 #[vg [vi g.1,g_v],l_v,vb round_] w0 (λee w=>ee= .returned (vb true)/\eB w0.heap.size w0 w):=by
 refine aB Try.func49 rfl nq ?_
 have bH:=bp.start w0
 have Rg:=hg_v.sl
 have Rl:=hl_v.sl
 have hm0:=hm
 obtain⟨hm1,hm2,hm3,hm4⟩:=hm0
 refine aa (a8 rfl (du rfl (dk c0 (is 1) (1,0) rfl rfl ?_)))
 intro g4 w1 b3 ch2 bx5
 replace bx5:Bx g4 (is 1) w1 b3 [vi g.1,g_v]:=bx5
 refine ma (vb false) (ag (aa (aa (a8 rfl (ai 0 (ag (av ?_)))))))
 refine aW (σ:=Nat×aF) (λ⟨i,gq⟩ f w=>bp w0 gq w/\f 1=l_v/\f 2=vb round_/\f 3=vp b3 0/\f 7=vi ↑i/\Sl gq (is 0) w g_v g.2/\Sl gq (is 0) w l_v l/\Bx gq (is 1) w b3 [vi g.1,g_v]/\(i:Int)<=((l.length:Int):Int)/\(True)) (λ⟨i,gq⟩=>l.length-i) (0,g4) ?_ ?_
 · exact⟨bH.cn ch2,rfl,rfl,rfl,rfl,Rg.cn ch2,Rl.cn ch2,bx5,by omega,by trivial⟩
 clear Rg Rl bx5 bH
 rintro⟨i,g8⟩ f6 w7 ⟨bH,zs1,zs2,zs3,zs7,Rg,Rl,bx5,hle_i,hinv⟩ back2
 refine aa (aa (a8 rfl (mz zs7 (mz zs1 ?_))))
 have len9:=(Rl).small
 refine lx (bh aY rfl Rl) (lx (b7 (m:=↑i) (n:=(l.length:Int)) rfl rfl) (ag ?_))
 by_cases p2:(i:Int)<(l.length:Int)
 ·
  refine ao rfl (dt p2) ?_
  obtain⟨hc1,hc2⟩:=hw.rg i ‹_›
  refine aw (aa (av (aa (aa (c6 g8 rfl dQ (by kernel_rfl) ?_)))))
  intro w11 ch10
  refine qz zs1 (qz zs7 ?_)
  replace Rl:=Rl.cn ch10
  refine qx (λw' hw'=>ad (v:=l_v) (i:=↑i) aY rfl rfl (Rl.bel hw') rfl (by omega) (by omega)) (qx (λw' hw'=>al (v:=l_v) (i:=↑i) ah rfl (Rl.bel hw') (by omega) (by omega) (by decide) rfl) (qx (λw' hw'=>b7 (m:=(gI l ↑i)) (n:=0) rfl rfl) (qm (vb (decide ((gI l ↑i)<0))) ?_)))
  by_cases q20:(gI l ↑i)<0
  ·
   omega
  refine b6 (v:=l_v) (wy (df q20)) (λw' hw'=>au zs1) (b6 (v:=vi ↑i) (wy (df q20)) (λw' hw'=>au zs7) (b6 (v:=Value.pointer (some (aT l_v 1 (Int.toNat ↑i)))) (wy (df q20)) (λw' hw'=>ad (α:=Int) (xs:=l) (v:=l_v) (i:=↑i) aY rfl rfl (Rl.bel hw') rfl (by omega) (by omega)) (b6 (v:=vi (gI l ↑i)) (wy (df q20)) (λw' hw'=>al (α:=Int) (xs:=l) (v:=l_v) (i:=↑i) ah rfl (Rl.bel hw') (by omega) (by omega) (by decide) rfl) (b6 (v:=vp b3 1) (wy (df q20)) (λw' hw'=>ae dD rfl rfl zs3 rfl) ?_))))
  replace bx5:=bx5.cn ch10
  refine b6 (v:=g_v) (wy (df q20)) (λw' hw'=>af bT rfl (bx5.bel hw') rfl) ?_
  replace Rg:=Rg.cn ch10
  have len12:=(Rg).small
  refine b6 (v:=vi (g.2.length:Int)) (wy (df q20)) (λw' hw'=>bh eM rfl (Rg.bel hw')) (b6 (v:=vi (2*(g.2.length:Int))) (wy (df q20)) (λw' hw'=>jx (m:=2) (n:=(g.2.length:Int)) rfl rfl (by omega)) (b6 (v:=vb (decide ((2*(g.2.length:Int))<=(gI l ↑i)))) (wy (df q20)) (λw' hw'=>eX (m:=(gI l ↑i)) (n:=2*(g.2.length:Int)) rfl rfl) (qv (vb (decide ((2*(g.2.length:Int))<=(gI l ↑i)))) (λw' hw'=>aV rfl (df q20) rfl) (db ?_))))
  intro w13 hc14
  replace hc14:=aN hc14 g8
  by_cases p4:(2*(g.2.length:Int))<=(gI l ↑i)
  ·
   omega
  refine aj rfl (df p4) (aw (aa (a8 rfl (mz zs7 (lx (aE (m:=↑i) (n:=1) rfl rfl (by omega)) (ai ((i:Int)+1) (ag (aa (aa (a8 rfl (mi ((i:Int)+1) (mz zs1 ?_))))))))))))
  replace Rl:=Rl.cn hc14
  refine lx (bh aY rfl Rl) (lx (cq (m:=(i:Int)+1) (n:=(l.length:Int)) rfl rfl) (ag ?_))
  by_cases p7:((i:Int)+1)=(l.length:Int)
  ·
   refine ao rfl (dt p7) (aa (aa (a8 rfl (mz zs2 (lx (dV (b:=round_) rfl) (ag ?_))))))
   by_cases p8:round_=true
   ·
    have hc7:=sD (k:=i) hw p8 (by omega)
    obtain⟨hc8,hc9⟩:=ru hw (by omega)
    refine aj rfl (congrArg Bool.not p8) (aw (a8 rfl (ai 0 (ag (aa (c6 g8 rfl dQ (by kernel_rfl) ?_))))))
    intro w16 ch15
    refine qz zs1 (qm (vi 0) ?_)
    replace Rl:=Rl.cn ch15
    refine qx (λw' hw'=>ad (v:=l_v) (i:=0) aY rfl rfl (Rl.bel hw') rfl (by omega) (by omega)) (qx (λw' hw'=>al (v:=l_v) (i:=0) ah rfl (Rl.bel hw') (by omega) (by omega) (by decide) rfl) (qx (λw' hw'=>b7 (m:=(gI l 0)) (n:=0) rfl rfl) (qm (vb (decide ((gI l 0)<0))) ?_)))
    by_cases q44:(gI l 0)<0
    ·
     omega
    refine b6 (v:=l_v) (wy (df q44)) (λw' hw'=>au zs1) (b6 (v:=vi 0) (wy (df q44)) (λw' hw'=>au rfl) (b6 (v:=Value.pointer (some (aT l_v 1 (Int.toNat 0)))) (wy (df q44)) (λw' hw'=>ad (α:=Int) (xs:=l) (v:=l_v) (i:=0) aY rfl rfl (Rl.bel hw') rfl (by omega) (by omega)) (b6 (v:=vi (gI l 0)) (wy (df q44)) (λw' hw'=>al (α:=Int) (xs:=l) (v:=l_v) (i:=0) ah rfl (Rl.bel hw') (by omega) (by omega) (by decide) rfl) (b6 (v:=vp b3 1) (wy (df q44)) (λw' hw'=>ae dD rfl rfl zs3 rfl) ?_))))
    replace bx5:=(bx5.cn hc14).cn ch15
    refine b6 (v:=g_v) (wy (df q44)) (λw' hw'=>af bT rfl (bx5.bel hw') rfl) ?_
    replace Rg:=(Rg.cn hc14).cn ch15
    refine b6 (v:=vi (g.2.length:Int)) (wy (df q44)) (λw' hw'=>bh eM rfl (Rg.bel hw')) (b6 (v:=vi (2*(g.2.length:Int))) (wy (df q44)) (λw' hw'=>jx (m:=2) (n:=(g.2.length:Int)) rfl rfl (by omega)) (b6 (v:=vb (decide ((2*(g.2.length:Int))<=(gI l 0)))) (wy (df q44)) (λw' hw'=>eX (m:=(gI l 0)) (n:=2*(g.2.length:Int)) rfl rfl) (qv (vb (decide ((2*(g.2.length:Int))<=(gI l 0)))) (λw' hw'=>aV rfl (df q44) rfl) (qm (vb (decide ((2*(g.2.length:Int))<=(gI l 0)))) ?_))))
    by_cases q55:(2*(g.2.length:Int))<=(gI l 0)
    ·
     omega
    refine b6 (v:=vg [vi g.1,g_v]) (wy (df q55)) (λw' hw'=>aD (ds:=[vi g.1,g_v]) c7 zs3 (bx5.bel hw') rfl rfl) (b6 (v:=l_v) (wy (df q55)) (λw' hw'=>au zs1) (b6 (v:=vi ↑i) (wy (df q55)) (λw' hw'=>au zs7) (b6 (v:=Value.pointer (some (aT l_v 1 (Int.toNat ↑i)))) (wy (df q55)) (λw' hw'=>ad (α:=Int) (xs:=l) (v:=l_v) (i:=↑i) aY rfl rfl (Rl.bel hw') rfl (by omega) (by omega)) ?_)))
    refine b6 (v:=vi (gI l ↑i)) (wy (df q55)) (λw' hw'=>al (α:=Int) (xs:=l) (v:=l_v) (i:=↑i) ah rfl (Rl.bel hw') (by omega) (by omega) (by decide) rfl) (dZ (v:=vi (aL g (gI l ↑i))) (wy (df q55)) (λw' hw'=>aX (vals:=[vg [vi g.1,g_v],vi (gI l ↑i)]) Try.func43 fY fT rfl) (λw' hw'=>(gS w' g g_v ((Rg.bel hw')).ro (gI l ↑i) (by omega) (by omega)).mono λe w2 h2=>⟨h2.1,hw'.trans (h2.2.mono hw'.size)⟩) (b6 (v:=vg [vi g.1,g_v]) (wy (df q55)) (λw' hw'=>aD (ds:=[vi g.1,g_v]) c7 zs3 (bx5.bel hw') rfl rfl) ?_))
    refine b6 (v:=l_v) (wy (df q55)) (λw' hw'=>au zs1) (b6 (v:=vi 0) (wy (df q55)) (λw' hw'=>au rfl) (b6 (v:=Value.pointer (some (aT l_v 1 (Int.toNat 0)))) (wy (df q55)) (λw' hw'=>ad (α:=Int) (xs:=l) (v:=l_v) (i:=0) aY rfl rfl (Rl.bel hw') rfl (by omega) (by omega)) (b6 (v:=vi (gI l 0)) (wy (df q55)) (λw' hw'=>al (α:=Int) (xs:=l) (v:=l_v) (i:=0) ah rfl (Rl.bel hw') (by omega) (by omega) (by decide) rfl) ?_)))
    refine dZ (v:=vi (ak g (gI l 0))) (wy (df q55)) (λw' hw'=>aX (vals:=[vg [vi g.1,g_v],vi (gI l 0)]) Try.func34 dX dY rfl) (λw' hw'=>(dU w' g g_v ((Rg.bel hw')).ro (gI l 0) (by omega) (by omega)).mono λe w2 h2=>⟨h2.1,hw'.trans (h2.2.mono hw'.size)⟩) (b6 (v:=vb (!(decide ((aL g (gI l ↑i))=(ak g (gI l 0)))))) (wy (df q55)) (λw' hw'=>eQ (m:=aL g (gI l ↑i)) (n:=ak g (gI l 0)) rfl rfl) (qv (vb (!(decide ((aL g (gI l ↑i))=(ak g (gI l 0)))))) (λw' hw'=>aV rfl (df q55) rfl) (db ?_)))
    intro w17 hc18
    replace hc18:=aN hc18 g8
    by_cases p10:(aL g (gI l ↑i))=(ak g (gI l 0))
    ·
     refine aj rfl (congrArg Bool.not (dt p10)) (aw (am (a8 rfl (mz zs7 (lx (aE (m:=↑i) (n:=1) rfl rfl (by omega)) (ai ((i:Int)+1) (ag ?_)))))))
     have C19:=cg [] (ch10.n.seq (hc14.n.seq (ch15.n.seq hc18.n)))
     refine back2 (i+1,g8) _ _ ⟨bH.ca C19,zs1,zs2,zs3,rfl,Rg.cn hc18,Rl.cn hc18,bx5.cn hc18,by omega,?_⟩ ?_
     · show True
       trivial
     · show l.length-(i+1)<l.length-i
       omega
    exact absurd hc7 ‹_›
   refine ao rfl (congrArg Bool.not (Bool.eq_false_iff.2 p8)) (aC rfl (a8 rfl (mz zs7 (lx (aE (m:=↑i) (n:=1) rfl rfl (by omega)) (ai ((i:Int)+1) (ag ?_))))))
   replace bH:=bH.cn ch10
   refine back2 (i+1,g8) _ _ ⟨bH.cn hc14,zs1,zs2,zs3,rfl,Rg.cn hc14,Rl,bx5.cn hc14,by omega,?_⟩ ?_
   · show True
     trivial
   · show l.length-(i+1)<l.length-i
     omega
  have hc4:=hw.nx i (by omega)
  obtain⟨hc5,hc6⟩:=u9 (k:=i) hw (by omega)
  refine aj rfl (df p7) (aw (aa (c6 g8 rfl dQ (by kernel_rfl) ?_)))
  intro w21 ch20
  refine qz zs1 (qm (vi ((i:Int)+1)) ?_)
  replace Rl:=Rl.cn ch20
  refine qx (λw' hw'=>ad (v:=l_v) (i:=(i:Int)+1) aY rfl rfl (Rl.bel hw') rfl (by omega) (by omega)) (qx (λw' hw'=>al (v:=l_v) (i:=(i:Int)+1) ah rfl (Rl.bel hw') (by omega) (by omega) (by decide) rfl) (qx (λw' hw'=>b7 (m:=(gI l ((i:Int)+1))) (n:=0) rfl rfl) (qm (vb (decide ((gI l ((i:Int)+1))<0))) ?_)))
  by_cases q44:(gI l ((i:Int)+1))<0
  ·
   omega
  refine b6 (v:=l_v) (wy (df q44)) (λw' hw'=>au zs1) (b6 (v:=vi ((i:Int)+1)) (wy (df q44)) (λw' hw'=>au rfl) (b6 (v:=Value.pointer (some (aT l_v 1 (Int.toNat ((i:Int)+1))))) (wy (df q44)) (λw' hw'=>ad (α:=Int) (xs:=l) (v:=l_v) (i:=(i:Int)+1) aY rfl rfl (Rl.bel hw') rfl (by omega) (by omega)) (b6 (v:=vi (gI l ((i:Int)+1))) (wy (df q44)) (λw' hw'=>al (α:=Int) (xs:=l) (v:=l_v) (i:=(i:Int)+1) ah rfl (Rl.bel hw') (by omega) (by omega) (by decide) rfl) (b6 (v:=vp b3 1) (wy (df q44)) (λw' hw'=>ae dD rfl rfl zs3 rfl) ?_))))
  replace bx5:=(bx5.cn hc14).cn ch20
  refine b6 (v:=g_v) (wy (df q44)) (λw' hw'=>af bT rfl (bx5.bel hw') rfl) ?_
  replace Rg:=(Rg.cn hc14).cn ch20
  refine b6 (v:=vi (g.2.length:Int)) (wy (df q44)) (λw' hw'=>bh eM rfl (Rg.bel hw')) (b6 (v:=vi (2*(g.2.length:Int))) (wy (df q44)) (λw' hw'=>jx (m:=2) (n:=(g.2.length:Int)) rfl rfl (by omega)) (b6 (v:=vb (decide ((2*(g.2.length:Int))<=(gI l ((i:Int)+1))))) (wy (df q44)) (λw' hw'=>eX (m:=(gI l ((i:Int)+1))) (n:=2*(g.2.length:Int)) rfl rfl) (qv (vb (decide ((2*(g.2.length:Int))<=(gI l ((i:Int)+1))))) (λw' hw'=>aV rfl (df q44) rfl) (qm (vb (decide ((2*(g.2.length:Int))<=(gI l ((i:Int)+1))))) ?_))))
  by_cases q55:(2*(g.2.length:Int))<=(gI l ((i:Int)+1))
  ·
   omega
  refine b6 (v:=vg [vi g.1,g_v]) (wy (df q55)) (λw' hw'=>aD (ds:=[vi g.1,g_v]) c7 zs3 (bx5.bel hw') rfl rfl) (b6 (v:=l_v) (wy (df q55)) (λw' hw'=>au zs1) (b6 (v:=vi ↑i) (wy (df q55)) (λw' hw'=>au zs7) (b6 (v:=Value.pointer (some (aT l_v 1 (Int.toNat ↑i)))) (wy (df q55)) (λw' hw'=>ad (α:=Int) (xs:=l) (v:=l_v) (i:=↑i) aY rfl rfl (Rl.bel hw') rfl (by omega) (by omega)) ?_)))
  refine b6 (v:=vi (gI l ↑i)) (wy (df q55)) (λw' hw'=>al (α:=Int) (xs:=l) (v:=l_v) (i:=↑i) ah rfl (Rl.bel hw') (by omega) (by omega) (by decide) rfl) (dZ (v:=vi (aL g (gI l ↑i))) (wy (df q55)) (λw' hw'=>aX (vals:=[vg [vi g.1,g_v],vi (gI l ↑i)]) Try.func43 fY fT rfl) (λw' hw'=>(gS w' g g_v ((Rg.bel hw')).ro (gI l ↑i) (by omega) (by omega)).mono λe w2 h2=>⟨h2.1,hw'.trans (h2.2.mono hw'.size)⟩) (b6 (v:=vg [vi g.1,g_v]) (wy (df q55)) (λw' hw'=>aD (ds:=[vi g.1,g_v]) c7 zs3 (bx5.bel hw') rfl rfl) ?_))
  refine b6 (v:=l_v) (wy (df q55)) (λw' hw'=>au zs1) (b6 (v:=vi ((i:Int)+1)) (wy (df q55)) (λw' hw'=>au rfl) (b6 (v:=Value.pointer (some (aT l_v 1 (Int.toNat ((i:Int)+1))))) (wy (df q55)) (λw' hw'=>ad (α:=Int) (xs:=l) (v:=l_v) (i:=(i:Int)+1) aY rfl rfl (Rl.bel hw') rfl (by omega) (by omega)) (b6 (v:=vi (gI l ((i:Int)+1))) (wy (df q55)) (λw' hw'=>al (α:=Int) (xs:=l) (v:=l_v) (i:=(i:Int)+1) ah rfl (Rl.bel hw') (by omega) (by omega) (by decide) rfl) ?_)))
  refine dZ (v:=vi (ak g (gI l ((i:Int)+1)))) (wy (df q55)) (λw' hw'=>aX (vals:=[vg [vi g.1,g_v],vi (gI l ((i:Int)+1))]) Try.func34 dX dY rfl) (λw' hw'=>(dU w' g g_v ((Rg.bel hw')).ro (gI l ((i:Int)+1)) (by omega) (by omega)).mono λe w2 h2=>⟨h2.1,hw'.trans (h2.2.mono hw'.size)⟩) (b6 (v:=vb (!(decide ((aL g (gI l ↑i))=(ak g (gI l ((i:Int)+1))))))) (wy (df q55)) (λw' hw'=>eQ (m:=aL g (gI l ↑i)) (n:=ak g (gI l ((i:Int)+1))) rfl rfl) (qv (vb (!(decide ((aL g (gI l ↑i))=(ak g (gI l ((i:Int)+1))))))) (λw' hw'=>aV rfl (df q55) rfl) (db ?_)))
  intro w22 hc23
  replace hc23:=aN hc23 g8
  by_cases p10:(aL g (gI l ↑i))=(ak g (gI l ((i:Int)+1)))
  ·
   refine aj rfl (congrArg Bool.not (dt p10)) (aw (am (a8 rfl (mz zs7 (lx (aE (m:=↑i) (n:=1) rfl rfl (by omega)) (ai ((i:Int)+1) (ag ?_)))))))
   have C24:=cg [] (ch10.n.seq (hc14.n.seq (ch20.n.seq hc23.n)))
   refine back2 (i+1,g8) _ _ ⟨bH.ca C24,zs1,zs2,zs3,rfl,Rg.cn hc23,Rl.cn hc23,bx5.cn hc23,by omega,?_⟩ ?_
   · show True
     trivial
   · show l.length-(i+1)<l.length-i
     omega
  exact absurd hc4 ‹_›
 refine aj rfl (df p2) (aC rfl (aa ?_))
 clear bx5
 refine a8 rfl (ma (vb true) (ag (aH (vs:=[vb true]) Try.func49 (.tmp rfl .nil) ?_)))
 have e0:(true:Bool)=(true):=by
   rfl
 exact⟨rb e0,bH.below⟩
theorem re(w0:World)(g:(Int)×(List Pt))(g_v:Value)(hg_v:Ro w0 g_v g.2):
    Calls Try.prog 45 #[vg [vi g.1,g_v]] w0 (λee w=>ee= .returned (vb (decide (∀e∈g.2,¬e.1=e.2)))/\eB w0.heap.size w0 w):=by
 refine aB Try.func45 rfl nq ?_
 have bH:=bp.start w0
 have Rg:=hg_v.sl
 refine aa (a8 rfl (du rfl (dk c0 (is 1) (1,0) rfl rfl ?_)))
 intro g4 w1 b3 ch2 bx5
 replace bx5:Bx g4 (is 1) w1 b3 [vi g.1,g_v]:=bx5
 refine ma (vb false) (ag (aa (aa (a8 rfl (ai 0 (ag (av ?_)))))))
 refine aW (σ:=Nat×aF) (λ⟨k,gq⟩ f w=>bp w0 gq w/\f 1=vp b3 0/\f 3=vi ↑k/\Sl gq (is 0) w g_v g.2/\Bx gq (is 1) w b3 [vi g.1,g_v]/\(k:Int)<=((g.2.length:Int):Int)/\(∀j:Nat,j<k->¬(gI g.2 ↑j).1=(gI g.2 ↑j).2)) (λ⟨k,gq⟩=>Int.toNat (((g.2.length:Int):Int)-(k:Int))) (0,g4) ?_ ?_
 · exact⟨bH.cn ch2,rfl,rfl,Rg.cn ch2,bx5,by omega,by exact λj h=>absurd h (Nat.not_lt_zero _)⟩
 clear Rg bx5 bH
 rintro⟨k,g8⟩ f6 w7 ⟨bH,zs1,zs3,Rg,bx5,hle_k,hlp⟩ back2
 refine aa (aa (a8 rfl (mz zs3 (lx (ae dD rfl rfl zs1 rfl) (lx (af bT rfl bx5 rfl) ?_)))))
 have len9:=(Rg).small
 refine lx (bh eM rfl Rg) (lx (b7 (m:=↑k) (n:=(g.2.length:Int)) rfl rfl) (ag ?_))
 by_cases p2:(k:Int)<(g.2.length:Int)
 ·
  refine ao rfl (dt p2) (aw (aa (av (aa (c6 g8 rfl dQ (by kernel_rfl) ?_)))))
  intro w11 ch10
  refine qx (λw' hw'=>ae dD rfl rfl zs1 rfl) ?_
  replace bx5:=bx5.cn ch10
  refine qx (λw' hw'=>af bT rfl (bx5.bel hw') rfl) (qz zs3 ?_)
  replace Rg:=Rg.cn ch10
  refine qx (λw' hw'=>ad (v:=g_v) (i:=↑k) eM rfl rfl (Rg.bel hw') rfl (by omega) (by omega)) (qx (λw' hw'=>bP dj rfl rfl rfl (by decide) (by decide) rfl) (qx (λw' hw'=>cB (v:=g_v) (i:=↑k) ah rfl (Rg.bel hw') (by omega) (by omega) (by decide) rfl) (qx (λw' hw'=>ae dD rfl rfl zs1 rfl) (qx (λw' hw'=>af bT rfl (bx5.bel hw') rfl) (qz zs3 (qx (λw' hw'=>ad (v:=g_v) (i:=↑k) eM rfl rfl (Rg.bel hw') rfl (by omega) (by omega)) (qx (λw' hw'=>bP dj rfl rfl rfl (by decide) (by decide) rfl) (qx (λw' hw'=>cB (v:=g_v) (i:=↑k) ah rfl (Rg.bel hw') (by omega) (by omega) (by decide) rfl) ?_))))))))
  refine qx (λw' hw'=>cq (m:=(gI g.2 ↑k).1) (n:=(gI g.2 ↑k).2) rfl rfl) (db ?_)
  intro w12 hc13
  replace hc13:=aN hc13 g8
  by_cases p4:((gI g.2 ↑k).1)=((gI g.2 ↑k).2)
  ·
   refine ao rfl (dt p4) (aa ?_)
   clear bx5
   refine a8 rfl (ma (vb false) (ag (aH (vs:=[vb false]) Try.func45 (.tmp rfl .nil) ?_)))
   have e0:(false:Bool)=(decide (∀e∈g.2,¬e.1=e.2)):=by
     exact qZ ‹_› ‹_›
   replace bH:=bH.cn ch10
   replace bH:=bH.cn hc13
   exact⟨rb e0,bH.below⟩
  refine aj rfl (df p4) (aw (am (a8 rfl (mz zs3 (lx (aE (m:=↑k) (n:=1) rfl rfl (by omega)) (ai ((k:Int)+1) (ag ?_)))))))
  replace bH:=bH.cn ch10
  refine back2 (k+1,g8) _ _ ⟨bH.cn hc13,zs1,rfl,Rg.cn hc13,bx5.cn hc13,by omega,?_⟩ ?_
  · show∀j:Nat,j<(k+1)->¬(gI g.2 ↑j).1=(gI g.2 ↑j).2
    exact pF hlp ‹_›
  · show Int.toNat (((g.2.length:Int):Int)-((k+1):Int))<Int.toNat (((g.2.length:Int):Int)-(k:Int))
    omega
 refine aj rfl (df p2) (aC rfl (aa ?_))
 clear bx5
 refine a8 rfl (ma (vb true) (ag (aH (vs:=[vb true]) Try.func45 (.tmp rfl .nil) ?_)))
 have e0:(true:Bool)=(decide (∀e∈g.2,¬e.1=e.2)):=by
   exact tk ‹_› hlp
 exact⟨rb e0,bH.below⟩
set_option maxHeartbeats 4000000 in
theorem pB(w0:World)(g:(Int)×(List Pt))(g_v:Value)(hg_v:Ro w0 g_v g.2)(hm:bf g):
    Calls Try.prog 22 #[vg [vi g.1,g_v]] w0 (λee w=>ee= .returned (vb (bL g))/\eB w0.heap.size w0 w):=by
 refine aB Try.func22 rfl nq ?_
 have bH:=bp.start w0
 have Rg:=hg_v.sl
 refine aa (a8 rfl (du rfl (dk c0 (is 1) (1,0) rfl rfl ?_)))
 intro g4 w1 b3 ch2 bx5
 replace bx5:Bx g4 (is 1) w1 b3 [vi g.1,g_v]:=bx5
 refine ma (vb false) (ag (aa (a8 rfl (lx (aD (ds:=[vi g.1,g_v]) c7 rfl bx5 rfl rfl) ?_))))
 replace Rg:=Rg.cn ch2
 refine lo (cI (aX (vals:=[vg [vi g.1,g_v],vn,vn]) Try.func31 ou oQ rfl) (kk w1 g g_v (Rg).ro ([]) vn (Sl.nil (γ:=c0) (S:=any)) ([]) vn (Sl.nil (γ:=c0) (S:=any)) (by exact hm) (by exact λh=>absurd h (by decide)) (by exact λh=>absurd h (by decide))) ?_)
 rintro⟨d7,v9⟩ w6 ⟨fr8,o10⟩
 obtain⟨g11,ch12,G11⟩:=kR g4 fr8 (λn=>if n=1 then 2 else 0)
 replace o10:=o10.gl G11 2
 refine mv (vt [v9,vi ((bq g ([]) ([])).2)]) (lx (aP rfl rfl) (lx (aP rfl rfl) (ma v9 (ai ((bq g ([]) ([])).2) (ag (aa ?_))))))
 clear o10
 refine a8 rfl (lx (ae dD rfl rfl rfl rfl) ?_)
 replace bx5:=bx5.cn ch12
 refine lx (af ah rfl bx5 rfl) (lx (eX (m:=g.1) (n:=2) rfl rfl) (mv (vb (decide (2<=g.1))) ?_))
 by_cases q13:2<=g.1
 ·
  refine lv (vi ((bq g ([]) ([])).2)) (wy (dt q13)) (au rfl) (lv (vb (decide (((bq g ([]) ([])).2)=1))) (wy (dt q13)) (cq (m:=(bq g ([]) ([])).2) (n:=1) rfl rfl) (lw (vb (decide (((bq g ([]) ([])).2)=1))) (aZ rfl (dt q13) rfl) (mv (vb (decide (((bq g ([]) ([])).2)=1))) ?_)))
  by_cases q17:((bq g ([]) ([])).2)=1
  ·
   refine lv (vg [vi g.1,g_v]) (wy (dt q17)) (aD (ds:=[vi g.1,g_v]) c7 rfl bx5 rfl rfl) ?_
   replace Rg:=Rg.cn ch12
   refine du (wy (dt q17)) (cA (v:=vb (decide (∀e∈g.2,¬e.1=e.2))) (aX (vals:=[vg [vi g.1,g_v]]) Try.func45 t8 tK rfl) (re w6 g g_v (Rg).ro) ?_)
   intro w13 hb14
   replace hb14:=aN hb14 g11
   refine lw (vb (decide (∀e∈g.2,¬e.1=e.2))) (aZ rfl (dt q17) rfl) (mv (vb (decide (∀e∈g.2,¬e.1=e.2))) ?_)
   by_cases q21:(decide (∀e∈g.2,¬e.1=e.2))=true
   ·
    replace bx5:=bx5.cn hb14
    refine lv (vg [vi g.1,g_v]) (wy q21) (aD (ds:=[vi g.1,g_v]) c7 rfl bx5 rfl rfl) ?_
    replace Rg:=Rg.cn hb14
    refine du (wy q21) (cI (aX (vals:=[vg [vi g.1,g_v]]) Try.func17 tc sY rfl) (nK w13 g g_v (Rg).ro (by exact hm)) ?_)
    rintro⟨d16,v18,v20⟩ w15 ⟨fr17,o19,o21⟩
    obtain⟨g22,ch23,G22⟩:=kR g11 fr17 (λn=>if n=1 then 3 else if n=2 then 4 else 0)
    replace o19:=o19.gl G22 3
    replace o21:=o21.gl G22 4
    refine lv (v20) (wy q21) (mA gc rfl bN rfl rfl) ?_
    have len24:=(o21.flat).small
    refine lv (vi (List.length (((a9 g).2).1):Int)) (wy q21) (bh aY rfl o21.flat) (lv (vb (decide ((List.length (((a9 g).2).1):Int)=0))) (wy q21) (cq (m:=(List.length (((a9 g).2).1):Int)) (n:=0) rfl rfl) (lw (vb (decide ((List.length (((a9 g).2).1):Int)=0))) (aZ rfl q21 rfl) (ma (vb (decide ((List.length (((a9 g).2).1):Int)=0))) (ag (aH (vs:=[vb (decide ((List.length (((a9 g).2).1):Int)=0))]) Try.func22 (.tmp rfl .nil) ?_)))))
    have e0:(decide ((List.length (((a9 g).2).1):Int)=0):Bool)=(bL g):=by
      exact uT hm ‹_› ‹_› (of_decide_eq_true ‹_›)
    have C25:=cg [] (ch2.n.seq (ch12.n.seq (hb14.n.seq ch23.n)))
    replace bH:=bH.ca C25
    exact⟨(congrArg (a₁:=decide ((List.length (((a9 g).2).1):Int)=0)) (λ(z0:Bool)=>Ending.returned (vb z0)) e0),bH.below⟩
   refine ax (wn (Bool.eq_false_iff.2 q21)) (ax (wn (Bool.eq_false_iff.2 q21)) (ax (wn (Bool.eq_false_iff.2 q21)) (ax (wn (Bool.eq_false_iff.2 q21)) (ax (wn (Bool.eq_false_iff.2 q21)) (lw (vb false) (aV rfl (Bool.eq_false_iff.2 q21) rfl) (ma (vb false) (ag (aH (vs:=[vb false]) Try.func22 (.tmp rfl .nil) ?_))))))))
   have e0:(false:Bool)=(bL g):=by
     exact uX hm (λh=>absurd (dt h) ‹_›)
   have C26:=cg [] (ch2.n.seq (ch12.n.seq hb14.n))
   replace bH:=bH.ca C26
   exact⟨rb e0,bH.below⟩
  refine ax (wn (df q17)) (ax (wn (df q17)) (lw (vb false) (aV rfl (df q17) rfl) (mv (vb false) (ax (wn rfl) (ax (wn rfl) (ax (wn rfl) (ax (wn rfl) (ax (wn rfl) (lw (vb false) (aV rfl rfl rfl) (ma (vb false) (ag (aH (vs:=[vb false]) Try.func22 (.tmp rfl .nil) ?_))))))))))))
  have e0:(false:Bool)=(bL g):=by
    exact uY hm ‹_›
  replace bH:=bH.cn ch2
  replace bH:=bH.cn ch12
  exact⟨rb e0,bH.below⟩
 refine ax (wn (df q13)) (ax (wn (df q13)) (lw (vb false) (aV rfl (df q13) rfl) (mv (vb false) (ax (wn rfl) (ax (wn rfl) (lw (vb false) (aV rfl rfl rfl) (mv (vb false) (ax (wn rfl) (ax (wn rfl) (ax (wn rfl) (ax (wn rfl) (ax (wn rfl) (lw (vb false) (aV rfl rfl rfl) (ma (vb false) ?_))))))))))))))
 refine ag (aH (vs:=[vb false]) Try.func22 (.tmp rfl .nil) ?_)
 have e0:(false:Bool)=(bL g):=by
   exact vw hm ‹_›
 replace bH:=bH.cn ch2
 replace bH:=bH.cn ch12
 exact⟨rb e0,bH.below⟩
theorem qU(w0:World)(g:(Int)×(List Pt))(g_v:Value)(hg_v:Ro w0 g_v g.2)(l:List Int)(l_v:Value)(hl_v:Ro w0 l_v l)(nodes:Bool)(hm:bf g)(ho:vX g l):
    Calls Try.prog 50 #[vg [vi g.1,g_v],l_v,vb nodes] w0 (λee w=>ee= .returned (vb true)/\eB w0.heap.size w0 w):=by
 refine aB Try.func50 rfl nq ?_
 have bH:=bp.start w0
 have Rg:=hg_v.sl
 have Rl:=hl_v.sl
 have hm0:=hm
 obtain⟨hm1,hm2,hm3,hm4⟩:=hm0
 refine aa (a8 rfl (du rfl (dk c0 (is 1) (1,0) rfl rfl ?_)))
 intro g4 w1 b3 ch2 bx5
 replace bx5:Bx g4 (is 1) w1 b3 [vi g.1,g_v]:=bx5
 refine ma (vb false) (ag (aa (aa (a8 rfl (ai 0 (ag (av ?_)))))))
 refine aW (σ:=Nat×aF) (λ⟨i,gq⟩ f w=>bp w0 gq w/\f 1=l_v/\f 2=vb nodes/\f 3=vp b3 0/\f 7=vi ↑i/\Sl gq (is 0) w g_v g.2/\Sl gq (is 0) w l_v l/\Bx gq (is 1) w b3 [vi g.1,g_v]/\(i:Int)<=((l.length:Int):Int)/\(True)) (λ⟨i,gq⟩=>Int.toNat (((l.length:Int):Int)-(i:Int))) (0,g4) ?_ ?_
 · exact⟨bH.cn ch2,rfl,rfl,rfl,rfl,Rg.cn ch2,Rl.cn ch2,bx5,by omega,by trivial⟩
 clear Rg Rl bx5 bH
 rintro⟨i,g8⟩ f6 w7 ⟨bH,zs1,zs2,zs3,zs7,Rg,Rl,bx5,hle_i,hinv⟩ back2
 refine aa (aa (a8 rfl (mz zs7 (mz zs1 ?_))))
 have len9:=(Rl).small
 refine lx (bh aY rfl Rl) (lx (b7 (m:=↑i) (n:=(l.length:Int)) rfl rfl) (ag ?_))
 by_cases p2:(i:Int)<(l.length:Int)
 ·
  refine ao rfl (dt p2) (aw (aa (av (aa (a8 rfl (ai 0 (ag (av ?_))))))))
  refine aW (σ:=Nat×aF) (λ⟨j,gq⟩ f w=>bp w0 gq w/\f 1=l_v/\f 2=vb nodes/\f 3=vp b3 0/\f 7=vi ↑i/\f 8=vi ↑j/\Sl gq (is 0) w g_v g.2/\Sl gq (is 0) w l_v l/\Bx gq (is 1) w b3 [vi g.1,g_v]/\(j:Int)<=((i:Int):Int)/\(True)) (λ⟨j,gq⟩=>Int.toNat (((i:Int):Int)-(j:Int))) (0,g8) ?_ ?_
  · exact⟨bH,zs1,zs2,zs3,zs7,rfl,Rg,Rl,bx5,by omega,by trivial⟩
  clear Rg Rl bx5 bH
  rintro⟨j,g12⟩ f10 w11 ⟨bH,zs1,zs2,zs3,zs7,zs8,Rg,Rl,bx5,hle_j,hinv2⟩ back5
  refine aa (aa (a8 rfl (mz zs8 (mz zs7 (lx (b7 (m:=↑j) (n:=↑i) rfl rfl) (ag ?_))))))
  by_cases p5:(j:Int)<(i:Int)
  ·
   refine ao rfl (dt p5) ?_
   obtain⟨ho1,ho2⟩:=ho.ne j i (by omega) (by omega)
   obtain⟨ho3,ho4⟩:=ho.rg j (by omega)
   obtain⟨ho5,ho6⟩:=ho.rg i (by omega)
   refine aw (aa (av (aa (c6 g12 rfl dQ (by kernel_rfl) ?_))))
   intro w14 ch13
   refine qz zs1 (qz zs8 ?_)
   replace Rl:=Rl.cn ch13
   refine qx (λw' hw'=>ad (v:=l_v) (i:=↑j) aY rfl rfl (Rl.bel hw') rfl (by omega) (by omega)) (qx (λw' hw'=>al (v:=l_v) (i:=↑j) ah rfl (Rl.bel hw') (by omega) (by omega) (by decide) rfl) (qx (λw' hw'=>e9 (m:=(gI l ↑j)) (n:=2) rfl rfl (by omega) (by omega) (by omega)) (qz zs1 (qz zs7 (qx (λw' hw'=>ad (v:=l_v) (i:=↑i) aY rfl rfl (Rl.bel hw') rfl (by omega) (by omega)) (qx (λw' hw'=>al (v:=l_v) (i:=↑i) ah rfl (Rl.bel hw') (by omega) (by omega) (by decide) rfl) (qx (λw' hw'=>e9 (m:=(gI l ↑i)) (n:=2) rfl rfl (by omega) (by omega) (by omega)) (qx (λw' hw'=>cq (m:=(gI l ↑j)/2) (n:=(gI l ↑i)/2) rfl rfl) (qm (vb (decide (((gI l ↑j)/2)=((gI l ↑i)/2)))) ?_)))))))))
   by_cases q31:((gI l ↑j)/2)=((gI l ↑i)/2)
   ·
    exact absurd ‹_› ho1
   refine b6 (v:=vb nodes) (wy (df q31)) (λw' hw'=>au zs2) (b6 (v:=vb nodes) (wy (df q31)) (λw' hw'=>au rfl) ?_)
   by_cases q33:nodes=true
   ·
    replace bx5:=bx5.cn ch13
    refine b6 (v:=vg [vi g.1,g_v]) (wy q33) (λw' hw'=>aD (ds:=[vi g.1,g_v]) c7 zs3 (bx5.bel hw') rfl rfl) (b6 (v:=l_v) (wy q33) (λw' hw'=>au zs1) (b6 (v:=vi ↑j) (wy q33) (λw' hw'=>au zs8) (b6 (v:=Value.pointer (some (aT l_v 1 (Int.toNat ↑j)))) (wy q33) (λw' hw'=>ad (α:=Int) (xs:=l) (v:=l_v) (i:=↑j) aY rfl rfl (Rl.bel hw') rfl (by omega) (by omega)) (b6 (v:=vi (gI l ↑j)) (wy q33) (λw' hw'=>al (α:=Int) (xs:=l) (v:=l_v) (i:=↑j) ah rfl (Rl.bel hw') (by omega) (by omega) (by decide) rfl) ?_))))
    replace Rg:=Rg.cn ch13
    refine dZ (v:=vi (ak g (gI l ↑j))) (wy q33) (λw' hw'=>aX (vals:=[vg [vi g.1,g_v],vi (gI l ↑j)]) Try.func34 dX dY rfl) (λw' hw'=>(dU w' g g_v ((Rg.bel hw')).ro (gI l ↑j) (by omega) (by omega)).mono λe w2 h2=>⟨h2.1,hw'.trans (h2.2.mono hw'.size)⟩) (b6 (v:=vg [vi g.1,g_v]) (wy q33) (λw' hw'=>aD (ds:=[vi g.1,g_v]) c7 zs3 (bx5.bel hw') rfl rfl) (b6 (v:=l_v) (wy q33) (λw' hw'=>au zs1) (b6 (v:=vi ↑i) (wy q33) (λw' hw'=>au zs7) ?_)))
    refine b6 (v:=Value.pointer (some (aT l_v 1 (Int.toNat ↑i)))) (wy q33) (λw' hw'=>ad (α:=Int) (xs:=l) (v:=l_v) (i:=↑i) aY rfl rfl (Rl.bel hw') rfl (by omega) (by omega)) (b6 (v:=vi (gI l ↑i)) (wy q33) (λw' hw'=>al (α:=Int) (xs:=l) (v:=l_v) (i:=↑i) ah rfl (Rl.bel hw') (by omega) (by omega) (by decide) rfl) (dZ (v:=vi (ak g (gI l ↑i))) (wy q33) (λw' hw'=>aX (vals:=[vg [vi g.1,g_v],vi (gI l ↑i)]) Try.func34 dX dY rfl) (λw' hw'=>(dU w' g g_v ((Rg.bel hw')).ro (gI l ↑i) (by omega) (by omega)).mono λe w2 h2=>⟨h2.1,hw'.trans (h2.2.mono hw'.size)⟩) ?_))
    refine b6 (v:=vb (decide ((ak g (gI l ↑j))=(ak g (gI l ↑i))))) (wy q33) (λw' hw'=>cq (m:=ak g (gI l ↑j)) (n:=ak g (gI l ↑i)) rfl rfl) (b6 (v:=vb (decide ((ak g (gI l ↑j))=(ak g (gI l ↑i))))) (wy (df q31)) (λw' hw'=>aZ rfl q33 rfl) (qv (vb (decide ((ak g (gI l ↑j))=(ak g (gI l ↑i))))) (λw' hw'=>aV rfl (df q31) rfl) (db ?_)))
    intro w15 hc16
    replace hc16:=aN hc16 g12
    by_cases p7:(ak g (gI l ↑j))=(ak g (gI l ↑i))
    ·
     exact absurd ‹_› ho2
    refine aj rfl (df p7) (aw (am (a8 rfl (mz zs8 (lx (aE (m:=↑j) (n:=1) rfl rfl (by omega)) (ai ((j:Int)+1) (ag ?_)))))))
    replace bH:=bH.cn ch13
    refine back5 (j+1,g12) _ _ ⟨bH.cn hc16,zs1,zs2,zs3,zs7,rfl,Rg.cn hc16,Rl.cn hc16,bx5.cn hc16,by omega,?_⟩ ?_
    · show True
      trivial
    · show Int.toNat (((i:Int):Int)-((j+1):Int))<Int.toNat (((i:Int):Int)-(j:Int))
      omega
   refine bx (wn (Bool.eq_false_iff.2 q33)) (bx (wn (Bool.eq_false_iff.2 q33)) (bx (wn (Bool.eq_false_iff.2 q33)) (bx (wn (Bool.eq_false_iff.2 q33)) (bx (wn (Bool.eq_false_iff.2 q33)) (bx (wn (Bool.eq_false_iff.2 q33)) (bx (wn (Bool.eq_false_iff.2 q33)) (bx (wn (Bool.eq_false_iff.2 q33)) (bx (wn (Bool.eq_false_iff.2 q33)) (bx (wn (Bool.eq_false_iff.2 q33)) ?_)))))))))
   refine bx (wn (Bool.eq_false_iff.2 q33)) (bx (wn (Bool.eq_false_iff.2 q33)) (bx (wn (Bool.eq_false_iff.2 q33)) (b6 (v:=vb false) (wy (df q31)) (λw' hw'=>aV rfl (Bool.eq_false_iff.2 q33) rfl) (qv (vb false) (λw' hw'=>aV rfl (df q31) rfl) (db ?_)))))
   intro w17 hc18
   replace hc18:=aN hc18 g12
   refine aj rfl rfl (aw (am (a8 rfl (mz zs8 (lx (aE (m:=↑j) (n:=1) rfl rfl (by omega)) (ai ((j:Int)+1) (ag ?_)))))))
   replace bH:=bH.cn ch13
   refine back5 (j+1,g12) _ _ ⟨bH.cn hc18,zs1,zs2,zs3,zs7,rfl,(Rg.cn ch13).cn hc18,Rl.cn hc18,(bx5.cn ch13).cn hc18,by omega,?_⟩ ?_
   · show True
     trivial
   · show Int.toNat (((i:Int):Int)-((j+1):Int))<Int.toNat (((i:Int):Int)-(j:Int))
     omega
  refine aj rfl (df p5) (aC rfl (am (a8 rfl (mz zs7 (lx (aE (m:=↑i) (n:=1) rfl rfl (by omega)) (ai ((i:Int)+1) (ag ?_)))))))
  refine back2 (i+1,g12) _ _ ⟨bH,zs1,zs2,zs3,rfl,Rg,Rl,bx5,by omega,?_⟩ ?_
  · show True
    trivial
  · show Int.toNat (((l.length:Int):Int)-((i+1):Int))<Int.toNat (((l.length:Int):Int)-(i:Int))
    omega
 refine aj rfl (df p2) (aC rfl (aa ?_))
 clear bx5
 refine a8 rfl (ma (vb true) (ag (aH (vs:=[vb true]) Try.func50 (.tmp rfl .nil) ?_)))
 have e0:(true:Bool)=(true):=by
   rfl
 exact⟨rb e0,bH.below⟩
set_option maxHeartbeats 8000000 in
theorem rc(w0:World)(g:(Int)×(List Pt))(g_v:Value)(hg_v:Ro w0 g_v g.2)(ears:fN)(ears_v:Value)(hears_v:Ro w0 ears_v ears)(hm:bf g)(hE:eW g ears):
    Calls Try.prog 27 #[vg [vi g.1,g_v],ears_v] w0 (λee w=>ee= .returned (vb true)/\eB w0.heap.size w0 w):=by
 refine aB Try.func27 rfl nq ?_
 have bH:=bp.start w0
 have Rg:=hg_v.sl
 have Rears:=hears_v.sl
 have hm0:=hm
 obtain⟨hm1,hm2,hm3,hm4⟩:=hm0
 refine aa (a8 rfl (du rfl (dk c0 (is 1) (1,0) rfl rfl ?_)))
 intro g4 w1 b3 ch2 bx5
 replace bx5:Bx g4 (is 1) w1 b3 [vi g.1,g_v]:=bx5
 refine ma (vb false) (ag (aa (a8 rfl (lx (ae dD rfl rfl rfl rfl) (lx (af bT rfl bx5 rfl) ?_)))))
 replace Rg:=Rg.cn ch2
 have len6:=(Rg).small
 refine lx (bh eM rfl Rg) (lo (cS (α:=Bool) (l:=(g.2.length:Int)) (cp:=(g.2.length:Int)) g4 (is 2) (is 2) (2,0) rfl false eG dJ rfl rfl rfl (by omega) (by omega) (by omega) (by omega) ?_))
 intro g7 w8 v9 ch10 o11 hcap_
 clear hcap_
 refine ma v9 (ag (aa (a8 rfl (lx (ae dD rfl rfl rfl rfl) ?_))))
 replace bx5:=bx5.cn ch10
 refine lx (af ah rfl bx5 rfl) (lo (cS (α:=Bool) (l:=g.1) (cp:=g.1) g7 (is 3) (is 3) (3,0) rfl false eG dJ rfl rfl rfl (by omega) (by omega) (by omega) (by omega) ?_))
 intro g12 w13 v14 ch15 o16 hcap_
 clear hcap_
 refine ma v14 (ag (aa (aa (a8 rfl (ai 0 (ag (av ?_)))))))
 refine aW (σ:=Nat×(List Bool)×(List Bool)×aF) (λ⟨i,eb,nb,gq⟩ f w=>bp w0 gq w/\f 1=ears_v/\f 2=vp b3 0/\f 5=v9/\f 6=v14/\f 7=vi ↑i/\Sl gq (is 0) w g_v g.2/\Sl gq (is 0) w ears_v ears/\Bx gq (is 1) w b3 [vi g.1,g_v]/\Ow gq (is 2) (is 2) w v9 eb/\Ow gq (is 3) (is 3) w v14 nb/\(i:Int)<=((ears.length:Int):Int)/\(kJ g ears eb nb i)) (λ⟨i,eb,nb,gq⟩=>Int.toNat (((ears.length:Int):Int)-(i:Int))) (0,(List.replicate (Int.toNat (g.2.length:Int)) false),(List.replicate (Int.toNat g.1) false),g12) ?_ ?_
 have C17:=cg [] (ch2.n.seq (ch10.n.seq ch15.n))
 · exact⟨bH.ca C17,rfl,rfl,rfl,rfl,rfl,(Rg.cn ch10).cn ch15,Rears.ca C17,bx5.cn ch15,o11.cn ch15,o16,by omega,by exact kJ.start hm⟩
 clear Rg Rears bx5 o11 o16 bH
 rintro⟨i,eb,nb,g20⟩ f18 w19 ⟨bH,zs1,zs2,zs5,zs6,zs7,Rg,Rears,bx5,o11,o16,hle_i,hbI⟩ back4
 have hel:=hbI.el
 have hnl:=hbI.nl
 refine aa (aa (a8 rfl (mz zs7 (mz zs1 ?_))))
 have len21:=(Rears).small
 refine lx (bh dE rfl Rears) (lx (b7 (m:=↑i) (n:=(ears.length:Int)) rfl rfl) (ag ?_))
 by_cases p4:(i:Int)<(ears.length:Int)
 ·
  refine ao rfl (dt p4) ?_
  have hne:=hE.ne ‹_›
  obtain⟨hf0,hf1⟩:=ru (hE.wk (k:=i) ‹_›) (by omega)
  obtain⟨hl0,hl1⟩:=hE.lst (k:=i) ‹_›
  obtain⟨hfa0,hfa1⟩:=gA hm (h:=gI (gI ears ↑i) 0) hf0 hf1
  obtain⟨hta0,hta1⟩:=dz hm (h:=gI (gI ears ↑i) ((List.length (gI ears ↑i):Int)-1)) hl0 hl1
  refine aw (aa (av (aa (a8 rfl (mz zs1 (mz zs7 (lx (ad (v:=ears_v) (i:=↑i) dE rfl rfl Rears rfl (by omega) (by omega)) ?_)))))))
  obtain⟨v22,cel23,r24⟩:=nS (r:=(i:Int)) Rears (by omega) (by omega)
  refine lx (bv bN rfl cel23) (ma v22 (ag (aa (aa (a8 rfl (mv v22 ?_))))))
  have len25:=(r24).small
  refine lx (bh aY rfl r24) (lx (cq (m:=(List.length (gI ears ↑i):Int)) (n:=0) rfl rfl) (mv (vb (decide ((List.length (gI ears ↑i):Int)=0))) ?_))
  by_cases q35:(List.length (gI ears ↑i):Int)=0
  ·
   omega
  refine lv (vg [vi g.1,g_v]) (wy (df q35)) (aD (ds:=[vi g.1,g_v]) c7 zs2 bx5 rfl rfl) (lv (v22) (wy (df q35)) (au rfl) (lv (vi ↑i) (wy (df q35)) (au zs7) (lv (vb (decide ((i:Int)=0))) (wy (df q35)) (cq (m:=↑i) (n:=0) rfl rfl) (du (wy (df q35)) (cA (v:=vb true) (aX (vals:=[vg [vi g.1,g_v],v22,vb (decide ((i:Int)=0))]) Try.func49 sB tj rfl) (pE w19 g g_v (Rg).ro (gI ears ↑i) v22 (r24).ro (decide ((i:Int)=0)) (by exact hm) (by exact hE.wk ‹_›)) ?_)))))
  intro w26 hb27
  replace hb27:=aN hb27 g20
  refine lv (vb false) (wy (df q35)) (dV (b:=true) rfl) (lw (vb false) (aV rfl (df q35) rfl) (mv (vb false) ?_))
  replace bx5:=bx5.cn hb27
  refine lv (vg [vi g.1,g_v]) (wy rfl) (aD (ds:=[vi g.1,g_v]) c7 zs2 bx5 rfl rfl) (lv (v22) (wy rfl) (au rfl) ?_)
  replace Rg:=Rg.cn hb27
  replace r24:=r24.cn hb27
  refine du (wy rfl) (cA (v:=vb true) (aX (vals:=[vg [vi g.1,g_v],v22,vb true]) Try.func50 su sj rfl) (qU w26 g g_v (Rg).ro (gI ears ↑i) v22 (r24).ro true (by exact hm) (by exact hE.on ‹_›)) ?_)
  intro w28 hb29
  replace hb29:=aN hb29 g20
  refine lv (vb false) (wy rfl) (dV (b:=true) rfl) (lw (vb false) (aV rfl rfl rfl) (ag (aj rfl rfl (aw (aa (c6 g20 rfl dQ (by kernel_rfl) ?_))))))
  intro w31 ch30
  replace bx5:=(bx5.cn hb29).cn ch30
  refine qx (λw' hw'=>aD (ds:=[vi g.1,g_v]) c7 zs2 (bx5.bel hw') rfl rfl) (qm v22 ?_)
  replace r24:=(r24.cn hb29).cn ch30
  refine qx (λw' hw'=>ad (v:=v22) (i:=0) aY rfl rfl (r24.bel hw') rfl (by omega) (by omega)) (qx (λw' hw'=>al (v:=v22) (i:=0) ah rfl (r24.bel hw') (by omega) (by omega) (by decide) rfl) ?_)
  replace Rg:=(Rg.cn hb29).cn ch30
  refine dZ (v:=vi (ak g (gI (gI ears ↑i) 0))) rfl (λw' hw'=>aX (vals:=[vg [vi g.1,g_v],vi (gI (gI ears ↑i) 0)]) Try.func34 dX dY rfl) (λw' hw'=>(dU w' g g_v ((Rg.bel hw')).ro (gI (gI ears ↑i) 0) (by omega) (by omega)).mono λe w2 h2=>⟨h2.1,hw'.trans (h2.2.mono hw'.size)⟩) (qx (λw' hw'=>aD (ds:=[vi g.1,g_v]) c7 zs2 (bx5.bel hw') rfl rfl) (qm v22 (qm v22 (qx (λw' hw'=>bh aY rfl (r24.bel hw')) (qx (λw' hw'=>cT (m:=(List.length (gI ears ↑i):Int)) (n:=1) rfl rfl (by omega)) (qx (λw' hw'=>ad (v:=v22) (i:=(List.length (gI ears ↑i):Int)-1) aY rfl rfl (r24.bel hw') rfl (by omega) (by omega)) ?_))))))
  refine qx (λw' hw'=>al (v:=v22) (i:=(List.length (gI ears ↑i):Int)-1) ah rfl (r24.bel hw') (by omega) (by omega) (by decide) rfl) (dZ (v:=vi (aL g (gI (gI ears ↑i) ((List.length (gI ears ↑i):Int)-1)))) rfl (λw' hw'=>aX (vals:=[vg [vi g.1,g_v],vi (gI (gI ears ↑i) ((List.length (gI ears ↑i):Int)-1))]) Try.func43 fY fT rfl) (λw' hw'=>(gS w' g g_v ((Rg.bel hw')).ro (gI (gI ears ↑i) ((List.length (gI ears ↑i):Int)-1)) (by omega) (by omega)).mono λe w2 h2=>⟨h2.1,hw'.trans (h2.2.mono hw'.size)⟩) (qv (vi (ak g (gI (gI ears ↑i) 0))) (λw' hw'=>c9 rfl) (qv (vi (aL g (gI (gI ears ↑i) ((List.length (gI ears ↑i):Int)-1)))) (λw' hw'=>c9 rfl) ?_)))
  refine db ?_
  intro w32 hc33
  replace hc33:=aN hc33 g20
  refine aa (aa (a8 rfl (mz zs7 (lx (ej (m:=↑i) (n:=0) rfl rfl) (mv (vb (decide (0<(i:Int)))) ?_)))))
  by_cases q64:0<(i:Int)
  ·
   obtain⟨hab1,hab2,hab3⟩:=hbI.ab hE hm ‹_› ‹_›
   refine lv (vi (ak g (gI (gI ears ↑i) 0))) (wy (dt q64)) (au rfl) (lv (vi (aL g (gI (gI ears ↑i) ((List.length (gI ears ↑i):Int)-1)))) (wy (dt q64)) (au rfl) (lv (vb (decide ((ak g (gI (gI ears ↑i) 0))=(aL g (gI (gI ears ↑i) ((List.length (gI ears ↑i):Int)-1)))))) (wy (dt q64)) (cq (m:=ak g (gI (gI ears ↑i) 0)) (n:=aL g (gI (gI ears ↑i) ((List.length (gI ears ↑i):Int)-1))) rfl rfl) (lv (vb (decide ((ak g (gI (gI ears ↑i) 0))=(aL g (gI (gI ears ↑i) ((List.length (gI ears ↑i):Int)-1)))))) (wy (dt q64)) (au rfl) ?_)))
   by_cases q68:(ak g (gI (gI ears ↑i) 0))=(aL g (gI (gI ears ↑i) ((List.length (gI ears ↑i):Int)-1)))
   ·
    exact absurd ‹_› hab1
   refine lv (v14) (wy (df q68)) (au zs6) (lv (vi (ak g (gI (gI ears ↑i) 0))) (wy (df q68)) (au rfl) ?_)
   have C34:=cg [] (hb27.n.seq (hb29.n.seq (ch30.n.seq hc33.n)))
   replace o16:=o16.ca C34
   refine lv (Value.pointer (some (aT v14 1 (Int.toNat (ak g (gI (gI ears ↑i) 0)))))) (wy (df q68)) (ad (α:=Bool) (xs:=nb) (v:=v14) (i:=ak g (gI (gI ears ↑i) 0)) eG rfl rfl o16.flat rfl (by omega) (by omega)) (lv (vb (gI nb (ak g (gI (gI ears ↑i) 0)))) (wy (df q68)) (al (α:=Bool) (xs:=nb) (v:=v14) (i:=ak g (gI (gI ears ↑i) 0)) dJ rfl o16.flat (by omega) (by omega) (by decide) rfl) (lv (vb (!(gI nb (ak g (gI (gI ears ↑i) 0))))) (wy (df q68)) (dV (b:=(gI nb (ak g (gI (gI ears ↑i) 0)))) rfl) (lv (vb (!(gI nb (ak g (gI (gI ears ↑i) 0))))) (wy (dt q64)) (aV rfl (df q68) rfl) ?_)))
   refine lv (vb (!(gI nb (ak g (gI (gI ears ↑i) 0))))) (wy (dt q64)) (au rfl) ?_
   by_cases q75:(gI nb (ak g (gI (gI ears ↑i) 0)))=true
   ·
    refine lv (v14) (wy (congrArg Bool.not q75)) (au zs6) (lv (vi (aL g (gI (gI ears ↑i) ((List.length (gI ears ↑i):Int)-1)))) (wy (congrArg Bool.not q75)) (au rfl) (lv (Value.pointer (some (aT v14 1 (Int.toNat (aL g (gI (gI ears ↑i) ((List.length (gI ears ↑i):Int)-1))))))) (wy (congrArg Bool.not q75)) (ad (α:=Bool) (xs:=nb) (v:=v14) (i:=aL g (gI (gI ears ↑i) ((List.length (gI ears ↑i):Int)-1))) eG rfl rfl o16.flat rfl (by omega) (by omega)) ?_))
    refine lv (vb (gI nb (aL g (gI (gI ears ↑i) ((List.length (gI ears ↑i):Int)-1))))) (wy (congrArg Bool.not q75)) (al (α:=Bool) (xs:=nb) (v:=v14) (i:=aL g (gI (gI ears ↑i) ((List.length (gI ears ↑i):Int)-1))) dJ rfl o16.flat (by omega) (by omega) (by decide) rfl) (lv (vb (!(gI nb (aL g (gI (gI ears ↑i) ((List.length (gI ears ↑i):Int)-1)))))) (wy (congrArg Bool.not q75)) (dV (b:=(gI nb (aL g (gI (gI ears ↑i) ((List.length (gI ears ↑i):Int)-1))))) rfl) (lv (vb (!(gI nb (aL g (gI (gI ears ↑i) ((List.length (gI ears ↑i):Int)-1)))))) (wy (dt q64)) (aV rfl (congrArg Bool.not q75) rfl) ?_))
    refine lw (vb (!(gI nb (aL g (gI (gI ears ↑i) ((List.length (gI ears ↑i):Int)-1)))))) (aZ rfl (dt q64) rfl) (ag ?_)
    by_cases p10:(gI nb (aL g (gI (gI ears ↑i) ((List.length (gI ears ↑i):Int)-1))))=true
    ·
     refine aj rfl (congrArg Bool.not p10) (aw (aa (aa (a8 rfl (ai 0 (ag (av ?_)))))))
     refine aW (σ:=Nat×(List Bool)×aF) (λ⟨k,eb1,gq⟩ f w=>bp w0 gq w/\f 1=ears_v/\f 2=vp b3 0/\f 5=v9/\f 6=v14/\f 7=vi ↑i/\f 8=v22/\f 11=vi ↑k/\Sl gq (is 0) w g_v g.2/\Sl gq (is 0) w ears_v ears/\Bx gq (is 1) w b3 [vi g.1,g_v]/\Ow gq (is 2) (is 2) w v9 eb1/\Ow gq (is 3) (is 3) w v14 nb/\Sl gq (is 0) w v22 (gI ears ↑i)/\(k:Int)<=((List.length (gI ears ↑i):Int):Int)/\(pX g ears i eb1 k)) (λ⟨k,eb1,gq⟩=>Int.toNat (((List.length (gI ears ↑i):Int):Int)-(k:Int))) (0,eb,g20) ?_ ?_
     · exact⟨bH.ca C34,zs1,zs2,zs5,zs6,zs7,rfl,rfl,Rg.cn hc33,Rears.ca C34,bx5.cn hc33,o11.ca C34,o16,r24.cn hc33,by omega,by exact hbI.em⟩
     clear Rg Rears bx5 o11 o16 r24 bH
     rintro⟨k,eb1,g37⟩ f35 w36 ⟨bH,zs1,zs2,zs5,zs6,zs7,zs8,zs11,Rg,Rears,bx5,o11,o16,r24,hle_k,hem⟩ back13
     have hel1:=hem.el
     refine aa (aa (a8 rfl (mz zs11 (mz zs8 (lx (bh aY rfl r24) (lx (b7 (m:=↑k) (n:=(List.length (gI ears ↑i):Int)) rfl rfl) (ag ?_)))))))
     by_cases p13:(k:Int)<(List.length (gI ears ↑i):Int)
     ·
      refine ao rfl (dt p13) ?_
      obtain⟨hk0,hk1⟩:=(hE.on (k:=i) ‹_›).rg k ‹_›
      obtain⟨hkf0,hkf1⟩:=gA hm (h:=gI (gI ears ↑i) ↑k) hk0 hk1
      refine aw (aa (av (aa (aa (a8 rfl (mz zs5 (mz zs8 (mz zs11 (lx (ad (v:=v22) (i:=↑k) aY rfl rfl r24 rfl (by omega) (by omega)) (lx (al (v:=v22) (i:=↑k) ah rfl r24 (by omega) (by omega) (by decide) rfl) (lx (e9 (m:=(gI (gI ears ↑i) ↑k)) (n:=2) rfl rfl (by omega) (by omega) (by omega)) ?_)))))))))))
      refine lx (ad (v:=v9) (i:=(gI (gI ears ↑i) ↑k)/2) eG rfl rfl o11.flat rfl (by omega) (by omega)) (lx (al (v:=v9) (i:=(gI (gI ears ↑i) ↑k)/2) dJ rfl o11.flat (by omega) (by omega) (by decide) rfl) (ag ?_))
      by_cases p15:(gI eb1 ((gI (gI ears ↑i) ↑k)/2))=true
      ·
       exact absurd ‹_› (hem.no hE ‹_› ‹_›)
      refine aj rfl (Bool.eq_false_iff.2 p15) (aw (aa (a8 rfl (mz zs5 (mz zs8 (mz zs11 (lx (ad (v:=v22) (i:=↑k) aY rfl rfl r24 rfl (by omega) (by omega)) (lx (al (v:=v22) (i:=↑k) ah rfl r24 (by omega) (by omega) (by decide) rfl) (lx (e9 (m:=(gI (gI ears ↑i) ↑k)) (n:=2) rfl rfl (by omega) (by omega) (by omega)) (lx (ad (v:=v9) (i:=(gI (gI ears ↑i) ↑k)/2) eG rfl rfl o11.flat rfl (by omega) (by omega)) ?_))))))))))
      refine lo (aA (i:=(gI (gI ears ↑i) ↑k)/2) true dJ rfl rfl o11 (by omega) (by omega) rfl ?_)
      intro w38 ch39 bx40
      clear o11
      refine ag (aa (c6 g37 rfl dQ (by kernel_rfl) ?_))
      intro w42 ch41
      replace bx5:=(bx5.ce ch39).cn ch41
      refine qx (λw' hw'=>aD (ds:=[vi g.1,g_v]) c7 zs2 (bx5.bel hw') rfl rfl) (qz zs8 (qz zs11 ?_))
      replace r24:=(r24.ce ch39).cn ch41
      refine qx (λw' hw'=>ad (v:=v22) (i:=↑k) aY rfl rfl (r24.bel hw') rfl (by omega) (by omega)) (qx (λw' hw'=>al (v:=v22) (i:=↑k) ah rfl (r24.bel hw') (by omega) (by omega) (by decide) rfl) ?_)
      replace Rg:=(Rg.ce ch39).cn ch41
      refine dZ (v:=vi (ak g (gI (gI ears ↑i) ↑k))) rfl (λw' hw'=>aX (vals:=[vg [vi g.1,g_v],vi (gI (gI ears ↑i) ↑k)]) Try.func34 dX dY rfl) (λw' hw'=>(dU w' g g_v ((Rg.bel hw')).ro (gI (gI ears ↑i) ↑k) (by omega) (by omega)).mono λe w2 h2=>⟨h2.1,hw'.trans (h2.2.mono hw'.size)⟩) (qv (vi (ak g (gI (gI ears ↑i) ↑k))) (λw' hw'=>c9 rfl) (db ?_))
      intro w43 hc44
      replace hc44:=aN hc44 g37
      refine aa (a8 rfl (mz zs7 (lx (ej (m:=↑i) (n:=0) rfl rfl) (mv (vb (decide (0<(i:Int)))) (lv (vi ↑k) (wy (dt q64)) (au zs11) (lv (vb (decide (0<(k:Int)))) (wy (dt q64)) (ej (m:=↑k) (n:=0) rfl rfl) (lw (vb (decide (0<(k:Int)))) (aZ rfl (dt q64) rfl) (mv (vb (decide (0<(k:Int)))) ?_))))))))
      by_cases q116:0<(k:Int)
      ·
       refine lv (v14) (wy (dt q116)) (au zs6) (lv (vi (ak g (gI (gI ears ↑i) ↑k))) (wy (dt q116)) (au rfl) ?_)
       have C45:=cg [2] ((ch39.l rfl).seq (ch41.n.seq hc44.n))
       replace o16:=o16.ca C45
       refine lv (Value.pointer (some (aT v14 1 (Int.toNat (ak g (gI (gI ears ↑i) ↑k)))))) (wy (dt q116)) (ad (α:=Bool) (xs:=nb) (v:=v14) (i:=ak g (gI (gI ears ↑i) ↑k)) eG rfl rfl o16.flat rfl (by omega) (by omega)) (lv (vb (gI nb (ak g (gI (gI ears ↑i) ↑k)))) (wy (dt q116)) (al (α:=Bool) (xs:=nb) (v:=v14) (i:=ak g (gI (gI ears ↑i) ↑k)) dJ rfl o16.flat (by omega) (by omega) (by decide) rfl) (lw (vb (gI nb (ak g (gI (gI ears ↑i) ↑k)))) (aZ rfl (dt q116) rfl) (ag ?_)))
       by_cases p19:(gI nb (ak g (gI (gI ears ↑i) ↑k)))=true
       ·
        exact absurd ‹_› (hbI.inn hE hm ‹_› ‹_› ‹_› (by omega))
       refine aj rfl (Bool.eq_false_iff.2 p19) (aw (am (a8 rfl (mz zs11 (lx (aE (m:=↑k) (n:=1) rfl rfl (by omega)) (ai ((k:Int)+1) (ag ?_)))))))
       refine back13 (k+1,(List.set eb1 (Int.toNat ((gI (gI ears ↑i) ↑k)/2)) true),g37) _ _ ⟨bH.ca C45,zs1,zs2,zs5,zs6,zs7,zs8,rfl,Rg.cn hc44,Rears.ca C45,bx5.cn hc44,(bx40.cn ch41).cn hc44,o16,r24.cn hc44,by omega,?_⟩ ?_
       · show pX g ears i (List.set eb1 (Int.toNat ((gI (gI ears ↑i) ↑k)/2)) true) (k+1)
         exact hem.next ‹_› hk0 hk1
       · show Int.toNat (((List.length (gI ears ↑i):Int):Int)-((k+1):Int))<Int.toNat (((List.length (gI ears ↑i):Int):Int)-(k:Int))
         omega
      refine ax (wn (df q116)) (ax (wn (df q116)) (ax (wn (df q116)) (ax (wn (df q116)) (lw (vb false) (aV rfl (df q116) rfl) (ag (aj rfl rfl (aw (am (a8 rfl ?_)))))))))
      refine mz zs11 (lx (aE (m:=↑k) (n:=1) rfl rfl (by omega)) (ai ((k:Int)+1) (ag ?_)))
      have C46:=cg [2] ((ch39.l rfl).seq (ch41.n.seq hc44.n))
      refine back13 (k+1,(List.set eb1 (Int.toNat ((gI (gI ears ↑i) ↑k)/2)) true),g37) _ _ ⟨bH.ca C46,zs1,zs2,zs5,zs6,zs7,zs8,rfl,Rg.cn hc44,Rears.ca C46,bx5.cn hc44,(bx40.cn ch41).cn hc44,o16.ca C46,r24.cn hc44,by omega,?_⟩ ?_
      · show pX g ears i (List.set eb1 (Int.toNat ((gI (gI ears ↑i) ↑k)/2)) true) (k+1)
        exact hem.next ‹_› hk0 hk1
      · show Int.toNat (((List.length (gI ears ↑i):Int):Int)-((k+1):Int))<Int.toNat (((List.length (gI ears ↑i):Int):Int)-(k:Int))
        omega
     refine aj rfl (df p13) (aC rfl (aa (a8 rfl (ai 0 (ag (av ?_))))))
     refine aW (σ:=Nat×(List Bool)×aF) (λ⟨j,nb1,gq⟩ f w=>bp w0 gq w/\f 1=ears_v/\f 2=vp b3 0/\f 5=v9/\f 6=v14/\f 7=vi ↑i/\f 8=v22/\f 13=vi ↑j/\Sl gq (is 0) w g_v g.2/\Sl gq (is 0) w ears_v ears/\Bx gq (is 1) w b3 [vi g.1,g_v]/\Ow gq (is 2) (is 2) w v9 eb1/\Ow gq (is 3) (is 3) w v14 nb1/\Sl gq (is 0) w v22 (gI ears ↑i)/\(j:Int)<=((List.length (gI ears ↑i):Int):Int)/\(rX g ears i nb1 j)) (λ⟨j,nb1,gq⟩=>Int.toNat (((List.length (gI ears ↑i):Int):Int)-(j:Int))) (0,nb,g37) ?_ ?_
     · exact⟨bH,zs1,zs2,zs5,zs6,zs7,zs8,rfl,Rg,Rears,bx5,o11,o16,r24,by omega,by exact hbI.nm⟩
     clear Rg Rears bx5 o11 o16 r24 bH
     rintro⟨j,nb1,g49⟩ f47 w48 ⟨bH,zs1,zs2,zs5,zs6,zs7,zs8,zs13,Rg,Rears,bx5,o11,o16,r24,hle_j,hnm⟩ back22
     have hnl1:=hnm.nl
     refine aa (aa (a8 rfl (mz zs13 (mz zs8 (lx (bh aY rfl r24) (lx (b7 (m:=↑j) (n:=(List.length (gI ears ↑i):Int)) rfl rfl) (ag ?_)))))))
     by_cases p22:(j:Int)<(List.length (gI ears ↑i):Int)
     ·
      refine ao rfl (dt p22) ?_
      obtain⟨hj0,hj1⟩:=(hE.on (k:=i) ‹_›).rg j ‹_›
      obtain⟨hjf0,hjf1⟩:=gA hm (h:=gI (gI ears ↑i) ↑j) hj0 hj1
      obtain⟨hjt0,hjt1⟩:=dz hm (h:=gI (gI ears ↑i) ↑j) hj0 hj1
      refine aw (aa (av (aa (bj g49 [0,1,2,3,4,5,7] dQ ?_))))
      intro w51 ch50
      refine xp (v:=v14) 0 rfl (λw=>au zs6) ?_
      replace bx5:=bx5.cn ch50
      refine xv 1 [0,2,3,4,5] rfl (aD (ds:=[vi g.1,g_v]) c7 zs2 bx5 rfl rfl) (xp (v:=v22) 2 rfl (λw=>au zs8) (xp (v:=vi ↑j) 3 rfl (λw=>au zs13) ?_))
      replace r24:=r24.cn ch50
      refine xv 4 [3,2,1,0] rfl (ad (v:=v22) (i:=↑j) aY rfl rfl r24 rfl (by omega) (by omega)) (xv 5 [4,3,2,1,0] rfl (al (v:=v22) (i:=↑j) ah rfl r24 (by omega) (by omega) (by decide) rfl) ?_)
      replace Rg:=Rg.cn ch50
      refine bn 6 rfl (by kernel_rfl) rfl (cA (v:=vi (ak g (gI (gI ears ↑i) ↑j))) (aX (vals:=[vg [vi g.1,g_v],vi (gI (gI ears ↑i) ↑j)]) Try.func34 dX dY rfl) (dU w51 g g_v (Rg).ro (gI (gI ears ↑i) ↑j) (by omega) (by omega)) ?_)
      intro w52 hb53
      replace hb53:=aN hb53 g49
      replace o16:=(o16.cn ch50).cn hb53
      refine xv 7 [6,5,4,3,2,1,0] rfl (ad (v:=v14) (i:=ak g (gI (gI ears ↑i) ↑j)) eG rfl rfl o16.flat rfl (by omega) (by omega)) (bn 8 rfl (by kernel_rfl) rfl (aA (i:=ak g (gI (gI ears ↑i) ↑j)) true dJ rfl rfl o16 (by omega) (by omega) rfl ?_))
      intro w54 ch55 bx56
      clear o16
      refine bQ (by kernel_rfl) (bj g49 [0,1,2,3,4,5,7] dQ ?_)
      intro w58 ch57
      refine xp (v:=v14) 0 rfl (λw=>au zs6) ?_
      have C59:=cg [3] (hb53.n.seq ((ch55.l rfl).seq ch57.n))
      replace bx5:=bx5.ca C59
      refine xv 1 [0,2,3,4,5] rfl (aD (ds:=[vi g.1,g_v]) c7 zs2 bx5 rfl rfl) (xp (v:=v22) 2 rfl (λw=>au zs8) (xp (v:=vi ↑j) 3 rfl (λw=>au zs13) ?_))
      replace r24:=r24.ca C59
      refine xv 4 [3,2,1,0] rfl (ad (v:=v22) (i:=↑j) aY rfl rfl r24 rfl (by omega) (by omega)) (xv 5 [4,3,2,1,0] rfl (al (v:=v22) (i:=↑j) ah rfl r24 (by omega) (by omega) (by decide) rfl) ?_)
      replace Rg:=Rg.ca C59
      refine bn 6 rfl (by kernel_rfl) rfl (cA (v:=vi (aL g (gI (gI ears ↑i) ↑j))) (aX (vals:=[vg [vi g.1,g_v],vi (gI (gI ears ↑i) ↑j)]) Try.func43 fY fT rfl) (gS w58 g g_v (Rg).ro (gI (gI ears ↑i) ↑j) (by omega) (by omega)) ?_)
      intro w60 hb61
      replace hb61:=aN hb61 g49
      replace bx56:=(bx56.cn ch57).cn hb61
      refine xv 7 [6,5,4,3,2,1,0] rfl (ad (v:=v14) (i:=aL g (gI (gI ears ↑i) ↑j)) eG rfl rfl bx56.flat rfl (by omega) (by(simp only[List.length_set,List.length_append,List.length_cons,List.length_nil,List.length_replicate,List.length_map,List.length_take,List.length_drop];omega))) (bn 8 rfl (by kernel_rfl) rfl (aA (i:=aL g (gI (gI ears ↑i) ↑j)) true dJ rfl rfl bx56 (by omega) (by(simp only[List.length_set,List.length_append,List.length_cons,List.length_nil,List.length_replicate,List.length_map,List.length_take,List.length_drop];omega)) rfl ?_))
      intro w62 ch63 bx64
      clear bx56
      refine bQ (by kernel_rfl) (am (a8 rfl (mz zs13 (lx (aE (m:=↑j) (n:=1) rfl rfl (by omega)) (ai ((j:Int)+1) (ag ?_))))))
      have C65:=cg [3] (ch50.n.seq (hb53.n.seq ((ch55.l rfl).seq (ch57.n.seq (hb61.n.seq (ch63.l rfl))))))
      refine back22 (j+1,(List.set (List.set nb1 (Int.toNat (ak g (gI (gI ears ↑i) ↑j))) true) (Int.toNat (aL g (gI (gI ears ↑i) ↑j))) true),g49) _ _ ⟨bH.ca C65,zs1,zs2,zs5,zs6,zs7,zs8,rfl,(Rg.cn hb61).ce ch63,Rears.ca C65,(bx5.cn hb61).ce ch63,o11.ca C65,bx64,(r24.cn hb61).ce ch63,by omega,?_⟩ ?_
      · show rX g ears i (List.set (List.set nb1 (Int.toNat (ak g (gI (gI ears ↑i) ↑j))) true) (Int.toNat (aL g (gI (gI ears ↑i) ↑j))) true) (j+1)
        exact hnm.next ‹_› hjf0 hjf1 hjt0 hjt1
      · show Int.toNat (((List.length (gI ears ↑i):Int):Int)-((j+1):Int))<Int.toNat (((List.length (gI ears ↑i):Int):Int)-(j:Int))
        omega
     refine aj rfl (df p22) (aC rfl (am ?_))
     clear r24
     refine a8 rfl (mz zs7 (lx (aE (m:=↑i) (n:=1) rfl rfl (by omega)) (ai ((i:Int)+1) (ag ?_))))
     refine back4 (i+1,eb1,nb1,g49) _ _ ⟨bH,zs1,zs2,zs5,zs6,rfl,Rg,Rears,bx5,o11,o16,by omega,?_⟩ ?_
     · show kJ g ears eb1 nb1 (i+1)
       exact kJ.next hem hnm ‹_› ‹_› ‹_›
     · show Int.toNat (((ears.length:Int):Int)-((i+1):Int))<Int.toNat (((ears.length:Int):Int)-(i:Int))
       omega
    exact absurd hab3 ‹_›
   exact absurd hab2 ‹_›
  refine ax (wn (df q64)) (ax (wn (df q64)) (ax (wn (df q64)) (ax (wn (df q64)) (ax (aU rfl rfl rfl) (ax (aU rfl rfl rfl) (ax (aU rfl rfl rfl) (ax (aU rfl rfl rfl) (ax (aU rfl rfl rfl) (ax (wn (df q64)) ?_)))))))))
  refine ax (wn (df q64)) (ax (aU rfl rfl rfl) (ax (aU rfl rfl rfl) (ax (aU rfl rfl rfl) (ax (aU rfl rfl rfl) (ax (aU rfl rfl rfl) (ax (wn (df q64)) (lw (vb false) (aV rfl (df q64) rfl) (ag (aj rfl rfl ?_)))))))))
  refine aw (aa (aa (a8 rfl (ai 0 (ag (av ?_))))))
  refine aW (σ:=Nat×(List Bool)×aF) (λ⟨k,eb1,gq⟩ f w=>bp w0 gq w/\f 1=ears_v/\f 2=vp b3 0/\f 5=v9/\f 6=v14/\f 7=vi ↑i/\f 8=v22/\f 11=vi ↑k/\Sl gq (is 0) w g_v g.2/\Sl gq (is 0) w ears_v ears/\Bx gq (is 1) w b3 [vi g.1,g_v]/\Ow gq (is 2) (is 2) w v9 eb1/\Ow gq (is 3) (is 3) w v14 nb/\Sl gq (is 0) w v22 (gI ears ↑i)/\(k:Int)<=((List.length (gI ears ↑i):Int):Int)/\(pX g ears i eb1 k)) (λ⟨k,eb1,gq⟩=>Int.toNat (((List.length (gI ears ↑i):Int):Int)-(k:Int))) (0,eb,g20) ?_ ?_
  have C66:=cg [] (hb27.n.seq (hb29.n.seq (ch30.n.seq hc33.n)))
  · exact⟨bH.ca C66,zs1,zs2,zs5,zs6,zs7,rfl,rfl,Rg.cn hc33,Rears.ca C66,bx5.cn hc33,o11.ca C66,o16.ca C66,r24.cn hc33,by omega,by exact hbI.em⟩
  clear Rg Rears bx5 o11 o16 r24 bH
  rintro⟨k,eb1,g69⟩ f67 w68 ⟨bH,zs1,zs2,zs5,zs6,zs7,zs8,zs11,Rg,Rears,bx5,o11,o16,r24,hle_k,hem⟩ back13
  have hel1:=hem.el
  refine aa (aa (a8 rfl (mz zs11 (mz zs8 (lx (bh aY rfl r24) (lx (b7 (m:=↑k) (n:=(List.length (gI ears ↑i):Int)) rfl rfl) (ag ?_)))))))
  by_cases p13:(k:Int)<(List.length (gI ears ↑i):Int)
  ·
   refine ao rfl (dt p13) ?_
   obtain⟨hk0,hk1⟩:=(hE.on (k:=i) ‹_›).rg k ‹_›
   obtain⟨hkf0,hkf1⟩:=gA hm (h:=gI (gI ears ↑i) ↑k) hk0 hk1
   refine aw (aa (av (aa (aa (a8 rfl (mz zs5 (mz zs8 (mz zs11 (lx (ad (v:=v22) (i:=↑k) aY rfl rfl r24 rfl (by omega) (by omega)) (lx (al (v:=v22) (i:=↑k) ah rfl r24 (by omega) (by omega) (by decide) rfl) (lx (e9 (m:=(gI (gI ears ↑i) ↑k)) (n:=2) rfl rfl (by omega) (by omega) (by omega)) ?_)))))))))))
   refine lx (ad (v:=v9) (i:=(gI (gI ears ↑i) ↑k)/2) eG rfl rfl o11.flat rfl (by omega) (by omega)) (lx (al (v:=v9) (i:=(gI (gI ears ↑i) ↑k)/2) dJ rfl o11.flat (by omega) (by omega) (by decide) rfl) (ag ?_))
   by_cases p15:(gI eb1 ((gI (gI ears ↑i) ↑k)/2))=true
   ·
    exact absurd ‹_› (hem.no hE ‹_› ‹_›)
   refine aj rfl (Bool.eq_false_iff.2 p15) (aw (aa (a8 rfl (mz zs5 (mz zs8 (mz zs11 (lx (ad (v:=v22) (i:=↑k) aY rfl rfl r24 rfl (by omega) (by omega)) (lx (al (v:=v22) (i:=↑k) ah rfl r24 (by omega) (by omega) (by decide) rfl) (lx (e9 (m:=(gI (gI ears ↑i) ↑k)) (n:=2) rfl rfl (by omega) (by omega) (by omega)) (lx (ad (v:=v9) (i:=(gI (gI ears ↑i) ↑k)/2) eG rfl rfl o11.flat rfl (by omega) (by omega)) ?_))))))))))
   refine lo (aA (i:=(gI (gI ears ↑i) ↑k)/2) true dJ rfl rfl o11 (by omega) (by omega) rfl ?_)
   intro w70 ch71 bx72
   clear o11
   refine ag (aa (c6 g69 rfl dQ (by kernel_rfl) ?_))
   intro w74 ch73
   replace bx5:=(bx5.ce ch71).cn ch73
   refine qx (λw' hw'=>aD (ds:=[vi g.1,g_v]) c7 zs2 (bx5.bel hw') rfl rfl) (qz zs8 (qz zs11 ?_))
   replace r24:=(r24.ce ch71).cn ch73
   refine qx (λw' hw'=>ad (v:=v22) (i:=↑k) aY rfl rfl (r24.bel hw') rfl (by omega) (by omega)) (qx (λw' hw'=>al (v:=v22) (i:=↑k) ah rfl (r24.bel hw') (by omega) (by omega) (by decide) rfl) ?_)
   replace Rg:=(Rg.ce ch71).cn ch73
   refine dZ (v:=vi (ak g (gI (gI ears ↑i) ↑k))) rfl (λw' hw'=>aX (vals:=[vg [vi g.1,g_v],vi (gI (gI ears ↑i) ↑k)]) Try.func34 dX dY rfl) (λw' hw'=>(dU w' g g_v ((Rg.bel hw')).ro (gI (gI ears ↑i) ↑k) (by omega) (by omega)).mono λe w2 h2=>⟨h2.1,hw'.trans (h2.2.mono hw'.size)⟩) (qv (vi (ak g (gI (gI ears ↑i) ↑k))) (λw' hw'=>c9 rfl) (db ?_))
   intro w75 hc76
   replace hc76:=aN hc76 g69
   refine aa (a8 rfl (mz zs7 (lx (ej (m:=↑i) (n:=0) rfl rfl) (mv (vb (decide (0<(i:Int)))) (ax (wn (df q64)) (ax (wn (df q64)) (lw (vb false) (aV rfl (df q64) rfl) (mv (vb false) (ax (wn rfl) (ax (wn rfl) (ax (wn rfl) (ax (wn rfl) (lw (vb false) (aV rfl rfl rfl) ?_)))))))))))))
   refine ag (aj rfl rfl (aw (am (a8 rfl (mz zs11 (lx (aE (m:=↑k) (n:=1) rfl rfl (by omega)) (ai ((k:Int)+1) (ag ?_))))))))
   have C77:=cg [2] ((ch71.l rfl).seq (ch73.n.seq hc76.n))
   refine back13 (k+1,(List.set eb1 (Int.toNat ((gI (gI ears ↑i) ↑k)/2)) true),g69) _ _ ⟨bH.ca C77,zs1,zs2,zs5,zs6,zs7,zs8,rfl,Rg.cn hc76,Rears.ca C77,bx5.cn hc76,(bx72.cn ch73).cn hc76,o16.ca C77,r24.cn hc76,by omega,?_⟩ ?_
   · show pX g ears i (List.set eb1 (Int.toNat ((gI (gI ears ↑i) ↑k)/2)) true) (k+1)
     exact hem.next ‹_› hk0 hk1
   · show Int.toNat (((List.length (gI ears ↑i):Int):Int)-((k+1):Int))<Int.toNat (((List.length (gI ears ↑i):Int):Int)-(k:Int))
     omega
  refine aj rfl (df p13) (aC rfl (aa (a8 rfl (ai 0 (ag (av ?_))))))
  refine aW (σ:=Nat×(List Bool)×aF) (λ⟨j,nb1,gq⟩ f w=>bp w0 gq w/\f 1=ears_v/\f 2=vp b3 0/\f 5=v9/\f 6=v14/\f 7=vi ↑i/\f 8=v22/\f 13=vi ↑j/\Sl gq (is 0) w g_v g.2/\Sl gq (is 0) w ears_v ears/\Bx gq (is 1) w b3 [vi g.1,g_v]/\Ow gq (is 2) (is 2) w v9 eb1/\Ow gq (is 3) (is 3) w v14 nb1/\Sl gq (is 0) w v22 (gI ears ↑i)/\(j:Int)<=((List.length (gI ears ↑i):Int):Int)/\(rX g ears i nb1 j)) (λ⟨j,nb1,gq⟩=>Int.toNat (((List.length (gI ears ↑i):Int):Int)-(j:Int))) (0,nb,g69) ?_ ?_
  · exact⟨bH,zs1,zs2,zs5,zs6,zs7,zs8,rfl,Rg,Rears,bx5,o11,o16,r24,by omega,by exact hbI.nm⟩
  clear Rg Rears bx5 o11 o16 r24 bH
  rintro⟨j,nb1,g80⟩ f78 w79 ⟨bH,zs1,zs2,zs5,zs6,zs7,zs8,zs13,Rg,Rears,bx5,o11,o16,r24,hle_j,hnm⟩ back22
  have hnl1:=hnm.nl
  refine aa (aa (a8 rfl (mz zs13 (mz zs8 (lx (bh aY rfl r24) (lx (b7 (m:=↑j) (n:=(List.length (gI ears ↑i):Int)) rfl rfl) (ag ?_)))))))
  by_cases p22:(j:Int)<(List.length (gI ears ↑i):Int)
  ·
   refine ao rfl (dt p22) ?_
   obtain⟨hj0,hj1⟩:=(hE.on (k:=i) ‹_›).rg j ‹_›
   obtain⟨hjf0,hjf1⟩:=gA hm (h:=gI (gI ears ↑i) ↑j) hj0 hj1
   obtain⟨hjt0,hjt1⟩:=dz hm (h:=gI (gI ears ↑i) ↑j) hj0 hj1
   refine aw (aa (av (aa (bj g80 [0,1,2,3,4,5,7] dQ ?_))))
   intro w82 ch81
   refine xp (v:=v14) 0 rfl (λw=>au zs6) ?_
   replace bx5:=bx5.cn ch81
   refine xv 1 [0,2,3,4,5] rfl (aD (ds:=[vi g.1,g_v]) c7 zs2 bx5 rfl rfl) (xp (v:=v22) 2 rfl (λw=>au zs8) (xp (v:=vi ↑j) 3 rfl (λw=>au zs13) ?_))
   replace r24:=r24.cn ch81
   refine xv 4 [3,2,1,0] rfl (ad (v:=v22) (i:=↑j) aY rfl rfl r24 rfl (by omega) (by omega)) (xv 5 [4,3,2,1,0] rfl (al (v:=v22) (i:=↑j) ah rfl r24 (by omega) (by omega) (by decide) rfl) ?_)
   replace Rg:=Rg.cn ch81
   refine bn 6 rfl (by kernel_rfl) rfl (cA (v:=vi (ak g (gI (gI ears ↑i) ↑j))) (aX (vals:=[vg [vi g.1,g_v],vi (gI (gI ears ↑i) ↑j)]) Try.func34 dX dY rfl) (dU w82 g g_v (Rg).ro (gI (gI ears ↑i) ↑j) (by omega) (by omega)) ?_)
   intro w83 hb84
   replace hb84:=aN hb84 g80
   replace o16:=(o16.cn ch81).cn hb84
   refine xv 7 [6,5,4,3,2,1,0] rfl (ad (v:=v14) (i:=ak g (gI (gI ears ↑i) ↑j)) eG rfl rfl o16.flat rfl (by omega) (by omega)) (bn 8 rfl (by kernel_rfl) rfl (aA (i:=ak g (gI (gI ears ↑i) ↑j)) true dJ rfl rfl o16 (by omega) (by omega) rfl ?_))
   intro w85 ch86 bx87
   clear o16
   refine bQ (by kernel_rfl) (bj g80 [0,1,2,3,4,5,7] dQ ?_)
   intro w89 ch88
   refine xp (v:=v14) 0 rfl (λw=>au zs6) ?_
   have C90:=cg [3] (hb84.n.seq ((ch86.l rfl).seq ch88.n))
   replace bx5:=bx5.ca C90
   refine xv 1 [0,2,3,4,5] rfl (aD (ds:=[vi g.1,g_v]) c7 zs2 bx5 rfl rfl) (xp (v:=v22) 2 rfl (λw=>au zs8) (xp (v:=vi ↑j) 3 rfl (λw=>au zs13) ?_))
   replace r24:=r24.ca C90
   refine xv 4 [3,2,1,0] rfl (ad (v:=v22) (i:=↑j) aY rfl rfl r24 rfl (by omega) (by omega)) (xv 5 [4,3,2,1,0] rfl (al (v:=v22) (i:=↑j) ah rfl r24 (by omega) (by omega) (by decide) rfl) ?_)
   replace Rg:=Rg.ca C90
   refine bn 6 rfl (by kernel_rfl) rfl (cA (v:=vi (aL g (gI (gI ears ↑i) ↑j))) (aX (vals:=[vg [vi g.1,g_v],vi (gI (gI ears ↑i) ↑j)]) Try.func43 fY fT rfl) (gS w89 g g_v (Rg).ro (gI (gI ears ↑i) ↑j) (by omega) (by omega)) ?_)
   intro w91 hb92
   replace hb92:=aN hb92 g80
   replace bx87:=(bx87.cn ch88).cn hb92
   refine xv 7 [6,5,4,3,2,1,0] rfl (ad (v:=v14) (i:=aL g (gI (gI ears ↑i) ↑j)) eG rfl rfl bx87.flat rfl (by omega) (by(simp only[List.length_set,List.length_append,List.length_cons,List.length_nil,List.length_replicate,List.length_map,List.length_take,List.length_drop];omega))) (bn 8 rfl (by kernel_rfl) rfl (aA (i:=aL g (gI (gI ears ↑i) ↑j)) true dJ rfl rfl bx87 (by omega) (by(simp only[List.length_set,List.length_append,List.length_cons,List.length_nil,List.length_replicate,List.length_map,List.length_take,List.length_drop];omega)) rfl ?_))
   intro w93 ch94 bx95
   clear bx87
   refine bQ (by kernel_rfl) (am (a8 rfl (mz zs13 (lx (aE (m:=↑j) (n:=1) rfl rfl (by omega)) (ai ((j:Int)+1) (ag ?_))))))
   have C96:=cg [3] (ch81.n.seq (hb84.n.seq ((ch86.l rfl).seq (ch88.n.seq (hb92.n.seq (ch94.l rfl))))))
   refine back22 (j+1,(List.set (List.set nb1 (Int.toNat (ak g (gI (gI ears ↑i) ↑j))) true) (Int.toNat (aL g (gI (gI ears ↑i) ↑j))) true),g80) _ _ ⟨bH.ca C96,zs1,zs2,zs5,zs6,zs7,zs8,rfl,(Rg.cn hb92).ce ch94,Rears.ca C96,(bx5.cn hb92).ce ch94,o11.ca C96,bx95,(r24.cn hb92).ce ch94,by omega,?_⟩ ?_
   · show rX g ears i (List.set (List.set nb1 (Int.toNat (ak g (gI (gI ears ↑i) ↑j))) true) (Int.toNat (aL g (gI (gI ears ↑i) ↑j))) true) (j+1)
     exact hnm.next ‹_› hjf0 hjf1 hjt0 hjt1
   · show Int.toNat (((List.length (gI ears ↑i):Int):Int)-((j+1):Int))<Int.toNat (((List.length (gI ears ↑i):Int):Int)-(j:Int))
     omega
  refine aj rfl (df p22) (aC rfl (am ?_))
  clear r24
  refine a8 rfl (mz zs7 (lx (aE (m:=↑i) (n:=1) rfl rfl (by omega)) (ai ((i:Int)+1) (ag ?_))))
  refine back4 (i+1,eb1,nb1,g80) _ _ ⟨bH,zs1,zs2,zs5,zs6,rfl,Rg,Rears,bx5,o11,o16,by omega,?_⟩ ?_
  · show kJ g ears eb1 nb1 (i+1)
    exact kJ.next hem hnm ‹_› ‹_› ‹_›
  · show Int.toNat (((ears.length:Int):Int)-((i+1):Int))<Int.toNat (((ears.length:Int):Int)-(i:Int))
    omega
 refine aj rfl (df p4) (aC rfl (aa (aa ?_)))
 clear bx5 o16
 refine a8 rfl (ai 0 (ag (av ?_)))
 refine aW (σ:=Nat×aF) (λ⟨e,gq⟩ f w=>bp w0 gq w/\f 5=v9/\f 14=vi ↑e/\Sl gq (is 0) w g_v g.2/\Sl gq (is 0) w ears_v ears/\Ow gq (is 2) (is 2) w v9 eb/\(e:Int)<=((eb.length:Int):Int)/\(True)) (λ⟨e,gq⟩=>Int.toNat (((eb.length:Int):Int)-(e:Int))) (0,g20) ?_ ?_
 · exact⟨bH,zs5,rfl,Rg,Rears,o11,by omega,by trivial⟩
 clear Rg Rears o11 bH
 rintro⟨e,g99⟩ f97 w98 ⟨bH,zs5,zs14,Rg,Rears,o11,hle_e,hinv4⟩ back27
 refine aa (aa (a8 rfl (mz zs14 (mz zs5 ?_))))
 have len100:=(o11.flat).small
 refine lx (bh eG rfl o11.flat) (lx (b7 (m:=↑e) (n:=(eb.length:Int)) rfl rfl) (ag ?_))
 by_cases p27:(e:Int)<(eb.length:Int)
 ·
  refine ao rfl (dt p27) (aw (aa (av (aa (a8 rfl (mz zs5 (mz zs14 (lx (ad (v:=v9) (i:=↑e) eG rfl rfl o11.flat rfl (by omega) (by omega)) (lx (al (v:=v9) (i:=↑e) dJ rfl o11.flat (by omega) (by omega) (by decide) rfl) (lx (dV (b:=(gI eb ↑e)) rfl) ?_))))))))))
  refine ag ?_
  by_cases p29:(gI eb ↑e)=true
  ·
   refine aj rfl (congrArg Bool.not p29) (aw (am (a8 rfl (mz zs14 (lx (aE (m:=↑e) (n:=1) rfl rfl (by omega)) (ai ((e:Int)+1) (ag ?_)))))))
   refine back27 (e+1,g99) _ _ ⟨bH,zs5,rfl,Rg,Rears,o11,by omega,?_⟩ ?_
   · show True
     trivial
   · show Int.toNat (((eb.length:Int):Int)-((e+1):Int))<Int.toNat (((eb.length:Int):Int)-(e:Int))
     omega
  exact absurd (hbI.fin (e:=(e:Int)) hE (by omega) (by omega) ‹_›) ‹_›
 refine aj rfl (df p27) (aC rfl (aa ?_))
 clear o11
 refine a8 rfl (ma (vb true) (ag (aH (vs:=[vb true]) Try.func27 (.tmp rfl .nil) ?_)))
 have e0:(true:Bool)=(true):=by
   rfl
 exact⟨rb e0,bH.below⟩
end TL
