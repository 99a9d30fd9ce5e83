import Derived.Test.YtkhfimgjcdeejaaTlP3
import Derived.Test.YtkhfimgjcdeejaaTlGmA
import Derived.Test.YtkhfimgjcdeejaaTlGmD
import Derived.Test.YtkhfimgjcdeejaaTlGenA
import Derived.Test.YtkhfimgjcdeejaaTlGjC
import Derived.Test.YtkhfimgjcdeejaaTlGkA
import Derived.Test.YtkhfimgjcdeejaaTlGkB
import Derived.Test.YtkhfimgjcdeejaaTlMmA
import Derived.Test.YtkhfimgjcdeejaaTlMmB
import Derived.Test.YtkhfimgjcdeejaaTlMmC
import Derived.Test.YtkhfimgjcdeejaaTlMsD
import Derived.Test.YtkhfimgjcdeejaaTlMsC
import Derived.Test.YtkhfimgjcdeejaaTlMsG
import Derived.Test.YtkhfimgjcdeejaaTlMsE
import Derived.Test.YtkhfimgjcdeejaaTlMsL
import Derived.Test.YtkhfimgjcdeejaaProg
import Derived.Test.YtkhfimgjcdeejaaTlAli
set_option linter.all false
set_option maxRecDepth 20000
namespace TL
open Go Go.Proofs
theorem fP:Try.prog.follows .mixedOrders=true:=by kernel_rfl
theorem wj:Try.f6.body.isNone=false:=rfl
theorem wk:(Try.f6.name== "runtime.NumGoroutine")=false:=by decide+kernel
theorem tW:Try.f11.body.isNone=false:=rfl
theorem tF:(Try.f11.name== "runtime.NumGoroutine")=false:=by decide+kernel
theorem tZ:Try.f14.body.isNone=false:=rfl
theorem te:(Try.f14.name== "runtime.NumGoroutine")=false:=by decide+kernel
theorem lX:Try.f16.body.isNone=false:=rfl
theorem mC:(Try.f16.name== "runtime.NumGoroutine")=false:=by decide+kernel
theorem lP:Try.f18.body.isNone=false:=rfl
theorem ly:(Try.f18.name== "runtime.NumGoroutine")=false:=by decide+kernel
set_option maxHeartbeats 8000000 in
theorem kB(w0:World)(g:(Int)×(List Pt))(g_v:Value)(hg_v:Ro w0 g_v g.2)(p:(List Pt)×(List (List Pt)))(p_v p_v1:Value)(hp_v:Ro w0 p_v p.1)(hp_v1:Ro w0 p_v1 p.2)(by_:Pt)(hb:vG p):
    Calls Try.prog 4 #[vg [vi g.1,g_v],vg [p_v,p_v1],vg [vi by_.1,vi by_.2]] w0 (λee w=>ee= .returned (vb true)/\cW w0.heap.size w0 w):=by
 refine aI Try.func4 rfl nq ?_
 have bH:=bo.start w0
 have Rg:=hg_v.sl
 have Rp:=hp_v.sl
 have r_p_v1:=hp_v1.sl
 obtain⟨⟨hb1,hb2,hb3⟩,hb4,hb5⟩:=hb
 refine a6 (a5 rfl (cj rfl (bA c0 (is 1) (1,0) rfl rfl ?_)))
 intro g4 w1 b3 ch2 bx5
 replace bx5:Bx g4 (is 1) w1 b3 [vi g.1,g_v]:=bx5
 refine lo (bA g4 (is 2) (2,0) rfl rfl ?_)
 intro g9 w6 b8 ch7 bx10
 replace bx10:Bx g9 (is 2) w6 b8 [p_v,p_v1]:=bx10
 refine lo (bA g9 (is 3) (3,0) rfl rfl ?_)
 intro g14 w11 b13 ch12 bx15
 replace bx15:Bx g14 (is 3) w11 b13 [vi by_.1,vi by_.2]:=bx15
 refine ma (vb false) (a8 (a6 (a6 (a5 rfl (cj rfl (aN (v:=vb true) (az (vals:=[]) Try.func6 wj wk rfl) (om w11) ?_))))))
 intro w16 hb17
 replace hb17:=aj hb17 g14
 refine lx (cm (b:=true) rfl) (a8 (af rfl rfl (am (a6 (a6 (a5 rfl ?_))))))
 have C18:=cg [] (ch7.n.seq (ch12.n.seq hb17.n))
 replace bx5:=bx5.ca C18
 refine lx (ad (ds:=[vi g.1,g_v]) bO rfl bx5 rfl rfl) ?_
 replace bx10:=(bx10.cn ch12).cn hb17
 refine lx (ad (ds:=[p_v,p_v1]) bJ rfl bx10 rfl rfl) ?_
 have C19:=cg [] (ch2.n.seq (ch7.n.seq (ch12.n.seq hb17.n)))
 replace Rg:=Rg.ca C19
 replace Rp:=Rp.ca C19
 replace r_p_v1:=r_p_v1.ca C19
 refine lo (aN (v:=vb (decide (dI g p))) (az (vals:=[vg [vi g.1,g_v],vg [p_v,p_v1]]) Try.func11 tW tF rfl) (oG w16 g g_v (Rg).ro p p_v p_v1 (Rp).ro (r_p_v1).ro ‹_› ‹_› ‹_›) ?_)
 intro w20 hb21
 replace hb21:=aj hb21 g14
 refine lx (cm (b:=(decide (dI g p))) rfl) (mv (vb (!(decide (dI g p)))) ?_)
 by_cases q29:(decide (dI g p))=true
 ·
  obtain⟨hfew,⟨hp4,hp5⟩,hp6⟩:=qH (of_decide_eq_true q29)
  replace bx5:=bx5.cn hb21
  refine lv (vg [vi g.1,g_v]) (wy (congrArg Bool.not q29)) (ad (ds:=[vi g.1,g_v]) bO rfl bx5 rfl rfl) ?_
  replace Rg:=Rg.cn hb21
  refine cj (wy (congrArg Bool.not q29)) (aN (v:=vb (dm g)) (az (vals:=[vg [vi g.1,g_v]]) Try.func12 oX pF rfl) (pC w20 g g_v (Rg).ro) ?_)
  intro w22 hb23
  replace hb23:=aj hb23 g14
  refine lv (vb (!(dm g))) (wy (congrArg Bool.not q29)) (cm (b:=(dm g)) rfl) (lw (vb (!(dm g))) (aB rfl (congrArg Bool.not q29) rfl) (mv (vb (!(dm g))) ?_))
  by_cases q34:(dm g)=true
  ·
   have hm:=of_decide_eq_true q34
   have hm0:=hm
   obtain⟨hm1,hm2,hm3,hm4⟩:=hm0
   refine lv (vp b13 0) (wy (congrArg Bool.not q34)) (a7 cq rfl rfl rfl rfl) ?_
   have C24:=cg [] (hb17.n.seq (hb21.n.seq hb23.n))
   replace bx15:=bx15.ca C24
   refine lv (vi by_.1) (wy (congrArg Bool.not q34)) (a9 aG rfl bx15 rfl) (lv (vb (decide (by_.1<(-1000)))) (wy (congrArg Bool.not q34)) (b6 (m:=by_.1) (n:= -1000) rfl rfl) (lw (vb (decide (by_.1<(-1000)))) (aB rfl (congrArg Bool.not q34) rfl) (mv (vb (decide (by_.1<(-1000)))) ?_)))
   by_cases q39:by_.1<(-1000)
   ·
    refine aa (wn (dt q39)) (aa (wn (dt q39)) (aa (wn (dt q39)) (lw (vb true) (aD rfl (dt q39) rfl) (mv (vb true) (aa (wn rfl) (aa (wn rfl) (aa (wn rfl) (lw (vb true) (aD rfl rfl rfl) (mv (vb true) (aa (wn rfl) (aa (wn rfl) (aa (wn rfl) (lw (vb true) (aD rfl rfl rfl) ?_)))))))))))))
    refine a8 (ae rfl rfl (a6 ?_))
    clear bx5 bx10 bx15
    refine a5 rfl (ma (vb true) (a8 (av (vs:=[vb true]) Try.func4 (.tmp rfl .nil) ?_)))
    have e0:(true:Bool)=(true):=by
      rfl
    have C25:=cg [] (ch2.n.seq (ch7.n.seq (ch12.n.seq (hb17.n.seq (hb21.n.seq hb23.n)))))
    replace bH:=bH.ca C25
    exact⟨rb e0,bH.below⟩
   refine lv (vp b13 0) (wy (df q39)) (a7 cq rfl rfl rfl rfl) (lv (vi by_.1) (wy (df q39)) (a9 aG rfl bx15 rfl) (lv (vb (decide (1000<by_.1))) (wy (df q39)) (dZ (m:=by_.1) (n:=1000) rfl rfl) (lw (vb (decide (1000<by_.1))) (aB rfl (df q39) rfl) (mv (vb (decide (1000<by_.1))) ?_))))
   by_cases q44:1000<by_.1
   ·
    refine aa (wn (dt q44)) (aa (wn (dt q44)) (aa (wn (dt q44)) (lw (vb true) (aD rfl (dt q44) rfl) (mv (vb true) (aa (wn rfl) (aa (wn rfl) (aa (wn rfl) (lw (vb true) (aD rfl rfl rfl) (a8 (ae rfl rfl (a6 ?_)))))))))))
    clear bx5 bx10 bx15
    refine a5 rfl (ma (vb true) (a8 (av (vs:=[vb true]) Try.func4 (.tmp rfl .nil) ?_)))
    have e0:(true:Bool)=(true):=by
      rfl
    have C26:=cg [] (ch2.n.seq (ch7.n.seq (ch12.n.seq (hb17.n.seq (hb21.n.seq hb23.n)))))
    replace bH:=bH.ca C26
    exact⟨rb e0,bH.below⟩
   refine lv (vp b13 1) (wy (df q44)) (a7 cq rfl rfl rfl rfl) (lv (vi by_.2) (wy (df q44)) (a9 aG rfl bx15 rfl) (lv (vb (decide (by_.2<(-1000)))) (wy (df q44)) (b6 (m:=by_.2) (n:= -1000) rfl rfl) (lw (vb (decide (by_.2<(-1000)))) (aB rfl (df q44) rfl) (mv (vb (decide (by_.2<(-1000)))) ?_))))
   by_cases q49:by_.2<(-1000)
   ·
    refine aa (wn (dt q49)) (aa (wn (dt q49)) (aa (wn (dt q49)) (lw (vb true) (aD rfl (dt q49) rfl) (a8 (ae rfl rfl (a6 ?_))))))
    clear bx5 bx10 bx15
    refine a5 rfl (ma (vb true) (a8 (av (vs:=[vb true]) Try.func4 (.tmp rfl .nil) ?_)))
    have e0:(true:Bool)=(true):=by
      rfl
    have C27:=cg [] (ch2.n.seq (ch7.n.seq (ch12.n.seq (hb17.n.seq (hb21.n.seq hb23.n)))))
    replace bH:=bH.ca C27
    exact⟨rb e0,bH.below⟩
   refine lv (vp b13 1) (wy (df q49)) (a7 cq rfl rfl rfl rfl) (lv (vi by_.2) (wy (df q49)) (a9 aG rfl bx15 rfl) (lv (vb (decide (1000<by_.2))) (wy (df q49)) (dZ (m:=by_.2) (n:=1000) rfl rfl) (lw (vb (decide (1000<by_.2))) (aB rfl (df q49) rfl) (a8 ?_))))
   by_cases p3:1000<by_.2
   ·
    refine ae rfl (dt p3) (a6 ?_)
    clear bx5 bx10 bx15
    refine a5 rfl (ma (vb true) (a8 (av (vs:=[vb true]) Try.func4 (.tmp rfl .nil) ?_)))
    have e0:(true:Bool)=(true):=by
      rfl
    have C28:=cg [] (ch2.n.seq (ch7.n.seq (ch12.n.seq (hb17.n.seq (hb21.n.seq hb23.n)))))
    replace bH:=bH.ca C28
    exact⟨rb e0,bH.below⟩
   refine af rfl (df p3) (am (a6 (a5 rfl ?_)))
   replace bx5:=bx5.cn hb23
   refine lx (ad (ds:=[vi g.1,g_v]) bO rfl bx5 rfl rfl) ?_
   replace bx10:=(bx10.cn hb21).cn hb23
   refine lx (ad (ds:=[p_v,p_v1]) bJ rfl bx10 rfl rfl) ?_
   replace Rg:=Rg.cn hb23
   replace Rp:=(Rp.cn hb21).cn hb23
   replace r_p_v1:=(r_p_v1.cn hb21).cn hb23
   refine lo (aN (v:=vt [vg [Value.float .f64 (((al g p).1).1),Value.float .f64 ((((al g p).1).2).1),Value.float .f64 (((((al g p).1).2).2).1),Value.float .f64 ((((((al g p).1).2).2).2).1),Value.float .f64 (((((((al g p).1).2).2).2).2).1),Value.float .f64 ((((((((al g p).1).2).2).2).2).2).1),Value.float .f64 ((((((((al g p).1).2).2).2).2).2).2)],vi ((al g p).2)]) (az (vals:=[vg [vi g.1,g_v],vg [p_v,p_v1]]) Try.func8 kn k7 rfl) (gD w22 g g_v (Rg).ro p p_v p_v1 (Rp).ro (r_p_v1).ro (by exact λhf=>fS (ey hf).2.1 hp6)) ?_)
   intro w29 hb30
   replace hb30:=aj hb30 g14
   refine mv (vt [vg [Value.float .f64 (((al g p).1).1),Value.float .f64 ((((al g p).1).2).1),Value.float .f64 (((((al g p).1).2).2).1),Value.float .f64 ((((((al g p).1).2).2).2).1),Value.float .f64 (((((((al g p).1).2).2).2).2).1),Value.float .f64 ((((((((al g p).1).2).2).2).2).2).1),Value.float .f64 ((((((((al g p).1).2).2).2).2).2).2)],vi ((al g p).2)]) (lx (b5 rfl rfl) (lx (b5 rfl rfl) (lo (bB g14 (is 4) (4,0) rfl bh ?_))))
   intro g34 w31 b33 ch32 bx35
   replace bx35:Bx g34 (is 4) w31 b33 [Value.float .f64 0,Value.float .f64 0,Value.float .f64 0,Value.float .f64 0,Value.float .f64 0,Value.float .f64 0,Value.float .f64 0]:=bx35
   refine lo (au (cs':=[Value.float .f64 (((al g p).1).1),Value.float .f64 ((((al g p).1).2).1),Value.float .f64 (((((al g p).1).2).2).1),Value.float .f64 ((((((al g p).1).2).2).2).1),Value.float .f64 (((((((al g p).1).2).2).2).2).1),Value.float .f64 ((((((((al g p).1).2).2).2).2).2).1),Value.float .f64 ((((((((al g p).1).2).2).2).2).2).2)]) bh rfl rfl bx35 rfl nq (AllOne.all (.cons rfl (.cons rfl (.cons rfl (.cons rfl (.cons rfl (.cons rfl (.cons rfl .nil)))))))) rfl ?_)
   intro w36 ch37 bx38
   clear bx35
   refine ai ((al g p).2) (a8 (a6 (a5 rfl ?_)))
   have C39:=cg [4] (hb30.n.seq (ch32.n.seq (ch37.l rfl)))
   replace bx5:=bx5.ca C39
   refine lx (ad (ds:=[vi g.1,g_v]) bO rfl bx5 rfl rfl) ?_
   replace bx10:=bx10.ca C39
   refine lx (ad (ds:=[p_v,p_v1]) bJ rfl bx10 rfl rfl) ?_
   replace Rg:=Rg.ca C39
   replace Rp:=Rp.ca C39
   replace r_p_v1:=r_p_v1.ca C39
   refine lo (aN (v:=vt [vi ((aS g p).1),vi ((aS g p).2)]) (az (vals:=[vg [vi g.1,g_v],vg [p_v,p_v1]]) Try.func13 jf jk rfl) (eg w36 g g_v (Rg).ro p p_v p_v1 (Rp).ro (r_p_v1).ro) ?_)
   intro w40 hb41
   replace hb41:=aj hb41 g34
   refine mv (vt [vi ((aS g p).1),vi ((aS g p).2)]) (lx (b5 rfl rfl) (lx (b5 rfl rfl) (ai ((aS g p).1) (ai ((aS g p).2) (a8 (a6 (a6 (a5 rfl (mi ((al g p).2) (lx (dz (m:=(al g p).2) (n:=0) rfl rfl) (a8 ?_)))))))))))
   by_cases p7:((al g p).2)=0
   ·
    refine af rfl (congrArg Bool.not (dt p7)) (am (a6 (a6 ?_)))
    have hf0:=wI ‹_›
    obtain⟨_,hs,_⟩:=ey hf0
    have hs1:=hs.n
    have hs2:=hs.m
    refine a5 rfl ?_
    replace bx5:=bx5.cn hb41
    refine lx (ad (ds:=[vi g.1,g_v]) bO rfl bx5 rfl rfl) ?_
    replace bx10:=bx10.cn hb41
    refine lx (ad (ds:=[p_v,p_v1]) bJ rfl bx10 rfl rfl) ?_
    replace Rg:=Rg.cn hb41
    replace Rp:=Rp.cn hb41
    replace r_p_v1:=r_p_v1.cn hb41
    refine lo (d5 (az (vals:=[vg [vi g.1,g_v],vg [p_v,p_v1]]) Try.func14 tZ te rfl) (o6 w40 g g_v (Rg).ro p p_v p_v1 (Rp).ro (r_p_v1).ro ‹_›) ?_)
    rintro⟨d43,v45⟩ w42 ⟨fr44,o46⟩
    obtain⟨g47,ch48,G47⟩:=ny g34 fr44 (λn=>if n=1 then 5 else 0)
    replace o46:=o46.gl G47 5
    have len49:=(o46.flat).small
    refine lx (bE i9 rfl o46.flat) (lx (cu (m:=(List.length (du g p):Int)) (n:=0) rfl rfl) (mv (vb (decide ((List.length (du g p):Int)=0))) ?_))
    by_cases q75:(List.length (du g p):Int)=0
    ·
     refine lv (vi ((aS g p).1)) (wy (dt q75)) (aw rfl) (lv (vb (!(decide (((aS g p).1)=0)))) (wy (dt q75)) (dz (m:=(aS g p).1) (n:=0) rfl rfl) (lv (vb (!(decide (((aS g p).1)=0)))) (wy (dt q75)) (aw rfl) ?_))
     have q78:((aS g p).1)=0:=by exact tn (lQ ‹_›)
     refine lv (vp b3 1) (wy (congrArg Bool.not (dt q78))) (a7 eR rfl rfl rfl rfl) ?_
     replace bx5:=bx5.cn ch48
     refine lv (g_v) (wy (congrArg Bool.not (dt q78))) (a9 ch rfl bx5 rfl) ?_
     replace Rg:=Rg.cn ch48
     have len50:=(Rg).small
     refine lv (vi (g.2.length:Int)) (wy (congrArg Bool.not (dt q78))) (bE gv rfl Rg) (lv (vb (decide (0<(g.2.length:Int)))) (wy (congrArg Bool.not (dt q78))) (dZ (m:=(g.2.length:Int)) (n:=0) rfl rfl) (lv (vb (decide (0<(g.2.length:Int)))) (wy (congrArg Bool.not (dt q78))) (aw rfl) ?_))
     by_cases q83:0<(g.2.length:Int)
     ·
      refine lv (vp b33 4) (wy (dt q83)) (a7 gu rfl rfl rfl rfl) ?_
      replace bx38:=(bx38.cn hb41).cn ch48
      refine lv (Value.float .f64 (((((((al g p).1).2).2).2).2).1)) (wy (dt q83)) (a9 aX rfl bx38 rfl) (lv (vb (decide (4607182418800017408<=(((((((al g p).1).2).2).2).2).1)))) (wy (dt q83)) (vX (a:=(((((((al g p).1).2).2).2).2).1)) (b:=4607182418800017408) rfl rfl (by exact rD hf0 (lQ ‹_›) hp6 ‹_›) (by decide)) (lv (vb (!(decide (4607182418800017408<=(((((((al g p).1).2).2).2).2).1))))) (wy (dt q83)) (cm (b:=decide (4607182418800017408<=(((((((al g p).1).2).2).2).2).1))) rfl) (lv (vb (!(decide (4607182418800017408<=(((((((al g p).1).2).2).2).2).1))))) (wy (congrArg Bool.not (dt q78))) (aD rfl (dt q83) rfl) ?_)))
      refine lv (vb (!(decide (4607182418800017408<=(((((((al g p).1).2).2).2).2).1))))) (wy (dt q75)) (aB rfl (congrArg Bool.not (dt q78)) rfl) (lw (vb (!(decide (4607182418800017408<=(((((((al g p).1).2).2).2).2).1))))) (aD rfl (dt q75) rfl) (a8 ?_))
      have p9:4607182418800017408<=(((((((al g p).1).2).2).2).2).1):=by exact sf hm hf0 (lQ ‹_›) hp6 ‹_›
      refine af rfl (congrArg Bool.not (dt p9)) (am (a6 ?_))
      clear o46
      refine a5 rfl (lw (vg [vn,vn]) (bz (vs:=[]) rfl (by kernel_rfl)) (lo (bB g47 (is 6) (6,0) rfl bJ ?_)))
      intro g54 w51 b53 ch52 bx55
      replace bx55:Bx g54 (is 6) w51 b53 [vn,vn]:=bx55
      refine lo (au (cs':=[vn,vn]) bJ rfl rfl bx55 rfl nq (AllOne.all (.cons rfl (.cons rfl .nil))) rfl ?_)
      intro w56 ch57 bx58
      clear bx55
      refine a8 (a6 (a6 (a5 rfl (ai 0 (a8 (ao ?_))))))
      refine bf (σ:=Value×(List Pt)×Nat×aW) (λ⟨qA_v,qA,v,gq⟩ f w=>bo w0 gq w/\f 3=vp b3 0/\f 4=vp b8 0/\f 5=vp b13 0/\f 7=vp b33 0/\f 9=vi ((aS g p).1)/\f 11=vp b53 0/\f 12=vi ↑v/\Sl gq (is 0) w g_v g.2/\Sl gq (is 0) w p_v p.1/\Sl gq (is 0) w p_v1 p.2/\Bx gq (is 1) w b3 [vi g.1,g_v]/\Bx gq (is 2) w b8 [p_v,p_v1]/\Bx gq (is 3) w b13 [vi by_.1,vi by_.2]/\Bx gq (is 4) w b33 [Value.float .f64 (((al g p).1).1),Value.float .f64 ((((al g p).1).2).1),Value.float .f64 (((((al g p).1).2).2).1),Value.float .f64 ((((((al g p).1).2).2).2).1),Value.float .f64 (((((((al g p).1).2).2).2).2).1),Value.float .f64 ((((((((al g p).1).2).2).2).2).2).1),Value.float .f64 ((((((((al g p).1).2).2).2).2).2).2)]/\Bx gq (is 6) w b53 [qA_v,vn]/\Ow gq (is 8) (is 8) w qA_v qA/\(v:Int)<=((p.1.length:Int):Int)/\(qA=(p.1.take v).map (λa=>bR a by_))) (λ⟨qA_v,qA,v,gq⟩=>Int.toNat (((p.1.length:Int):Int)-(v:Int))) (vn,[],0,g54) ?_ ?_
      have C61:=cg [4,6] (hb30.n.seq (ch32.n.seq ((ch37.l rfl).seq (hb41.n.seq (ch48.n.seq (ch52.n.seq (ch57.l rfl)))))))
      have C59:=ch2.n.seq (ch7.n.seq (ch12.n.seq (hb17.n.seq (hb21.n.seq (hb23.n.seq C61)))))
      have C60:=cg [6] (ch48.n.seq (ch52.n.seq (ch57.l rfl)))
      · exact⟨bH.ca C59,rfl,rfl,rfl,rfl,rfl,rfl,rfl,(Rg.cn ch52).ce ch57,Rp.ca C60,r_p_v1.ca C60,(bx5.cn ch52).ce ch57,bx10.ca C60,bx15.ca C61,(bx38.cn ch52).ce ch57,bx58,Ow.nil,by omega,by rfl⟩
      clear Rg Rp r_p_v1 bx5 bx10 bx15 bx38 bx58 bH
      rintro⟨qA_v,qA,v,g64⟩ f62 w63 ⟨bH,zs3,zs4,zs5,zs7,zs9,zs11,zs12,Rg,Rp,r_p_v1,bx5,bx10,bx15,bx38,bx58,o_qA,hle_v,hqa⟩ back13
      have hal:=jx hqa
      refine a6 (a6 (a5 rfl (mz zs12 (lx (a7 dn rfl rfl zs4 rfl) (lx (a9 bt rfl bx10 rfl) ?_)))))
      have len65:=(Rp).small
      refine lx (bE bZ rfl Rp) (lx (b6 (m:=↑v) (n:=(p.1.length:Int)) rfl rfl) (a8 ?_))
      by_cases p13:(v:Int)<(p.1.length:Int)
      ·
       refine ae rfl (dt p13) ?_
       obtain⟨⟨hv1,hv2⟩,hv3,hv4⟩:=hs.pt (v:Int) (by omega) ‹_›
       refine am (a6 (ao ?_))
       refine iB (σ:=Value×aW) (λ⟨v75,gq⟩ f w=>bo w0 gq w/\f 3=vp b3 0/\f 4=vp b8 0/\f 5=vp b13 0/\f 7=vp b33 0/\f 9=vi ((aS g p).1)/\f 11=vp b53 0/\f 12=vi ↑v/\Sl gq (is 0) w g_v g.2/\Sl gq (is 0) w p_v p.1/\Sl gq (is 0) w p_v1 p.2/\Bx gq (is 1) w b3 [vi g.1,g_v]/\Bx gq (is 2) w b8 [p_v,p_v1]/\Bx gq (is 3) w b13 [vi by_.1,vi by_.2]/\Bx gq (is 4) w b33 [Value.float .f64 (((al g p).1).1),Value.float .f64 ((((al g p).1).2).1),Value.float .f64 (((((al g p).1).2).2).1),Value.float .f64 ((((((al g p).1).2).2).2).1),Value.float .f64 (((((((al g p).1).2).2).2).2).1),Value.float .f64 ((((((((al g p).1).2).2).2).2).2).1),Value.float .f64 ((((((((al g p).1).2).2).2).2).2).2)]/\Ow gq (is 8) (is 8) w v75 (qA++([((((gI p.1 ↑v).1)+by_.1),(((gI p.1 ↑v).2)+by_.2))]:List Pt))/\Bx gq (is 6) w b53 [v75,vn]) g64 [0,2,3,4,5,6,7,8,9,10,11,12,13,14,15,16,17,18,19,23] fP ?_ ?_
       ·
        intro mid
        intro w67 ch66
        refine xp 0 rfl (λw=>a7 dn rfl rfl zs11 rfl) (xp 2 rfl (λw=>a7 dn rfl rfl zs4 rfl) ?_)
        replace bx10:=bx10.cn ch66
        refine xh 3 [2,0,1,4,8,11,13,17,9,12,18,14,15,16,19] rfl (λw' hw'=>a9 bt rfl (bx10.bel hw') rfl) (xp (v:=vi ↑v) 4 rfl (λw=>aw zs12) ?_)
        replace Rp:=Rp.cn ch66
        refine xh 5 [4,3,2,0,1,8,11,13,17,9,12,18,14,15,16,19] rfl (λw' hw'=>ab (v:=p_v) (i:=↑v) bZ rfl rfl (Rp.bel hw') rfl (by omega) (by omega)) (xp (v:=Value.pointer (some ⟨(aU p_v 2 (Int.toNat ↑v)).block,(aU p_v 2 (Int.toNat ↑v)).off+0,none⟩)) 6 rfl (λw=>bX cq rfl rfl rfl rfl) (xh 7 [6,5,4,3,2,0,1,8,11,13,17,9,12,18,14,15,16,19] rfl (λw' hw'=>bN (v:=p_v) (i:=↑v) aG rfl (Rp.bel hw') (by omega) (by omega) (by decide) rfl) (xp 8 rfl (λw=>a7 cq rfl rfl zs5 rfl) ?_)))
        replace bx15:=bx15.cn ch66
        refine xh 9 [8,7,6,5,4,3,2,0,1,11,13,17,12,18,14,15,16,19] rfl (λw' hw'=>a9 aG rfl (bx15.bel hw') rfl) (xp 10 rfl (λw=>aQ (m:=(gI p.1 ↑v).1) (n:=by_.1) rfl rfl (by omega)) (xp 11 rfl (λw=>a7 dn rfl rfl zs4 rfl) (xh 12 [11,10,9,8,7,6,5,4,3,2,0,1,13,17,18] rfl (λw' hw'=>a9 bt rfl (bx10.bel hw') rfl) (xp (v:=vi ↑v) 13 rfl (λw=>aw zs12) (xh 14 [13,12,11,10,9,8,7,6,5,4,3,2,0,1,17,18] rfl (λw' hw'=>ab (v:=p_v) (i:=↑v) bZ rfl rfl (Rp.bel hw') rfl (by omega) (by omega)) (xp (v:=Value.pointer (some ⟨(aU p_v 2 (Int.toNat ↑v)).block,(aU p_v 2 (Int.toNat ↑v)).off+1,none⟩)) 15 rfl (λw=>bX cq rfl rfl rfl rfl) ?_))))))
        refine xh 16 [15,14,13,12,11,10,9,8,7,6,5,4,3,2,0,1,17,18] rfl (λw' hw'=>bN (v:=p_v) (i:=↑v) aG rfl (Rp.bel hw') (by omega) (by omega) (by decide) rfl) (xp 17 rfl (λw=>a7 cq rfl rfl zs5 rfl) (xh 18 [17,16,15,14,13,12,11,10,9,8,7,6,5,4,3,2,0,1] rfl (λw' hw'=>a9 aG rfl (bx15.bel hw') rfl) (xp 19 rfl (λw=>aQ (m:=(gI p.1 ↑v).2) (n:=by_.2) rfl rfl (by omega)) ?_)))
        refine lj 1 20 rfl rfl (by kernel_rfl) rfl rfl ?_ ?_
        ·
         replace bx58:=bx58.cn ch66
         refine aP (v:=qA_v) (a9 bt rfl bx58 rfl) (cf 20 rfl (by kernel_rfl) rfl (aN (v:=vg [vi (((gI p.1 ↑v).1)+by_.1),vi (((gI p.1 ↑v).2)+by_.2)]) (az (vals:=[vi (((gI p.1 ↑v).1)+by_.1),vi (((gI p.1 ↑v).2)+by_.2)]) Try.func15 dC dF rfl) (dE w67 (((gI p.1 ↑v).1)+by_.1) (((gI p.1 ↑v).2)+by_.2)) ?_))
         intro w68 hb69
         replace hb69:=aj hb69 g64
         refine cf 21 rfl (by kernel_rfl) rfl (aC (α:=Pt) g64 (is 7) (is 7) (7,0) rfl ([((((gI p.1 ↑v).1)+by_.1),(((gI p.1 ↑v).2)+by_.2))]:List Pt) bZ ah (by decide) (by decide) (vs:=[(0,vg [vi (((gI p.1 ↑v).1)+by_.1),vi (((gI p.1 ↑v).2)+by_.2)])]) rfl rfl (.cons rfl .nil) ?_)
         intro g70 w71 v72 ch73 o74
         refine cf 22 rfl (by kernel_rfl) rfl ?_
         have C75:=cg [] (ch66.n.seq (hb69.n.seq ch73.n))
         replace o_qA:=o_qA.ca C75
         refine b9 (α:=Pt) (xs:=qA) (ys:=([((((gI p.1 ↑v).1)+by_.1),(((gI p.1 ↑v).2)+by_.2))]:List Pt)) g70 (J:=is 8) (S:=is 8) (8,0) rfl bZ ah (by decide) rfl rfl rfl o_qA o74.flat (by decide) (by(simp;omega)) ?_
         intro g76 w77 v78 ch79 o80
         clear o_qA
         refine xp 23 rfl (λw=>a7 dn rfl rfl zs11 rfl) (cf 24 rfl (by kernel_rfl) rfl ?_)
         have C84:=cg [8] (hb69.n.seq (ch73.n.seq (ch79.l rfl)))
         replace bx58:=bx58.ca C84
         refine bV (cs':=[v78,vn]) bt rfl rfl bx58 (c5 o80.flat) nq (cU o80.flat) rfl ?_
         intro w81 ch82 bx83
         clear bx58
         refine eQ (by kernel_rfl) ?_
         have C86:=cg [6,8] (hb69.n.seq (ch73.n.seq ((ch79.l rfl).seq (ch82.l rfl))))
         have C85:=ch66.n.seq C86
         exact mid (v78,g76) _ _ ⟨bH.ca C85,zs3,zs4,zs5,zs7,zs9,zs11,zs12,Rg.ca C85,Rp.ca C86,r_p_v1.ca C85,bx5.ca C85,bx10.ca C86,bx15.ca C86,bx38.ca C85,o80.ce ch82,bx83⟩
        ·
         refine aN (v:=vg [vi (((gI p.1 ↑v).1)+by_.1),vi (((gI p.1 ↑v).2)+by_.2)]) (az (vals:=[vi (((gI p.1 ↑v).1)+by_.1),vi (((gI p.1 ↑v).2)+by_.2)]) Try.func15 dC dF rfl) (dE w67 (((gI p.1 ↑v).1)+by_.1) (((gI p.1 ↑v).2)+by_.2)) ?_
         intro w87 hb88
         replace hb88:=aj hb88 g64
         refine lj 1 21 rfl rfl (by kernel_rfl) rfl rfl ?_ ?_
         ·
          replace bx58:=(bx58.cn ch66).cn hb88
          refine aP (v:=qA_v) (a9 bt rfl bx58 rfl) (cf 21 rfl (by kernel_rfl) rfl (aC (α:=Pt) g64 (is 7) (is 7) (7,0) rfl ([((((gI p.1 ↑v).1)+by_.1),(((gI p.1 ↑v).2)+by_.2))]:List Pt) bZ ah (by decide) (by decide) (vs:=[(0,vg [vi (((gI p.1 ↑v).1)+by_.1),vi (((gI p.1 ↑v).2)+by_.2)])]) rfl rfl (.cons rfl .nil) ?_))
          intro g89 w90 v91 ch92 o93
          refine cf 22 rfl (by kernel_rfl) rfl ?_
          have C94:=cg [] (ch66.n.seq (hb88.n.seq ch92.n))
          replace o_qA:=o_qA.ca C94
          refine b9 (α:=Pt) (xs:=qA) (ys:=([((((gI p.1 ↑v).1)+by_.1),(((gI p.1 ↑v).2)+by_.2))]:List Pt)) g89 (J:=is 8) (S:=is 8) (8,0) rfl bZ ah (by decide) rfl rfl rfl o_qA o93.flat (by decide) (by(simp;omega)) ?_
          intro g95 w96 v97 ch98 o99
          clear o_qA
          refine xp 23 rfl (λw=>a7 dn rfl rfl zs11 rfl) (cf 24 rfl (by kernel_rfl) rfl ?_)
          replace bx58:=(bx58.cn ch92).ce ch98
          refine bV (cs':=[v97,vn]) bt rfl rfl bx58 (c5 o99.flat) nq (cU o99.flat) rfl ?_
          intro w100 ch101 bx102
          clear bx58
          refine eQ (by kernel_rfl) ?_
          have C104:=cg [6,8] (hb88.n.seq (ch92.n.seq ((ch98.l rfl).seq (ch101.l rfl))))
          have C103:=ch66.n.seq C104
          exact mid (v97,g95) _ _ ⟨bH.ca C103,zs3,zs4,zs5,zs7,zs9,zs11,zs12,Rg.ca C103,Rp.ca C104,r_p_v1.ca C103,bx5.ca C103,bx10.ca C104,bx15.ca C104,bx38.ca C103,o99.ce ch101,bx102⟩
         ·
          refine aC (α:=Pt) g64 (is 7) (is 7) (7,0) rfl ([((((gI p.1 ↑v).1)+by_.1),(((gI p.1 ↑v).2)+by_.2))]:List Pt) bZ ah (by decide) (by decide) (vs:=[(0,vg [vi (((gI p.1 ↑v).1)+by_.1),vi (((gI p.1 ↑v).2)+by_.2)])]) rfl rfl (.cons rfl .nil) ?_
          intro g105 w106 v107 ch108 o109
          have C110:=cg [] (ch66.n.seq (hb88.n.seq ch108.n))
          replace bx58:=bx58.ca C110
          refine cf 1 rfl (by kernel_rfl) rfl (aP (v:=qA_v) (a9 bt rfl bx58 rfl) (cf 22 rfl (by kernel_rfl) rfl ?_))
          replace o_qA:=o_qA.ca C110
          refine b9 (α:=Pt) (xs:=qA) (ys:=([((((gI p.1 ↑v).1)+by_.1),(((gI p.1 ↑v).2)+by_.2))]:List Pt)) g105 (J:=is 8) (S:=is 8) (8,0) rfl bZ ah (by decide) rfl rfl rfl o_qA o109.flat (by decide) (by(simp;omega)) ?_
          intro g111 w112 v113 ch114 o115
          clear o_qA
          refine xp 23 rfl (λw=>a7 dn rfl rfl zs11 rfl) (cf 24 rfl (by kernel_rfl) rfl ?_)
          replace bx58:=bx58.ce ch114
          refine bV (cs':=[v113,vn]) bt rfl rfl bx58 (c5 o115.flat) nq (cU o115.flat) rfl ?_
          intro w116 ch117 bx118
          clear bx58
          refine eQ (by kernel_rfl) ?_
          have C120:=cg [6,8] (hb88.n.seq (ch108.n.seq ((ch114.l rfl).seq (ch117.l rfl))))
          have C119:=ch66.n.seq C120
          exact mid (v113,g111) _ _ ⟨bH.ca C119,zs3,zs4,zs5,zs7,zs9,zs11,zs12,Rg.ca C119,Rp.ca C120,r_p_v1.ca C119,bx5.ca C119,bx10.ca C120,bx15.ca C120,bx38.ca C119,o115.ce ch117,bx118⟩
       clear Rg Rp r_p_v1 bx5 bx10 bx15 bx38 bx58 o_qA bH
       rintro⟨v75,g123⟩ f121 w122 ⟨bH,zs3,zs4,zs5,zs7,zs9,zs11,zs12,Rg,Rp,r_p_v1,bx5,bx10,bx15,bx38,o77,bx80⟩
       refine ak (a5 rfl (mz zs12 (lx (aQ (m:=↑v) (n:=1) rfl rfl (by omega)) (ai ((v:Int)+1) (a8 ?_)))))
       refine back13 (v75,(qA++([((((gI p.1 ↑v).1)+by_.1),(((gI p.1 ↑v).2)+by_.2))]:List Pt)),v+1,g123) _ _ ⟨bH,zs3,zs4,zs5,zs7,zs9,zs11,rfl,Rg,Rp,r_p_v1,bx5,bx10,bx15,bx38,bx80,o77,by omega,?_⟩ ?_
       · show(qA++([((((gI p.1 ↑v).1)+by_.1),(((gI p.1 ↑v).2)+by_.2))]:List Pt))=(p.1.take (v+1)).map (λa=>bR a by_)
         exact i3 hqa ‹_›
       · show Int.toNat (((p.1.length:Int):Int)-((v+1):Int))<Int.toNat (((p.1.length:Int):Int)-(v:Int))
         omega
      refine af rfl (df p13) (aO rfl (a6 (a6 (a5 rfl (ai 0 (a8 (ao ?_)))))))
      refine bf (σ:=Value×(List (List Pt))×Nat×aW) (λ⟨qL_v,qL,e,gq⟩ f w=>bo w0 gq w/\f 3=vp b3 0/\f 4=vp b8 0/\f 5=vp b13 0/\f 7=vp b33 0/\f 9=vi ((aS g p).1)/\f 11=vp b53 0/\f 13=vi ↑e/\Sl gq (is 0) w g_v g.2/\Sl gq (is 0) w p_v p.1/\Sl gq (is 0) w p_v1 p.2/\Bx gq (is 1) w b3 [vi g.1,g_v]/\Bx gq (is 2) w b8 [p_v,p_v1]/\Bx gq (is 3) w b13 [vi by_.1,vi by_.2]/\Bx gq (is 4) w b33 [Value.float .f64 (((al g p).1).1),Value.float .f64 ((((al g p).1).2).1),Value.float .f64 (((((al g p).1).2).2).1),Value.float .f64 ((((((al g p).1).2).2).2).1),Value.float .f64 (((((((al g p).1).2).2).2).2).1),Value.float .f64 ((((((((al g p).1).2).2).2).2).2).1),Value.float .f64 ((((((((al g p).1).2).2).2).2).2).2)]/\Bx gq (is 6) w b53 [qA_v,qL_v]/\Ow gq (is 8) (is 8) w qA_v qA/\eb gq 12 w qL_v qL/\(e:Int)<=((p.2.length:Int):Int)/\(qL=(p.2.take e).map (List.map (λa=>bR a by_)))) (λ⟨qL_v,qL,e,gq⟩=>Int.toNat (((p.2.length:Int):Int)-(e:Int))) (vn,[],0,g64) ?_ ?_
      · exact⟨bH,zs3,zs4,zs5,zs7,zs9,zs11,rfl,Rg,Rp,r_p_v1,bx5,bx10,bx15,bx38,bx58,o_qA,eb.nil,by omega,by rfl⟩
      clear Rg Rp r_p_v1 bx5 bx10 bx15 bx38 bx58 o_qA bH
      rintro⟨qL_v,qL,e,g126⟩ f124 w125 ⟨bH,zs3,zs4,zs5,zs7,zs9,zs11,zs13,Rg,Rp,r_p_v1,bx5,bx10,bx15,bx38,bx58,o_qA,o_qL,hle_e,hql⟩ back17
      have hbl:=nV hql
      refine a6 (a6 (a5 rfl (mz zs13 (lx (a7 dn rfl rfl zs4 rfl) (lx (a9 ci rfl bx10 rfl) ?_)))))
      have len127:=(r_p_v1).small
      refine lx (bE eP rfl r_p_v1) (lx (b6 (m:=↑e) (n:=(p.2.length:Int)) rfl rfl) (a8 ?_))
      by_cases p17:(e:Int)<(p.2.length:Int)
      ·
       refine ae rfl (dt p17) ?_
       have hle:=hp6 (e:Int) (by omega) ‹_›
       refine am (a6 (ao (a6 (a5 rfl (ma vn (a8 (a6 (a6 (a5 rfl (ai 0 (a8 (ao ?_))))))))))))
       refine bf (σ:=Value×(List Pt)×Nat×aW) (λ⟨l_v,l,k,gq⟩ f w=>bo w0 gq w/\f 3=vp b3 0/\f 4=vp b8 0/\f 5=vp b13 0/\f 7=vp b33 0/\f 9=vi ((aS g p).1)/\f 11=vp b53 0/\f 13=vi ↑e/\f 14=l_v/\f 15=vi ↑k/\Sl gq (is 0) w g_v g.2/\Sl gq (is 0) w p_v p.1/\Sl gq (is 0) w p_v1 p.2/\Bx gq (is 1) w b3 [vi g.1,g_v]/\Bx gq (is 2) w b8 [p_v,p_v1]/\Bx gq (is 3) w b13 [vi by_.1,vi by_.2]/\Bx gq (is 4) w b33 [Value.float .f64 (((al g p).1).1),Value.float .f64 ((((al g p).1).2).1),Value.float .f64 (((((al g p).1).2).2).1),Value.float .f64 ((((((al g p).1).2).2).2).1),Value.float .f64 (((((((al g p).1).2).2).2).2).1),Value.float .f64 ((((((((al g p).1).2).2).2).2).2).1),Value.float .f64 ((((((((al g p).1).2).2).2).2).2).2)]/\Bx gq (is 6) w b53 [qA_v,qL_v]/\Ow gq (is 8) (is 8) w qA_v qA/\eb gq 12 w qL_v qL/\Ow gq (is 10) (is 10) w l_v l/\(k:Int)<=((List.length (gI p.2 ↑e):Int):Int)/\(l=((gI p.2 ↑e).take k).map (λa=>bR a by_))) (λ⟨l_v,l,k,gq⟩=>Int.toNat (((List.length (gI p.2 ↑e):Int):Int)-(k:Int))) (vn,[],0,g126) ?_ ?_
       · exact⟨bH,zs3,zs4,zs5,zs7,zs9,zs11,zs13,rfl,rfl,Rg,Rp,r_p_v1,bx5,bx10,bx15,bx38,bx58,o_qA,o_qL,Ow.nil,by omega,by simp⟩
       clear Rg Rp r_p_v1 bx5 bx10 bx15 bx38 bx58 o_qA o_qL bH
       rintro⟨l_v,l,k,g130⟩ f128 w129 ⟨bH,zs3,zs4,zs5,zs7,zs9,zs11,zs13,zs14,zs15,Rg,Rp,r_p_v1,bx5,bx10,bx15,bx38,bx58,o_qA,o_qL,o_l,hle_k,hqk⟩ back21
       have hcl:=jx hqk
       refine a6 (a6 (a5 rfl (mz zs15 (lx (a7 dn rfl rfl zs4 rfl) (lx (a9 ci rfl bx10 rfl) (mz zs13 (lx (ab (v:=p_v1) (i:=↑e) eP rfl rfl r_p_v1 rfl (by omega) (by omega)) ?_)))))))
       obtain⟨v131,cel132,r133⟩:=cN (r:=(e:Int)) r_p_v1 (by omega) (by omega)
       refine lx (aZ bt rfl cel132) ?_
       have len134:=(r133).small
       refine lx (bE bZ rfl r133) (lx (b6 (m:=↑k) (n:=(List.length (gI p.2 ↑e):Int)) rfl rfl) (a8 ?_))
       by_cases p21:(k:Int)<(List.length (gI p.2 ↑e):Int)
       ·
        refine ae rfl (dt p21) ?_
        obtain⟨⟨hv1,hv2⟩,hv3,hv4⟩:=(hs.ln (e:Int) (by omega) (by omega)).2.2 _ (ba (i:=↑k) (by omega) ‹_›)
        refine am (a6 (ao ?_))
        clear r133
        refine dc g130 [0,1,2,3,4,5,6,7,8,9,10,11,12,13,14,15,16,17,18,19,20,21,22,23,24,28] fP ?_
        intro w136 ch135
        refine xp (v:=l_v) 0 rfl (λw=>aw zs14) (xp 1 rfl (λw=>a7 dn rfl rfl zs4 rfl) ?_)
        replace bx10:=bx10.cn ch135
        refine xv 2 [1,0,3,6,10,13,15,18,22,11,14,23,16,17,19,20,21,24] rfl (a9 ci rfl bx10 rfl) (xp (v:=vi ↑e) 3 rfl (λw=>aw zs13) ?_)
        replace r_p_v1:=r_p_v1.cn ch135
        refine xv 4 [3,2,1,0,6,10,13,15,18,22,11,14,23,16,17,19,20,21,24] rfl (ab (v:=p_v1) (i:=↑e) eP rfl rfl r_p_v1 rfl (by omega) (by omega)) ?_
        obtain⟨v137,cel138,r139⟩:=cN (r:=(e:Int)) r_p_v1 (by omega) (by omega)
        refine xv 5 [4,3,2,1,0,6,10,13,15,18,22,11,14,23,16,17,19,20,21,24] rfl (aZ bt rfl cel138) (xp (v:=vi ↑k) 6 rfl (λw=>aw zs15) (xv 7 [6,5,4,3,2,1,0,10,13,15,18,22,11,14,23,16,17,19,20,21,24] rfl (ab (v:=v137) (i:=↑k) bZ rfl rfl r139 rfl (by omega) (by omega)) (xp (v:=Value.pointer (some ⟨(aU v137 2 (Int.toNat ↑k)).block,(aU v137 2 (Int.toNat ↑k)).off+0,none⟩)) 8 rfl (λw=>bX cq rfl rfl rfl rfl) (xv 9 [8,7,6,5,4,3,2,1,0,10,13,15,18,22,11,14,23,16,17,19,20,21,24] rfl (bN (v:=v137) (i:=↑k) aG rfl r139 (by omega) (by omega) (by decide) rfl) (xp 10 rfl (λw=>a7 cq rfl rfl zs5 rfl) ?_)))))
        replace bx15:=bx15.cn ch135
        refine xv 11 [10,9,8,7,6,5,4,3,2,1,0,13,15,18,22,14,23,16,17,19,20,21,24] rfl (a9 aG rfl bx15 rfl) (xp 12 rfl (λw=>aQ (m:=(gI (gI p.2 ↑e) ↑k).1) (n:=by_.1) rfl rfl (by omega)) (xp 13 rfl (λw=>a7 dn rfl rfl zs4 rfl) (xv 14 [13,12,11,10,9,8,7,6,5,4,3,2,1,0,15,18,22,23] rfl (a9 ci rfl bx10 rfl) (xp (v:=vi ↑e) 15 rfl (λw=>aw zs13) (xv 16 [15,14,13,12,11,10,9,8,7,6,5,4,3,2,1,0,18,22,23] rfl (ab (v:=p_v1) (i:=↑e) eP rfl rfl r_p_v1 rfl (by omega) (by omega)) ?_)))))
        obtain⟨v140,cel141,r142⟩:=cN (r:=(e:Int)) r_p_v1 (by omega) (by omega)
        refine xv 17 [16,15,14,13,12,11,10,9,8,7,6,5,4,3,2,1,0,18,22,23] rfl (aZ bt rfl cel141) (xp (v:=vi ↑k) 18 rfl (λw=>aw zs15) (xv 19 [18,17,16,15,14,13,12,11,10,9,8,7,6,5,4,3,2,1,0,22,23] rfl (ab (v:=v140) (i:=↑k) bZ rfl rfl r142 rfl (by omega) (by omega)) (xp (v:=Value.pointer (some ⟨(aU v140 2 (Int.toNat ↑k)).block,(aU v140 2 (Int.toNat ↑k)).off+1,none⟩)) 20 rfl (λw=>bX cq rfl rfl rfl rfl) (xv 21 [20,19,18,17,16,15,14,13,12,11,10,9,8,7,6,5,4,3,2,1,0,22,23] rfl (bN (v:=v140) (i:=↑k) aG rfl r142 (by omega) (by omega) (by decide) rfl) (xp 22 rfl (λw=>a7 cq rfl rfl zs5 rfl) ?_)))))
        refine xv 23 [22,21,20,19,18,17,16,15,14,13,12,11,10,9,8,7,6,5,4,3,2,1,0] rfl (a9 aG rfl bx15 rfl) (xp 24 rfl (λw=>aQ (m:=(gI (gI p.2 ↑e) ↑k).2) (n:=by_.2) rfl rfl (by omega)) (cf 25 rfl (by kernel_rfl) rfl (aN (v:=vg [vi (((gI (gI p.2 ↑e) ↑k).1)+by_.1),vi (((gI (gI p.2 ↑e) ↑k).2)+by_.2)]) (az (vals:=[vi (((gI (gI p.2 ↑e) ↑k).1)+by_.1),vi (((gI (gI p.2 ↑e) ↑k).2)+by_.2)]) Try.func15 dC dF rfl) (dE w136 (((gI (gI p.2 ↑e) ↑k).1)+by_.1) (((gI (gI p.2 ↑e) ↑k).2)+by_.2)) ?_)))
        intro w143 hb144
        replace hb144:=aj hb144 g130
        refine cf 26 rfl (by kernel_rfl) rfl (aC (α:=Pt) g130 (is 9) (is 9) (9,0) rfl ([((((gI (gI p.2 ↑e) ↑k).1)+by_.1),(((gI (gI p.2 ↑e) ↑k).2)+by_.2))]:List Pt) bZ ah (by decide) (by decide) (vs:=[(0,vg [vi (((gI (gI p.2 ↑e) ↑k).1)+by_.1),vi (((gI (gI p.2 ↑e) ↑k).2)+by_.2)])]) rfl rfl (.cons rfl .nil) ?_)
        intro g145 w146 v147 ch148 o149
        refine cf 27 rfl (by kernel_rfl) rfl ?_
        have C150:=cg [] (ch135.n.seq (hb144.n.seq ch148.n))
        replace o_l:=o_l.ca C150
        refine b9 (α:=Pt) (xs:=l) (ys:=([((((gI (gI p.2 ↑e) ↑k).1)+by_.1),(((gI (gI p.2 ↑e) ↑k).2)+by_.2))]:List Pt)) g145 (J:=is 10) (S:=is 10) (10,0) rfl bZ ah (by decide) rfl rfl rfl o_l o149.flat (by decide) (by(simp;omega)) ?_
        intro g151 w152 v153 ch154 o155
        clear o_l
        refine xp (v:=v153) 28 rfl (λw=>bi rfl) (eQ (by kernel_rfl) (ak ?_))
        clear r139 r142 o149
        refine a5 rfl (mz zs15 (lx (aQ (m:=↑k) (n:=1) rfl rfl (by omega)) (ai ((k:Int)+1) (a8 ?_))))
        have C157:=cg [10] (hb144.n.seq (ch148.n.seq (ch154.l rfl)))
        have C156:=ch135.n.seq C157
        refine back21 (v153,(l++([((((gI (gI p.2 ↑e) ↑k).1)+by_.1),(((gI (gI p.2 ↑e) ↑k).2)+by_.2))]:List Pt)),k+1,g151) _ _ ⟨bH.ca C156,zs3,zs4,zs5,zs7,zs9,zs11,zs13,rfl,rfl,Rg.ca C156,Rp.ca C156,r_p_v1.ca C157,bx5.ca C156,bx10.ca C157,bx15.ca C157,bx38.ca C156,bx58.ca C156,o_qA.ca C156,o_qL.ca C156,o155,by omega,?_⟩ ?_
        · show(l++([((((gI (gI p.2 ↑e) ↑k).1)+by_.1),(((gI (gI p.2 ↑e) ↑k).2)+by_.2))]:List Pt))=((gI p.2 ↑e).take (k+1)).map (λa=>bR a by_)
          exact i3 hqk ‹_›
        · show Int.toNat (((List.length (gI p.2 ↑e):Int):Int)-((k+1):Int))<Int.toNat (((List.length (gI p.2 ↑e):Int):Int)-(k:Int))
          omega
       refine af rfl (df p21) (aO rfl ?_)
       clear r133
       refine a5 rfl (lx (a7 dn rfl rfl zs11 rfl) (lx (a9 ci rfl bx58 rfl) (mz zs14 (lo ?_))))
       obtain⟨c158,hv159⟩:=jK (u:=l_v) (cU o_l.flat)
       refine aC (α:=Vc) g130 (is 11) (is 11) (11,0) rfl [c158] eP bt (by decide) (by decide) (vs:=[(0,l_v)]) rfl rfl (.cons (gR hv159 (c5 o_l.flat)) .nil) ?_
       intro g160 w161 v162 ch163 o164
       refine lo ?_
       replace o_qL:=o_qL.cn ch163
       replace o_l:=o_l.cn ch163
       refine ga hv159 (α:=Pt) (xss:=qL) (i:=12) (γ:=g160) eP bt rfl rfl rfl o_qL (o164.flat) o_l rfl (by decide) (by omega) ?_
       intro g165 w166 v167 ch168 o169 r170
       clear o_qL o_l
       refine lx (a7 dn rfl rfl zs11 rfl) (lo ?_)
       replace bx58:=(bx58.cn ch163).chg ch168 (me rfl rfl)
       refine bV (cs':=[qA_v,v167]) ci rfl rfl bx58 (c5 o169.sl) nq (cU o169.sl) rfl ?_
       intro w171 ch172 bx173
       clear bx58
       refine a8 (ak ?_)
       clear o164 r170
       refine a5 rfl (mz zs13 (lx (aQ (m:=↑e) (n:=1) rfl rfl (by omega)) (ai ((e:Int)+1) (a8 ?_))))
       have C174:=cg [6,10,12] (ch163.n.seq ((ch168.lx rfl rfl).seq (ch172.l rfl)))
       refine back17 (v167,(qL++[l]),e+1,g165) _ _ ⟨bH.ca C174,zs3,zs4,zs5,zs7,zs9,zs11,rfl,Rg.ca C174,Rp.ca C174,r_p_v1.ca C174,bx5.ca C174,bx10.ca C174,bx15.ca C174,bx38.ca C174,bx173,o_qA.ca C174,o169.ce ch172,by omega,?_⟩ ?_
       · show(qL++[l])=(p.2.take (e+1)).map (List.map (λa=>bR a by_))
         exact m5 hql ‹_› hqk ‹_›
       · show Int.toNat (((p.2.length:Int):Int)-((e+1):Int))<Int.toNat (((p.2.length:Int):Int)-(e:Int))
         omega
      refine af rfl (df p17) (aO rfl (a6 (a6 ?_)))
      clear bx15
      have hqe:(qA,qL)=dO by_ p:=by rw[hqa,hql,List.take_of_length_le (by omega),List.take_of_length_le (by omega)];rfl
      have hl1:qA.length=p.1.length:=by rw[hqa,List.length_map,List.length_take];omega
      have hl2:qL.length=p.2.length:=by rw[hql,List.length_map,List.length_take];omega
      have hl3:∀e:Int,0<=e->e<qL.length->((gI qL e).length:Int)<=400:=by have:=mw (t:=by_) hp6;rw[<-hqe] at this;exact this
      have hfq:∀k:Int,gI (aT (qA,qL)) k<br:=by rw[hqe];exact jq hs hp6
      refine a5 rfl (lx (ad (ds:=[qA_v,qL_v]) bJ zs11 bx58 rfl rfl) (lo (d5 (az (vals:=[vg [qA_v,qL_v]]) Try.func16 lX mC rfl) (k8 w125 (qA,qL) qA_v qL_v (o_qA.flat).ro (o_qL.sl).ro (by(show((qA.length:Nat):Int)<=1024;omega)) (by(show((qL.length:Nat):Int)<=3072;omega)) (by exact λe h0 h1=>by have:=hl3 e h0 h1;show(gI qL e).length<=4096;omega)) ?_)))
      rintro⟨d176,v178⟩ w175 ⟨fr177,o179⟩
      obtain⟨g180,ch181,G180⟩:=ny g126 fr177 (λn=>if n=1 then 13 else 0)
      replace o179:=o179.gl G180 13
      refine lo (aN (v:=vb (decide (dy (bx (qA,qL))))) (az (vals:=[v178]) Try.func7 mD lN rfl) (iM w175 (bx (qA,qL)) v178 (o179.flat).ro) ?_)
      intro w182 hb183
      replace hb183:=aj hb183 g180
      refine lx (cm (b:=(decide (dy (bx (qA,qL))))) rfl) (a8 ?_)
      by_cases p25:(decide (dy (bx (qA,qL))))=true
      ·
       refine af rfl (congrArg Bool.not p25) (am (a6 ?_))
       clear o179
       have hok:dy (bx (dO by_ p)):=by rw[<-hqe];exact of_decide_eq_true ‹_›
       have eM:al g (qA,qL)=al g p:=by rw[hqe];exact lJ hf0 hok
       have eA:aV g (qA,qL)=aV g p:=by rw[hqe];exact jt hf0 hok
       have eC:aS g (qA,qL)=aS g p:=by rw[hqe];exact jw (by omega) hf0 hok
       refine a5 rfl ?_
       replace bx5:=(bx5.cn ch181).cn hb183
       refine lx (ad (ds:=[vi g.1,g_v]) bO zs3 bx5 rfl rfl) ?_
       replace bx58:=(bx58.cn ch181).cn hb183
       refine lx (ad (ds:=[qA_v,qL_v]) bJ zs11 bx58 rfl rfl) ?_
       replace Rg:=(Rg.cn ch181).cn hb183
       replace o_qA:=(o_qA.cn ch181).cn hb183
       replace o_qL:=(o_qL.cn ch181).cn hb183
       refine lo (aN (v:=vt [vg [Value.float .f64 (((al g (qA,qL)).1).1),Value.float .f64 ((((al g (qA,qL)).1).2).1),Value.float .f64 (((((al g (qA,qL)).1).2).2).1),Value.float .f64 ((((((al g (qA,qL)).1).2).2).2).1),Value.float .f64 (((((((al g (qA,qL)).1).2).2).2).2).1),Value.float .f64 ((((((((al g (qA,qL)).1).2).2).2).2).2).1),Value.float .f64 ((((((((al g (qA,qL)).1).2).2).2).2).2).2)],vi ((al g (qA,qL)).2)]) (az (vals:=[vg [vi g.1,g_v],vg [qA_v,qL_v]]) Try.func8 kn k7 rfl) (gD w182 g g_v (Rg).ro (qA,qL) qA_v qL_v (o_qA.flat).ro (o_qL.sl).ro (by exact λ_=>hfq)) ?_)
       intro w184 hb185
       replace hb185:=aj hb185 g180
       refine mv (vt [vg [Value.float .f64 (((al g (qA,qL)).1).1),Value.float .f64 ((((al g (qA,qL)).1).2).1),Value.float .f64 (((((al g (qA,qL)).1).2).2).1),Value.float .f64 ((((((al g (qA,qL)).1).2).2).2).1),Value.float .f64 (((((((al g (qA,qL)).1).2).2).2).2).1),Value.float .f64 ((((((((al g (qA,qL)).1).2).2).2).2).2).1),Value.float .f64 ((((((((al g (qA,qL)).1).2).2).2).2).2).2)],vi ((al g (qA,qL)).2)]) (lx (b5 rfl rfl) (lx (b5 rfl rfl) (lo (bB g180 (is 14) (14,0) rfl bh ?_))))
       intro g189 w186 b188 ch187 bx190
       replace bx190:Bx g189 (is 14) w186 b188 [Value.float .f64 0,Value.float .f64 0,Value.float .f64 0,Value.float .f64 0,Value.float .f64 0,Value.float .f64 0,Value.float .f64 0]:=bx190
       refine lo (au (cs':=[Value.float .f64 (((al g (qA,qL)).1).1),Value.float .f64 ((((al g (qA,qL)).1).2).1),Value.float .f64 (((((al g (qA,qL)).1).2).2).1),Value.float .f64 ((((((al g (qA,qL)).1).2).2).2).1),Value.float .f64 (((((((al g (qA,qL)).1).2).2).2).2).1),Value.float .f64 ((((((((al g (qA,qL)).1).2).2).2).2).2).1),Value.float .f64 ((((((((al g (qA,qL)).1).2).2).2).2).2).2)]) bh rfl rfl bx190 rfl nq (AllOne.all (.cons rfl (.cons rfl (.cons rfl (.cons rfl (.cons rfl (.cons rfl (.cons rfl .nil)))))))) rfl ?_)
       intro w191 ch192 bx193
       clear bx190
       refine ai ((al g (qA,qL)).2) (a8 (a6 (a5 rfl ?_)))
       have C194:=cg [14] (hb185.n.seq (ch187.n.seq (ch192.l rfl)))
       replace bx5:=bx5.ca C194
       refine lx (ad (ds:=[vi g.1,g_v]) bO zs3 bx5 rfl rfl) ?_
       have C195:=cg [14] (ch181.n.seq (hb183.n.seq (hb185.n.seq (ch187.n.seq (ch192.l rfl)))))
       replace bx10:=bx10.ca C195
       refine lx (ad (ds:=[p_v,p_v1]) bJ zs4 bx10 rfl rfl) ?_
       replace Rg:=Rg.ca C194
       replace Rp:=Rp.ca C195
       replace r_p_v1:=r_p_v1.ca C195
       refine lo (aN (v:=vt [Value.float .f64 ((aV g p).1),vi ((aV g p).2)]) (az (vals:=[vg [vi g.1,g_v],vg [p_v,p_v1]]) Try.func17 fY gg rfl) (fj w191 g g_v (Rg).ro p p_v p_v1 (Rp).ro (r_p_v1).ro) ?_)
       intro w196 hb197
       replace hb197:=aj hb197 g189
       refine mv (vt [Value.float .f64 ((aV g p).1),vi ((aV g p).2)]) (lx (b5 rfl rfl) (lx (b5 rfl rfl) (ma (Value.float .f64 ((aV g p).1)) (ai ((aV g p).2) (a8 (a6 ?_))))))
       clear bx10
       refine a5 rfl ?_
       replace bx5:=bx5.cn hb197
       refine lx (ad (ds:=[vi g.1,g_v]) bO zs3 bx5 rfl rfl) ?_
       have C198:=cg [14] (hb185.n.seq (ch187.n.seq ((ch192.l rfl).seq hb197.n)))
       replace bx58:=bx58.ca C198
       refine lx (ad (ds:=[qA_v,qL_v]) bJ zs11 bx58 rfl rfl) ?_
       replace Rg:=Rg.cn hb197
       replace o_qA:=o_qA.ca C198
       replace o_qL:=o_qL.ca C198
       refine lo (aN (v:=vt [Value.float .f64 ((aV g (qA,qL)).1),vi ((aV g (qA,qL)).2)]) (az (vals:=[vg [vi g.1,g_v],vg [qA_v,qL_v]]) Try.func17 fY gg rfl) (fj w196 g g_v (Rg).ro (qA,qL) qA_v qL_v (o_qA.flat).ro (o_qL.sl).ro) ?_)
       intro w199 hb200
       replace hb200:=aj hb200 g189
       refine mv (vt [Value.float .f64 ((aV g (qA,qL)).1),vi ((aV g (qA,qL)).2)]) (lx (b5 rfl rfl) (lx (b5 rfl rfl) (ma (Value.float .f64 ((aV g (qA,qL)).1)) (ai ((aV g (qA,qL)).2) (a8 (a6 (a5 rfl ?_)))))))
       replace bx5:=bx5.cn hb200
       refine lx (ad (ds:=[vi g.1,g_v]) bO zs3 bx5 rfl rfl) ?_
       replace bx58:=bx58.cn hb200
       refine lx (ad (ds:=[qA_v,qL_v]) bJ zs11 bx58 rfl rfl) ?_
       replace Rg:=Rg.cn hb200
       replace o_qA:=o_qA.cn hb200
       replace o_qL:=o_qL.cn hb200
       refine lo (aN (v:=vt [vi ((aS g (qA,qL)).1),vi ((aS g (qA,qL)).2)]) (az (vals:=[vg [vi g.1,g_v],vg [qA_v,qL_v]]) Try.func13 jf jk rfl) (eg w199 g g_v (Rg).ro (qA,qL) qA_v qL_v (o_qA.flat).ro (o_qL.sl).ro) ?_)
       intro w201 hb202
       replace hb202:=aj hb202 g189
       refine mv (vt [vi ((aS g (qA,qL)).1),vi ((aS g (qA,qL)).2)]) (lx (b5 rfl rfl) (lx (b5 rfl rfl) (ai ((aS g (qA,qL)).1) (ai ((aS g (qA,qL)).2) (a8 (a6 ?_))))))
       clear bx5 bx58 o_qA o_qL
       refine a5 rfl (mi ((al g (qA,qL)).2) (lx (cu (m:=(al g (qA,qL)).2) (n:=0) rfl rfl) (mv (vb (decide (((al g (qA,qL)).2)=0))) ?_)))
       have q204:((al g (qA,qL)).2)=0:=by(rw[eM];assumption)
       have C203:=cg [14] (ch181.n.seq (hb183.n.seq (hb185.n.seq (ch187.n.seq ((ch192.l rfl).seq (hb197.n.seq (hb200.n.seq hb202.n)))))))
       replace bx38:=bx38.ca C203
       refine lv (vg [Value.float .f64 (((al g p).1).1),Value.float .f64 ((((al g p).1).2).1),Value.float .f64 (((((al g p).1).2).2).1),Value.float .f64 ((((((al g p).1).2).2).2).1),Value.float .f64 (((((((al g p).1).2).2).2).2).1),Value.float .f64 ((((((((al g p).1).2).2).2).2).2).1),Value.float .f64 ((((((((al g p).1).2).2).2).2).2).2)]) (wy (dt q204)) (ad (ds:=[Value.float .f64 (((al g p).1).1),Value.float .f64 ((((al g p).1).2).1),Value.float .f64 (((((al g p).1).2).2).1),Value.float .f64 ((((((al g p).1).2).2).2).1),Value.float .f64 (((((((al g p).1).2).2).2).2).1),Value.float .f64 ((((((((al g p).1).2).2).2).2).2).1),Value.float .f64 ((((((((al g p).1).2).2).2).2).2).2)]) bh zs7 bx38 rfl rfl) ?_
       have C204:=cg [] (hb197.n.seq (hb200.n.seq hb202.n))
       replace bx193:=bx193.ca C204
       refine lv (vg [Value.float .f64 (((al g (qA,qL)).1).1),Value.float .f64 ((((al g (qA,qL)).1).2).1),Value.float .f64 (((((al g (qA,qL)).1).2).2).1),Value.float .f64 ((((((al g (qA,qL)).1).2).2).2).1),Value.float .f64 (((((((al g (qA,qL)).1).2).2).2).2).1),Value.float .f64 ((((((((al g (qA,qL)).1).2).2).2).2).2).1),Value.float .f64 ((((((((al g (qA,qL)).1).2).2).2).2).2).2)]) (wy (dt q204)) (ad (ds:=[Value.float .f64 (((al g (qA,qL)).1).1),Value.float .f64 ((((al g (qA,qL)).1).2).1),Value.float .f64 (((((al g (qA,qL)).1).2).2).1),Value.float .f64 ((((((al g (qA,qL)).1).2).2).2).1),Value.float .f64 (((((((al g (qA,qL)).1).2).2).2).2).1),Value.float .f64 ((((((((al g (qA,qL)).1).2).2).2).2).2).1),Value.float .f64 ((((((((al g (qA,qL)).1).2).2).2).2).2).2)]) bh rfl bx193 rfl rfl) ?_
       refine cj (wy (dt q204)) ?_
       refine aN (v:=vb (decide ((((al g p).1).1,(((al g p).1).2).1,((((al g p).1).2).2).1,(((((al g p).1).2).2).2).1,((((((al g p).1).2).2).2).2).1,(((((((al g p).1).2).2).2).2).2).1,(((((((al g p).1).2).2).2).2).2).2)=(((al g (qA,qL)).1).1,(((al g (qA,qL)).1).2).1,((((al g (qA,qL)).1).2).2).1,(((((al g (qA,qL)).1).2).2).2).1,((((((al g (qA,qL)).1).2).2).2).2).1,(((((((al g (qA,qL)).1).2).2).2).2).2).1,(((((((al g (qA,qL)).1).2).2).2).2).2).2)))) (az (vals:=[vg [Value.float .f64 (((al g p).1).1),Value.float .f64 ((((al g p).1).2).1),Value.float .f64 (((((al g p).1).2).2).1),Value.float .f64 ((((((al g p).1).2).2).2).1),Value.float .f64 (((((((al g p).1).2).2).2).2).1),Value.float .f64 ((((((((al g p).1).2).2).2).2).2).1),Value.float .f64 ((((((((al g p).1).2).2).2).2).2).2)],vg [Value.float .f64 (((al g (qA,qL)).1).1),Value.float .f64 ((((al g (qA,qL)).1).2).1),Value.float .f64 (((((al g (qA,qL)).1).2).2).1),Value.float .f64 ((((((al g (qA,qL)).1).2).2).2).1),Value.float .f64 (((((((al g (qA,qL)).1).2).2).2).2).1),Value.float .f64 ((((((((al g (qA,qL)).1).2).2).2).2).2).1),Value.float .f64 ((((((((al g (qA,qL)).1).2).2).2).2).2).2)]]) Try.func18 lP ly rfl) (o7 w201 (((al g p).1).1,(((al g p).1).2).1,((((al g p).1).2).2).1,(((((al g p).1).2).2).2).1,((((((al g p).1).2).2).2).2).1,(((((((al g p).1).2).2).2).2).2).1,(((((((al g p).1).2).2).2).2).2).2) (((al g (qA,qL)).1).1,(((al g (qA,qL)).1).2).1,((((al g (qA,qL)).1).2).2).1,(((((al g (qA,qL)).1).2).2).2).1,((((((al g (qA,qL)).1).2).2).2).2).1,(((((((al g (qA,qL)).1).2).2).2).2).2).1,(((((((al g (qA,qL)).1).2).2).2).2).2).2)) ?_
       intro w205 hb206
       replace hb206:=aj hb206 g189
       refine lw (vb (decide ((((al g p).1).1,(((al g p).1).2).1,((((al g p).1).2).2).1,(((((al g p).1).2).2).2).1,((((((al g p).1).2).2).2).2).1,(((((((al g p).1).2).2).2).2).2).1,(((((((al g p).1).2).2).2).2).2).2)=(((al g (qA,qL)).1).1,(((al g (qA,qL)).1).2).1,((((al g (qA,qL)).1).2).2).1,(((((al g (qA,qL)).1).2).2).2).1,((((((al g (qA,qL)).1).2).2).2).2).1,(((((((al g (qA,qL)).1).2).2).2).2).2).1,(((((((al g (qA,qL)).1).2).2).2).2).2).2)))) (aD rfl (dt q204) rfl) ?_
       refine mv (vb (decide ((((al g p).1).1,(((al g p).1).2).1,((((al g p).1).2).2).1,(((((al g p).1).2).2).2).1,((((((al g p).1).2).2).2).2).1,(((((((al g p).1).2).2).2).2).2).1,(((((((al g p).1).2).2).2).2).2).2)=(((al g (qA,qL)).1).1,(((al g (qA,qL)).1).2).1,((((al g (qA,qL)).1).2).2).1,(((((al g (qA,qL)).1).2).2).2).1,((((((al g (qA,qL)).1).2).2).2).2).1,(((((((al g (qA,qL)).1).2).2).2).2).2).1,(((((((al g (qA,qL)).1).2).2).2).2).2).2)))) ?_
       have q209:(decide ((((al g p).1).1,(((al g p).1).2).1,((((al g p).1).2).2).1,(((((al g p).1).2).2).2).1,((((((al g p).1).2).2).2).2).1,(((((((al g p).1).2).2).2).2).2).1,(((((((al g p).1).2).2).2).2).2).2)=(((al g (qA,qL)).1).1,(((al g (qA,qL)).1).2).1,((((al g (qA,qL)).1).2).2).1,(((((al g (qA,qL)).1).2).2).2).1,((((((al g (qA,qL)).1).2).2).2).2).1,(((((((al g (qA,qL)).1).2).2).2).2).2).1,(((((((al g (qA,qL)).1).2).2).2).2).2).2)))=true:=by exact dt (by rw[eM])
       refine lv (Value.float .f64 ((aV g p).1)) (wy q209) (aw rfl) (lv (Value.float .f64 ((aV g (qA,qL)).1)) (wy q209) (aw rfl) (cj (wy q209) (aN (v:=vb (decide (((aV g p).1)=((aV g (qA,qL)).1)))) (az (vals:=[Value.float .f64 ((aV g p).1),Value.float .f64 ((aV g (qA,qL)).1)]) Try.func19 ex et rfl) (eF w205 ((aV g p).1) ((aV g (qA,qL)).1)) ?_)))
       intro w207 hb208
       replace hb208:=aj hb208 g189
       refine lw (vb (decide (((aV g p).1)=((aV g (qA,qL)).1)))) (aD rfl q209 rfl) (mv (vb (decide (((aV g p).1)=((aV g (qA,qL)).1)))) ?_)
       have q214:(decide (((aV g p).1)=((aV g (qA,qL)).1)))=true:=by exact dt (by rw[eA])
       refine lv (vi ((aS g (qA,qL)).1)) (wy q214) (aw rfl) (lv (vi ((aS g p).1)) (wy q214) (aw zs9) (lv (vb (decide (((aS g (qA,qL)).1)=((aS g p).1)))) (wy q214) (cu (m:=(aS g (qA,qL)).1) (n:=(aS g p).1) rfl rfl) (lw (vb (decide (((aS g (qA,qL)).1)=((aS g p).1)))) (aD rfl q214 rfl) (ma (vb (decide (((aS g (qA,qL)).1)=((aS g p).1)))) (a8 (av (vs:=[vb (decide (((aS g (qA,qL)).1)=((aS g p).1)))]) Try.func4 (.tmp rfl .nil) ?_))))))
       have e0:(decide (((aS g (qA,qL)).1)=((aS g p).1)):Bool)=(true):=by
         exact dt (by rw[eC])
       have C209:=cg [14] (ch181.n.seq (hb183.n.seq (hb185.n.seq (ch187.n.seq ((ch192.l rfl).seq (hb197.n.seq (hb200.n.seq (hb202.n.seq (hb206.n.seq hb208.n)))))))))
       replace bH:=bH.ca C209
       exact⟨(congrArg (a₁:=decide (((aS g (qA,qL)).1)=((aS g p).1))) (λ(z0:Bool)=>Ending.returned (vb z0)) e0),bH.below⟩
      refine ae rfl (congrArg Bool.not (Bool.eq_false_iff.2 p25)) (a6 ?_)
      clear bx5 bx10 bx38 bx58 o_qA o_qL o179
      refine a5 rfl (ma (vb true) (a8 (av (vs:=[vb true]) Try.func4 (.tmp rfl .nil) ?_)))
      have e0:(true:Bool)=(true):=by
        rfl
      replace bH:=bH.cn ch181
      replace bH:=bH.cn hb183
      exact⟨rb e0,bH.below⟩
     refine aa (wn (df q83)) (aa (wn (df q83)) (aa (wn (df q83)) (aa (wn (df q83)) (lv (vb false) (wy (congrArg Bool.not (dt q78))) (aB rfl (df q83) rfl) (lv (vb false) (wy (dt q75)) (aB rfl (congrArg Bool.not (dt q78)) rfl) (lw (vb false) (aD rfl (dt q75) rfl) (a8 (af rfl rfl (am ?_)))))))))
     refine a6 ?_
     clear o46
     refine a5 rfl (lw (vg [vn,vn]) (bz (vs:=[]) rfl (by kernel_rfl)) (lo (bB g47 (is 6) (6,0) rfl bJ ?_)))
     intro g213 w210 b212 ch211 bx214
     replace bx214:Bx g213 (is 6) w210 b212 [vn,vn]:=bx214
     refine lo (au (cs':=[vn,vn]) bJ rfl rfl bx214 rfl nq (AllOne.all (.cons rfl (.cons rfl .nil))) rfl ?_)
     intro w215 ch216 bx217
     clear bx214
     refine a8 (a6 (a6 (a5 rfl (ai 0 (a8 (ao ?_))))))
     refine bf (σ:=Value×(List Pt)×Nat×aW) (λ⟨qA_v,qA,v,gq⟩ f w=>bo w0 gq w/\f 3=vp b3 0/\f 4=vp b8 0/\f 5=vp b13 0/\f 7=vp b33 0/\f 9=vi ((aS g p).1)/\f 11=vp b212 0/\f 12=vi ↑v/\Sl gq (is 0) w g_v g.2/\Sl gq (is 0) w p_v p.1/\Sl gq (is 0) w p_v1 p.2/\Bx gq (is 1) w b3 [vi g.1,g_v]/\Bx gq (is 2) w b8 [p_v,p_v1]/\Bx gq (is 3) w b13 [vi by_.1,vi by_.2]/\Bx gq (is 4) w b33 [Value.float .f64 (((al g p).1).1),Value.float .f64 ((((al g p).1).2).1),Value.float .f64 (((((al g p).1).2).2).1),Value.float .f64 ((((((al g p).1).2).2).2).1),Value.float .f64 (((((((al g p).1).2).2).2).2).1),Value.float .f64 ((((((((al g p).1).2).2).2).2).2).1),Value.float .f64 ((((((((al g p).1).2).2).2).2).2).2)]/\Bx gq (is 6) w b212 [qA_v,vn]/\Ow gq (is 8) (is 8) w qA_v qA/\(v:Int)<=((p.1.length:Int):Int)/\(qA=(p.1.take v).map (λa=>bR a by_))) (λ⟨qA_v,qA,v,gq⟩=>Int.toNat (((p.1.length:Int):Int)-(v:Int))) (vn,[],0,g213) ?_ ?_
     have C220:=cg [4,6] (hb30.n.seq (ch32.n.seq ((ch37.l rfl).seq (hb41.n.seq (ch48.n.seq (ch211.n.seq (ch216.l rfl)))))))
     have C218:=ch2.n.seq (ch7.n.seq (ch12.n.seq (hb17.n.seq (hb21.n.seq (hb23.n.seq C220)))))
     have C219:=cg [6] (ch48.n.seq (ch211.n.seq (ch216.l rfl)))
     have C221:=hb41.n.seq C219
     · exact⟨bH.ca C218,rfl,rfl,rfl,rfl,rfl,rfl,rfl,(Rg.cn ch211).ce ch216,Rp.ca C219,r_p_v1.ca C219,(bx5.cn ch211).ce ch216,bx10.ca C219,bx15.ca C220,bx38.ca C221,bx217,Ow.nil,by omega,by rfl⟩
     clear Rg Rp r_p_v1 bx5 bx10 bx15 bx38 bx217 bH
     rintro⟨qA_v,qA,v,g224⟩ f222 w223 ⟨bH,zs3,zs4,zs5,zs7,zs9,zs11,zs12,Rg,Rp,r_p_v1,bx5,bx10,bx15,bx38,bx217,o_qA,hle_v,hqa⟩ back13
     have hal:=jx hqa
     refine a6 (a6 (a5 rfl (mz zs12 (lx (a7 dn rfl rfl zs4 rfl) (lx (a9 bt rfl bx10 rfl) ?_)))))
     have len225:=(Rp).small
     refine lx (bE bZ rfl Rp) (lx (b6 (m:=↑v) (n:=(p.1.length:Int)) rfl rfl) (a8 ?_))
     by_cases p13:(v:Int)<(p.1.length:Int)
     ·
      refine ae rfl (dt p13) ?_
      obtain⟨⟨hv1,hv2⟩,hv3,hv4⟩:=hs.pt (v:Int) (by omega) ‹_›
      refine am (a6 (ao ?_))
      refine iB (σ:=Value×aW) (λ⟨v235,gq⟩ f w=>bo w0 gq w/\f 3=vp b3 0/\f 4=vp b8 0/\f 5=vp b13 0/\f 7=vp b33 0/\f 9=vi ((aS g p).1)/\f 11=vp b212 0/\f 12=vi ↑v/\Sl gq (is 0) w g_v g.2/\Sl gq (is 0) w p_v p.1/\Sl gq (is 0) w p_v1 p.2/\Bx gq (is 1) w b3 [vi g.1,g_v]/\Bx gq (is 2) w b8 [p_v,p_v1]/\Bx gq (is 3) w b13 [vi by_.1,vi by_.2]/\Bx gq (is 4) w b33 [Value.float .f64 (((al g p).1).1),Value.float .f64 ((((al g p).1).2).1),Value.float .f64 (((((al g p).1).2).2).1),Value.float .f64 ((((((al g p).1).2).2).2).1),Value.float .f64 (((((((al g p).1).2).2).2).2).1),Value.float .f64 ((((((((al g p).1).2).2).2).2).2).1),Value.float .f64 ((((((((al g p).1).2).2).2).2).2).2)]/\Ow gq (is 8) (is 8) w v235 (qA++([((((gI p.1 ↑v).1)+by_.1),(((gI p.1 ↑v).2)+by_.2))]:List Pt))/\Bx gq (is 6) w b212 [v235,vn]) g224 [0,2,3,4,5,6,7,8,9,10,11,12,13,14,15,16,17,18,19,23] fP ?_ ?_
      ·
       intro mid
       intro w227 ch226
       refine xp 0 rfl (λw=>a7 dn rfl rfl zs11 rfl) (xp 2 rfl (λw=>a7 dn rfl rfl zs4 rfl) ?_)
       replace bx10:=bx10.cn ch226
       refine xh 3 [2,0,1,4,8,11,13,17,9,12,18,14,15,16,19] rfl (λw' hw'=>a9 bt rfl (bx10.bel hw') rfl) (xp (v:=vi ↑v) 4 rfl (λw=>aw zs12) ?_)
       replace Rp:=Rp.cn ch226
       refine xh 5 [4,3,2,0,1,8,11,13,17,9,12,18,14,15,16,19] rfl (λw' hw'=>ab (v:=p_v) (i:=↑v) bZ rfl rfl (Rp.bel hw') rfl (by omega) (by omega)) (xp (v:=Value.pointer (some ⟨(aU p_v 2 (Int.toNat ↑v)).block,(aU p_v 2 (Int.toNat ↑v)).off+0,none⟩)) 6 rfl (λw=>bX cq rfl rfl rfl rfl) (xh 7 [6,5,4,3,2,0,1,8,11,13,17,9,12,18,14,15,16,19] rfl (λw' hw'=>bN (v:=p_v) (i:=↑v) aG rfl (Rp.bel hw') (by omega) (by omega) (by decide) rfl) (xp 8 rfl (λw=>a7 cq rfl rfl zs5 rfl) ?_)))
       replace bx15:=bx15.cn ch226
       refine xh 9 [8,7,6,5,4,3,2,0,1,11,13,17,12,18,14,15,16,19] rfl (λw' hw'=>a9 aG rfl (bx15.bel hw') rfl) (xp 10 rfl (λw=>aQ (m:=(gI p.1 ↑v).1) (n:=by_.1) rfl rfl (by omega)) (xp 11 rfl (λw=>a7 dn rfl rfl zs4 rfl) (xh 12 [11,10,9,8,7,6,5,4,3,2,0,1,13,17,18] rfl (λw' hw'=>a9 bt rfl (bx10.bel hw') rfl) (xp (v:=vi ↑v) 13 rfl (λw=>aw zs12) (xh 14 [13,12,11,10,9,8,7,6,5,4,3,2,0,1,17,18] rfl (λw' hw'=>ab (v:=p_v) (i:=↑v) bZ rfl rfl (Rp.bel hw') rfl (by omega) (by omega)) (xp (v:=Value.pointer (some ⟨(aU p_v 2 (Int.toNat ↑v)).block,(aU p_v 2 (Int.toNat ↑v)).off+1,none⟩)) 15 rfl (λw=>bX cq rfl rfl rfl rfl) ?_))))))
       refine xh 16 [15,14,13,12,11,10,9,8,7,6,5,4,3,2,0,1,17,18] rfl (λw' hw'=>bN (v:=p_v) (i:=↑v) aG rfl (Rp.bel hw') (by omega) (by omega) (by decide) rfl) (xp 17 rfl (λw=>a7 cq rfl rfl zs5 rfl) (xh 18 [17,16,15,14,13,12,11,10,9,8,7,6,5,4,3,2,0,1] rfl (λw' hw'=>a9 aG rfl (bx15.bel hw') rfl) (xp 19 rfl (λw=>aQ (m:=(gI p.1 ↑v).2) (n:=by_.2) rfl rfl (by omega)) ?_)))
       refine lj 1 20 rfl rfl (by kernel_rfl) rfl rfl ?_ ?_
       ·
        replace bx217:=bx217.cn ch226
        refine aP (v:=qA_v) (a9 bt rfl bx217 rfl) (cf 20 rfl (by kernel_rfl) rfl (aN (v:=vg [vi (((gI p.1 ↑v).1)+by_.1),vi (((gI p.1 ↑v).2)+by_.2)]) (az (vals:=[vi (((gI p.1 ↑v).1)+by_.1),vi (((gI p.1 ↑v).2)+by_.2)]) Try.func15 dC dF rfl) (dE w227 (((gI p.1 ↑v).1)+by_.1) (((gI p.1 ↑v).2)+by_.2)) ?_))
        intro w228 hb229
        replace hb229:=aj hb229 g224
        refine cf 21 rfl (by kernel_rfl) rfl (aC (α:=Pt) g224 (is 7) (is 7) (7,0) rfl ([((((gI p.1 ↑v).1)+by_.1),(((gI p.1 ↑v).2)+by_.2))]:List Pt) bZ ah (by decide) (by decide) (vs:=[(0,vg [vi (((gI p.1 ↑v).1)+by_.1),vi (((gI p.1 ↑v).2)+by_.2)])]) rfl rfl (.cons rfl .nil) ?_)
        intro g230 w231 v232 ch233 o234
        refine cf 22 rfl (by kernel_rfl) rfl ?_
        have C235:=cg [] (ch226.n.seq (hb229.n.seq ch233.n))
        replace o_qA:=o_qA.ca C235
        refine b9 (α:=Pt) (xs:=qA) (ys:=([((((gI p.1 ↑v).1)+by_.1),(((gI p.1 ↑v).2)+by_.2))]:List Pt)) g230 (J:=is 8) (S:=is 8) (8,0) rfl bZ ah (by decide) rfl rfl rfl o_qA o234.flat (by decide) (by(simp;omega)) ?_
        intro g236 w237 v238 ch239 o240
        clear o_qA
        refine xp 23 rfl (λw=>a7 dn rfl rfl zs11 rfl) (cf 24 rfl (by kernel_rfl) rfl ?_)
        have C244:=cg [8] (hb229.n.seq (ch233.n.seq (ch239.l rfl)))
        replace bx217:=bx217.ca C244
        refine bV (cs':=[v238,vn]) bt rfl rfl bx217 (c5 o240.flat) nq (cU o240.flat) rfl ?_
        intro w241 ch242 bx243
        clear bx217
        refine eQ (by kernel_rfl) ?_
        have C246:=cg [6,8] (hb229.n.seq (ch233.n.seq ((ch239.l rfl).seq (ch242.l rfl))))
        have C245:=ch226.n.seq C246
        exact mid (v238,g236) _ _ ⟨bH.ca C245,zs3,zs4,zs5,zs7,zs9,zs11,zs12,Rg.ca C245,Rp.ca C246,r_p_v1.ca C245,bx5.ca C245,bx10.ca C246,bx15.ca C246,bx38.ca C245,o240.ce ch242,bx243⟩
       ·
        refine aN (v:=vg [vi (((gI p.1 ↑v).1)+by_.1),vi (((gI p.1 ↑v).2)+by_.2)]) (az (vals:=[vi (((gI p.1 ↑v).1)+by_.1),vi (((gI p.1 ↑v).2)+by_.2)]) Try.func15 dC dF rfl) (dE w227 (((gI p.1 ↑v).1)+by_.1) (((gI p.1 ↑v).2)+by_.2)) ?_
        intro w247 hb248
        replace hb248:=aj hb248 g224
        refine lj 1 21 rfl rfl (by kernel_rfl) rfl rfl ?_ ?_
        ·
         replace bx217:=(bx217.cn ch226).cn hb248
         refine aP (v:=qA_v) (a9 bt rfl bx217 rfl) (cf 21 rfl (by kernel_rfl) rfl (aC (α:=Pt) g224 (is 7) (is 7) (7,0) rfl ([((((gI p.1 ↑v).1)+by_.1),(((gI p.1 ↑v).2)+by_.2))]:List Pt) bZ ah (by decide) (by decide) (vs:=[(0,vg [vi (((gI p.1 ↑v).1)+by_.1),vi (((gI p.1 ↑v).2)+by_.2)])]) rfl rfl (.cons rfl .nil) ?_))
         intro g249 w250 v251 ch252 o253
         refine cf 22 rfl (by kernel_rfl) rfl ?_
         have C254:=cg [] (ch226.n.seq (hb248.n.seq ch252.n))
         replace o_qA:=o_qA.ca C254
         refine b9 (α:=Pt) (xs:=qA) (ys:=([((((gI p.1 ↑v).1)+by_.1),(((gI p.1 ↑v).2)+by_.2))]:List Pt)) g249 (J:=is 8) (S:=is 8) (8,0) rfl bZ ah (by decide) rfl rfl rfl o_qA o253.flat (by decide) (by(simp;omega)) ?_
         intro g255 w256 v257 ch258 o259
         clear o_qA
         refine xp 23 rfl (λw=>a7 dn rfl rfl zs11 rfl) (cf 24 rfl (by kernel_rfl) rfl ?_)
         replace bx217:=(bx217.cn ch252).ce ch258
         refine bV (cs':=[v257,vn]) bt rfl rfl bx217 (c5 o259.flat) nq (cU o259.flat) rfl ?_
         intro w260 ch261 bx262
         clear bx217
         refine eQ (by kernel_rfl) ?_
         have C264:=cg [6,8] (hb248.n.seq (ch252.n.seq ((ch258.l rfl).seq (ch261.l rfl))))
         have C263:=ch226.n.seq C264
         exact mid (v257,g255) _ _ ⟨bH.ca C263,zs3,zs4,zs5,zs7,zs9,zs11,zs12,Rg.ca C263,Rp.ca C264,r_p_v1.ca C263,bx5.ca C263,bx10.ca C264,bx15.ca C264,bx38.ca C263,o259.ce ch261,bx262⟩
        ·
         refine aC (α:=Pt) g224 (is 7) (is 7) (7,0) rfl ([((((gI p.1 ↑v).1)+by_.1),(((gI p.1 ↑v).2)+by_.2))]:List Pt) bZ ah (by decide) (by decide) (vs:=[(0,vg [vi (((gI p.1 ↑v).1)+by_.1),vi (((gI p.1 ↑v).2)+by_.2)])]) rfl rfl (.cons rfl .nil) ?_
         intro g265 w266 v267 ch268 o269
         have C270:=cg [] (ch226.n.seq (hb248.n.seq ch268.n))
         replace bx217:=bx217.ca C270
         refine cf 1 rfl (by kernel_rfl) rfl (aP (v:=qA_v) (a9 bt rfl bx217 rfl) (cf 22 rfl (by kernel_rfl) rfl ?_))
         replace o_qA:=o_qA.ca C270
         refine b9 (α:=Pt) (xs:=qA) (ys:=([((((gI p.1 ↑v).1)+by_.1),(((gI p.1 ↑v).2)+by_.2))]:List Pt)) g265 (J:=is 8) (S:=is 8) (8,0) rfl bZ ah (by decide) rfl rfl rfl o_qA o269.flat (by decide) (by(simp;omega)) ?_
         intro g271 w272 v273 ch274 o275
         clear o_qA
         refine xp 23 rfl (λw=>a7 dn rfl rfl zs11 rfl) (cf 24 rfl (by kernel_rfl) rfl ?_)
         replace bx217:=bx217.ce ch274
         refine bV (cs':=[v273,vn]) bt rfl rfl bx217 (c5 o275.flat) nq (cU o275.flat) rfl ?_
         intro w276 ch277 bx278
         clear bx217
         refine eQ (by kernel_rfl) ?_
         have C280:=cg [6,8] (hb248.n.seq (ch268.n.seq ((ch274.l rfl).seq (ch277.l rfl))))
         have C279:=ch226.n.seq C280
         exact mid (v273,g271) _ _ ⟨bH.ca C279,zs3,zs4,zs5,zs7,zs9,zs11,zs12,Rg.ca C279,Rp.ca C280,r_p_v1.ca C279,bx5.ca C279,bx10.ca C280,bx15.ca C280,bx38.ca C279,o275.ce ch277,bx278⟩
      clear Rg Rp r_p_v1 bx5 bx10 bx15 bx38 bx217 o_qA bH
      rintro⟨v235,g283⟩ f281 w282 ⟨bH,zs3,zs4,zs5,zs7,zs9,zs11,zs12,Rg,Rp,r_p_v1,bx5,bx10,bx15,bx38,o237,bx240⟩
      refine ak (a5 rfl (mz zs12 (lx (aQ (m:=↑v) (n:=1) rfl rfl (by omega)) (ai ((v:Int)+1) (a8 ?_)))))
      refine back13 (v235,(qA++([((((gI p.1 ↑v).1)+by_.1),(((gI p.1 ↑v).2)+by_.2))]:List Pt)),v+1,g283) _ _ ⟨bH,zs3,zs4,zs5,zs7,zs9,zs11,rfl,Rg,Rp,r_p_v1,bx5,bx10,bx15,bx38,bx240,o237,by omega,?_⟩ ?_
      · show(qA++([((((gI p.1 ↑v).1)+by_.1),(((gI p.1 ↑v).2)+by_.2))]:List Pt))=(p.1.take (v+1)).map (λa=>bR a by_)
        exact i3 hqa ‹_›
      · show Int.toNat (((p.1.length:Int):Int)-((v+1):Int))<Int.toNat (((p.1.length:Int):Int)-(v:Int))
        omega
     refine af rfl (df p13) (aO rfl (a6 (a6 (a5 rfl (ai 0 (a8 (ao ?_)))))))
     refine bf (σ:=Value×(List (List Pt))×Nat×aW) (λ⟨qL_v,qL,e,gq⟩ f w=>bo w0 gq w/\f 3=vp b3 0/\f 4=vp b8 0/\f 5=vp b13 0/\f 7=vp b33 0/\f 9=vi ((aS g p).1)/\f 11=vp b212 0/\f 13=vi ↑e/\Sl gq (is 0) w g_v g.2/\Sl gq (is 0) w p_v p.1/\Sl gq (is 0) w p_v1 p.2/\Bx gq (is 1) w b3 [vi g.1,g_v]/\Bx gq (is 2) w b8 [p_v,p_v1]/\Bx gq (is 3) w b13 [vi by_.1,vi by_.2]/\Bx gq (is 4) w b33 [Value.float .f64 (((al g p).1).1),Value.float .f64 ((((al g p).1).2).1),Value.float .f64 (((((al g p).1).2).2).1),Value.float .f64 ((((((al g p).1).2).2).2).1),Value.float .f64 (((((((al g p).1).2).2).2).2).1),Value.float .f64 ((((((((al g p).1).2).2).2).2).2).1),Value.float .f64 ((((((((al g p).1).2).2).2).2).2).2)]/\Bx gq (is 6) w b212 [qA_v,qL_v]/\Ow gq (is 8) (is 8) w qA_v qA/\eb gq 12 w qL_v qL/\(e:Int)<=((p.2.length:Int):Int)/\(qL=(p.2.take e).map (List.map (λa=>bR a by_)))) (λ⟨qL_v,qL,e,gq⟩=>Int.toNat (((p.2.length:Int):Int)-(e:Int))) (vn,[],0,g224) ?_ ?_
     · exact⟨bH,zs3,zs4,zs5,zs7,zs9,zs11,rfl,Rg,Rp,r_p_v1,bx5,bx10,bx15,bx38,bx217,o_qA,eb.nil,by omega,by rfl⟩
     clear Rg Rp r_p_v1 bx5 bx10 bx15 bx38 bx217 o_qA bH
     rintro⟨qL_v,qL,e,g286⟩ f284 w285 ⟨bH,zs3,zs4,zs5,zs7,zs9,zs11,zs13,Rg,Rp,r_p_v1,bx5,bx10,bx15,bx38,bx217,o_qA,o_qL,hle_e,hql⟩ back17
     have hbl:=nV hql
     refine a6 (a6 (a5 rfl (mz zs13 (lx (a7 dn rfl rfl zs4 rfl) (lx (a9 ci rfl bx10 rfl) ?_)))))
     have len287:=(r_p_v1).small
     refine lx (bE eP rfl r_p_v1) (lx (b6 (m:=↑e) (n:=(p.2.length:Int)) rfl rfl) (a8 ?_))
     by_cases p17:(e:Int)<(p.2.length:Int)
     ·
      refine ae rfl (dt p17) ?_
      have hle:=hp6 (e:Int) (by omega) ‹_›
      refine am (a6 (ao (a6 (a5 rfl (ma vn (a8 (a6 (a6 (a5 rfl (ai 0 (a8 (ao ?_))))))))))))
      refine bf (σ:=Value×(List Pt)×Nat×aW) (λ⟨l_v,l,k,gq⟩ f w=>bo w0 gq w/\f 3=vp b3 0/\f 4=vp b8 0/\f 5=vp b13 0/\f 7=vp b33 0/\f 9=vi ((aS g p).1)/\f 11=vp b212 0/\f 13=vi ↑e/\f 14=l_v/\f 15=vi ↑k/\Sl gq (is 0) w g_v g.2/\Sl gq (is 0) w p_v p.1/\Sl gq (is 0) w p_v1 p.2/\Bx gq (is 1) w b3 [vi g.1,g_v]/\Bx gq (is 2) w b8 [p_v,p_v1]/\Bx gq (is 3) w b13 [vi by_.1,vi by_.2]/\Bx gq (is 4) w b33 [Value.float .f64 (((al g p).1).1),Value.float .f64 ((((al g p).1).2).1),Value.float .f64 (((((al g p).1).2).2).1),Value.float .f64 ((((((al g p).1).2).2).2).1),Value.float .f64 (((((((al g p).1).2).2).2).2).1),Value.float .f64 ((((((((al g p).1).2).2).2).2).2).1),Value.float .f64 ((((((((al g p).1).2).2).2).2).2).2)]/\Bx gq (is 6) w b212 [qA_v,qL_v]/\Ow gq (is 8) (is 8) w qA_v qA/\eb gq 12 w qL_v qL/\Ow gq (is 10) (is 10) w l_v l/\(k:Int)<=((List.length (gI p.2 ↑e):Int):Int)/\(l=((gI p.2 ↑e).take k).map (λa=>bR a by_))) (λ⟨l_v,l,k,gq⟩=>Int.toNat (((List.length (gI p.2 ↑e):Int):Int)-(k:Int))) (vn,[],0,g286) ?_ ?_
      · exact⟨bH,zs3,zs4,zs5,zs7,zs9,zs11,zs13,rfl,rfl,Rg,Rp,r_p_v1,bx5,bx10,bx15,bx38,bx217,o_qA,o_qL,Ow.nil,by omega,by simp⟩
      clear Rg Rp r_p_v1 bx5 bx10 bx15 bx38 bx217 o_qA o_qL bH
      rintro⟨l_v,l,k,g290⟩ f288 w289 ⟨bH,zs3,zs4,zs5,zs7,zs9,zs11,zs13,zs14,zs15,Rg,Rp,r_p_v1,bx5,bx10,bx15,bx38,bx217,o_qA,o_qL,o_l,hle_k,hqk⟩ back21
      have hcl:=jx hqk
      refine a6 (a6 (a5 rfl (mz zs15 (lx (a7 dn rfl rfl zs4 rfl) (lx (a9 ci rfl bx10 rfl) (mz zs13 (lx (ab (v:=p_v1) (i:=↑e) eP rfl rfl r_p_v1 rfl (by omega) (by omega)) ?_)))))))
      obtain⟨v291,cel292,r293⟩:=cN (r:=(e:Int)) r_p_v1 (by omega) (by omega)
      refine lx (aZ bt rfl cel292) ?_
      have len294:=(r293).small
      refine lx (bE bZ rfl r293) (lx (b6 (m:=↑k) (n:=(List.length (gI p.2 ↑e):Int)) rfl rfl) (a8 ?_))
      by_cases p21:(k:Int)<(List.length (gI p.2 ↑e):Int)
      ·
       refine ae rfl (dt p21) ?_
       obtain⟨⟨hv1,hv2⟩,hv3,hv4⟩:=(hs.ln (e:Int) (by omega) (by omega)).2.2 _ (ba (i:=↑k) (by omega) ‹_›)
       refine am (a6 (ao ?_))
       clear r293
       refine dc g290 [0,1,2,3,4,5,6,7,8,9,10,11,12,13,14,15,16,17,18,19,20,21,22,23,24,28] fP ?_
       intro w296 ch295
       refine xp (v:=l_v) 0 rfl (λw=>aw zs14) (xp 1 rfl (λw=>a7 dn rfl rfl zs4 rfl) ?_)
       replace bx10:=bx10.cn ch295
       refine xv 2 [1,0,3,6,10,13,15,18,22,11,14,23,16,17,19,20,21,24] rfl (a9 ci rfl bx10 rfl) (xp (v:=vi ↑e) 3 rfl (λw=>aw zs13) ?_)
       replace r_p_v1:=r_p_v1.cn ch295
       refine xv 4 [3,2,1,0,6,10,13,15,18,22,11,14,23,16,17,19,20,21,24] rfl (ab (v:=p_v1) (i:=↑e) eP rfl rfl r_p_v1 rfl (by omega) (by omega)) ?_
       obtain⟨v297,cel298,r299⟩:=cN (r:=(e:Int)) r_p_v1 (by omega) (by omega)
       refine xv 5 [4,3,2,1,0,6,10,13,15,18,22,11,14,23,16,17,19,20,21,24] rfl (aZ bt rfl cel298) (xp (v:=vi ↑k) 6 rfl (λw=>aw zs15) (xv 7 [6,5,4,3,2,1,0,10,13,15,18,22,11,14,23,16,17,19,20,21,24] rfl (ab (v:=v297) (i:=↑k) bZ rfl rfl r299 rfl (by omega) (by omega)) (xp (v:=Value.pointer (some ⟨(aU v297 2 (Int.toNat ↑k)).block,(aU v297 2 (Int.toNat ↑k)).off+0,none⟩)) 8 rfl (λw=>bX cq rfl rfl rfl rfl) (xv 9 [8,7,6,5,4,3,2,1,0,10,13,15,18,22,11,14,23,16,17,19,20,21,24] rfl (bN (v:=v297) (i:=↑k) aG rfl r299 (by omega) (by omega) (by decide) rfl) (xp 10 rfl (λw=>a7 cq rfl rfl zs5 rfl) ?_)))))
       replace bx15:=bx15.cn ch295
       refine xv 11 [10,9,8,7,6,5,4,3,2,1,0,13,15,18,22,14,23,16,17,19,20,21,24] rfl (a9 aG rfl bx15 rfl) (xp 12 rfl (λw=>aQ (m:=(gI (gI p.2 ↑e) ↑k).1) (n:=by_.1) rfl rfl (by omega)) (xp 13 rfl (λw=>a7 dn rfl rfl zs4 rfl) (xv 14 [13,12,11,10,9,8,7,6,5,4,3,2,1,0,15,18,22,23] rfl (a9 ci rfl bx10 rfl) (xp (v:=vi ↑e) 15 rfl (λw=>aw zs13) (xv 16 [15,14,13,12,11,10,9,8,7,6,5,4,3,2,1,0,18,22,23] rfl (ab (v:=p_v1) (i:=↑e) eP rfl rfl r_p_v1 rfl (by omega) (by omega)) ?_)))))
       obtain⟨v300,cel301,r302⟩:=cN (r:=(e:Int)) r_p_v1 (by omega) (by omega)
       refine xv 17 [16,15,14,13,12,11,10,9,8,7,6,5,4,3,2,1,0,18,22,23] rfl (aZ bt rfl cel301) (xp (v:=vi ↑k) 18 rfl (λw=>aw zs15) (xv 19 [18,17,16,15,14,13,12,11,10,9,8,7,6,5,4,3,2,1,0,22,23] rfl (ab (v:=v300) (i:=↑k) bZ rfl rfl r302 rfl (by omega) (by omega)) (xp (v:=Value.pointer (some ⟨(aU v300 2 (Int.toNat ↑k)).block,(aU v300 2 (Int.toNat ↑k)).off+1,none⟩)) 20 rfl (λw=>bX cq rfl rfl rfl rfl) (xv 21 [20,19,18,17,16,15,14,13,12,11,10,9,8,7,6,5,4,3,2,1,0,22,23] rfl (bN (v:=v300) (i:=↑k) aG rfl r302 (by omega) (by omega) (by decide) rfl) (xp 22 rfl (λw=>a7 cq rfl rfl zs5 rfl) ?_)))))
       refine xv 23 [22,21,20,19,18,17,16,15,14,13,12,11,10,9,8,7,6,5,4,3,2,1,0] rfl (a9 aG rfl bx15 rfl) (xp 24 rfl (λw=>aQ (m:=(gI (gI p.2 ↑e) ↑k).2) (n:=by_.2) rfl rfl (by omega)) (cf 25 rfl (by kernel_rfl) rfl (aN (v:=vg [vi (((gI (gI p.2 ↑e) ↑k).1)+by_.1),vi (((gI (gI p.2 ↑e) ↑k).2)+by_.2)]) (az (vals:=[vi (((gI (gI p.2 ↑e) ↑k).1)+by_.1),vi (((gI (gI p.2 ↑e) ↑k).2)+by_.2)]) Try.func15 dC dF rfl) (dE w296 (((gI (gI p.2 ↑e) ↑k).1)+by_.1) (((gI (gI p.2 ↑e) ↑k).2)+by_.2)) ?_)))
       intro w303 hb304
       replace hb304:=aj hb304 g290
       refine cf 26 rfl (by kernel_rfl) rfl (aC (α:=Pt) g290 (is 9) (is 9) (9,0) rfl ([((((gI (gI p.2 ↑e) ↑k).1)+by_.1),(((gI (gI p.2 ↑e) ↑k).2)+by_.2))]:List Pt) bZ ah (by decide) (by decide) (vs:=[(0,vg [vi (((gI (gI p.2 ↑e) ↑k).1)+by_.1),vi (((gI (gI p.2 ↑e) ↑k).2)+by_.2)])]) rfl rfl (.cons rfl .nil) ?_)
       intro g305 w306 v307 ch308 o309
       refine cf 27 rfl (by kernel_rfl) rfl ?_
       have C310:=cg [] (ch295.n.seq (hb304.n.seq ch308.n))
       replace o_l:=o_l.ca C310
       refine b9 (α:=Pt) (xs:=l) (ys:=([((((gI (gI p.2 ↑e) ↑k).1)+by_.1),(((gI (gI p.2 ↑e) ↑k).2)+by_.2))]:List Pt)) g305 (J:=is 10) (S:=is 10) (10,0) rfl bZ ah (by decide) rfl rfl rfl o_l o309.flat (by decide) (by omega) ?_
       intro g311 w312 v313 ch314 o315
       clear o_l
       refine xp (v:=v313) 28 rfl (λw=>bi rfl) (eQ (by kernel_rfl) (ak ?_))
       clear r299 r302 o309
       refine a5 rfl (mz zs15 (lx (aQ (m:=↑k) (n:=1) rfl rfl (by omega)) (ai ((k:Int)+1) (a8 ?_))))
       have C317:=cg [10] (hb304.n.seq (ch308.n.seq (ch314.l rfl)))
       have C316:=ch295.n.seq C317
       refine back21 (v313,(l++([((((gI (gI p.2 ↑e) ↑k).1)+by_.1),(((gI (gI p.2 ↑e) ↑k).2)+by_.2))]:List Pt)),k+1,g311) _ _ ⟨bH.ca C316,zs3,zs4,zs5,zs7,zs9,zs11,zs13,rfl,rfl,Rg.ca C316,Rp.ca C316,r_p_v1.ca C317,bx5.ca C316,bx10.ca C317,bx15.ca C317,bx38.ca C316,bx217.ca C316,o_qA.ca C316,o_qL.ca C316,o315,by omega,?_⟩ ?_
       · show(l++([((((gI (gI p.2 ↑e) ↑k).1)+by_.1),(((gI (gI p.2 ↑e) ↑k).2)+by_.2))]:List Pt))=((gI p.2 ↑e).take (k+1)).map (λa=>bR a by_)
         exact i3 hqk ‹_›
       · show Int.toNat (((List.length (gI p.2 ↑e):Int):Int)-((k+1):Int))<Int.toNat (((List.length (gI p.2 ↑e):Int):Int)-(k:Int))
         omega
      refine af rfl (df p21) (aO rfl ?_)
      clear r293
      refine a5 rfl (lx (a7 dn rfl rfl zs11 rfl) (lx (a9 ci rfl bx217 rfl) (mz zs14 (lo ?_))))
      obtain⟨c318,hv319⟩:=jK (u:=l_v) (cU o_l.flat)
      refine aC (α:=Vc) g290 (is 11) (is 11) (11,0) rfl [c318] eP bt (by decide) (by decide) (vs:=[(0,l_v)]) rfl rfl (.cons (gR hv319 (c5 o_l.flat)) .nil) ?_
      intro g320 w321 v322 ch323 o324
      refine lo ?_
      replace o_qL:=o_qL.cn ch323
      replace o_l:=o_l.cn ch323
      refine ga hv319 (α:=Pt) (xss:=qL) (i:=12) (γ:=g320) eP bt rfl rfl rfl o_qL (o324.flat) o_l rfl (by decide) (by omega) ?_
      intro g325 w326 v327 ch328 o329 r330
      clear o_qL o_l
      refine lx (a7 dn rfl rfl zs11 rfl) (lo ?_)
      replace bx217:=(bx217.cn ch323).chg ch328 (me rfl rfl)
      refine bV (cs':=[qA_v,v327]) ci rfl rfl bx217 (c5 o329.sl) nq (cU o329.sl) rfl ?_
      intro w331 ch332 bx333
      clear bx217
      refine a8 (ak ?_)
      clear o324 r330
      refine a5 rfl (mz zs13 (lx (aQ (m:=↑e) (n:=1) rfl rfl (by omega)) (ai ((e:Int)+1) (a8 ?_))))
      have C334:=cg [6,10,12] (ch323.n.seq ((ch328.lx rfl rfl).seq (ch332.l rfl)))
      refine back17 (v327,(qL++[l]),e+1,g325) _ _ ⟨bH.ca C334,zs3,zs4,zs5,zs7,zs9,zs11,rfl,Rg.ca C334,Rp.ca C334,r_p_v1.ca C334,bx5.ca C334,bx10.ca C334,bx15.ca C334,bx38.ca C334,bx333,o_qA.ca C334,o329.ce ch332,by omega,?_⟩ ?_
      · show(qL++[l])=(p.2.take (e+1)).map (List.map (λa=>bR a by_))
        exact m5 hql ‹_› hqk ‹_›
      · show Int.toNat (((p.2.length:Int):Int)-((e+1):Int))<Int.toNat (((p.2.length:Int):Int)-(e:Int))
        omega
     refine af rfl (df p17) (aO rfl (a6 (a6 ?_)))
     clear bx15
     have hqe:(qA,qL)=dO by_ p:=by rw[hqa,hql,List.take_of_length_le (by omega),List.take_of_length_le (by omega)];rfl
     have hl1:qA.length=p.1.length:=by rw[hqa,List.length_map,List.length_take];omega
     have hl2:qL.length=p.2.length:=by rw[hql,List.length_map,List.length_take];omega
     have hl3:∀e:Int,0<=e->e<qL.length->((gI qL e).length:Int)<=400:=by have:=mw (t:=by_) hp6;rw[<-hqe] at this;exact this
     have hfq:∀k:Int,gI (aT (qA,qL)) k<br:=by rw[hqe];exact jq hs hp6
     refine a5 rfl (lx (ad (ds:=[qA_v,qL_v]) bJ zs11 bx217 rfl rfl) (lo (d5 (az (vals:=[vg [qA_v,qL_v]]) Try.func16 lX mC rfl) (k8 w285 (qA,qL) qA_v qL_v (o_qA.flat).ro (o_qL.sl).ro (by(show((qA.length:Nat):Int)<=1024;omega)) (by(show((qL.length:Nat):Int)<=3072;omega)) (by exact λe h0 h1=>by have:=hl3 e h0 h1;show(gI qL e).length<=4096;omega)) ?_)))
     rintro⟨d336,v338⟩ w335 ⟨fr337,o339⟩
     obtain⟨g340,ch341,G340⟩:=ny g286 fr337 (λn=>if n=1 then 13 else 0)
     replace o339:=o339.gl G340 13
     refine lo (aN (v:=vb (decide (dy (bx (qA,qL))))) (az (vals:=[v338]) Try.func7 mD lN rfl) (iM w335 (bx (qA,qL)) v338 (o339.flat).ro) ?_)
     intro w342 hb343
     replace hb343:=aj hb343 g340
     refine lx (cm (b:=(decide (dy (bx (qA,qL))))) rfl) (a8 ?_)
     by_cases p25:(decide (dy (bx (qA,qL))))=true
     ·
      refine af rfl (congrArg Bool.not p25) (am (a6 ?_))
      clear o339
      have hok:dy (bx (dO by_ p)):=by rw[<-hqe];exact of_decide_eq_true ‹_›
      have eM:al g (qA,qL)=al g p:=by rw[hqe];exact lJ hf0 hok
      have eA:aV g (qA,qL)=aV g p:=by rw[hqe];exact jt hf0 hok
      have eC:aS g (qA,qL)=aS g p:=by rw[hqe];exact jw (by omega) hf0 hok
      refine a5 rfl ?_
      replace bx5:=(bx5.cn ch341).cn hb343
      refine lx (ad (ds:=[vi g.1,g_v]) bO zs3 bx5 rfl rfl) ?_
      replace bx217:=(bx217.cn ch341).cn hb343
      refine lx (ad (ds:=[qA_v,qL_v]) bJ zs11 bx217 rfl rfl) ?_
      replace Rg:=(Rg.cn ch341).cn hb343
      replace o_qA:=(o_qA.cn ch341).cn hb343
      replace o_qL:=(o_qL.cn ch341).cn hb343
      refine lo (aN (v:=vt [vg [Value.float .f64 (((al g (qA,qL)).1).1),Value.float .f64 ((((al g (qA,qL)).1).2).1),Value.float .f64 (((((al g (qA,qL)).1).2).2).1),Value.float .f64 ((((((al g (qA,qL)).1).2).2).2).1),Value.float .f64 (((((((al g (qA,qL)).1).2).2).2).2).1),Value.float .f64 ((((((((al g (qA,qL)).1).2).2).2).2).2).1),Value.float .f64 ((((((((al g (qA,qL)).1).2).2).2).2).2).2)],vi ((al g (qA,qL)).2)]) (az (vals:=[vg [vi g.1,g_v],vg [qA_v,qL_v]]) Try.func8 kn k7 rfl) (gD w342 g g_v (Rg).ro (qA,qL) qA_v qL_v (o_qA.flat).ro (o_qL.sl).ro (by exact λ_=>hfq)) ?_)
      intro w344 hb345
      replace hb345:=aj hb345 g340
      refine mv (vt [vg [Value.float .f64 (((al g (qA,qL)).1).1),Value.float .f64 ((((al g (qA,qL)).1).2).1),Value.float .f64 (((((al g (qA,qL)).1).2).2).1),Value.float .f64 ((((((al g (qA,qL)).1).2).2).2).1),Value.float .f64 (((((((al g (qA,qL)).1).2).2).2).2).1),Value.float .f64 ((((((((al g (qA,qL)).1).2).2).2).2).2).1),Value.float .f64 ((((((((al g (qA,qL)).1).2).2).2).2).2).2)],vi ((al g (qA,qL)).2)]) (lx (b5 rfl rfl) (lx (b5 rfl rfl) (lo (bB g340 (is 14) (14,0) rfl bh ?_))))
      intro g349 w346 b348 ch347 bx350
      replace bx350:Bx g349 (is 14) w346 b348 [Value.float .f64 0,Value.float .f64 0,Value.float .f64 0,Value.float .f64 0,Value.float .f64 0,Value.float .f64 0,Value.float .f64 0]:=bx350
      refine lo (au (cs':=[Value.float .f64 (((al g (qA,qL)).1).1),Value.float .f64 ((((al g (qA,qL)).1).2).1),Value.float .f64 (((((al g (qA,qL)).1).2).2).1),Value.float .f64 ((((((al g (qA,qL)).1).2).2).2).1),Value.float .f64 (((((((al g (qA,qL)).1).2).2).2).2).1),Value.float .f64 ((((((((al g (qA,qL)).1).2).2).2).2).2).1),Value.float .f64 ((((((((al g (qA,qL)).1).2).2).2).2).2).2)]) bh rfl rfl bx350 rfl nq (AllOne.all (.cons rfl (.cons rfl (.cons rfl (.cons rfl (.cons rfl (.cons rfl (.cons rfl .nil)))))))) rfl ?_)
      intro w351 ch352 bx353
      clear bx350
      refine ai ((al g (qA,qL)).2) (a8 (a6 (a5 rfl ?_)))
      have C354:=cg [14] (hb345.n.seq (ch347.n.seq (ch352.l rfl)))
      replace bx5:=bx5.ca C354
      refine lx (ad (ds:=[vi g.1,g_v]) bO zs3 bx5 rfl rfl) ?_
      have C355:=cg [14] (ch341.n.seq (hb343.n.seq (hb345.n.seq (ch347.n.seq (ch352.l rfl)))))
      replace bx10:=bx10.ca C355
      refine lx (ad (ds:=[p_v,p_v1]) bJ zs4 bx10 rfl rfl) ?_
      replace Rg:=Rg.ca C354
      replace Rp:=Rp.ca C355
      replace r_p_v1:=r_p_v1.ca C355
      refine lo (aN (v:=vt [Value.float .f64 ((aV g p).1),vi ((aV g p).2)]) (az (vals:=[vg [vi g.1,g_v],vg [p_v,p_v1]]) Try.func17 fY gg rfl) (fj w351 g g_v (Rg).ro p p_v p_v1 (Rp).ro (r_p_v1).ro) ?_)
      intro w356 hb357
      replace hb357:=aj hb357 g349
      refine mv (vt [Value.float .f64 ((aV g p).1),vi ((aV g p).2)]) (lx (b5 rfl rfl) (lx (b5 rfl rfl) (ma (Value.float .f64 ((aV g p).1)) (ai ((aV g p).2) (a8 (a6 ?_))))))
      clear bx10
      refine a5 rfl ?_
      replace bx5:=bx5.cn hb357
      refine lx (ad (ds:=[vi g.1,g_v]) bO zs3 bx5 rfl rfl) ?_
      have C358:=cg [14] (hb345.n.seq (ch347.n.seq ((ch352.l rfl).seq hb357.n)))
      replace bx217:=bx217.ca C358
      refine lx (ad (ds:=[qA_v,qL_v]) bJ zs11 bx217 rfl rfl) ?_
      replace Rg:=Rg.cn hb357
      replace o_qA:=o_qA.ca C358
      replace o_qL:=o_qL.ca C358
      refine lo (aN (v:=vt [Value.float .f64 ((aV g (qA,qL)).1),vi ((aV g (qA,qL)).2)]) (az (vals:=[vg [vi g.1,g_v],vg [qA_v,qL_v]]) Try.func17 fY gg rfl) (fj w356 g g_v (Rg).ro (qA,qL) qA_v qL_v (o_qA.flat).ro (o_qL.sl).ro) ?_)
      intro w359 hb360
      replace hb360:=aj hb360 g349
      refine mv (vt [Value.float .f64 ((aV g (qA,qL)).1),vi ((aV g (qA,qL)).2)]) (lx (b5 rfl rfl) (lx (b5 rfl rfl) (ma (Value.float .f64 ((aV g (qA,qL)).1)) (ai ((aV g (qA,qL)).2) (a8 (a6 (a5 rfl ?_)))))))
      replace bx5:=bx5.cn hb360
      refine lx (ad (ds:=[vi g.1,g_v]) bO zs3 bx5 rfl rfl) ?_
      replace bx217:=bx217.cn hb360
      refine lx (ad (ds:=[qA_v,qL_v]) bJ zs11 bx217 rfl rfl) ?_
      replace Rg:=Rg.cn hb360
      replace o_qA:=o_qA.cn hb360
      replace o_qL:=o_qL.cn hb360
      refine lo (aN (v:=vt [vi ((aS g (qA,qL)).1),vi ((aS g (qA,qL)).2)]) (az (vals:=[vg [vi g.1,g_v],vg [qA_v,qL_v]]) Try.func13 jf jk rfl) (eg w359 g g_v (Rg).ro (qA,qL) qA_v qL_v (o_qA.flat).ro (o_qL.sl).ro) ?_)
      intro w361 hb362
      replace hb362:=aj hb362 g349
      refine mv (vt [vi ((aS g (qA,qL)).1),vi ((aS g (qA,qL)).2)]) (lx (b5 rfl rfl) (lx (b5 rfl rfl) (ai ((aS g (qA,qL)).1) (ai ((aS g (qA,qL)).2) (a8 (a6 ?_))))))
      clear bx5 bx217 o_qA o_qL
      refine a5 rfl (mi ((al g (qA,qL)).2) (lx (cu (m:=(al g (qA,qL)).2) (n:=0) rfl rfl) (mv (vb (decide (((al g (qA,qL)).2)=0))) ?_)))
      have q204_363:((al g (qA,qL)).2)=0:=by(rw[eM];assumption)
      have C364:=cg [14] (ch341.n.seq (hb343.n.seq (hb345.n.seq (ch347.n.seq ((ch352.l rfl).seq (hb357.n.seq (hb360.n.seq hb362.n)))))))
      replace bx38:=bx38.ca C364
      refine lv (vg [Value.float .f64 (((al g p).1).1),Value.float .f64 ((((al g p).1).2).1),Value.float .f64 (((((al g p).1).2).2).1),Value.float .f64 ((((((al g p).1).2).2).2).1),Value.float .f64 (((((((al g p).1).2).2).2).2).1),Value.float .f64 ((((((((al g p).1).2).2).2).2).2).1),Value.float .f64 ((((((((al g p).1).2).2).2).2).2).2)]) (wy (dt q204_363)) (ad (ds:=[Value.float .f64 (((al g p).1).1),Value.float .f64 ((((al g p).1).2).1),Value.float .f64 (((((al g p).1).2).2).1),Value.float .f64 ((((((al g p).1).2).2).2).1),Value.float .f64 (((((((al g p).1).2).2).2).2).1),Value.float .f64 ((((((((al g p).1).2).2).2).2).2).1),Value.float .f64 ((((((((al g p).1).2).2).2).2).2).2)]) bh zs7 bx38 rfl rfl) ?_
      have C365:=cg [] (hb357.n.seq (hb360.n.seq hb362.n))
      replace bx353:=bx353.ca C365
      refine lv (vg [Value.float .f64 (((al g (qA,qL)).1).1),Value.float .f64 ((((al g (qA,qL)).1).2).1),Value.float .f64 (((((al g (qA,qL)).1).2).2).1),Value.float .f64 ((((((al g (qA,qL)).1).2).2).2).1),Value.float .f64 (((((((al g (qA,qL)).1).2).2).2).2).1),Value.float .f64 ((((((((al g (qA,qL)).1).2).2).2).2).2).1),Value.float .f64 ((((((((al g (qA,qL)).1).2).2).2).2).2).2)]) (wy (dt q204_363)) (ad (ds:=[Value.float .f64 (((al g (qA,qL)).1).1),Value.float .f64 ((((al g (qA,qL)).1).2).1),Value.float .f64 (((((al g (qA,qL)).1).2).2).1),Value.float .f64 ((((((al g (qA,qL)).1).2).2).2).1),Value.float .f64 (((((((al g (qA,qL)).1).2).2).2).2).1),Value.float .f64 ((((((((al g (qA,qL)).1).2).2).2).2).2).1),Value.float .f64 ((((((((al g (qA,qL)).1).2).2).2).2).2).2)]) bh rfl bx353 rfl rfl) ?_
      refine cj (wy (dt q204_363)) ?_
      refine aN (v:=vb (decide ((((al g p).1).1,(((al g p).1).2).1,((((al g p).1).2).2).1,(((((al g p).1).2).2).2).1,((((((al g p).1).2).2).2).2).1,(((((((al g p).1).2).2).2).2).2).1,(((((((al g p).1).2).2).2).2).2).2)=(((al g (qA,qL)).1).1,(((al g (qA,qL)).1).2).1,((((al g (qA,qL)).1).2).2).1,(((((al g (qA,qL)).1).2).2).2).1,((((((al g (qA,qL)).1).2).2).2).2).1,(((((((al g (qA,qL)).1).2).2).2).2).2).1,(((((((al g (qA,qL)).1).2).2).2).2).2).2)))) (az (vals:=[vg [Value.float .f64 (((al g p).1).1),Value.float .f64 ((((al g p).1).2).1),Value.float .f64 (((((al g p).1).2).2).1),Value.float .f64 ((((((al g p).1).2).2).2).1),Value.float .f64 (((((((al g p).1).2).2).2).2).1),Value.float .f64 ((((((((al g p).1).2).2).2).2).2).1),Value.float .f64 ((((((((al g p).1).2).2).2).2).2).2)],vg [Value.float .f64 (((al g (qA,qL)).1).1),Value.float .f64 ((((al g (qA,qL)).1).2).1),Value.float .f64 (((((al g (qA,qL)).1).2).2).1),Value.float .f64 ((((((al g (qA,qL)).1).2).2).2).1),Value.float .f64 (((((((al g (qA,qL)).1).2).2).2).2).1),Value.float .f64 ((((((((al g (qA,qL)).1).2).2).2).2).2).1),Value.float .f64 ((((((((al g (qA,qL)).1).2).2).2).2).2).2)]]) Try.func18 lP ly rfl) (o7 w361 (((al g p).1).1,(((al g p).1).2).1,((((al g p).1).2).2).1,(((((al g p).1).2).2).2).1,((((((al g p).1).2).2).2).2).1,(((((((al g p).1).2).2).2).2).2).1,(((((((al g p).1).2).2).2).2).2).2) (((al g (qA,qL)).1).1,(((al g (qA,qL)).1).2).1,((((al g (qA,qL)).1).2).2).1,(((((al g (qA,qL)).1).2).2).2).1,((((((al g (qA,qL)).1).2).2).2).2).1,(((((((al g (qA,qL)).1).2).2).2).2).2).1,(((((((al g (qA,qL)).1).2).2).2).2).2).2)) ?_
      intro w366 hb367
      replace hb367:=aj hb367 g349
      refine lw (vb (decide ((((al g p).1).1,(((al g p).1).2).1,((((al g p).1).2).2).1,(((((al g p).1).2).2).2).1,((((((al g p).1).2).2).2).2).1,(((((((al g p).1).2).2).2).2).2).1,(((((((al g p).1).2).2).2).2).2).2)=(((al g (qA,qL)).1).1,(((al g (qA,qL)).1).2).1,((((al g (qA,qL)).1).2).2).1,(((((al g (qA,qL)).1).2).2).2).1,((((((al g (qA,qL)).1).2).2).2).2).1,(((((((al g (qA,qL)).1).2).2).2).2).2).1,(((((((al g (qA,qL)).1).2).2).2).2).2).2)))) (aD rfl (dt q204_363) rfl) ?_
      refine mv (vb (decide ((((al g p).1).1,(((al g p).1).2).1,((((al g p).1).2).2).1,(((((al g p).1).2).2).2).1,((((((al g p).1).2).2).2).2).1,(((((((al g p).1).2).2).2).2).2).1,(((((((al g p).1).2).2).2).2).2).2)=(((al g (qA,qL)).1).1,(((al g (qA,qL)).1).2).1,((((al g (qA,qL)).1).2).2).1,(((((al g (qA,qL)).1).2).2).2).1,((((((al g (qA,qL)).1).2).2).2).2).1,(((((((al g (qA,qL)).1).2).2).2).2).2).1,(((((((al g (qA,qL)).1).2).2).2).2).2).2)))) ?_
      have q209_368:(decide ((((al g p).1).1,(((al g p).1).2).1,((((al g p).1).2).2).1,(((((al g p).1).2).2).2).1,((((((al g p).1).2).2).2).2).1,(((((((al g p).1).2).2).2).2).2).1,(((((((al g p).1).2).2).2).2).2).2)=(((al g (qA,qL)).1).1,(((al g (qA,qL)).1).2).1,((((al g (qA,qL)).1).2).2).1,(((((al g (qA,qL)).1).2).2).2).1,((((((al g (qA,qL)).1).2).2).2).2).1,(((((((al g (qA,qL)).1).2).2).2).2).2).1,(((((((al g (qA,qL)).1).2).2).2).2).2).2)))=true:=by exact dt (by rw[eM])
      refine lv (Value.float .f64 ((aV g p).1)) (wy q209_368) (aw rfl) (lv (Value.float .f64 ((aV g (qA,qL)).1)) (wy q209_368) (aw rfl) (cj (wy q209_368) (aN (v:=vb (decide (((aV g p).1)=((aV g (qA,qL)).1)))) (az (vals:=[Value.float .f64 ((aV g p).1),Value.float .f64 ((aV g (qA,qL)).1)]) Try.func19 ex et rfl) (eF w366 ((aV g p).1) ((aV g (qA,qL)).1)) ?_)))
      intro w369 hb370
      replace hb370:=aj hb370 g349
      refine lw (vb (decide (((aV g p).1)=((aV g (qA,qL)).1)))) (aD rfl q209_368 rfl) (mv (vb (decide (((aV g p).1)=((aV g (qA,qL)).1)))) ?_)
      have q214_371:(decide (((aV g p).1)=((aV g (qA,qL)).1)))=true:=by exact dt (by rw[eA])
      refine lv (vi ((aS g (qA,qL)).1)) (wy q214_371) (aw rfl) (lv (vi ((aS g p).1)) (wy q214_371) (aw zs9) (lv (vb (decide (((aS g (qA,qL)).1)=((aS g p).1)))) (wy q214_371) (cu (m:=(aS g (qA,qL)).1) (n:=(aS g p).1) rfl rfl) (lw (vb (decide (((aS g (qA,qL)).1)=((aS g p).1)))) (aD rfl q214_371 rfl) (ma (vb (decide (((aS g (qA,qL)).1)=((aS g p).1)))) (a8 (av (vs:=[vb (decide (((aS g (qA,qL)).1)=((aS g p).1)))]) Try.func4 (.tmp rfl .nil) ?_))))))
      have e0:(decide (((aS g (qA,qL)).1)=((aS g p).1)):Bool)=(true):=by
        exact dt (by rw[eC])
      have C372:=cg [14] (ch341.n.seq (hb343.n.seq (hb345.n.seq (ch347.n.seq ((ch352.l rfl).seq (hb357.n.seq (hb360.n.seq (hb362.n.seq (hb367.n.seq hb370.n)))))))))
      replace bH:=bH.ca C372
      exact⟨(congrArg (a₁:=decide (((aS g (qA,qL)).1)=((aS g p).1))) (λ(z0:Bool)=>Ending.returned (vb z0)) e0),bH.below⟩
     refine ae rfl (congrArg Bool.not (Bool.eq_false_iff.2 p25)) (a6 ?_)
     clear bx5 bx10 bx38 bx217 o_qA o_qL o339
     refine a5 rfl (ma (vb true) (a8 (av (vs:=[vb true]) Try.func4 (.tmp rfl .nil) ?_)))
     have e0:(true:Bool)=(true):=by
       rfl
     replace bH:=bH.cn ch341
     replace bH:=bH.cn hb343
     exact⟨rb e0,bH.below⟩
    refine aa (wn (df q75)) (aa (wn (df q75)) (aa (wn (df q75)) (aa (bg rfl rfl rfl) (aa (bg rfl rfl rfl) (aa (bg rfl rfl rfl) (aa (bg rfl rfl rfl) (aa (bg rfl rfl rfl) (aa (bg rfl rfl rfl) (aa (bg rfl rfl rfl) ?_)))))))))
    refine aa (bg rfl rfl rfl) (aa (bg rfl rfl rfl) (aa (bg rfl rfl rfl) (aa (wn (df q75)) (lw (vb false) (aB rfl (df q75) rfl) (a8 (af rfl rfl (am (a6 ?_))))))))
    clear o46
    refine a5 rfl (lw (vg [vn,vn]) (bz (vs:=[]) rfl (by kernel_rfl)) (lo (bB g47 (is 6) (6,0) rfl bJ ?_)))
    intro g376 w373 b375 ch374 bx377
    replace bx377:Bx g376 (is 6) w373 b375 [vn,vn]:=bx377
    refine lo (au (cs':=[vn,vn]) bJ rfl rfl bx377 rfl nq (AllOne.all (.cons rfl (.cons rfl .nil))) rfl ?_)
    intro w378 ch379 bx380
    clear bx377
    refine a8 (a6 (a6 (a5 rfl (ai 0 (a8 (ao ?_))))))
    refine bf (σ:=Value×(List Pt)×Nat×aW) (λ⟨qA_v,qA,v,gq⟩ f w=>bo w0 gq w/\f 3=vp b3 0/\f 4=vp b8 0/\f 5=vp b13 0/\f 7=vp b33 0/\f 9=vi ((aS g p).1)/\f 11=vp b375 0/\f 12=vi ↑v/\Sl gq (is 0) w g_v g.2/\Sl gq (is 0) w p_v p.1/\Sl gq (is 0) w p_v1 p.2/\Bx gq (is 1) w b3 [vi g.1,g_v]/\Bx gq (is 2) w b8 [p_v,p_v1]/\Bx gq (is 3) w b13 [vi by_.1,vi by_.2]/\Bx gq (is 4) w b33 [Value.float .f64 (((al g p).1).1),Value.float .f64 ((((al g p).1).2).1),Value.float .f64 (((((al g p).1).2).2).1),Value.float .f64 ((((((al g p).1).2).2).2).1),Value.float .f64 (((((((al g p).1).2).2).2).2).1),Value.float .f64 ((((((((al g p).1).2).2).2).2).2).1),Value.float .f64 ((((((((al g p).1).2).2).2).2).2).2)]/\Bx gq (is 6) w b375 [qA_v,vn]/\Ow gq (is 8) (is 8) w qA_v qA/\(v:Int)<=((p.1.length:Int):Int)/\(qA=(p.1.take v).map (λa=>bR a by_))) (λ⟨qA_v,qA,v,gq⟩=>Int.toNat (((p.1.length:Int):Int)-(v:Int))) (vn,[],0,g376) ?_ ?_
    have C383:=cg [4,6] (hb30.n.seq (ch32.n.seq ((ch37.l rfl).seq (hb41.n.seq (ch48.n.seq (ch374.n.seq (ch379.l rfl)))))))
    have C381:=ch2.n.seq (ch7.n.seq (ch12.n.seq (hb17.n.seq (hb21.n.seq (hb23.n.seq C383)))))
    have C382:=cg [6] (ch48.n.seq (ch374.n.seq (ch379.l rfl)))
    have C384:=hb41.n.seq C382
    · exact⟨bH.ca C381,rfl,rfl,rfl,rfl,rfl,rfl,rfl,Rg.ca C382,Rp.ca C382,r_p_v1.ca C382,bx5.ca C382,bx10.ca C382,bx15.ca C383,bx38.ca C384,bx380,Ow.nil,by omega,by rfl⟩
    clear Rg Rp r_p_v1 bx5 bx10 bx15 bx38 bx380 bH
    rintro⟨qA_v,qA,v,g387⟩ f385 w386 ⟨bH,zs3,zs4,zs5,zs7,zs9,zs11,zs12,Rg,Rp,r_p_v1,bx5,bx10,bx15,bx38,bx380,o_qA,hle_v,hqa⟩ back13
    have hal:=jx hqa
    refine a6 (a6 (a5 rfl (mz zs12 (lx (a7 dn rfl rfl zs4 rfl) (lx (a9 bt rfl bx10 rfl) ?_)))))
    have len388:=(Rp).small
    refine lx (bE bZ rfl Rp) (lx (b6 (m:=↑v) (n:=(p.1.length:Int)) rfl rfl) (a8 ?_))
    by_cases p13:(v:Int)<(p.1.length:Int)
    ·
     refine ae rfl (dt p13) ?_
     obtain⟨⟨hv1,hv2⟩,hv3,hv4⟩:=hs.pt (v:Int) (by omega) ‹_›
     refine am (a6 (ao ?_))
     refine iB (σ:=Value×aW) (λ⟨v398,gq⟩ f w=>bo w0 gq w/\f 3=vp b3 0/\f 4=vp b8 0/\f 5=vp b13 0/\f 7=vp b33 0/\f 9=vi ((aS g p).1)/\f 11=vp b375 0/\f 12=vi ↑v/\Sl gq (is 0) w g_v g.2/\Sl gq (is 0) w p_v p.1/\Sl gq (is 0) w p_v1 p.2/\Bx gq (is 1) w b3 [vi g.1,g_v]/\Bx gq (is 2) w b8 [p_v,p_v1]/\Bx gq (is 3) w b13 [vi by_.1,vi by_.2]/\Bx gq (is 4) w b33 [Value.float .f64 (((al g p).1).1),Value.float .f64 ((((al g p).1).2).1),Value.float .f64 (((((al g p).1).2).2).1),Value.float .f64 ((((((al g p).1).2).2).2).1),Value.float .f64 (((((((al g p).1).2).2).2).2).1),Value.float .f64 ((((((((al g p).1).2).2).2).2).2).1),Value.float .f64 ((((((((al g p).1).2).2).2).2).2).2)]/\Ow gq (is 8) (is 8) w v398 (qA++([((((gI p.1 ↑v).1)+by_.1),(((gI p.1 ↑v).2)+by_.2))]:List Pt))/\Bx gq (is 6) w b375 [v398,vn]) g387 [0,2,3,4,5,6,7,8,9,10,11,12,13,14,15,16,17,18,19,23] fP ?_ ?_
     ·
      intro mid
      intro w390 ch389
      refine xp 0 rfl (λw=>a7 dn rfl rfl zs11 rfl) (xp 2 rfl (λw=>a7 dn rfl rfl zs4 rfl) ?_)
      replace bx10:=bx10.cn ch389
      refine xh 3 [2,0,1,4,8,11,13,17,9,12,18,14,15,16,19] rfl (λw' hw'=>a9 bt rfl (bx10.bel hw') rfl) (xp (v:=vi ↑v) 4 rfl (λw=>aw zs12) ?_)
      replace Rp:=Rp.cn ch389
      refine xh 5 [4,3,2,0,1,8,11,13,17,9,12,18,14,15,16,19] rfl (λw' hw'=>ab (v:=p_v) (i:=↑v) bZ rfl rfl (Rp.bel hw') rfl (by omega) (by omega)) (xp (v:=Value.pointer (some ⟨(aU p_v 2 (Int.toNat ↑v)).block,(aU p_v 2 (Int.toNat ↑v)).off+0,none⟩)) 6 rfl (λw=>bX cq rfl rfl rfl rfl) (xh 7 [6,5,4,3,2,0,1,8,11,13,17,9,12,18,14,15,16,19] rfl (λw' hw'=>bN (v:=p_v) (i:=↑v) aG rfl (Rp.bel hw') (by omega) (by omega) (by decide) rfl) (xp 8 rfl (λw=>a7 cq rfl rfl zs5 rfl) ?_)))
      replace bx15:=bx15.cn ch389
      refine xh 9 [8,7,6,5,4,3,2,0,1,11,13,17,12,18,14,15,16,19] rfl (λw' hw'=>a9 aG rfl (bx15.bel hw') rfl) (xp 10 rfl (λw=>aQ (m:=(gI p.1 ↑v).1) (n:=by_.1) rfl rfl (by omega)) (xp 11 rfl (λw=>a7 dn rfl rfl zs4 rfl) (xh 12 [11,10,9,8,7,6,5,4,3,2,0,1,13,17,18] rfl (λw' hw'=>a9 bt rfl (bx10.bel hw') rfl) (xp (v:=vi ↑v) 13 rfl (λw=>aw zs12) (xh 14 [13,12,11,10,9,8,7,6,5,4,3,2,0,1,17,18] rfl (λw' hw'=>ab (v:=p_v) (i:=↑v) bZ rfl rfl (Rp.bel hw') rfl (by omega) (by omega)) (xp (v:=Value.pointer (some ⟨(aU p_v 2 (Int.toNat ↑v)).block,(aU p_v 2 (Int.toNat ↑v)).off+1,none⟩)) 15 rfl (λw=>bX cq rfl rfl rfl rfl) ?_))))))
      refine xh 16 [15,14,13,12,11,10,9,8,7,6,5,4,3,2,0,1,17,18] rfl (λw' hw'=>bN (v:=p_v) (i:=↑v) aG rfl (Rp.bel hw') (by omega) (by omega) (by decide) rfl) (xp 17 rfl (λw=>a7 cq rfl rfl zs5 rfl) (xh 18 [17,16,15,14,13,12,11,10,9,8,7,6,5,4,3,2,0,1] rfl (λw' hw'=>a9 aG rfl (bx15.bel hw') rfl) (xp 19 rfl (λw=>aQ (m:=(gI p.1 ↑v).2) (n:=by_.2) rfl rfl (by omega)) ?_)))
      refine lj 1 20 rfl rfl (by kernel_rfl) rfl rfl ?_ ?_
      ·
       replace bx380:=bx380.cn ch389
       refine aP (v:=qA_v) (a9 bt rfl bx380 rfl) (cf 20 rfl (by kernel_rfl) rfl (aN (v:=vg [vi (((gI p.1 ↑v).1)+by_.1),vi (((gI p.1 ↑v).2)+by_.2)]) (az (vals:=[vi (((gI p.1 ↑v).1)+by_.1),vi (((gI p.1 ↑v).2)+by_.2)]) Try.func15 dC dF rfl) (dE w390 (((gI p.1 ↑v).1)+by_.1) (((gI p.1 ↑v).2)+by_.2)) ?_))
       intro w391 hb392
       replace hb392:=aj hb392 g387
       refine cf 21 rfl (by kernel_rfl) rfl (aC (α:=Pt) g387 (is 7) (is 7) (7,0) rfl ([((((gI p.1 ↑v).1)+by_.1),(((gI p.1 ↑v).2)+by_.2))]:List Pt) bZ ah (by decide) (by decide) (vs:=[(0,vg [vi (((gI p.1 ↑v).1)+by_.1),vi (((gI p.1 ↑v).2)+by_.2)])]) rfl rfl (.cons rfl .nil) ?_)
       intro g393 w394 v395 ch396 o397
       refine cf 22 rfl (by kernel_rfl) rfl ?_
       have C398:=cg [] (ch389.n.seq (hb392.n.seq ch396.n))
       replace o_qA:=o_qA.ca C398
       refine b9 (α:=Pt) (xs:=qA) (ys:=([((((gI p.1 ↑v).1)+by_.1),(((gI p.1 ↑v).2)+by_.2))]:List Pt)) g393 (J:=is 8) (S:=is 8) (8,0) rfl bZ ah (by decide) rfl rfl rfl o_qA o397.flat (by decide) (by(simp;omega)) ?_
       intro g399 w400 v401 ch402 o403
       clear o_qA
       refine xp 23 rfl (λw=>a7 dn rfl rfl zs11 rfl) (cf 24 rfl (by kernel_rfl) rfl ?_)
       have C407:=cg [8] (hb392.n.seq (ch396.n.seq (ch402.l rfl)))
       replace bx380:=bx380.ca C407
       refine bV (cs':=[v401,vn]) bt rfl rfl bx380 (c5 o403.flat) nq (cU o403.flat) rfl ?_
       intro w404 ch405 bx406
       clear bx380
       refine eQ (by kernel_rfl) ?_
       have C409:=cg [6,8] (hb392.n.seq (ch396.n.seq ((ch402.l rfl).seq (ch405.l rfl))))
       have C408:=ch389.n.seq C409
       exact mid (v401,g399) _ _ ⟨bH.ca C408,zs3,zs4,zs5,zs7,zs9,zs11,zs12,Rg.ca C408,Rp.ca C409,r_p_v1.ca C408,bx5.ca C408,bx10.ca C409,bx15.ca C409,bx38.ca C408,o403.ce ch405,bx406⟩
      ·
       refine aN (v:=vg [vi (((gI p.1 ↑v).1)+by_.1),vi (((gI p.1 ↑v).2)+by_.2)]) (az (vals:=[vi (((gI p.1 ↑v).1)+by_.1),vi (((gI p.1 ↑v).2)+by_.2)]) Try.func15 dC dF rfl) (dE w390 (((gI p.1 ↑v).1)+by_.1) (((gI p.1 ↑v).2)+by_.2)) ?_
       intro w410 hb411
       replace hb411:=aj hb411 g387
       refine lj 1 21 rfl rfl (by kernel_rfl) rfl rfl ?_ ?_
       ·
        replace bx380:=(bx380.cn ch389).cn hb411
        refine aP (v:=qA_v) (a9 bt rfl bx380 rfl) (cf 21 rfl (by kernel_rfl) rfl (aC (α:=Pt) g387 (is 7) (is 7) (7,0) rfl ([((((gI p.1 ↑v).1)+by_.1),(((gI p.1 ↑v).2)+by_.2))]:List Pt) bZ ah (by decide) (by decide) (vs:=[(0,vg [vi (((gI p.1 ↑v).1)+by_.1),vi (((gI p.1 ↑v).2)+by_.2)])]) rfl rfl (.cons rfl .nil) ?_))
        intro g412 w413 v414 ch415 o416
        refine cf 22 rfl (by kernel_rfl) rfl ?_
        have C417:=cg [] (ch389.n.seq (hb411.n.seq ch415.n))
        replace o_qA:=o_qA.ca C417
        refine b9 (α:=Pt) (xs:=qA) (ys:=([((((gI p.1 ↑v).1)+by_.1),(((gI p.1 ↑v).2)+by_.2))]:List Pt)) g412 (J:=is 8) (S:=is 8) (8,0) rfl bZ ah (by decide) rfl rfl rfl o_qA o416.flat (by decide) (by(simp;omega)) ?_
        intro g418 w419 v420 ch421 o422
        clear o_qA
        refine xp 23 rfl (λw=>a7 dn rfl rfl zs11 rfl) (cf 24 rfl (by kernel_rfl) rfl ?_)
        replace bx380:=(bx380.cn ch415).ce ch421
        refine bV (cs':=[v420,vn]) bt rfl rfl bx380 (c5 o422.flat) nq (cU o422.flat) rfl ?_
        intro w423 ch424 bx425
        clear bx380
        refine eQ (by kernel_rfl) ?_
        have C427:=cg [6,8] (hb411.n.seq (ch415.n.seq ((ch421.l rfl).seq (ch424.l rfl))))
        have C426:=ch389.n.seq C427
        exact mid (v420,g418) _ _ ⟨bH.ca C426,zs3,zs4,zs5,zs7,zs9,zs11,zs12,Rg.ca C426,Rp.ca C427,r_p_v1.ca C426,bx5.ca C426,bx10.ca C427,bx15.ca C427,bx38.ca C426,o422.ce ch424,bx425⟩
       ·
        refine aC (α:=Pt) g387 (is 7) (is 7) (7,0) rfl ([((((gI p.1 ↑v).1)+by_.1),(((gI p.1 ↑v).2)+by_.2))]:List Pt) bZ ah (by decide) (by decide) (vs:=[(0,vg [vi (((gI p.1 ↑v).1)+by_.1),vi (((gI p.1 ↑v).2)+by_.2)])]) rfl rfl (.cons rfl .nil) ?_
        intro g428 w429 v430 ch431 o432
        have C433:=cg [] (ch389.n.seq (hb411.n.seq ch431.n))
        replace bx380:=bx380.ca C433
        refine cf 1 rfl (by kernel_rfl) rfl (aP (v:=qA_v) (a9 bt rfl bx380 rfl) (cf 22 rfl (by kernel_rfl) rfl ?_))
        replace o_qA:=o_qA.ca C433
        refine b9 (α:=Pt) (xs:=qA) (ys:=([((((gI p.1 ↑v).1)+by_.1),(((gI p.1 ↑v).2)+by_.2))]:List Pt)) g428 (J:=is 8) (S:=is 8) (8,0) rfl bZ ah (by decide) rfl rfl rfl o_qA o432.flat (by decide) (by(simp;omega)) ?_
        intro g434 w435 v436 ch437 o438
        clear o_qA
        refine xp 23 rfl (λw=>a7 dn rfl rfl zs11 rfl) (cf 24 rfl (by kernel_rfl) rfl ?_)
        replace bx380:=bx380.ce ch437
        refine bV (cs':=[v436,vn]) bt rfl rfl bx380 (c5 o438.flat) nq (cU o438.flat) rfl ?_
        intro w439 ch440 bx441
        clear bx380
        refine eQ (by kernel_rfl) ?_
        have C443:=cg [6,8] (hb411.n.seq (ch431.n.seq ((ch437.l rfl).seq (ch440.l rfl))))
        have C442:=ch389.n.seq C443
        exact mid (v436,g434) _ _ ⟨bH.ca C442,zs3,zs4,zs5,zs7,zs9,zs11,zs12,Rg.ca C442,Rp.ca C443,r_p_v1.ca C442,bx5.ca C442,bx10.ca C443,bx15.ca C443,bx38.ca C442,o438.ce ch440,bx441⟩
     clear Rg Rp r_p_v1 bx5 bx10 bx15 bx38 bx380 o_qA bH
     rintro⟨v398,g446⟩ f444 w445 ⟨bH,zs3,zs4,zs5,zs7,zs9,zs11,zs12,Rg,Rp,r_p_v1,bx5,bx10,bx15,bx38,o400,bx403⟩
     refine ak (a5 rfl (mz zs12 (lx (aQ (m:=↑v) (n:=1) rfl rfl (by omega)) (ai ((v:Int)+1) (a8 ?_)))))
     refine back13 (v398,(qA++([((((gI p.1 ↑v).1)+by_.1),(((gI p.1 ↑v).2)+by_.2))]:List Pt)),v+1,g446) _ _ ⟨bH,zs3,zs4,zs5,zs7,zs9,zs11,rfl,Rg,Rp,r_p_v1,bx5,bx10,bx15,bx38,bx403,o400,by omega,?_⟩ ?_
     · show(qA++([((((gI p.1 ↑v).1)+by_.1),(((gI p.1 ↑v).2)+by_.2))]:List Pt))=(p.1.take (v+1)).map (λa=>bR a by_)
       exact i3 hqa ‹_›
     · show Int.toNat (((p.1.length:Int):Int)-((v+1):Int))<Int.toNat (((p.1.length:Int):Int)-(v:Int))
       omega
    refine af rfl (df p13) (aO rfl (a6 (a6 (a5 rfl (ai 0 (a8 (ao ?_)))))))
    refine bf (σ:=Value×(List (List Pt))×Nat×aW) (λ⟨qL_v,qL,e,gq⟩ f w=>bo w0 gq w/\f 3=vp b3 0/\f 4=vp b8 0/\f 5=vp b13 0/\f 7=vp b33 0/\f 9=vi ((aS g p).1)/\f 11=vp b375 0/\f 13=vi ↑e/\Sl gq (is 0) w g_v g.2/\Sl gq (is 0) w p_v p.1/\Sl gq (is 0) w p_v1 p.2/\Bx gq (is 1) w b3 [vi g.1,g_v]/\Bx gq (is 2) w b8 [p_v,p_v1]/\Bx gq (is 3) w b13 [vi by_.1,vi by_.2]/\Bx gq (is 4) w b33 [Value.float .f64 (((al g p).1).1),Value.float .f64 ((((al g p).1).2).1),Value.float .f64 (((((al g p).1).2).2).1),Value.float .f64 ((((((al g p).1).2).2).2).1),Value.float .f64 (((((((al g p).1).2).2).2).2).1),Value.float .f64 ((((((((al g p).1).2).2).2).2).2).1),Value.float .f64 ((((((((al g p).1).2).2).2).2).2).2)]/\Bx gq (is 6) w b375 [qA_v,qL_v]/\Ow gq (is 8) (is 8) w qA_v qA/\eb gq 12 w qL_v qL/\(e:Int)<=((p.2.length:Int):Int)/\(qL=(p.2.take e).map (List.map (λa=>bR a by_)))) (λ⟨qL_v,qL,e,gq⟩=>Int.toNat (((p.2.length:Int):Int)-(e:Int))) (vn,[],0,g387) ?_ ?_
    · exact⟨bH,zs3,zs4,zs5,zs7,zs9,zs11,rfl,Rg,Rp,r_p_v1,bx5,bx10,bx15,bx38,bx380,o_qA,eb.nil,by omega,by rfl⟩
    clear Rg Rp r_p_v1 bx5 bx10 bx15 bx38 bx380 o_qA bH
    rintro⟨qL_v,qL,e,g449⟩ f447 w448 ⟨bH,zs3,zs4,zs5,zs7,zs9,zs11,zs13,Rg,Rp,r_p_v1,bx5,bx10,bx15,bx38,bx380,o_qA,o_qL,hle_e,hql⟩ back17
    have hbl:=nV hql
    refine a6 (a6 (a5 rfl (mz zs13 (lx (a7 dn rfl rfl zs4 rfl) (lx (a9 ci rfl bx10 rfl) ?_)))))
    have len450:=(r_p_v1).small
    refine lx (bE eP rfl r_p_v1) (lx (b6 (m:=↑e) (n:=(p.2.length:Int)) rfl rfl) (a8 ?_))
    by_cases p17:(e:Int)<(p.2.length:Int)
    ·
     refine ae rfl (dt p17) ?_
     have hle:=hp6 (e:Int) (by omega) ‹_›
     refine am (a6 (ao (a6 (a5 rfl (ma vn (a8 (a6 (a6 (a5 rfl (ai 0 (a8 (ao ?_))))))))))))
     refine bf (σ:=Value×(List Pt)×Nat×aW) (λ⟨l_v,l,k,gq⟩ f w=>bo w0 gq w/\f 3=vp b3 0/\f 4=vp b8 0/\f 5=vp b13 0/\f 7=vp b33 0/\f 9=vi ((aS g p).1)/\f 11=vp b375 0/\f 13=vi ↑e/\f 14=l_v/\f 15=vi ↑k/\Sl gq (is 0) w g_v g.2/\Sl gq (is 0) w p_v p.1/\Sl gq (is 0) w p_v1 p.2/\Bx gq (is 1) w b3 [vi g.1,g_v]/\Bx gq (is 2) w b8 [p_v,p_v1]/\Bx gq (is 3) w b13 [vi by_.1,vi by_.2]/\Bx gq (is 4) w b33 [Value.float .f64 (((al g p).1).1),Value.float .f64 ((((al g p).1).2).1),Value.float .f64 (((((al g p).1).2).2).1),Value.float .f64 ((((((al g p).1).2).2).2).1),Value.float .f64 (((((((al g p).1).2).2).2).2).1),Value.float .f64 ((((((((al g p).1).2).2).2).2).2).1),Value.float .f64 ((((((((al g p).1).2).2).2).2).2).2)]/\Bx gq (is 6) w b375 [qA_v,qL_v]/\Ow gq (is 8) (is 8) w qA_v qA/\eb gq 12 w qL_v qL/\Ow gq (is 10) (is 10) w l_v l/\(k:Int)<=((List.length (gI p.2 ↑e):Int):Int)/\(l=((gI p.2 ↑e).take k).map (λa=>bR a by_))) (λ⟨l_v,l,k,gq⟩=>Int.toNat (((List.length (gI p.2 ↑e):Int):Int)-(k:Int))) (vn,[],0,g449) ?_ ?_
     · exact⟨bH,zs3,zs4,zs5,zs7,zs9,zs11,zs13,rfl,rfl,Rg,Rp,r_p_v1,bx5,bx10,bx15,bx38,bx380,o_qA,o_qL,Ow.nil,by omega,by simp⟩
     clear Rg Rp r_p_v1 bx5 bx10 bx15 bx38 bx380 o_qA o_qL bH
     rintro⟨l_v,l,k,g453⟩ f451 w452 ⟨bH,zs3,zs4,zs5,zs7,zs9,zs11,zs13,zs14,zs15,Rg,Rp,r_p_v1,bx5,bx10,bx15,bx38,bx380,o_qA,o_qL,o_l,hle_k,hqk⟩ back21
     have hcl:=jx hqk
     refine a6 (a6 (a5 rfl (mz zs15 (lx (a7 dn rfl rfl zs4 rfl) (lx (a9 ci rfl bx10 rfl) (mz zs13 (lx (ab (v:=p_v1) (i:=↑e) eP rfl rfl r_p_v1 rfl (by omega) (by omega)) ?_)))))))
     obtain⟨v454,cel455,r456⟩:=cN (r:=(e:Int)) r_p_v1 (by omega) (by omega)
     refine lx (aZ bt rfl cel455) ?_
     have len457:=(r456).small
     refine lx (bE bZ rfl r456) (lx (b6 (m:=↑k) (n:=(List.length (gI p.2 ↑e):Int)) rfl rfl) (a8 ?_))
     by_cases p21:(k:Int)<(List.length (gI p.2 ↑e):Int)
     ·
      refine ae rfl (dt p21) ?_
      obtain⟨⟨hv1,hv2⟩,hv3,hv4⟩:=(hs.ln (e:Int) (by omega) (by omega)).2.2 _ (ba (i:=↑k) (by omega) ‹_›)
      refine am (a6 (ao ?_))
      clear r456
      refine dc g453 [0,1,2,3,4,5,6,7,8,9,10,11,12,13,14,15,16,17,18,19,20,21,22,23,24,28] fP ?_
      intro w459 ch458
      refine xp (v:=l_v) 0 rfl (λw=>aw zs14) (xp 1 rfl (λw=>a7 dn rfl rfl zs4 rfl) ?_)
      replace bx10:=bx10.cn ch458
      refine xv 2 [1,0,3,6,10,13,15,18,22,11,14,23,16,17,19,20,21,24] rfl (a9 ci rfl bx10 rfl) (xp (v:=vi ↑e) 3 rfl (λw=>aw zs13) ?_)
      replace r_p_v1:=r_p_v1.cn ch458
      refine xv 4 [3,2,1,0,6,10,13,15,18,22,11,14,23,16,17,19,20,21,24] rfl (ab (v:=p_v1) (i:=↑e) eP rfl rfl r_p_v1 rfl (by omega) (by omega)) ?_
      obtain⟨v460,cel461,r462⟩:=cN (r:=(e:Int)) r_p_v1 (by omega) (by omega)
      refine xv 5 [4,3,2,1,0,6,10,13,15,18,22,11,14,23,16,17,19,20,21,24] rfl (aZ bt rfl cel461) (xp (v:=vi ↑k) 6 rfl (λw=>aw zs15) (xv 7 [6,5,4,3,2,1,0,10,13,15,18,22,11,14,23,16,17,19,20,21,24] rfl (ab (v:=v460) (i:=↑k) bZ rfl rfl r462 rfl (by omega) (by omega)) (xp (v:=Value.pointer (some ⟨(aU v460 2 (Int.toNat ↑k)).block,(aU v460 2 (Int.toNat ↑k)).off+0,none⟩)) 8 rfl (λw=>bX cq rfl rfl rfl rfl) (xv 9 [8,7,6,5,4,3,2,1,0,10,13,15,18,22,11,14,23,16,17,19,20,21,24] rfl (bN (v:=v460) (i:=↑k) aG rfl r462 (by omega) (by omega) (by decide) rfl) (xp 10 rfl (λw=>a7 cq rfl rfl zs5 rfl) ?_)))))
      replace bx15:=bx15.cn ch458
      refine xv 11 [10,9,8,7,6,5,4,3,2,1,0,13,15,18,22,14,23,16,17,19,20,21,24] rfl (a9 aG rfl bx15 rfl) (xp 12 rfl (λw=>aQ (m:=(gI (gI p.2 ↑e) ↑k).1) (n:=by_.1) rfl rfl (by omega)) (xp 13 rfl (λw=>a7 dn rfl rfl zs4 rfl) (xv 14 [13,12,11,10,9,8,7,6,5,4,3,2,1,0,15,18,22,23] rfl (a9 ci rfl bx10 rfl) (xp (v:=vi ↑e) 15 rfl (λw=>aw zs13) (xv 16 [15,14,13,12,11,10,9,8,7,6,5,4,3,2,1,0,18,22,23] rfl (ab (v:=p_v1) (i:=↑e) eP rfl rfl r_p_v1 rfl (by omega) (by omega)) ?_)))))
      obtain⟨v463,cel464,r465⟩:=cN (r:=(e:Int)) r_p_v1 (by omega) (by omega)
      refine xv 17 [16,15,14,13,12,11,10,9,8,7,6,5,4,3,2,1,0,18,22,23] rfl (aZ bt rfl cel464) (xp (v:=vi ↑k) 18 rfl (λw=>aw zs15) (xv 19 [18,17,16,15,14,13,12,11,10,9,8,7,6,5,4,3,2,1,0,22,23] rfl (ab (v:=v463) (i:=↑k) bZ rfl rfl r465 rfl (by omega) (by omega)) (xp (v:=Value.pointer (some ⟨(aU v463 2 (Int.toNat ↑k)).block,(aU v463 2 (Int.toNat ↑k)).off+1,none⟩)) 20 rfl (λw=>bX cq rfl rfl rfl rfl) (xv 21 [20,19,18,17,16,15,14,13,12,11,10,9,8,7,6,5,4,3,2,1,0,22,23] rfl (bN (v:=v463) (i:=↑k) aG rfl r465 (by omega) (by omega) (by decide) rfl) (xp 22 rfl (λw=>a7 cq rfl rfl zs5 rfl) ?_)))))
      refine xv 23 [22,21,20,19,18,17,16,15,14,13,12,11,10,9,8,7,6,5,4,3,2,1,0] rfl (a9 aG rfl bx15 rfl) (xp 24 rfl (λw=>aQ (m:=(gI (gI p.2 ↑e) ↑k).2) (n:=by_.2) rfl rfl (by omega)) (cf 25 rfl (by kernel_rfl) rfl (aN (v:=vg [vi (((gI (gI p.2 ↑e) ↑k).1)+by_.1),vi (((gI (gI p.2 ↑e) ↑k).2)+by_.2)]) (az (vals:=[vi (((gI (gI p.2 ↑e) ↑k).1)+by_.1),vi (((gI (gI p.2 ↑e) ↑k).2)+by_.2)]) Try.func15 dC dF rfl) (dE w459 (((gI (gI p.2 ↑e) ↑k).1)+by_.1) (((gI (gI p.2 ↑e) ↑k).2)+by_.2)) ?_)))
      intro w466 hb467
      replace hb467:=aj hb467 g453
      refine cf 26 rfl (by kernel_rfl) rfl (aC (α:=Pt) g453 (is 9) (is 9) (9,0) rfl ([((((gI (gI p.2 ↑e) ↑k).1)+by_.1),(((gI (gI p.2 ↑e) ↑k).2)+by_.2))]:List Pt) bZ ah (by decide) (by decide) (vs:=[(0,vg [vi (((gI (gI p.2 ↑e) ↑k).1)+by_.1),vi (((gI (gI p.2 ↑e) ↑k).2)+by_.2)])]) rfl rfl (.cons rfl .nil) ?_)
      intro g468 w469 v470 ch471 o472
      refine cf 27 rfl (by kernel_rfl) rfl ?_
      have C473:=cg [] (ch458.n.seq (hb467.n.seq ch471.n))
      replace o_l:=o_l.ca C473
      refine b9 (α:=Pt) (xs:=l) (ys:=([((((gI (gI p.2 ↑e) ↑k).1)+by_.1),(((gI (gI p.2 ↑e) ↑k).2)+by_.2))]:List Pt)) g468 (J:=is 10) (S:=is 10) (10,0) rfl bZ ah (by decide) rfl rfl rfl o_l o472.flat (by decide) (by(simp;omega)) ?_
      intro g474 w475 v476 ch477 o478
      clear o_l
      refine xp (v:=v476) 28 rfl (λw=>bi rfl) (eQ (by kernel_rfl) (ak ?_))
      clear r462 r465 o472
      refine a5 rfl (mz zs15 (lx (aQ (m:=↑k) (n:=1) rfl rfl (by omega)) (ai ((k:Int)+1) (a8 ?_))))
      have C480:=cg [10] (hb467.n.seq (ch471.n.seq (ch477.l rfl)))
      have C479:=ch458.n.seq C480
      refine back21 (v476,(l++([((((gI (gI p.2 ↑e) ↑k).1)+by_.1),(((gI (gI p.2 ↑e) ↑k).2)+by_.2))]:List Pt)),k+1,g474) _ _ ⟨bH.ca C479,zs3,zs4,zs5,zs7,zs9,zs11,zs13,rfl,rfl,Rg.ca C479,Rp.ca C479,r_p_v1.ca C480,bx5.ca C479,bx10.ca C480,bx15.ca C480,bx38.ca C479,bx380.ca C479,o_qA.ca C479,o_qL.ca C479,o478,by omega,?_⟩ ?_
      · show(l++([((((gI (gI p.2 ↑e) ↑k).1)+by_.1),(((gI (gI p.2 ↑e) ↑k).2)+by_.2))]:List Pt))=((gI p.2 ↑e).take (k+1)).map (λa=>bR a by_)
        exact i3 hqk ‹_›
      · show Int.toNat (((List.length (gI p.2 ↑e):Int):Int)-((k+1):Int))<Int.toNat (((List.length (gI p.2 ↑e):Int):Int)-(k:Int))
        omega
     refine af rfl (df p21) (aO rfl ?_)
     clear r456
     refine a5 rfl (lx (a7 dn rfl rfl zs11 rfl) (lx (a9 ci rfl bx380 rfl) (mz zs14 (lo ?_))))
     obtain⟨c481,hv482⟩:=jK (u:=l_v) (cU o_l.flat)
     refine aC (α:=Vc) g453 (is 11) (is 11) (11,0) rfl [c481] eP bt (by decide) (by decide) (vs:=[(0,l_v)]) rfl rfl (.cons (gR hv482 (c5 o_l.flat)) .nil) ?_
     intro g483 w484 v485 ch486 o487
     refine lo ?_
     replace o_qL:=o_qL.cn ch486
     replace o_l:=o_l.cn ch486
     refine ga hv482 (α:=Pt) (xss:=qL) (i:=12) (γ:=g483) eP bt rfl rfl rfl o_qL (o487.flat) o_l rfl (by decide) (by omega) ?_
     intro g488 w489 v490 ch491 o492 r493
     clear o_qL o_l
     refine lx (a7 dn rfl rfl zs11 rfl) (lo ?_)
     replace bx380:=(bx380.cn ch486).chg ch491 (me rfl rfl)
     refine bV (cs':=[qA_v,v490]) ci rfl rfl bx380 (c5 o492.sl) nq (cU o492.sl) rfl ?_
     intro w494 ch495 bx496
     clear bx380
     refine a8 (ak ?_)
     clear o487 r493
     refine a5 rfl (mz zs13 (lx (aQ (m:=↑e) (n:=1) rfl rfl (by omega)) (ai ((e:Int)+1) (a8 ?_))))
     have C497:=cg [6,10,12] (ch486.n.seq ((ch491.lx rfl rfl).seq (ch495.l rfl)))
     refine back17 (v490,(qL++[l]),e+1,g488) _ _ ⟨bH.ca C497,zs3,zs4,zs5,zs7,zs9,zs11,rfl,Rg.ca C497,Rp.ca C497,r_p_v1.ca C497,bx5.ca C497,bx10.ca C497,bx15.ca C497,bx38.ca C497,bx496,o_qA.ca C497,o492.ce ch495,by omega,?_⟩ ?_
     · show(qL++[l])=(p.2.take (e+1)).map (List.map (λa=>bR a by_))
       exact m5 hql ‹_› hqk ‹_›
     · show Int.toNat (((p.2.length:Int):Int)-((e+1):Int))<Int.toNat (((p.2.length:Int):Int)-(e:Int))
       omega
    refine af rfl (df p17) (aO rfl (a6 (a6 ?_)))
    clear bx15
    have hqe:(qA,qL)=dO by_ p:=by rw[hqa,hql,List.take_of_length_le (by omega),List.take_of_length_le (by omega)];rfl
    have hl1:qA.length=p.1.length:=by rw[hqa,List.length_map,List.length_take];omega
    have hl2:qL.length=p.2.length:=by rw[hql,List.length_map,List.length_take];omega
    have hl3:∀e:Int,0<=e->e<qL.length->((gI qL e).length:Int)<=400:=by have:=mw (t:=by_) hp6;rw[<-hqe] at this;exact this
    have hfq:∀k:Int,gI (aT (qA,qL)) k<br:=by rw[hqe];exact jq hs hp6
    refine a5 rfl (lx (ad (ds:=[qA_v,qL_v]) bJ zs11 bx380 rfl rfl) (lo (d5 (az (vals:=[vg [qA_v,qL_v]]) Try.func16 lX mC rfl) (k8 w448 (qA,qL) qA_v qL_v (o_qA.flat).ro (o_qL.sl).ro (by(show((qA.length:Nat):Int)<=1024;omega)) (by(show((qL.length:Nat):Int)<=3072;omega)) (by exact λe h0 h1=>by have:=hl3 e h0 h1;show(gI qL e).length<=4096;omega)) ?_)))
    rintro⟨d499,v501⟩ w498 ⟨fr500,o502⟩
    obtain⟨g503,ch504,G503⟩:=ny g449 fr500 (λn=>if n=1 then 13 else 0)
    replace o502:=o502.gl G503 13
    refine lo (aN (v:=vb (decide (dy (bx (qA,qL))))) (az (vals:=[v501]) Try.func7 mD lN rfl) (iM w498 (bx (qA,qL)) v501 (o502.flat).ro) ?_)
    intro w505 hb506
    replace hb506:=aj hb506 g503
    refine lx (cm (b:=(decide (dy (bx (qA,qL))))) rfl) (a8 ?_)
    by_cases p25:(decide (dy (bx (qA,qL))))=true
    ·
     refine af rfl (congrArg Bool.not p25) (am (a6 ?_))
     clear o502
     have hok:dy (bx (dO by_ p)):=by rw[<-hqe];exact of_decide_eq_true ‹_›
     have eM:al g (qA,qL)=al g p:=by rw[hqe];exact lJ hf0 hok
     have eA:aV g (qA,qL)=aV g p:=by rw[hqe];exact jt hf0 hok
     have eC:aS g (qA,qL)=aS g p:=by rw[hqe];exact jw (by omega) hf0 hok
     refine a5 rfl ?_
     replace bx5:=(bx5.cn ch504).cn hb506
     refine lx (ad (ds:=[vi g.1,g_v]) bO zs3 bx5 rfl rfl) ?_
     replace bx380:=(bx380.cn ch504).cn hb506
     refine lx (ad (ds:=[qA_v,qL_v]) bJ zs11 bx380 rfl rfl) ?_
     replace Rg:=(Rg.cn ch504).cn hb506
     replace o_qA:=(o_qA.cn ch504).cn hb506
     replace o_qL:=(o_qL.cn ch504).cn hb506
     refine lo (aN (v:=vt [vg [Value.float .f64 (((al g (qA,qL)).1).1),Value.float .f64 ((((al g (qA,qL)).1).2).1),Value.float .f64 (((((al g (qA,qL)).1).2).2).1),Value.float .f64 ((((((al g (qA,qL)).1).2).2).2).1),Value.float .f64 (((((((al g (qA,qL)).1).2).2).2).2).1),Value.float .f64 ((((((((al g (qA,qL)).1).2).2).2).2).2).1),Value.float .f64 ((((((((al g (qA,qL)).1).2).2).2).2).2).2)],vi ((al g (qA,qL)).2)]) (az (vals:=[vg [vi g.1,g_v],vg [qA_v,qL_v]]) Try.func8 kn k7 rfl) (gD w505 g g_v (Rg).ro (qA,qL) qA_v qL_v (o_qA.flat).ro (o_qL.sl).ro (by exact λ_=>hfq)) ?_)
     intro w507 hb508
     replace hb508:=aj hb508 g503
     refine mv (vt [vg [Value.float .f64 (((al g (qA,qL)).1).1),Value.float .f64 ((((al g (qA,qL)).1).2).1),Value.float .f64 (((((al g (qA,qL)).1).2).2).1),Value.float .f64 ((((((al g (qA,qL)).1).2).2).2).1),Value.float .f64 (((((((al g (qA,qL)).1).2).2).2).2).1),Value.float .f64 ((((((((al g (qA,qL)).1).2).2).2).2).2).1),Value.float .f64 ((((((((al g (qA,qL)).1).2).2).2).2).2).2)],vi ((al g (qA,qL)).2)]) (lx (b5 rfl rfl) (lx (b5 rfl rfl) (lo (bB g503 (is 14) (14,0) rfl bh ?_))))
     intro g512 w509 b511 ch510 bx513
     replace bx513:Bx g512 (is 14) w509 b511 [Value.float .f64 0,Value.float .f64 0,Value.float .f64 0,Value.float .f64 0,Value.float .f64 0,Value.float .f64 0,Value.float .f64 0]:=bx513
     refine lo (au (cs':=[Value.float .f64 (((al g (qA,qL)).1).1),Value.float .f64 ((((al g (qA,qL)).1).2).1),Value.float .f64 (((((al g (qA,qL)).1).2).2).1),Value.float .f64 ((((((al g (qA,qL)).1).2).2).2).1),Value.float .f64 (((((((al g (qA,qL)).1).2).2).2).2).1),Value.float .f64 ((((((((al g (qA,qL)).1).2).2).2).2).2).1),Value.float .f64 ((((((((al g (qA,qL)).1).2).2).2).2).2).2)]) bh rfl rfl bx513 rfl nq (AllOne.all (.cons rfl (.cons rfl (.cons rfl (.cons rfl (.cons rfl (.cons rfl (.cons rfl .nil)))))))) rfl ?_)
     intro w514 ch515 bx516
     clear bx513
     refine ai ((al g (qA,qL)).2) (a8 (a6 (a5 rfl ?_)))
     have C517:=cg [14] (hb508.n.seq (ch510.n.seq (ch515.l rfl)))
     replace bx5:=bx5.ca C517
     refine lx (ad (ds:=[vi g.1,g_v]) bO zs3 bx5 rfl rfl) ?_
     have C518:=cg [14] (ch504.n.seq (hb506.n.seq (hb508.n.seq (ch510.n.seq (ch515.l rfl)))))
     replace bx10:=bx10.ca C518
     refine lx (ad (ds:=[p_v,p_v1]) bJ zs4 bx10 rfl rfl) ?_
     replace Rg:=Rg.ca C517
     replace Rp:=Rp.ca C518
     replace r_p_v1:=r_p_v1.ca C518
     refine lo (aN (v:=vt [Value.float .f64 ((aV g p).1),vi ((aV g p).2)]) (az (vals:=[vg [vi g.1,g_v],vg [p_v,p_v1]]) Try.func17 fY gg rfl) (fj w514 g g_v (Rg).ro p p_v p_v1 (Rp).ro (r_p_v1).ro) ?_)
     intro w519 hb520
     replace hb520:=aj hb520 g512
     refine mv (vt [Value.float .f64 ((aV g p).1),vi ((aV g p).2)]) (lx (b5 rfl rfl) (lx (b5 rfl rfl) (ma (Value.float .f64 ((aV g p).1)) (ai ((aV g p).2) (a8 (a6 ?_))))))
     clear bx10
     refine a5 rfl ?_
     replace bx5:=bx5.cn hb520
     refine lx (ad (ds:=[vi g.1,g_v]) bO zs3 bx5 rfl rfl) ?_
     have C521:=cg [14] (hb508.n.seq (ch510.n.seq ((ch515.l rfl).seq hb520.n)))
     replace bx380:=bx380.ca C521
     refine lx (ad (ds:=[qA_v,qL_v]) bJ zs11 bx380 rfl rfl) ?_
     replace Rg:=Rg.cn hb520
     replace o_qA:=o_qA.ca C521
     replace o_qL:=o_qL.ca C521
     refine lo (aN (v:=vt [Value.float .f64 ((aV g (qA,qL)).1),vi ((aV g (qA,qL)).2)]) (az (vals:=[vg [vi g.1,g_v],vg [qA_v,qL_v]]) Try.func17 fY gg rfl) (fj w519 g g_v (Rg).ro (qA,qL) qA_v qL_v (o_qA.flat).ro (o_qL.sl).ro) ?_)
     intro w522 hb523
     replace hb523:=aj hb523 g512
     refine mv (vt [Value.float .f64 ((aV g (qA,qL)).1),vi ((aV g (qA,qL)).2)]) (lx (b5 rfl rfl) (lx (b5 rfl rfl) (ma (Value.float .f64 ((aV g (qA,qL)).1)) (ai ((aV g (qA,qL)).2) (a8 (a6 (a5 rfl ?_)))))))
     replace bx5:=bx5.cn hb523
     refine lx (ad (ds:=[vi g.1,g_v]) bO zs3 bx5 rfl rfl) ?_
     replace bx380:=bx380.cn hb523
     refine lx (ad (ds:=[qA_v,qL_v]) bJ zs11 bx380 rfl rfl) ?_
     replace Rg:=Rg.cn hb523
     replace o_qA:=o_qA.cn hb523
     replace o_qL:=o_qL.cn hb523
     refine lo (aN (v:=vt [vi ((aS g (qA,qL)).1),vi ((aS g (qA,qL)).2)]) (az (vals:=[vg [vi g.1,g_v],vg [qA_v,qL_v]]) Try.func13 jf jk rfl) (eg w522 g g_v (Rg).ro (qA,qL) qA_v qL_v (o_qA.flat).ro (o_qL.sl).ro) ?_)
     intro w524 hb525
     replace hb525:=aj hb525 g512
     refine mv (vt [vi ((aS g (qA,qL)).1),vi ((aS g (qA,qL)).2)]) (lx (b5 rfl rfl) (lx (b5 rfl rfl) (ai ((aS g (qA,qL)).1) (ai ((aS g (qA,qL)).2) (a8 (a6 ?_))))))
     clear bx5 bx380 o_qA o_qL
     refine a5 rfl (mi ((al g (qA,qL)).2) (lx (cu (m:=(al g (qA,qL)).2) (n:=0) rfl rfl) (mv (vb (decide (((al g (qA,qL)).2)=0))) ?_)))
     have q204_526:((al g (qA,qL)).2)=0:=by(rw[eM];assumption)
     have C527:=cg [14] (ch504.n.seq (hb506.n.seq (hb508.n.seq (ch510.n.seq ((ch515.l rfl).seq (hb520.n.seq (hb523.n.seq hb525.n)))))))
     replace bx38:=bx38.ca C527
     refine lv (vg [Value.float .f64 (((al g p).1).1),Value.float .f64 ((((al g p).1).2).1),Value.float .f64 (((((al g p).1).2).2).1),Value.float .f64 ((((((al g p).1).2).2).2).1),Value.float .f64 (((((((al g p).1).2).2).2).2).1),Value.float .f64 ((((((((al g p).1).2).2).2).2).2).1),Value.float .f64 ((((((((al g p).1).2).2).2).2).2).2)]) (wy (dt q204_526)) (ad (ds:=[Value.float .f64 (((al g p).1).1),Value.float .f64 ((((al g p).1).2).1),Value.float .f64 (((((al g p).1).2).2).1),Value.float .f64 ((((((al g p).1).2).2).2).1),Value.float .f64 (((((((al g p).1).2).2).2).2).1),Value.float .f64 ((((((((al g p).1).2).2).2).2).2).1),Value.float .f64 ((((((((al g p).1).2).2).2).2).2).2)]) bh zs7 bx38 rfl rfl) ?_
     have C528:=cg [] (hb520.n.seq (hb523.n.seq hb525.n))
     replace bx516:=bx516.ca C528
     refine lv (vg [Value.float .f64 (((al g (qA,qL)).1).1),Value.float .f64 ((((al g (qA,qL)).1).2).1),Value.float .f64 (((((al g (qA,qL)).1).2).2).1),Value.float .f64 ((((((al g (qA,qL)).1).2).2).2).1),Value.float .f64 (((((((al g (qA,qL)).1).2).2).2).2).1),Value.float .f64 ((((((((al g (qA,qL)).1).2).2).2).2).2).1),Value.float .f64 ((((((((al g (qA,qL)).1).2).2).2).2).2).2)]) (wy (dt q204_526)) (ad (ds:=[Value.float .f64 (((al g (qA,qL)).1).1),Value.float .f64 ((((al g (qA,qL)).1).2).1),Value.float .f64 (((((al g (qA,qL)).1).2).2).1),Value.float .f64 ((((((al g (qA,qL)).1).2).2).2).1),Value.float .f64 (((((((al g (qA,qL)).1).2).2).2).2).1),Value.float .f64 ((((((((al g (qA,qL)).1).2).2).2).2).2).1),Value.float .f64 ((((((((al g (qA,qL)).1).2).2).2).2).2).2)]) bh rfl bx516 rfl rfl) ?_
     refine cj (wy (dt q204_526)) ?_
     refine aN (v:=vb (decide ((((al g p).1).1,(((al g p).1).2).1,((((al g p).1).2).2).1,(((((al g p).1).2).2).2).1,((((((al g p).1).2).2).2).2).1,(((((((al g p).1).2).2).2).2).2).1,(((((((al g p).1).2).2).2).2).2).2)=(((al g (qA,qL)).1).1,(((al g (qA,qL)).1).2).1,((((al g (qA,qL)).1).2).2).1,(((((al g (qA,qL)).1).2).2).2).1,((((((al g (qA,qL)).1).2).2).2).2).1,(((((((al g (qA,qL)).1).2).2).2).2).2).1,(((((((al g (qA,qL)).1).2).2).2).2).2).2)))) (az (vals:=[vg [Value.float .f64 (((al g p).1).1),Value.float .f64 ((((al g p).1).2).1),Value.float .f64 (((((al g p).1).2).2).1),Value.float .f64 ((((((al g p).1).2).2).2).1),Value.float .f64 (((((((al g p).1).2).2).2).2).1),Value.float .f64 ((((((((al g p).1).2).2).2).2).2).1),Value.float .f64 ((((((((al g p).1).2).2).2).2).2).2)],vg [Value.float .f64 (((al g (qA,qL)).1).1),Value.float .f64 ((((al g (qA,qL)).1).2).1),Value.float .f64 (((((al g (qA,qL)).1).2).2).1),Value.float .f64 ((((((al g (qA,qL)).1).2).2).2).1),Value.float .f64 (((((((al g (qA,qL)).1).2).2).2).2).1),Value.float .f64 ((((((((al g (qA,qL)).1).2).2).2).2).2).1),Value.float .f64 ((((((((al g (qA,qL)).1).2).2).2).2).2).2)]]) Try.func18 lP ly rfl) (o7 w524 (((al g p).1).1,(((al g p).1).2).1,((((al g p).1).2).2).1,(((((al g p).1).2).2).2).1,((((((al g p).1).2).2).2).2).1,(((((((al g p).1).2).2).2).2).2).1,(((((((al g p).1).2).2).2).2).2).2) (((al g (qA,qL)).1).1,(((al g (qA,qL)).1).2).1,((((al g (qA,qL)).1).2).2).1,(((((al g (qA,qL)).1).2).2).2).1,((((((al g (qA,qL)).1).2).2).2).2).1,(((((((al g (qA,qL)).1).2).2).2).2).2).1,(((((((al g (qA,qL)).1).2).2).2).2).2).2)) ?_
     intro w529 hb530
     replace hb530:=aj hb530 g512
     refine lw (vb (decide ((((al g p).1).1,(((al g p).1).2).1,((((al g p).1).2).2).1,(((((al g p).1).2).2).2).1,((((((al g p).1).2).2).2).2).1,(((((((al g p).1).2).2).2).2).2).1,(((((((al g p).1).2).2).2).2).2).2)=(((al g (qA,qL)).1).1,(((al g (qA,qL)).1).2).1,((((al g (qA,qL)).1).2).2).1,(((((al g (qA,qL)).1).2).2).2).1,((((((al g (qA,qL)).1).2).2).2).2).1,(((((((al g (qA,qL)).1).2).2).2).2).2).1,(((((((al g (qA,qL)).1).2).2).2).2).2).2)))) (aD rfl (dt q204_526) rfl) ?_
     refine mv (vb (decide ((((al g p).1).1,(((al g p).1).2).1,((((al g p).1).2).2).1,(((((al g p).1).2).2).2).1,((((((al g p).1).2).2).2).2).1,(((((((al g p).1).2).2).2).2).2).1,(((((((al g p).1).2).2).2).2).2).2)=(((al g (qA,qL)).1).1,(((al g (qA,qL)).1).2).1,((((al g (qA,qL)).1).2).2).1,(((((al g (qA,qL)).1).2).2).2).1,((((((al g (qA,qL)).1).2).2).2).2).1,(((((((al g (qA,qL)).1).2).2).2).2).2).1,(((((((al g (qA,qL)).1).2).2).2).2).2).2)))) ?_
     have q209_531:(decide ((((al g p).1).1,(((al g p).1).2).1,((((al g p).1).2).2).1,(((((al g p).1).2).2).2).1,((((((al g p).1).2).2).2).2).1,(((((((al g p).1).2).2).2).2).2).1,(((((((al g p).1).2).2).2).2).2).2)=(((al g (qA,qL)).1).1,(((al g (qA,qL)).1).2).1,((((al g (qA,qL)).1).2).2).1,(((((al g (qA,qL)).1).2).2).2).1,((((((al g (qA,qL)).1).2).2).2).2).1,(((((((al g (qA,qL)).1).2).2).2).2).2).1,(((((((al g (qA,qL)).1).2).2).2).2).2).2)))=true:=by exact dt (by rw[eM])
     refine lv (Value.float .f64 ((aV g p).1)) (wy q209_531) (aw rfl) (lv (Value.float .f64 ((aV g (qA,qL)).1)) (wy q209_531) (aw rfl) (cj (wy q209_531) (aN (v:=vb (decide (((aV g p).1)=((aV g (qA,qL)).1)))) (az (vals:=[Value.float .f64 ((aV g p).1),Value.float .f64 ((aV g (qA,qL)).1)]) Try.func19 ex et rfl) (eF w529 ((aV g p).1) ((aV g (qA,qL)).1)) ?_)))
     intro w532 hb533
     replace hb533:=aj hb533 g512
     refine lw (vb (decide (((aV g p).1)=((aV g (qA,qL)).1)))) (aD rfl q209_531 rfl) (mv (vb (decide (((aV g p).1)=((aV g (qA,qL)).1)))) ?_)
     have q214_534:(decide (((aV g p).1)=((aV g (qA,qL)).1)))=true:=by exact dt (by rw[eA])
     refine lv (vi ((aS g (qA,qL)).1)) (wy q214_534) (aw rfl) (lv (vi ((aS g p).1)) (wy q214_534) (aw zs9) (lv (vb (decide (((aS g (qA,qL)).1)=((aS g p).1)))) (wy q214_534) (cu (m:=(aS g (qA,qL)).1) (n:=(aS g p).1) rfl rfl) (lw (vb (decide (((aS g (qA,qL)).1)=((aS g p).1)))) (aD rfl q214_534 rfl) (ma (vb (decide (((aS g (qA,qL)).1)=((aS g p).1)))) (a8 (av (vs:=[vb (decide (((aS g (qA,qL)).1)=((aS g p).1)))]) Try.func4 (.tmp rfl .nil) ?_))))))
     have e0:(decide (((aS g (qA,qL)).1)=((aS g p).1)):Bool)=(true):=by
       exact dt (by rw[eC])
     have C535:=cg [14] (ch504.n.seq (hb506.n.seq (hb508.n.seq (ch510.n.seq ((ch515.l rfl).seq (hb520.n.seq (hb523.n.seq (hb525.n.seq (hb530.n.seq hb533.n)))))))))
     replace bH:=bH.ca C535
     exact⟨(congrArg (a₁:=decide (((aS g (qA,qL)).1)=((aS g p).1))) (λ(z0:Bool)=>Ending.returned (vb z0)) e0),bH.below⟩
    refine ae rfl (congrArg Bool.not (Bool.eq_false_iff.2 p25)) (a6 ?_)
    clear bx5 bx10 bx38 bx380 o_qA o_qL o502
    refine a5 rfl (ma (vb true) (a8 (av (vs:=[vb true]) Try.func4 (.tmp rfl .nil) ?_)))
    have e0:(true:Bool)=(true):=by
      rfl
    replace bH:=bH.cn ch504
    replace bH:=bH.cn hb506
    exact⟨rb e0,bH.below⟩
   refine ae rfl (congrArg Bool.not (df p7)) (a6 ?_)
   clear bx5 bx10 bx15 bx38
   refine a5 rfl (mi ((aS g p).1) (lx (cu (m:=(aS g p).1) (n:=0) rfl rfl) (ma (vb (decide (((aS g p).1)=0))) (a8 (av (vs:=[vb (decide (((aS g p).1)=0))]) Try.func4 (.tmp rfl .nil) ?_)))))
   have e0:(decide (((aS g p).1)=0):Bool)=(true):=by
     exact(dt (rj ‹_›))
   have C536:=cg [4] (ch2.n.seq (ch7.n.seq (ch12.n.seq (hb17.n.seq (hb21.n.seq (hb23.n.seq (hb30.n.seq (ch32.n.seq ((ch37.l rfl).seq hb41.n)))))))))
   replace bH:=bH.ca C536
   exact⟨(congrArg (a₁:=decide (((aS g p).1)=0)) (λ(z0:Bool)=>Ending.returned (vb z0)) e0),bH.below⟩
  refine aa (wn (congrArg Bool.not (Bool.eq_false_iff.2 q34))) (aa (wn (congrArg Bool.not (Bool.eq_false_iff.2 q34))) (aa (wn (congrArg Bool.not (Bool.eq_false_iff.2 q34))) (lw (vb true) (aD rfl (congrArg Bool.not (Bool.eq_false_iff.2 q34)) rfl) (mv (vb true) (aa (wn rfl) (aa (wn rfl) (aa (wn rfl) (lw (vb true) (aD rfl rfl rfl) (mv (vb true) (aa (wn rfl) (aa (wn rfl) (aa (wn rfl) (lw (vb true) (aD rfl rfl rfl) ?_)))))))))))))
  refine mv (vb true) (aa (wn rfl) (aa (wn rfl) (aa (wn rfl) (lw (vb true) (aD rfl rfl rfl) (a8 (ae rfl rfl (a6 ?_)))))))
  clear bx5 bx10 bx15
  refine a5 rfl (ma (vb true) (a8 (av (vs:=[vb true]) Try.func4 (.tmp rfl .nil) ?_)))
  have e0:(true:Bool)=(true):=by
    rfl
  have C537:=cg [] (ch2.n.seq (ch7.n.seq (ch12.n.seq (hb17.n.seq (hb21.n.seq hb23.n)))))
  replace bH:=bH.ca C537
  exact⟨rb e0,bH.below⟩
 refine aa (wn (congrArg Bool.not (Bool.eq_false_iff.2 q29))) (aa (wn (congrArg Bool.not (Bool.eq_false_iff.2 q29))) (aa (wn (congrArg Bool.not (Bool.eq_false_iff.2 q29))) (lw (vb true) (aD rfl (congrArg Bool.not (Bool.eq_false_iff.2 q29)) rfl) (mv (vb true) (aa (wn rfl) (aa (wn rfl) (aa (wn rfl) (lw (vb true) (aD rfl rfl rfl) (mv (vb true) (aa (wn rfl) (aa (wn rfl) (aa (wn rfl) (lw (vb true) (aD rfl rfl rfl) ?_)))))))))))))
 refine mv (vb true) (aa (wn rfl) (aa (wn rfl) (aa (wn rfl) (lw (vb true) (aD rfl rfl rfl) (mv (vb true) (aa (wn rfl) (aa (wn rfl) (aa (wn rfl) (lw (vb true) (aD rfl rfl rfl) (a8 (ae rfl rfl (a6 ?_))))))))))))
 clear bx5 bx10 bx15
 refine a5 rfl (ma (vb true) (a8 (av (vs:=[vb true]) Try.func4 (.tmp rfl .nil) ?_)))
 have e0:(true:Bool)=(true):=by
   rfl
 have C538:=cg [] (ch2.n.seq (ch7.n.seq (ch12.n.seq (hb17.n.seq hb21.n))))
 replace bH:=bH.ca C538
 exact⟨rb e0,bH.below⟩
end TL
