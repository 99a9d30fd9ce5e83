import Derived.Test.YtgneelmmomohdaaSaTlP5
import Derived.Test.YtgneelmmomohdaaSaTlSpG
import Derived.Test.YtgneelmmomohdaaSaTlErA
import Derived.Test.YtgneelmmomohdaaSaTlErC
import Derived.Test.YtgneelmmomohdaaSaTlErD
import Derived.Test.YtgneelmmomohdaaSaTlKeepA
import Derived.Test.YtgneelmmomohdaaSaTlSqA
import Derived.Test.YtgneelmmomohdaaSaTlSqB
import Derived.Test.YtgneelmmomohdaaSaTlSqC
import Derived.Test.YtgneelmmomohdaaSaTlSqD
import Derived.Test.YtgneelmmomohdaaSaTlGenA
import Derived.Test.YtgneelmmomohdaaSaTlGenD
import Derived.Test.YtgneelmmomohdaaProg
import Derived.Test.YtgneelmmomohdaaSaTlAli
set_option linter.all false
set_option maxRecDepth 20000
namespace TL
open Go Go.Proofs
theorem pv:Try.prog.follows .mixedOrders=true:=by kernel_rfl
theorem AQ:Try.f6.body.isNone=false:=rfl
theorem zZ:(Try.f6.name== "runtime.NumGoroutine")=false:=by decide+kernel
theorem An:Try.f7.body.isNone=false:=rfl
theorem zQ:(Try.f7.name== "runtime.NumGoroutine")=false:=by decide+kernel
theorem zx:Try.f8.body.isNone=false:=rfl
theorem zy:(Try.f8.name== "runtime.NumGoroutine")=false:=by decide+kernel
theorem xn:Try.f13.body.isNone=false:=rfl
theorem yH:(Try.f13.name== "runtime.NumGoroutine")=false:=by decide+kernel
theorem xg:Try.f15.body.isNone=false:=rfl
theorem xX:(Try.f15.name== "runtime.NumGoroutine")=false:=by decide+kernel
theorem mT:Try.f16.body.isNone=false:=rfl
theorem mV:(Try.f16.name== "runtime.NumGoroutine")=false:=by decide+kernel
theorem rC:Try.f17.body.isNone=false:=rfl
theorem qK:(Try.f17.name== "runtime.NumGoroutine")=false:=by decide+kernel
theorem wO:Try.f18.body.isNone=false:=rfl
theorem xk:(Try.f18.name== "runtime.NumGoroutine")=false:=by decide+kernel
theorem ym:Try.f20.body.isNone=false:=rfl
theorem yX:(Try.f20.name== "runtime.NumGoroutine")=false:=by decide+kernel
theorem rI:Try.f21.body.isNone=false:=rfl
theorem rZ:(Try.f21.name== "runtime.NumGoroutine")=false:=by decide+kernel
theorem wk:Try.f22.body.isNone=false:=rfl
theorem wR:(Try.f22.name== "runtime.NumGoroutine")=false:=by decide+kernel
theorem wY:Try.f23.body.isNone=false:=rfl
theorem ye:(Try.f23.name== "runtime.NumGoroutine")=false:=by decide+kernel
theorem zg:Try.f47.body.isNone=false:=rfl
theorem xo:(Try.f47.name== "runtime.NumGoroutine")=false:=by decide+kernel
set_option maxHeartbeats 16000000 in
theorem tp(w0:World)(g:(Int)×(List Pt))(g_v:Value)(hg_v:Ro w0 g_v g.2)(u:Int)(v:Int)(hb:(g.2.length:Int)<=1048576):
    Calls Try.prog 3 #[vg [vi g.1,g_v],vi u,vi v] w0 (λee w=>ee= .returned (vb true)/\ep w0.heap.size w0 w):=by
 refine av Try.func3 rfl nq ?_
 have bH:=bn.start w0
 have Rg:=hg_v.sl
 refine aa (a8 rfl (cB rfl (cr c0 (is 1) (1,0) rfl rfl ?_)))
 intro g4 w1 b3 ch2 bx5
 replace bx5:Bx g4 (is 1) w1 b3 [vi g.1,g_v]:=bx5
 refine ma (vb false) (ab (aa (aa (a8 rfl (cB rfl (bW (v:=vb true) (aN (vals:=[]) Try.func6 AQ zZ rfl) (vR w1) ?_))))))
 intro w6 hb7
 replace hb7:=aS hb7 g4
 refine lx (dZ (b:=true) rfl) (ab (ag rfl rfl (aq (aa (aa (a8 rfl ?_))))))
 replace bx5:=bx5.cn hb7
 refine lx (aB (ds:=[vi g.1,g_v]) aK rfl bx5 rfl rfl) ?_
 replace Rg:=(Rg.cn ch2).cn hb7
 refine lo (bW (v:=vb (decide (¬aX g\/(g.1<=16/\g.2.length<=40)))) (aN (vals:=[vg [vi g.1,g_v]]) Try.func7 An zQ rfl) (uY w6 g g_v (Rg).ro) ?_)
 intro w8 hb9
 replace hb9:=aS hb9 g4
 refine lx (dZ (b:=(decide (¬aX g\/(g.1<=16/\g.2.length<=40)))) rfl) (ab ?_)
 by_cases p3:(decide (¬aX g\/(g.1<=16/\g.2.length<=40)))=true
 ·
  refine ag rfl (congrArg Bool.not p3) (aq (aa (a8 rfl ?_)))
  replace bx5:=bx5.cn hb9
  refine lx (aB (ds:=[vi g.1,g_v]) aK rfl bx5 rfl rfl) ?_
  replace Rg:=Rg.cn hb9
  refine lo (bQ (aN (vals:=[vg [vi g.1,g_v]]) Try.func8 zx zy rfl) (Ai w8 g g_v (Rg).ro (by omega)) ?_)
  rintro⟨d11,v13⟩ w10 ⟨fr12,o14⟩
  obtain⟨g15,ch16,G15⟩:=ia g4 fr12 (λn=>if n=1 then 2 else 0)
  replace o14:=o14.gl G15 2
  have r17:=zY o14.flat
  refine lo (bP g15 (is 3) (3,0) rfl aK ?_)
  intro g21 w18 b20 ch19 bx22
  replace bx22:Bx g21 (is 3) w18 b20 [vi 0,vn]:=bx22
  refine lo ?_
  replace r17:=r17.cn ch19
  refine aT (cs':=[vi g.1,v13]) aK rfl rfl bx22 rfl nq (AllOne.all (.cons rfl (.cons (bK r17) .nil))) rfl ?_
  intro w23 ch24 bx25
  clear bx22
  refine ab (aa (a8 rfl (lx (aB (ds:=[vi g.1,v13]) aK rfl bx25 rfl rfl) ?_)))
  replace r17:=r17.ce ch24
  refine lo (bW (v:=vt [vi ((bc g).1),vi ((bc g).2)]) (aN (vals:=[vg [vi g.1,v13]]) Try.func9 uP tE rfl) (oZ w23 g v13 (r17).ro) ?_)
  intro w26 hb27
  replace hb27:=aS hb27 g21
  refine mv (vt [vi ((bc g).1),vi ((bc g).2)]) (lx (aJ rfl rfl) (lx (aJ rfl rfl) (ai ((bc g).1) (ai ((bc g).2) (ab (aa (a8 rfl ?_)))))))
  replace bx25:=bx25.cn hb27
  refine lx (aB (ds:=[vi g.1,v13]) aK rfl bx25 rfl rfl) ?_
  replace r17:=r17.cn hb27
  refine lo (bQ (aN (vals:=[vg [vi g.1,v13]]) Try.func10 rP s9 rfl) (nz w26 g v13 (r17).ro) ?_)
  rintro⟨d29,v31⟩ w28 ⟨fr30,o32⟩
  obtain⟨g33,ch34,G33⟩:=ia g21 fr30 (λn=>if n=1 then 4 else 0)
  replace o32:=o32.gl G33 4
  refine mv (vt [v31,vi ((b6 g).2)]) (lx (aJ rfl rfl) (lx (aJ rfl rfl) (ma v31 (ai ((b6 g).2) (ab (aa (a8 rfl ?_)))))))
  replace bx25:=bx25.cn ch34
  refine lx (aB (ds:=[vi g.1,v13]) aK rfl bx25 rfl rfl) (mi u (mi v ?_))
  replace r17:=r17.cn ch34
  refine lo (bQ (aN (vals:=[vg [vi g.1,v13],vi u,vi v]) Try.func11 mL mU rfl) (iS w28 g v13 (r17).ro u v) ?_)
  rintro⟨d36,v38⟩ w35 ⟨fr37,o39⟩
  obtain⟨g40,ch41,G40⟩:=ia g33 fr37 (λn=>if n=1 then 5 else 0)
  replace o39:=o39.gl G40 5
  refine mv (vt [v38,vi ((aF g u v).2)]) (lx (aJ rfl rfl) (lx (aJ rfl rfl) (ma v38 (ai ((aF g u v).2) (ab (aa (a8 rfl ?_)))))))
  replace bx25:=bx25.cn ch41
  refine lx (aB (ds:=[vi g.1,v13]) aK rfl bx25 rfl rfl) (mi u (mi v ?_))
  replace r17:=r17.cn ch41
  refine lo (bQ (aN (vals:=[vg [vi g.1,v13],vi u,vi v]) Try.func11 mL mU rfl) (iS w35 g v13 (r17).ro u v) ?_)
  rintro⟨d43,v45⟩ w42 ⟨fr44,o46⟩
  obtain⟨g47,ch48,G47⟩:=ia g40 fr44 (λn=>if n=1 then 6 else 0)
  replace o46:=o46.gl G47 6
  refine mv (vt [v45,vi ((aF g u v).2)]) (lx (aJ rfl rfl) (lx (aJ rfl rfl) (ma v45 (ai ((aF g u v).2) (ab (aa (a8 rfl ?_)))))))
  replace bx25:=bx25.cn ch48
  refine lx (aB (ds:=[vi g.1,v13]) aK rfl bx25 rfl rfl) ?_
  replace r17:=r17.cn ch48
  refine lo (bQ (aN (vals:=[vg [vi g.1,v13]]) Try.func12 rU qW rfl) (nI w42 g v13 (r17).ro) ?_)
  rintro⟨d50,v52⟩ w49 ⟨fr51,o53⟩
  obtain⟨g54,ch55,G54⟩:=ia g47 fr51 (λn=>if n=1 then 7 else 0)
  replace o53:=o53.gl G54 7
  refine mv (vt [v52,vi ((aW g).2)]) (lx (aJ rfl rfl) (lx (aJ rfl rfl) (ma v52 (ai ((aW g).2) (ab (aa (aa (a8 rfl ?_))))))))
  replace bx25:=bx25.cn ch55
  refine lx (aB (ds:=[vi g.1,v13]) aK rfl bx25 rfl rfl) ?_
  have C56:=cg [3] (ch16.n.seq (ch19.n.seq ((ch24.l rfl).seq (hb27.n.seq (ch34.n.seq (ch41.n.seq (ch48.n.seq ch55.n)))))))
  replace bx5:=bx5.ca C56
  refine lx (aB (ds:=[vi g.1,g_v]) aK rfl bx5 rfl rfl) ?_
  have C57:=cg [3] (ch19.n.seq ((ch24.l rfl).seq (hb27.n.seq (ch34.n.seq (ch41.n.seq (ch48.n.seq ch55.n))))))
  replace o14:=o14.ca C57
  replace r17:=r17.cn ch55
  replace Rg:=Rg.ca C56
  refine lo (bW (v:=vb (decide (g=g))) (aN (vals:=[vg [vi g.1,v13],vg [vi g.1,g_v]]) Try.func13 xn yH rfl) (zt w49 g v13 (r17).ro g g_v (Rg).ro (by exact Sl.ro (Ow.flat ‹_›))) ?_)
  intro w58 hb59
  replace hb59:=aS hb59 g54
  refine lx (dZ (b:=(decide (g=g))) rfl) (ab ?_)
  have p11:(decide (g=g))=true:=by exact dt rfl
  refine ag rfl (congrArg Bool.not p11) (aq (aa (aa ?_)))
  clear r17 bx25
  refine a8 rfl ?_
  replace bx5:=bx5.cn hb59
  refine lx (aB (ds:=[vi g.1,g_v]) aK rfl bx5 rfl rfl) ?_
  replace Rg:=Rg.cn hb59
  refine lo (bW (v:=vb (dw g)) (aN (vals:=[vg [vi g.1,g_v]]) Try.func14 rJ sb rfl) (tW w58 g g_v (Rg).ro) ?_)
  intro w60 hb61
  replace hb61:=aS hb61 g54
  refine lx (dZ (b:=(dw g)) rfl) (ab ?_)
  by_cases p13:(dw g)=true
  ·
   have hm:aX g:=of_decide_eq_true ‹_›
   have hm0:=hm
   obtain⟨hm1,hm2,hm3,hm4⟩:=hm0
   obtain⟨hv1,hv2⟩:=BL hm
   have hf0:=Aw g u v
   refine ag rfl (congrArg Bool.not p13) (aq (aa (aa (a8 rfl (mi ((bc g).2) (lx (cK (m:=(bc g).2) (n:=0) rfl rfl) (mv (vb (!(decide (((bc g).2)=0)))) ?_)))))))
   have q91:((bc g).2)=0:=by assumption
   refine lv (vi ((bc g).1)) (wy (congrArg Bool.not (dt q91))) (au rfl) ?_
   replace bx5:=bx5.cn hb61
   refine lv (vg [vi g.1,g_v]) (wy (congrArg Bool.not (dt q91))) (aB (ds:=[vi g.1,g_v]) aK rfl bx5 rfl rfl) ?_
   replace Rg:=Rg.cn hb61
   refine cB (wy (congrArg Bool.not (dt q91))) (bW (v:=vi (eK g)) (aN (vals:=[vg [vi g.1,g_v]]) Try.func15 xg xX rfl) (vj w60 g g_v (Rg).ro (by exact hm)) ?_)
   intro w62 hb63
   replace hb63:=aS hb63 g54
   refine lv (vb (!(decide (((bc g).1)=(eK g))))) (wy (congrArg Bool.not (dt q91))) (cK (m:=(bc g).1) (n:=eK g) rfl rfl) (lw (vb (!(decide (((bc g).1)=(eK g))))) (aP rfl (congrArg Bool.not (dt q91)) rfl) (ab ?_))
   have p15:((bc g).1)=(eK g):=by assumption
   refine ag rfl (congrArg Bool.not (dt p15)) (aq (aa (aa ?_)))
   refine jI [false,false,true,true] (σ:=aG) (λgq f w=>bn w0 gq w/\f 1=vi u/\f 2=vi v/\f 3=vp b3 0/\f 12=v38/\f 13=vi ((aF g u v).2)/\f 14=v45/\f 16=v52/\f 17=vi ((aW g).2)/\Sl gq (is 0) w g_v g.2/\Bx gq (is 1) w b3 [vi g.1,g_v]/\Ow gq (is 2) (is 2) w (lS v13) (g.2++[((-7:Int),(7:Int))])/\cY gq 5 w v38 ((aF g u v).1)/\cY gq 6 w v45 ((aF g u v).1)/\Ow gq (is 7) (is 7) w v52 ((aW g).1)/\(True)) ?_ ?_
   ·
    intro mid_j1
    refine a8 rfl (mi ((bc g).1) (lx (bm (m:=(bc g).1) (n:=2) rfl rfl) (mv (vb (decide (((bc g).1)<2))) ?_)))
    by_cases q99:((bc g).1)<2
    ·
     obtain⟨hp1,hp2⟩:=Cp hm (by omega)
     refine lv (vi ((b6 g).2)) (wy (dt q99)) (au rfl) (lv (vb (!(decide (((b6 g).2)=7)))) (wy (dt q99)) (cK (m:=(b6 g).2) (n:=7) rfl rfl) (lv (vb (!(decide (((b6 g).2)=7)))) (wy (dt q99)) (au rfl) ?_))
     have q102:((b6 g).2)=7:=by assumption
     refine lv (v31) (wy (congrArg Bool.not (dt q102))) (au rfl) ?_
     have C64:=cg [] (ch41.n.seq (ch48.n.seq (ch55.n.seq (hb59.n.seq (hb61.n.seq hb63.n)))))
     replace o32:=o32.ca C64
     have len65:=(o32.flat).small
     refine lv (vi (List.length ((b6 g).1):Int)) (wy (congrArg Bool.not (dt q102))) (bq dc rfl o32.flat) (lv (vb (!(decide ((List.length ((b6 g).1):Int)=0)))) (wy (congrArg Bool.not (dt q102))) (cK (m:=(List.length ((b6 g).1):Int)) (n:=0) rfl rfl) (lv (vb (!(decide ((List.length ((b6 g).1):Int)=0)))) (wy (dt q99)) (aP rfl (congrArg Bool.not (dt q102)) rfl) (lw (vb (!(decide ((List.length ((b6 g).1):Int)=0)))) (aO rfl (dt q99) rfl) (mv (vb (!(decide ((List.length ((b6 g).1):Int)=0)))) ?_))))
     have q108:(List.length ((b6 g).1):Int)=0:=by assumption
     refine lv (vi ((bc g).1)) (wy (congrArg Bool.not (dt q108))) (au rfl) (lv (vb (decide (2<=((bc g).1)))) (wy (congrArg Bool.not (dt q108))) (eO (m:=(bc g).1) (n:=2) rfl rfl) (lv (vb (decide (2<=((bc g).1)))) (wy (congrArg Bool.not (dt q108))) (au rfl) ?_))
     by_cases q111:2<=((bc g).1)
     ·
      refine lv (vi ((b6 g).2)) (wy (dt q111)) (au rfl) (lv (vb (!(decide (((b6 g).2)=0)))) (wy (dt q111)) (cK (m:=(b6 g).2) (n:=0) rfl rfl) (lv (vb (!(decide (((b6 g).2)=0)))) (wy (dt q111)) (au rfl) ?_))
      have q114:((b6 g).2)=0:=by omega
      refine lv (v31) (wy (congrArg Bool.not (dt q114))) (au rfl) ?_
      replace bx5:=bx5.cn hb63
      refine lv (vg [vi g.1,g_v]) (wy (congrArg Bool.not (dt q114))) (aB (ds:=[vi g.1,g_v]) aK rfl bx5 rfl rfl) ?_
      replace Rg:=Rg.cn hb63
      refine cB (wy (congrArg Bool.not (dt q114))) (bQ (aN (vals:=[vg [vi g.1,g_v]]) Try.func17 rC qK rfl) (oP w62 g g_v (Rg).ro (by exact hm)) ?_)
      rintro⟨d67,v69⟩ w66 ⟨fr68,o70⟩
      obtain⟨g71,ch72,G71⟩:=ia g54 fr68 (λn=>if n=1 then 8 else 0)
      replace o70:=o70.gl G71 8
      replace o32:=o32.cn ch72
      refine cB (wy (congrArg Bool.not (dt q114))) (bW (v:=vb (decide (((b6 g).1)=(d3 g)))) (aN (vals:=[v31,v69]) Try.func16 mT mV rfl) (kT w66 ((b6 g).1) v31 (o32.flat).ro (d3 g) v69 (o70.flat).ro) ?_)
      intro w73 hb74
      replace hb74:=aS hb74 g71
      refine lv (vb (!(decide (((b6 g).1)=(d3 g))))) (wy (congrArg Bool.not (dt q114))) (dZ (b:=(decide (((b6 g).1)=(d3 g)))) rfl) (lv (vb (!(decide (((b6 g).1)=(d3 g))))) (wy (dt q111)) (aP rfl (congrArg Bool.not (dt q114)) rfl) (lv (vb (!(decide (((b6 g).1)=(d3 g))))) (wy (congrArg Bool.not (dt q108))) (aO rfl (dt q111) rfl) (lw (vb (!(decide (((b6 g).1)=(d3 g))))) (aP rfl (congrArg Bool.not (dt q108)) rfl) (ab ?_))))
      have p17:(decide (((b6 g).1)=(d3 g)))=true:=by omega
      refine ag rfl (congrArg Bool.not p17) (aq (aa (aa ?_)))
      clear o32 o70
      have C75:=cg [3] (ch2.n.seq (hb7.n.seq (hb9.n.seq (ch16.n.seq (ch19.n.seq ((ch24.l rfl).seq (hb27.n.seq (ch34.n.seq (ch41.n.seq (ch48.n.seq (ch55.n.seq (hb59.n.seq (hb61.n.seq (hb63.n.seq (ch72.n.seq hb74.n)))))))))))))))
      have C76:=cg [] (hb59.n.seq (hb61.n.seq (hb63.n.seq (ch72.n.seq hb74.n))))
      have C78:=ch55.n.seq C76
      have C77:=ch48.n.seq C78
      refine mid_j1 (g71) _ _ ⟨bH.ca C75,rfl,rfl,rfl,rfl,rfl,rfl,rfl,rfl,(Rg.cn ch72).cn hb74,(bx5.cn ch72).cn hb74,o14.ca C76,o39.ca C77,o46.ca C78,o53.ca C76,?_⟩
      show True
      trivial
     refine ak (wn (df q111)) (ak (wn (df q111)) (ak (wn (df q111)) (ak (bh rfl rfl rfl) (ak (bh rfl rfl rfl) (ak (bh rfl rfl rfl) (ak (bh rfl rfl rfl) (ak (bh rfl rfl rfl) (ak (wn (df q111)) (lv (vb false) (wy (congrArg Bool.not (dt q108))) (aP rfl (df q111) rfl) ?_)))))))))
     refine lw (vb false) (aP rfl (congrArg Bool.not (dt q108)) rfl) (ab (ag rfl rfl (aq (aa (aa ?_)))))
     clear o32
     have C79:=cg [3] (ch2.n.seq (hb7.n.seq (hb9.n.seq (ch16.n.seq (ch19.n.seq ((ch24.l rfl).seq (hb27.n.seq (ch34.n.seq (ch41.n.seq (ch48.n.seq (ch55.n.seq (hb59.n.seq (hb61.n.seq hb63.n)))))))))))))
     have C80:=cg [] (hb59.n.seq (hb61.n.seq hb63.n))
     have C82:=ch55.n.seq C80
     have C81:=ch48.n.seq C82
     refine mid_j1 (g54) _ _ ⟨bH.ca C79,rfl,rfl,rfl,rfl,rfl,rfl,rfl,rfl,Rg.cn hb63,bx5.cn hb63,o14.ca C80,o39.ca C81,o46.ca C82,o53.ca C80,?_⟩
     show True
     trivial
    obtain⟨hp1,hp2⟩:=BP hm (by omega)
    refine ak (wn (df q99)) (ak (wn (df q99)) (ak (wn (df q99)) (ak (bh rfl rfl rfl) (ak (bh rfl rfl rfl) (ak (bh rfl rfl rfl) (ak (wn (df q99)) (lw (vb false) (aP rfl (df q99) rfl) (mv (vb false) (lv (vi ((bc g).1)) (wy rfl) (au rfl) ?_)))))))))
    refine lv (vb (decide (2<=((bc g).1)))) (wy rfl) (eO (m:=(bc g).1) (n:=2) rfl rfl) (lv (vb (decide (2<=((bc g).1)))) (wy rfl) (au rfl) ?_)
    by_cases q111:2<=((bc g).1)
    ·
     refine lv (vi ((b6 g).2)) (wy (dt q111)) (au rfl) (lv (vb (!(decide (((b6 g).2)=0)))) (wy (dt q111)) (cK (m:=(b6 g).2) (n:=0) rfl rfl) (lv (vb (!(decide (((b6 g).2)=0)))) (wy (dt q111)) (au rfl) ?_))
     have q114_83:((b6 g).2)=0:=by assumption
     refine lv (v31) (wy (congrArg Bool.not (dt q114_83))) (au rfl) ?_
     replace bx5:=bx5.cn hb63
     refine lv (vg [vi g.1,g_v]) (wy (congrArg Bool.not (dt q114_83))) (aB (ds:=[vi g.1,g_v]) aK rfl bx5 rfl rfl) ?_
     replace Rg:=Rg.cn hb63
     refine cB (wy (congrArg Bool.not (dt q114_83))) (bQ (aN (vals:=[vg [vi g.1,g_v]]) Try.func17 rC qK rfl) (oP w62 g g_v (Rg).ro (by exact hm)) ?_)
     rintro⟨d85,v87⟩ w84 ⟨fr86,o88⟩
     obtain⟨g89,ch90,G89⟩:=ia g54 fr86 (λn=>if n=1 then 8 else 0)
     replace o88:=o88.gl G89 8
     have C91:=cg [] (ch41.n.seq (ch48.n.seq (ch55.n.seq (hb59.n.seq (hb61.n.seq (hb63.n.seq ch90.n))))))
     replace o32:=o32.ca C91
     refine cB (wy (congrArg Bool.not (dt q114_83))) (bW (v:=vb (decide (((b6 g).1)=(d3 g)))) (aN (vals:=[v31,v87]) Try.func16 mT mV rfl) (kT w84 ((b6 g).1) v31 (o32.flat).ro (d3 g) v87 (o88.flat).ro) ?_)
     intro w92 hb93
     replace hb93:=aS hb93 g89
     refine lv (vb (!(decide (((b6 g).1)=(d3 g))))) (wy (congrArg Bool.not (dt q114_83))) (dZ (b:=(decide (((b6 g).1)=(d3 g)))) rfl) (lv (vb (!(decide (((b6 g).1)=(d3 g))))) (wy (dt q111)) (aP rfl (congrArg Bool.not (dt q114_83)) rfl) (lv (vb (!(decide (((b6 g).1)=(d3 g))))) (wy rfl) (aO rfl (dt q111) rfl) (lw (vb (!(decide (((b6 g).1)=(d3 g))))) (aP rfl rfl rfl) (ab ?_))))
     have p17_94:(decide (((b6 g).1)=(d3 g)))=true:=by exact dt hp2
     refine ag rfl (congrArg Bool.not p17_94) (aq (aa (aa ?_)))
     clear o32 o88
     have C95:=cg [3] (ch2.n.seq (hb7.n.seq (hb9.n.seq (ch16.n.seq (ch19.n.seq ((ch24.l rfl).seq (hb27.n.seq (ch34.n.seq (ch41.n.seq (ch48.n.seq (ch55.n.seq (hb59.n.seq (hb61.n.seq (hb63.n.seq (ch90.n.seq hb93.n)))))))))))))))
     have C96:=cg [] (hb59.n.seq (hb61.n.seq (hb63.n.seq (ch90.n.seq hb93.n))))
     have C98:=ch55.n.seq C96
     have C97:=ch48.n.seq C98
     refine mid_j1 (g89) _ _ ⟨bH.ca C95,rfl,rfl,rfl,rfl,rfl,rfl,rfl,rfl,(Rg.cn ch90).cn hb93,(bx5.cn ch90).cn hb93,o14.ca C96,o39.ca C97,o46.ca C98,o53.ca C96,?_⟩
     show True
     trivial
    refine ak (wn (df q111)) (ak (wn (df q111)) (ak (wn (df q111)) (ak (bh rfl rfl rfl) (ak (bh rfl rfl rfl) (ak (bh rfl rfl rfl) (ak (bh rfl rfl rfl) (ak (bh rfl rfl rfl) (ak (wn (df q111)) (lv (vb false) (wy rfl) (aP rfl (df q111) rfl) ?_)))))))))
    refine lw (vb false) (aP rfl rfl rfl) (ab (ag rfl rfl (aq (aa (aa ?_)))))
    clear o32
    have C99:=cg [3] (ch2.n.seq (hb7.n.seq (hb9.n.seq (ch16.n.seq (ch19.n.seq ((ch24.l rfl).seq (hb27.n.seq (ch34.n.seq (ch41.n.seq (ch48.n.seq (ch55.n.seq (hb59.n.seq (hb61.n.seq hb63.n)))))))))))))
    have C100:=cg [] (hb59.n.seq (hb61.n.seq hb63.n))
    have C102:=ch55.n.seq C100
    have C101:=ch48.n.seq C102
    refine mid_j1 (g54) _ _ ⟨bH.ca C99,rfl,rfl,rfl,rfl,rfl,rfl,rfl,rfl,Rg.cn hb63,bx5.cn hb63,o14.ca C100,o39.ca C101,o46.ca C102,o53.ca C100,?_⟩
    show True
    trivial
   clear Rg bx5 o14 o32 o39 o46 o53 bH
   rintro g105 f103 w104 ⟨bH,z106_1,z106_2,z106_3,z106_12,z106_13,z106_14,z106_16,z106_17,Rg,bx5,o14,o39,o46,o53,hjn_j1⟩
   refine jI [false,false,true,true] (σ:=aG) (λgq f w=>bn w0 gq w/\f 3=vp b3 0/\f 12=v38/\f 14=v45/\f 16=v52/\f 17=vi ((aW g).2)/\Sl gq (is 0) w g_v g.2/\Bx gq (is 1) w b3 [vi g.1,g_v]/\Ow gq (is 2) (is 2) w (lS v13) (g.2++[((-7:Int),(7:Int))])/\cY gq 5 w v38 ((aF g u v).1)/\cY gq 6 w v45 ((aF g u v).1)/\Ow gq (is 7) (is 7) w v52 ((aW g).1)/\(True)) ?_ ?_
   ·
    intro mid_j2
    refine a8 rfl (mz z106_1 (lx (bm (m:=u) (n:=0) rfl rfl) (mv (vb (decide (u<0))) ?_)))
    by_cases q125:u<0
    ·
     refine ak (wn (dt q125)) (ak (wn (dt q125)) (lw (vb true) (aO rfl (dt q125) rfl) (mv (vb true) (ak (wn rfl) (ak (wn rfl) (ak (wn rfl) (ak (wn rfl) (lw (vb true) (aO rfl rfl rfl) (mv (vb true) (ak (wn rfl) (ak (wn rfl) (ak (wn rfl) (ak (wn rfl) (lw (vb true) (aO rfl rfl rfl) (mv (vb true) ?_)))))))))))))))
     refine ak (wn rfl) (ak (wn rfl) (ak (wn rfl) (lw (vb true) (aO rfl rfl rfl) (ab (ah rfl rfl (aa ?_))))))
     obtain⟨hc1,hc2⟩:=nc (g:=g) (u:=u) (v:=v) hm (by omega)
     refine a8 rfl (mz z106_13 (lx (cK (m:=(aF g u v).2) (n:=2) rfl rfl) (mv (vb (!(decide (((aF g u v).2)=2)))) ?_)))
     have q148:((aF g u v).2)=2:=by assumption
     refine lv (v38) (wy (congrArg Bool.not (dt q148))) (au z106_12) ?_
     have len107:=(o39.sl).small
     refine lv (vi (List.length ((aF g u v).1):Int)) (wy (congrArg Bool.not (dt q148))) (bq dd rfl o39.sl) (lv (vb (!(decide ((List.length ((aF g u v).1):Int)=0)))) (wy (congrArg Bool.not (dt q148))) (cK (m:=(List.length ((aF g u v).1):Int)) (n:=0) rfl rfl) (lw (vb (!(decide ((List.length ((aF g u v).1):Int)=0)))) (aP rfl (congrArg Bool.not (dt q148)) rfl) (ab ?_)))
     have p20:(List.length ((aF g u v).1):Int)=0:=by assumption
     refine ag rfl (congrArg Bool.not (dt p20)) (aq (aa (aa ?_)))
     refine mid_j2 (g105) _ _ ⟨bH,z106_3,z106_12,z106_14,z106_16,z106_17,Rg,bx5,o14,o39,o46,o53,?_⟩
     show True
     trivial
    refine lv (vi v) (wy (df q125)) (au z106_2) (lv (vb (decide (v<0))) (wy (df q125)) (bm (m:=v) (n:=0) rfl rfl) (lw (vb (decide (v<0))) (aP rfl (df q125) rfl) (mv (vb (decide (v<0))) ?_)))
    by_cases q129:v<0
    ·
     refine ak (wn (dt q129)) (ak (wn (dt q129)) (ak (wn (dt q129)) (ak (wn (dt q129)) (lw (vb true) (aO rfl (dt q129) rfl) (mv (vb true) (ak (wn rfl) (ak (wn rfl) (ak (wn rfl) (ak (wn rfl) (lw (vb true) (aO rfl rfl rfl) (mv (vb true) (ak (wn rfl) (ak (wn rfl) (ak (wn rfl) ?_))))))))))))))
     refine lw (vb true) (aO rfl rfl rfl) (ab (ah rfl rfl (aa ?_)))
     obtain⟨hc1,hc2⟩:=nc (g:=g) (u:=u) (v:=v) hm (by omega)
     refine a8 rfl (mz z106_13 (lx (cK (m:=(aF g u v).2) (n:=2) rfl rfl) (mv (vb (!(decide (((aF g u v).2)=2)))) ?_)))
     have q148_108:((aF g u v).2)=2:=by assumption
     refine lv (v38) (wy (congrArg Bool.not (dt q148_108))) (au z106_12) ?_
     have len109:=(o39.sl).small
     refine lv (vi (List.length ((aF g u v).1):Int)) (wy (congrArg Bool.not (dt q148_108))) (bq dd rfl o39.sl) (lv (vb (!(decide ((List.length ((aF g u v).1):Int)=0)))) (wy (congrArg Bool.not (dt q148_108))) (cK (m:=(List.length ((aF g u v).1):Int)) (n:=0) rfl rfl) (lw (vb (!(decide ((List.length ((aF g u v).1):Int)=0)))) (aP rfl (congrArg Bool.not (dt q148_108)) rfl) (ab ?_)))
     have p20_110:(List.length ((aF g u v).1):Int)=0:=by assumption
     refine ag rfl (congrArg Bool.not (dt p20_110)) (aq (aa (aa ?_)))
     refine mid_j2 (g105) _ _ ⟨bH,z106_3,z106_12,z106_14,z106_16,z106_17,Rg,bx5,o14,o39,o46,o53,?_⟩
     show True
     trivial
    refine lv (vi u) (wy (df q129)) (au z106_1) (lv (vp b3 0) (wy (df q129)) (af cW rfl rfl z106_3 rfl) (lv (vi g.1) (wy (df q129)) (ae aj rfl bx5 rfl) (lv (vb (decide (g.1<=u))) (wy (df q129)) (eO (m:=u) (n:=g.1) rfl rfl) (lw (vb (decide (g.1<=u))) (aP rfl (df q129) rfl) (mv (vb (decide (g.1<=u))) ?_)))))
    by_cases q135:g.1<=u
    ·
     refine ak (wn (dt q135)) (ak (wn (dt q135)) (ak (wn (dt q135)) (ak (wn (dt q135)) (lw (vb true) (aO rfl (dt q135) rfl) (mv (vb true) (ak (wn rfl) (ak (wn rfl) (ak (wn rfl) (lw (vb true) (aO rfl rfl rfl) (ab (ah rfl rfl ?_)))))))))))
     refine aa ?_
     obtain⟨hc1,hc2⟩:=nc (g:=g) (u:=u) (v:=v) hm (by omega)
     refine a8 rfl (mz z106_13 (lx (cK (m:=(aF g u v).2) (n:=2) rfl rfl) (mv (vb (!(decide (((aF g u v).2)=2)))) ?_)))
     have q148_111:((aF g u v).2)=2:=by assumption
     refine lv (v38) (wy (congrArg Bool.not (dt q148_111))) (au z106_12) ?_
     have len112:=(o39.sl).small
     refine lv (vi (List.length ((aF g u v).1):Int)) (wy (congrArg Bool.not (dt q148_111))) (bq dd rfl o39.sl) (lv (vb (!(decide ((List.length ((aF g u v).1):Int)=0)))) (wy (congrArg Bool.not (dt q148_111))) (cK (m:=(List.length ((aF g u v).1):Int)) (n:=0) rfl rfl) (lw (vb (!(decide ((List.length ((aF g u v).1):Int)=0)))) (aP rfl (congrArg Bool.not (dt q148_111)) rfl) (ab ?_)))
     have p20_113:(List.length ((aF g u v).1):Int)=0:=by assumption
     refine ag rfl (congrArg Bool.not (dt p20_113)) (aq (aa (aa ?_)))
     refine mid_j2 (g105) _ _ ⟨bH,z106_3,z106_12,z106_14,z106_16,z106_17,Rg,bx5,o14,o39,o46,o53,?_⟩
     show True
     trivial
    refine lv (vi v) (wy (df q135)) (au z106_2) (lv (vp b3 0) (wy (df q135)) (af cW rfl rfl z106_3 rfl) (lv (vi g.1) (wy (df q135)) (ae aj rfl bx5 rfl) (lv (vb (decide (g.1<=v))) (wy (df q135)) (eO (m:=v) (n:=g.1) rfl rfl) (lw (vb (decide (g.1<=v))) (aP rfl (df q135) rfl) (mv (vb (decide (g.1<=v))) ?_)))))
    by_cases q141:g.1<=v
    ·
     refine ak (wn (dt q141)) (ak (wn (dt q141)) (ak (wn (dt q141)) (lw (vb true) (aO rfl (dt q141) rfl) (ab (ah rfl rfl (aa ?_))))))
     obtain⟨hc1,hc2⟩:=nc (g:=g) (u:=u) (v:=v) hm (by omega)
     refine a8 rfl (mz z106_13 (lx (cK (m:=(aF g u v).2) (n:=2) rfl rfl) (mv (vb (!(decide (((aF g u v).2)=2)))) ?_)))
     have q148_114:((aF g u v).2)=2:=by assumption
     refine lv (v38) (wy (congrArg Bool.not (dt q148_114))) (au z106_12) ?_
     have len115:=(o39.sl).small
     refine lv (vi (List.length ((aF g u v).1):Int)) (wy (congrArg Bool.not (dt q148_114))) (bq dd rfl o39.sl) (lv (vb (!(decide ((List.length ((aF g u v).1):Int)=0)))) (wy (congrArg Bool.not (dt q148_114))) (cK (m:=(List.length ((aF g u v).1):Int)) (n:=0) rfl rfl) (lw (vb (!(decide ((List.length ((aF g u v).1):Int)=0)))) (aP rfl (congrArg Bool.not (dt q148_114)) rfl) (ab ?_)))
     have p20_116:(List.length ((aF g u v).1):Int)=0:=by assumption
     refine ag rfl (congrArg Bool.not (dt p20_116)) (aq (aa (aa ?_)))
     refine mid_j2 (g105) _ _ ⟨bH,z106_3,z106_12,z106_14,z106_16,z106_17,Rg,bx5,o14,o39,o46,o53,?_⟩
     show True
     trivial
    refine lv (vi u) (wy (df q141)) (au z106_1) (lv (vi v) (wy (df q141)) (au z106_2) (lv (vb (decide (u=v))) (wy (df q141)) (cZ (m:=u) (n:=v) rfl rfl) (lw (vb (decide (u=v))) (aP rfl (df q141) rfl) (ab ?_))))
    by_cases p19:u=v
    ·
     refine ah rfl (dt p19) (aa ?_)
     obtain⟨hc1,hc2⟩:=nc (g:=g) (u:=u) (v:=v) hm (by omega)
     refine a8 rfl (mz z106_13 (lx (cK (m:=(aF g u v).2) (n:=2) rfl rfl) (mv (vb (!(decide (((aF g u v).2)=2)))) ?_)))
     have q148_117:((aF g u v).2)=2:=by assumption
     refine lv (v38) (wy (congrArg Bool.not (dt q148_117))) (au z106_12) ?_
     have len118:=(o39.sl).small
     refine lv (vi (List.length ((aF g u v).1):Int)) (wy (congrArg Bool.not (dt q148_117))) (bq dd rfl o39.sl) (lv (vb (!(decide ((List.length ((aF g u v).1):Int)=0)))) (wy (congrArg Bool.not (dt q148_117))) (cK (m:=(List.length ((aF g u v).1):Int)) (n:=0) rfl rfl) (lw (vb (!(decide ((List.length ((aF g u v).1):Int)=0)))) (aP rfl (congrArg Bool.not (dt q148_117)) rfl) (ab ?_)))
     have p20_119:(List.length ((aF g u v).1):Int)=0:=by assumption
     refine ag rfl (congrArg Bool.not (dt p20_119)) (aq (aa (aa ?_)))
     refine mid_j2 (g105) _ _ ⟨bH,z106_3,z106_12,z106_14,z106_16,z106_17,Rg,bx5,o14,o39,o46,o53,?_⟩
     show True
     trivial
    refine ag rfl (df p19) (aa ?_)
    obtain⟨hc1,hc2⟩:=BW (g:=g) (u:=u) (v:=v) hm (by omega) (by omega) (by omega) (by omega) ‹_›
    refine a8 rfl (mz z106_13 (lx (cK (m:=(aF g u v).2) (n:=0) rfl rfl) (mv (vb (!(decide (((aF g u v).2)=0)))) ?_)))
    have q155:((aF g u v).2)=0:=by assumption
    refine lv (v38) (wy (congrArg Bool.not (dt q155))) (au z106_12) (lv (vg [vi g.1,g_v]) (wy (congrArg Bool.not (dt q155))) (aB (ds:=[vi g.1,g_v]) aK z106_3 bx5 rfl rfl) (lv (vi u) (wy (congrArg Bool.not (dt q155))) (au z106_1) (lv (vi v) (wy (congrArg Bool.not (dt q155))) (au z106_2) (cB (wy (congrArg Bool.not (dt q155))) (bQ (aN (vals:=[vg [vi g.1,g_v],vi u,vi v]) Try.func19 rY qT rfl) (lU w104 g g_v (Rg).ro u v (by exact hm) (by exact⟨by omega,by omega⟩) (by exact⟨by omega,by omega⟩)) ?_)))))
    rintro⟨d121,v123⟩ w120 ⟨fr122,o124⟩
    obtain⟨g125,ch126,G125⟩:=ia g105 fr122 (λn=>if n=1 then 9 else 0)
    replace o124:=o124.gl G125 9
    replace o39:=o39.cn ch126
    refine cB (wy (congrArg Bool.not (dt q155))) (bW (v:=vb (decide (((aF g u v).1)=(bE g u v)))) (aN (vals:=[v38,v123]) Try.func18 wO xk rfl) (yg w120 ((aF g u v).1) v38 (o39.sl).ro (bE g u v) v123 (o124.sl).ro) ?_)
    intro w127 hb128
    replace hb128:=aS hb128 g125
    refine lv (vb (!(decide (((aF g u v).1)=(bE g u v))))) (wy (congrArg Bool.not (dt q155))) (dZ (b:=(decide (((aF g u v).1)=(bE g u v)))) rfl) (lw (vb (!(decide (((aF g u v).1)=(bE g u v))))) (aP rfl (congrArg Bool.not (dt q155)) rfl) (ab ?_))
    have p22:(decide (((aF g u v).1)=(bE g u v)))=true:=by exact dt hc2
    refine ag rfl (congrArg Bool.not p22) (aq (aa (aa ?_)))
    clear o124
    replace bH:=bH.cn ch126
    refine mid_j2 (g125) _ _ ⟨bH.cn hb128,z106_3,z106_12,z106_14,z106_16,z106_17,(Rg.cn ch126).cn hb128,(bx5.cn ch126).cn hb128,(o14.cn ch126).cn hb128,o39.cn hb128,(o46.cn ch126).cn hb128,(o53.cn ch126).cn hb128,?_⟩
    show True
    trivial
   clear Rg bx5 o14 o39 o46 o53 bH
   rintro g131 f129 w130 ⟨bH,z132_3,z132_12,z132_14,z132_16,z132_17,Rg,bx5,o14,o39,o46,o53,hjn_j2⟩
   refine a8 rfl (lx (aB (ds:=[vi g.1,g_v]) aK z132_3 bx5 rfl rfl) (lo (bW (v:=vb (bY g)) (aN (vals:=[vg [vi g.1,g_v]]) Try.func20 ym yX rfl) (vw w130 g g_v (Rg).ro (by exact hm)) ?_)))
   intro w133 hb134
   replace hb134:=aS hb134 g131
   refine lx (dZ (b:=(bY g)) rfl) (ab ?_)
   by_cases p24:(bY g)=true
   ·
    obtain⟨hs1,hs2⟩:=BS hm ‹_›
    refine ag rfl (congrArg Bool.not p24) (aq (aa (a8 rfl (lw (vg [vn,vi 0]) (bS (vs:=[]) rfl (by kernel_rfl)) (lo (cr g131 (is 10) (10,0) rfl rfl ?_))))))
    intro g138 w135 b137 ch136 bx139
    replace bx139:Bx g138 (is 10) w135 b137 [vn,vi 0]:=bx139
    refine ma (vp b137 0) (ab (aa (a8 rfl (mv (vp b137 0) (mz z132_12 (lo ?_))))))
    replace o39:=(o39.cn hb134).cn ch136
    refine bQ (σ:=Value×fG×Int×aG) (V:=λ_=>vt []) (aN (vals:=[vp b137 0,v38]) Try.func21 rI rZ rfl) (kr (γ:=g138) (q:=10) (i:=11) (k:=5) (K:=[]) (s:=0) bx139 cY.nil o39 (by exact iB.nil) (by omega) rfl rfl rfl) ?_
    rintro⟨v140,K141,s142,g143⟩ w144 ⟨ch145,o146,o147,hj148,r149⟩
    replace ch145:bD (j3 10 11 5) g138 w135 g143 w144:=ch145
    replace o146:Bx g143 (is 10) w144 b137 [v140,vi s142]:=o146
    replace o147:cY g143 11 w144 v140 K141:=o147
    replace hj148:iB K141 s142:=hj148
    replace r149:Sl g143 (CP 5 11) w144 v38 ((aF g u v).1):=r149
    obtain⟨hj148a,hj148b,hj148c⟩:=hj148.len
    clear o39 bx139
    refine ab (aa ?_)
    clear r149
    refine a8 rfl (mv (vp b137 0) (mz z132_14 (lo ?_)))
    have C150:=cg [5,10,11] (hb134.n.seq (ch136.n.seq (ch145.l3 rfl rfl rfl)))
    replace o46:=o46.ca C150
    refine bQ (σ:=Value×fG×Int×aG) (V:=λ_=>vt []) (aN (vals:=[vp b137 0,v45]) Try.func21 rI rZ rfl) (kr (γ:=g143) (q:=10) (i:=11) (k:=6) (K:=K141) (s:=s142) o146 o147 o46 ‹_› (by omega) rfl rfl rfl) ?_
    rintro⟨v151,K152,s153,g154⟩ w155 ⟨ch156,o157,o158,hj159,r160⟩
    replace ch156:bD (j3 10 11 6) g143 w144 g154 w155:=ch156
    replace o157:Bx g154 (is 10) w155 b137 [v151,vi s153]:=o157
    replace o158:cY g154 11 w155 v151 K152:=o158
    replace hj159:iB K152 s153:=hj159
    replace r160:Sl g154 (CP 6 11) w155 v45 ((aF g u v).1):=r160
    obtain⟨hj159a,hj159b,hj159c⟩:=hj159.len
    clear o46 o146 o147
    refine ab (aa ?_)
    clear r160
    refine a8 rfl (mz z132_17 (lx (cZ (m:=(aW g).2) (n:=0) rfl rfl) (mv (vb (decide (((aW g).2)=0))) ?_)))
    have q184:((aW g).2)=0:=by assumption
    refine lv (v52) (wy (dt q184)) (au z132_16) ?_
    have C161:=cg [5,6,10,11] (hb134.n.seq (ch136.n.seq ((ch145.l3 rfl rfl rfl).seq (ch156.l3 rfl rfl rfl))))
    replace bx5:=bx5.ca C161
    refine lv (vg [vi g.1,g_v]) (wy (dt q184)) (aB (ds:=[vi g.1,g_v]) aK z132_3 bx5 rfl rfl) ?_
    replace Rg:=Rg.ca C161
    refine cB (wy (dt q184)) (bQ (aN (vals:=[vg [vi g.1,g_v]]) Try.func22 wk wR rfl) (sJ w155 g g_v (Rg).ro (by exact hm)) ?_)
    rintro⟨d163,v165⟩ w162 ⟨fr164,o166⟩
    obtain⟨g167,ch168,G167⟩:=ia g154 fr164 (λn=>if n=1 then 12 else 0)
    replace o166:=o166.gl G167 12
    have C169:=cg [5,6,10,11] (hb134.n.seq (ch136.n.seq ((ch145.l3 rfl rfl rfl).seq ((ch156.l3 rfl rfl rfl).seq ch168.n))))
    replace o53:=o53.ca C169
    refine cB (wy (dt q184)) (bW (v:=vb (decide (((aW g).1)=(dQ g)))) (aN (vals:=[v52,v165]) Try.func16 mT mV rfl) (kT w162 ((aW g).1) v52 (o53.flat).ro (dQ g) v165 (o166.flat).ro) ?_)
    intro w170 hb171
    replace hb171:=aS hb171 g167
    refine lw (vb (decide (((aW g).1)=(dQ g)))) (aO rfl (dt q184) rfl) (mv (vb (decide (((aW g).1)=(dQ g)))) ?_)
    have q190:(decide (((aW g).1)=(dQ g)))=true:=by exact dt hs2
    refine lv (vp b137 0) (wy q190) (au rfl) (cB (wy q190) (bL (aN (vals:=[vp b137 0]) Try.func23 wY ye rfl) (av Try.func23 rfl nq ?_)))
    replace o158:=(o158.cn ch168).cn hb171
    refine aa (a8 rfl (ma (vb false) (ab (aa (aa (a8 rfl (ai 0 (ab (ao ?_)))))))))
    refine aY (σ:=Nat×fG×aG) (λ⟨i_c1,L_c1,gq⟩ f w=>bn w0 gq w/\f 0=vp b137 0/\f 3=vi ↑i_c1/\Sl gq (is 0) w g_v g.2/\Bx gq (is 1) w b3 [vi g.1,g_v]/\Ow gq (is 2) (is 2) w (lS v13) (g.2++[((-7:Int),(7:Int))])/\Ow gq (is 7) (is 7) w v52 ((aW g).1)/\Bx gq (is 10) w b137 [v151,vi s153]/\cY gq 11 w v151 L_c1/\Ow gq (is 12) (is 12) w v165 (dQ g)/\(lR L_c1 i_c1)) (λ⟨i_c1,L_c1,gq⟩=>List.length L_c1-i_c1) (0,K152,g167) ?_ ?_
    have C172:=cg [5,6,10,11] (hb134.n.seq (ch136.n.seq ((ch145.l3 rfl rfl rfl).seq ((ch156.l3 rfl rfl rfl).seq (ch168.n.seq hb171.n)))))
    · exact⟨bH.ca C172,rfl,rfl,(Rg.cn ch168).cn hb171,(bx5.cn ch168).cn hb171,o14.ca C172,o53.cn hb171,(o157.cn ch168).cn hb171,o158,o166.cn hb171,by exact iB.ap ‹_›⟩
    clear Rg bx5 o14 o53 o157 o158 o166 bH
    rintro⟨i_c1,L_c1,g175⟩ f173 w174 ⟨bH,zs0_c1,zs3_c1,Rg,bx5,o14,o53,o157,o158,o166,ha_c1⟩ back2_c1
    have hale_c1:=ha_c1.le
    have hafew_c1:=ha_c1.few
    refine aa (aa (a8 rfl (mz zs3_c1 (mz zs0_c1 (lw (vp b137 0) (aw rfl) (lx (af sr rfl rfl rfl rfl) (lx (ae cU rfl o157 rfl) ?_)))))))
    have len176:=(o158.sl).small
    refine lx (bq dd rfl o158.sl) (lx (bm (m:=↑i_c1) (n:=(L_c1.length:Int)) rfl rfl) (ab ?_))
    by_cases p2_c1:(i_c1:Int)<(L_c1.length:Int)
    ·
     refine ah rfl (dt p2_c1) ?_
     have hares_c1:=ha_c1.rest i_c1 (Nat.le_refl _) (by omega)
     refine aq (aa (ao (aa (aa (dl g175 rfl pv (by kernel_rfl) ?_)))))
     intro w178 ch177
     refine qz zs0_c1 (qv (vp b137 0) (λw' hw'=>aw rfl) (qx (λw' hw'=>af sr rfl rfl rfl rfl) ?_))
     replace o157:=o157.cn ch177
     refine qx (λw' hw'=>ae cU rfl (o157.bel hw') rfl) (qz zs3_c1 ?_)
     replace o158:=o158.cn ch177
     refine qx (λw' hw'=>ad (v:=v151) (i:=↑i_c1) dd rfl rfl (o158.sl.bel hw') rfl (by omega) (by omega)) ?_
     obtain⟨v179,cel180,r181⟩:=bR (r:=(i_c1:Int)) o158 (by omega) (by omega)
     refine qx (λw' hw'=>bF bI rfl (eS cel180 hw')) ?_
     have len182:=(r181.row_sl).small
     refine qx (λw' hw'=>bq bv rfl (r181.row_sl.bel hw')) (qz zs0_c1 (qv (vp b137 0) (λw' hw'=>aw rfl) (qx (λw' hw'=>af sr rfl rfl rfl rfl) (qx (λw' hw'=>ae cU rfl (o157.bel hw') rfl) (qz zs3_c1 (qx (λw' hw'=>ad (v:=v151) (i:=↑i_c1) dd rfl rfl (o158.sl.bel hw') rfl (by omega) (by omega)) ?_))))))
     obtain⟨v183,cel184,r185⟩:=bR (r:=(i_c1:Int)) o158 (by omega) (by omega)
     refine qx (λw' hw'=>bF bI rfl (eS cel184 hw')) ?_
     have cap186:=Sl.cap r185.row_sl
     refine qv (vi (dT v183:Int)) (λw' hw'=>Bk bv rfl (r185.row_sl.bel hw')) (kW (v:=vi (min (dT v183:Int) ((List.length (gI L_c1 ↑i_c1):Int)+2000))) rfl (λw' hw'=>aN (vals:=[vi (List.length (gI L_c1 ↑i_c1):Int),vi (dT v183:Int)]) Try.func47 zg xo rfl) (λw' hw'=>(uj w' (List.length (gI L_c1 ↑i_c1):Int) (dT v183:Int) (by omega)).mono λe w2 h2=>⟨h2.1,hw'.trans (h2.2.mono hw'.size)⟩) (qv (vi (min (dT v183:Int) ((List.length (gI L_c1 ↑i_c1):Int)+2000))) (λw' hw'=>cE rfl) (f4 ?_)))
     intro w187 hc188
     replace hc188:=aS hc188 g175
     refine ao ?_
     clear cel180 r181 cel184 r185
     refine aY (σ:=fG×aG) (λ⟨L1_c1,gq⟩ f w=>bn w0 gq w/\f 0=vp b137 0/\f 3=vi ↑i_c1/\f 4=vi (min (dT v183:Int) ((List.length (gI L_c1 ↑i_c1):Int)+2000))/\Sl gq (is 0) w g_v g.2/\Bx gq (is 1) w b3 [vi g.1,g_v]/\Ow gq (is 2) (is 2) w (lS v13) (g.2++[((-7:Int),(7:Int))])/\Ow gq (is 7) (is 7) w v52 ((aW g).1)/\Bx gq (is 10) w b137 [v151,vi s153]/\cY gq 11 w v151 L1_c1/\Ow gq (is 12) (is 12) w v165 (dQ g)/\(iX L1_c1 L_c1 i_c1 (min (dT v183:Int) ((List.length (gI L_c1 ↑i_c1):Int)+2000)))) (λ⟨L1_c1,gq⟩=>Int.toNat ((min (dT v183:Int) ((List.length (gI L_c1 ↑i_c1):Int)+2000))-(List.length (gI L1_c1 ↑i_c1):Int))) (L_c1,g175) ?_ ?_
     replace bH:=bH.cn ch177
     · exact⟨bH.cn hc188,zs0_c1,zs3_c1,rfl,(Rg.cn ch177).cn hc188,(bx5.cn ch177).cn hc188,(o14.cn ch177).cn hc188,(o53.cn ch177).cn hc188,o157.cn hc188,o158.cn hc188,(o166.cn ch177).cn hc188,by exact iX.start ha_c1 ‹_›⟩
     clear Rg bx5 o14 o53 o157 o158 o166 bH
     rintro⟨L1_c1,g191⟩ f189 w190 ⟨bH,zs0_c1,zs3_c1,zs4_c1,Rg,bx5,o14,o53,o157,o158,o166,hg_c1⟩ back5_c1
     have hgl_c1:=hg_c1.len
     have hgle_c1:=hg_c1.le
     refine aa (aa (a8 rfl (mz zs0_c1 (lw (vp b137 0) (aw rfl) (lx (af sr rfl rfl rfl rfl) (lx (ae cU rfl o157 rfl) (mz zs3_c1 (lx (ad (v:=v151) (i:=↑i_c1) dd rfl rfl o158.sl rfl (by omega) (by omega)) ?_))))))))
     obtain⟨v192,cel193,r194⟩:=bR (r:=(i_c1:Int)) o158 (by omega) (by omega)
     refine lx (bF bI rfl cel193) ?_
     have len195:=(r194.row_sl).small
     refine lx (bq bv rfl r194.row_sl) (mz zs4_c1 (lx (bm (m:=(List.length (gI L1_c1 ↑i_c1):Int)) (n:=min (dT v183:Int) ((List.length (gI L_c1 ↑i_c1):Int)+2000)) rfl rfl) (ab ?_)))
     by_cases p5_c1:(List.length (gI L1_c1 ↑i_c1):Int)<(min (dT v183:Int) ((List.length (gI L_c1 ↑i_c1):Int)+2000))
     ·
      refine ah rfl (dt p5_c1) (aq (ao ?_))
      clear cel193 r194
      refine dX (σ:=aG) (λgq f w=>bn w0 gq w/\f 0=vp b137 0/\f 3=vi ↑i_c1/\f 4=vi (min (dT v183:Int) ((List.length (gI L_c1 ↑i_c1):Int)+2000))/\Sl gq (is 0) w g_v g.2/\Bx gq (is 1) w b3 [vi g.1,g_v]/\Ow gq (is 2) (is 2) w (lS v13) (g.2++[((-7:Int),(7:Int))])/\Ow gq (is 7) (is 7) w v52 ((aW g).1)/\Bx gq (is 10) w b137 [v151,vi s153]/\Ow gq (is 12) (is 12) w v165 (dQ g)/\cY gq 11 w v151 (List.set L1_c1 (Int.toNat ↑i_c1) (gI L1_c1 ↑i_c1++([0]:List Int)))) g191 [0,1,2,4,5,6,7,8,9,10,11,14] pv ?_ ?_
      ·
       intro mid
       intro w197 ch196
       refine xp (v:=vp b137 0) 0 rfl (λw=>au zs0_c1) (xp (v:=vp b137 0) 1 rfl (λw=>aw rfl) (xp 2 rfl (λw=>af sr rfl rfl rfl rfl) (xp (v:=vi ↑i_c1) 4 rfl (λw=>au zs3_c1) (xp (v:=vp b137 0) 5 rfl (λw=>au zs0_c1) (xp (v:=vp b137 0) 6 rfl (λw=>aw rfl) (xp 7 rfl (λw=>af sr rfl rfl rfl rfl) ?_))))))
       replace o157:=o157.cn ch196
       refine xh 8 [7,6,5,4,2,1,0,3,9,12] rfl (λw' hw'=>ae cU rfl (o157.bel hw') rfl) (xp (v:=vi ↑i_c1) 9 rfl (λw=>au zs3_c1) ?_)
       replace o158:=o158.cn ch196
       refine xh 10 [9,8,7,6,5,4,2,1,0,3,12] rfl (λw' hw'=>ad (v:=v151) (i:=↑i_c1) dd rfl rfl (o158.sl.bel hw') rfl (by omega) (by omega)) ?_
       obtain⟨v198,cel199,r200⟩:=bR (r:=(i_c1:Int)) o158 (by omega) (by omega)
       refine xh 11 [10,9,8,7,6,5,4,2,1,0,3,12] rfl (λw' hw'=>bF bI rfl (eS cel199 hw')) ?_
       refine gc 3 12 rfl rfl (by kernel_rfl) rfl rfl ?_ ?_
       ·
        refine aL (v:=v151) (ae cU rfl o157 rfl) (bB 12 rfl (by kernel_rfl) rfl (aC (α:=Int) g191 (is 13) (is 13) (13,0) rfl ([0]:List Int) bv aj (by decide) (by decide) (vs:=[(0,vi 0)]) rfl rfl (.cons rfl .nil) ?_))
        intro g201 w202 v203 ch204 o205
        refine bB 13 rfl (by kernel_rfl) rfl ?_
        replace o158:=o158.cn ch204
        replace r200:=r200.cn ch204
        refine bf (α:=Int) (xs:=(gI L1_c1 ↑i_c1)) (ys:=([0]:List Int)) g201 (J:=row 11 (Int.toNat ↑i_c1+1)) (S:=row 11 (Int.toNat ↑i_c1+1)) (11,Int.toNat ↑i_c1+1) rfl bv aj (by decide) rfl rfl rfl r200 o205.flat (by decide) (by(simp;omega)) ?_
        intro g206 w207 v208 ch209 o210
        have o211:=o158.rowchg ch209
        clear o158 cel199 r200
        obtain⟨us212,hl213,r214⟩:=o211.vc
        try simp only[List.length_set,List.length_append,List.length_cons,List.length_nil] at hl213
        refine xv 14 [13,12,3,11,10,9,8,7,6,5,4,2,1,0] rfl (ad (v:=v151) (i:=↑i_c1) dd rfl rfl r214 rfl (by omega) (by omega)) (bB 15 rfl (by kernel_rfl) rfl (bM (r:=(i_c1:Int)) bI rfl rfl o211 o210 (by omega) (by omega) ?_))
        intro w218 ch219 o220
        clear o211 o210
        refine cA (by kernel_rfl) ?_
        have C222:=cg [11] (ch204.n.seq ((ch209.lr rfl).seq (ch219.l rfl)))
        have C221:=ch196.n.seq C222
        exact mid (g206) _ _ ⟨bH.ca C221,zs0_c1,zs3_c1,zs4_c1,Rg.ca C221,bx5.ca C221,o14.ca C221,o53.ca C221,o157.ca C222,o166.ca C221,o220⟩
       ·
        refine aC (α:=Int) g191 (is 13) (is 13) (13,0) rfl ([0]:List Int) bv aj (by decide) (by decide) (vs:=[(0,vi 0)]) rfl rfl (.cons rfl .nil) ?_
        intro g223 w224 v225 ch226 o227
        refine gc 3 13 rfl rfl (by kernel_rfl) rfl rfl ?_ ?_
        ·
         replace o157:=o157.cn ch226
         refine aL (v:=v151) (ae cU rfl o157 rfl) (bB 13 rfl (by kernel_rfl) rfl ?_)
         replace o158:=o158.cn ch226
         replace r200:=r200.cn ch226
         refine bf (α:=Int) (xs:=(gI L1_c1 ↑i_c1)) (ys:=([0]:List Int)) g223 (J:=row 11 (Int.toNat ↑i_c1+1)) (S:=row 11 (Int.toNat ↑i_c1+1)) (11,Int.toNat ↑i_c1+1) rfl bv aj (by decide) rfl rfl rfl r200 o227.flat (by decide) (by(simp;omega)) ?_
         intro g228 w229 v230 ch231 o232
         have o233:=o158.rowchg ch231
         clear o158 cel199 r200
         obtain⟨us234,hl235,r236⟩:=o233.vc
         try simp only[List.length_set,List.length_append,List.length_cons,List.length_nil] at hl235
         refine xv 14 [13,3,12,11,10,9,8,7,6,5,4,2,1,0] rfl (ad (v:=v151) (i:=↑i_c1) dd rfl rfl r236 rfl (by omega) (by omega)) (bB 15 rfl (by kernel_rfl) rfl (bM (r:=(i_c1:Int)) bI rfl rfl o233 o232 (by omega) (by omega) ?_))
         intro w240 ch241 o242
         clear o233 o232
         refine cA (by kernel_rfl) ?_
         have C243:=cg [11] (ch196.n.seq (ch226.n.seq ((ch231.lr rfl).seq (ch241.l rfl))))
         exact mid (g228) _ _ ⟨bH.ca C243,zs0_c1,zs3_c1,zs4_c1,Rg.ca C243,bx5.ca C243,o14.ca C243,o53.ca C243,(o157.chg ch231 (eJ rfl)).ce ch241,o166.ca C243,o242⟩
        ·
         replace o158:=o158.cn ch226
         replace r200:=r200.cn ch226
         refine bf (α:=Int) (xs:=(gI L1_c1 ↑i_c1)) (ys:=([0]:List Int)) g223 (J:=row 11 (Int.toNat ↑i_c1+1)) (S:=row 11 (Int.toNat ↑i_c1+1)) (11,Int.toNat ↑i_c1+1) rfl bv aj (by decide) rfl rfl rfl r200 o227.flat (by decide) (by(simp;omega)) ?_
         intro g244 w245 v246 ch247 o248
         have o249:=o158.rowchg ch247
         clear o158 cel199 r200
         replace o157:=(o157.cn ch226).chg ch247 (eJ rfl)
         refine bB 3 rfl (by kernel_rfl) rfl (aL (v:=v151) (ae cU rfl o157 rfl) ?_)
         obtain⟨us250,hl251,r252⟩:=o249.vc
         try simp only[List.length_set,List.length_append,List.length_cons,List.length_nil] at hl251
         refine xv 14 [3,13,12,11,10,9,8,7,6,5,4,2,1,0] rfl (ad (v:=v151) (i:=↑i_c1) dd rfl rfl r252 rfl (by omega) (by omega)) (bB 15 rfl (by kernel_rfl) rfl (bM (r:=(i_c1:Int)) bI rfl rfl o249 o248 (by omega) (by omega) ?_))
         intro w256 ch257 o258
         clear o249 o248
         refine cA (by kernel_rfl) ?_
         have C259:=cg [11] (ch196.n.seq (ch226.n.seq ((ch247.lr rfl).seq (ch257.l rfl))))
         exact mid (g244) _ _ ⟨bH.ca C259,zs0_c1,zs3_c1,zs4_c1,Rg.ca C259,bx5.ca C259,o14.ca C259,o53.ca C259,o157.ce ch257,o166.ca C259,o258⟩
      clear Rg bx5 o14 o53 o157 o158 o166 bH
      rintro g262 f260 w261 ⟨bH,zs0_c1,zs3_c1,zs4_c1,Rg,bx5,o14,o53,o157,o166,o218⟩
      refine am ?_
      refine back5_c1 ((List.set L1_c1 (Int.toNat ↑i_c1) (gI L1_c1 ↑i_c1++([0]:List Int))),g262) _ _ ⟨bH,zs0_c1,zs3_c1,zs4_c1,Rg,bx5,o14,o53,o157,o218,o166,?_⟩ ?_
      · show iX (List.set L1_c1 (Int.toNat ↑i_c1) (gI L1_c1 ↑i_c1++([0]:List Int))) L_c1 i_c1 (min (dT v183:Int) ((List.length (gI L_c1 ↑i_c1):Int)+2000))
        exact hg_c1.next ‹_› ‹_› (by omega)
      · show Int.toNat ((min (dT v183:Int) ((List.length (gI L_c1 ↑i_c1):Int)+2000))-(List.length (gI (List.set L1_c1 (Int.toNat ↑i_c1) (gI L1_c1 ↑i_c1++([0]:List Int))) (i_c1:Int)):Int))<Int.toNat ((min (dT v183:Int) ((List.length (gI L_c1 ↑i_c1):Int)+2000))-(List.length (gI L1_c1 ↑i_c1):Int))
        (have h1:=hg_c1.meas ‹_›;omega)
     refine ag rfl (df p5_c1) (aH rfl (aa ?_))
     clear cel193 r194
     refine a8 rfl (ai 0 (ab (ao ?_)))
     refine aY (σ:=Nat×fG×aG) (λ⟨k_c1,L2_c1,gq⟩ f w=>bn w0 gq w/\f 0=vp b137 0/\f 3=vi ↑i_c1/\f 5=vi ↑k_c1/\Sl gq (is 0) w g_v g.2/\Bx gq (is 1) w b3 [vi g.1,g_v]/\Ow gq (is 2) (is 2) w (lS v13) (g.2++[((-7:Int),(7:Int))])/\Ow gq (is 7) (is 7) w v52 ((aW g).1)/\Bx gq (is 10) w b137 [v151,vi s153]/\cY gq 11 w v151 L2_c1/\Ow gq (is 12) (is 12) w v165 (dQ g)/\(m7 L2_c1 L_c1 i_c1 k_c1)) (λ⟨k_c1,L2_c1,gq⟩=>List.length (gI L2_c1 ↑i_c1)-k_c1) (0,L1_c1,g191) ?_ ?_
     · exact⟨bH,zs0_c1,zs3_c1,rfl,Rg,bx5,o14,o53,o157,o158,o166,by exact hg_c1.wr⟩
     clear Rg bx5 o14 o53 o157 o158 o166 bH
     rintro⟨k_c1,L2_c1,g265⟩ f263 w264 ⟨bH,zs0_c1,zs3_c1,zs5_c1,Rg,bx5,o14,o53,o157,o158,o166,hw_c1⟩ back8_c1
     have hwl_c1:=hw_c1.len
     have hwle_c1:=hw_c1.le
     have hwf_c1:=hw_c1.few
     refine aa (aa (a8 rfl (mz zs5_c1 (mz zs0_c1 (lw (vp b137 0) (aw rfl) (lx (af sr rfl rfl rfl rfl) (lx (ae cU rfl o157 rfl) (mz zs3_c1 (lx (ad (v:=v151) (i:=↑i_c1) dd rfl rfl o158.sl rfl (by omega) (by omega)) ?_)))))))))
     obtain⟨v266,cel267,r268⟩:=bR (r:=(i_c1:Int)) o158 (by omega) (by omega)
     refine lx (bF bI rfl cel267) ?_
     have len269:=(r268.row_sl).small
     refine lx (bq bv rfl r268.row_sl) (lx (bm (m:=↑k_c1) (n:=(List.length (gI L2_c1 ↑i_c1):Int)) rfl rfl) (ab ?_))
     by_cases p8_c1:(k_c1:Int)<(List.length (gI L2_c1 ↑i_c1):Int)
     ·
      refine ah rfl (dt p8_c1) (aq (aa (ao ?_)))
      clear cel267 r268
      refine a8 rfl (mz zs0_c1 (lw (vp b137 0) (aw rfl) (lx (af sr rfl rfl rfl rfl) (lx (ae cU rfl o157 rfl) (mz zs3_c1 (lx (ad (v:=v151) (i:=↑i_c1) dd rfl rfl o158.sl rfl (by omega) (by omega)) ?_))))))
      obtain⟨v270,cel271,r272⟩:=bR (r:=(i_c1:Int)) o158 (by omega) (by omega)
      refine lx (bF bI rfl cel271) (mz zs5_c1 (mz zs3_c1 (lx (dA (m:= -1000) (n:=↑i_c1) rfl rfl (by omega)) (lx (ad (v:=v270) (i:=↑k_c1) bv rfl rfl r272.row_sl rfl (by omega) (by omega)) (lo (aQ (i:=↑k_c1) ((-1000)-(i_c1:Int)) aj rfl rfl r272 (by omega) (by omega) rfl ?_))))))
      intro w276 ch277 r278
      obtain⟨o279,cel280⟩:=Co (r:=(i_c1:Int)) o158 (by omega) (by omega) ch277 cel271 r278
      clear o158 cel271 r272
      refine ab (am ?_)
      clear cel280 r278
      refine a8 rfl (mz zs5_c1 (lx (aI (m:=↑k_c1) (n:=1) rfl rfl (by omega)) (ai ((k_c1:Int)+1) (ab ?_))))
      refine back8_c1 (k_c1+1,(List.set L2_c1 (Int.toNat ↑i_c1) (List.set (gI L2_c1 ↑i_c1) (Int.toNat ↑k_c1) ((-1000)-(i_c1:Int)))),g265) _ _ ⟨bH.chg ch277 (eJ rfl),zs0_c1,zs3_c1,rfl,Rg.chg ch277 (eJ rfl),bx5.chg ch277 (eJ rfl),o14.chg ch277 (eJ rfl) (eJ rfl),o53.chg ch277 (eJ rfl) (eJ rfl),o157.chg ch277 (eJ rfl),o279,o166.chg ch277 (eJ rfl) (eJ rfl),?_⟩ ?_
      · show m7 (List.set L2_c1 (Int.toNat ↑i_c1) (List.set (gI L2_c1 ↑i_c1) (Int.toNat ↑k_c1) ((-1000)-(i_c1:Int)))) L_c1 i_c1 (k_c1+1)
        exact(hw_c1.next ‹_› ‹_›).1
      · show List.length (gI (List.set L2_c1 (Int.toNat ↑i_c1) (List.set (gI L2_c1 ↑i_c1) (Int.toNat ↑k_c1) ((-1000)-(i_c1:Int)))) (i_c1:Int))-(k_c1+1)<List.length (gI L2_c1 ↑i_c1)-k_c1
        (have h1:=(hw_c1.next ‹_› ‹_›).2;omega)
     refine ag rfl (df p8_c1) (aH rfl (am ?_))
     clear cel267 r268
     refine a8 rfl (mz zs3_c1 (lx (aI (m:=↑i_c1) (n:=1) rfl rfl (by omega)) (ai ((i_c1:Int)+1) (ab ?_))))
     refine back2_c1 (i_c1+1,L2_c1,g265) _ _ ⟨bH,zs0_c1,rfl,Rg,bx5,o14,o53,o157,o158,o166,?_⟩ ?_
     · show lR L2_c1 (i_c1+1)
       exact hw_c1.fin ha_c1 ‹_› ‹_›
     · show List.length L2_c1-(i_c1+1)<List.length L_c1-i_c1
       (have h1:=hw_c1.len;omega)
    refine ag rfl (df p2_c1) (aH rfl (aa (aa (a8 rfl (ai 0 (ab (ao ?_)))))))
    refine aY (σ:=Nat×aG) (λ⟨m_c1,gq⟩ f w=>bn w0 gq w/\f 0=vp b137 0/\f 6=vi ↑m_c1/\Sl gq (is 0) w g_v g.2/\Bx gq (is 1) w b3 [vi g.1,g_v]/\Ow gq (is 2) (is 2) w (lS v13) (g.2++[((-7:Int),(7:Int))])/\Ow gq (is 7) (is 7) w v52 ((aW g).1)/\Bx gq (is 10) w b137 [v151,vi s153]/\cY gq 11 w v151 L_c1/\Ow gq (is 12) (is 12) w v165 (dQ g)/\(m_c1:Int)<=((L_c1.length:Int):Int)/\(True)) (λ⟨m_c1,gq⟩=>Int.toNat (((L_c1.length:Int):Int)-(m_c1:Int))) (0,g175) ?_ ?_
    · exact⟨bH,zs0_c1,rfl,Rg,bx5,o14,o53,o157,o158,o166,by omega,by trivial⟩
    clear Rg bx5 o14 o53 o157 o158 o166 bH
    rintro⟨m_c1,g283⟩ f281 w282 ⟨bH,zs0_c1,zs6_c1,Rg,bx5,o14,o53,o157,o158,o166,hle_m_c1,hinv12_c1⟩ back12_c1
    refine aa (aa (a8 rfl (mz zs6_c1 (mz zs0_c1 (lw (vp b137 0) (aw rfl) (lx (af sr rfl rfl rfl rfl) (lx (ae cU rfl o157 rfl) (lx (bq dd rfl o158.sl) (lx (bm (m:=↑m_c1) (n:=(L_c1.length:Int)) rfl rfl) (ab ?_))))))))))
    by_cases p12_c1:(m_c1:Int)<(L_c1.length:Int)
    ·
     refine ah rfl (dt p12_c1) (aq (aa (ao (aa (a8 rfl (ai 0 (ab (ao ?_))))))))
     refine aY (σ:=Nat×aG) (λ⟨n_c1,gq⟩ f w=>bn w0 gq w/\f 0=vp b137 0/\f 6=vi ↑m_c1/\f 7=vi ↑n_c1/\Sl gq (is 0) w g_v g.2/\Bx gq (is 1) w b3 [vi g.1,g_v]/\Ow gq (is 2) (is 2) w (lS v13) (g.2++[((-7:Int),(7:Int))])/\Ow gq (is 7) (is 7) w v52 ((aW g).1)/\Bx gq (is 10) w b137 [v151,vi s153]/\cY gq 11 w v151 L_c1/\Ow gq (is 12) (is 12) w v165 (dQ g)/\(n_c1:Int)<=((List.length (gI L_c1 ↑m_c1):Int):Int)/\(True)) (λ⟨n_c1,gq⟩=>Int.toNat (((List.length (gI L_c1 ↑m_c1):Int):Int)-(n_c1:Int))) (0,g283) ?_ ?_
     · exact⟨bH,zs0_c1,zs6_c1,rfl,Rg,bx5,o14,o53,o157,o158,o166,by omega,by trivial⟩
     clear Rg bx5 o14 o53 o157 o158 o166 bH
     rintro⟨n_c1,g286⟩ f284 w285 ⟨bH,zs0_c1,zs6_c1,zs7_c1,Rg,bx5,o14,o53,o157,o158,o166,hle_n_c1,hinv15_c1⟩ back15_c1
     refine aa (aa (a8 rfl (mz zs7_c1 (mz zs0_c1 (lw (vp b137 0) (aw rfl) (lx (af sr rfl rfl rfl rfl) (lx (ae cU rfl o157 rfl) (mz zs6_c1 (lx (ad (v:=v151) (i:=↑m_c1) dd rfl rfl o158.sl rfl (by omega) (by omega)) ?_)))))))))
     obtain⟨v287,cel288,r289⟩:=bR (r:=(m_c1:Int)) o158 (by omega) (by omega)
     refine lx (bF bI rfl cel288) ?_
     have len290:=(r289.row_sl).small
     refine lx (bq bv rfl r289.row_sl) (lx (bm (m:=↑n_c1) (n:=(List.length (gI L_c1 ↑m_c1):Int)) rfl rfl) (ab ?_))
     by_cases p15_c1:(n_c1:Int)<(List.length (gI L_c1 ↑m_c1):Int)
     ·
      refine ah rfl (dt p15_c1) (aq (aa (ao (aa ?_))))
      clear cel288 r289
      refine a8 rfl (mz zs0_c1 (lw (vp b137 0) (aw rfl) (lx (af sr rfl rfl rfl rfl) (lx (ae cU rfl o157 rfl) (mz zs6_c1 (lx (ad (v:=v151) (i:=↑m_c1) dd rfl rfl o158.sl rfl (by omega) (by omega)) ?_))))))
      obtain⟨v291,cel292,r293⟩:=bR (r:=(m_c1:Int)) o158 (by omega) (by omega)
      refine lx (bF bI rfl cel292) (mz zs7_c1 (lx (ad (v:=v291) (i:=↑n_c1) bv rfl rfl r293.row_sl rfl (by omega) (by omega)) (lx (az (v:=v291) (i:=↑n_c1) aj rfl r293.row_sl (by omega) (by omega) (by decide) rfl) (mz zs6_c1 (lx (dA (m:= -1000) (n:=↑m_c1) rfl rfl (by omega)) (lx (cK (m:=(gI (gI L_c1 ↑m_c1) ↑n_c1)) (n:=(-1000)-(m_c1:Int)) rfl rfl) (ab ?_)))))))
      have p17_c1:(gI (gI L_c1 ↑m_c1) ↑n_c1)=((-1000)-(m_c1:Int)):=by exact ha_c1.read (by omega) ‹_› ‹_›
      refine ag rfl (congrArg Bool.not (dt p17_c1)) (aq (am ?_))
      clear cel292 r293
      refine a8 rfl (mz zs7_c1 (lx (aI (m:=↑n_c1) (n:=1) rfl rfl (by omega)) (ai ((n_c1:Int)+1) (ab ?_))))
      refine back15_c1 (n_c1+1,g286) _ _ ⟨bH,zs0_c1,zs6_c1,rfl,Rg,bx5,o14,o53,o157,o158,o166,by omega,?_⟩ ?_
      · show True
        trivial
      · show Int.toNat (((List.length (gI L_c1 ↑m_c1):Int):Int)-((n_c1+1):Int))<Int.toNat (((List.length (gI L_c1 ↑m_c1):Int):Int)-(n_c1:Int))
        omega
     refine ag rfl (df p15_c1) (aH rfl (am ?_))
     clear cel288 r289
     refine a8 rfl (mz zs6_c1 (lx (aI (m:=↑m_c1) (n:=1) rfl rfl (by omega)) (ai ((m_c1:Int)+1) (ab ?_))))
     refine back12_c1 (m_c1+1,g286) _ _ ⟨bH,zs0_c1,rfl,Rg,bx5,o14,o53,o157,o158,o166,by omega,?_⟩ ?_
     · show True
       trivial
     · show Int.toNat (((L_c1.length:Int):Int)-((m_c1+1):Int))<Int.toNat (((L_c1.length:Int):Int)-(m_c1:Int))
       omega
    refine ag rfl (df p12_c1) (aH rfl (aa (a8 rfl (ma (vb true) (ab (aD (vs:=[vb true]) Try.func23 (.tmp rfl .nil) ?_))))))
    refine⟨vb true,rfl,?_⟩
    refine lw (vb true) (aO rfl q190 rfl) (ma (vb true) (ab (aD (vs:=[vb true]) Try.func3 (.tmp rfl .nil) ?_)))
    have e0:(true:Bool)=(true):=by
      rfl
    exact⟨rb e0,bH.below⟩
   obtain⟨hs1,hs2⟩:=Cl hm ‹_›
   refine ah rfl (congrArg Bool.not (Bool.eq_false_iff.2 p24)) (aa ?_)
   clear bx5 o39 o46
   refine a8 rfl (mz z132_17 (lx (cZ (m:=(aW g).2) (n:=7) rfl rfl) (mv (vb (decide (((aW g).2)=7))) ?_)))
   have q169:((aW g).2)=7:=by assumption
   refine lv (v52) (wy (dt q169)) (au z132_16) ?_
   replace o53:=o53.cn hb134
   have len294:=(o53.flat).small
   refine lv (vi (List.length ((aW g).1):Int)) (wy (dt q169)) (bq dc rfl o53.flat) (lv (vb (decide ((List.length ((aW g).1):Int)=0))) (wy (dt q169)) (cZ (m:=(List.length ((aW g).1):Int)) (n:=0) rfl rfl) (lw (vb (decide ((List.length ((aW g).1):Int)=0))) (aO rfl (dt q169) rfl) (ma (vb (decide ((List.length ((aW g).1):Int)=0))) (ab (aD (vs:=[vb (decide ((List.length ((aW g).1):Int)=0))]) Try.func3 (.tmp rfl .nil) ?_)))))
   have e0:(decide ((List.length ((aW g).1):Int)=0):Bool)=(true):=by
     exact dt (by omega)
   replace bH:=bH.cn hb134
   exact⟨(congrArg (a₁:=decide ((List.length ((aW g).1):Int)=0)) (λ(z0:Bool)=>Ending.returned (vb z0)) e0),bH.below⟩
  obtain⟨⟨hz1,hz2⟩,⟨hz3,hz4⟩,⟨hz5,hz6⟩,hz7,hz8⟩:=CK (g:=g) (λh=>absurd (dt h) ‹_›) u v
  refine ah rfl (congrArg Bool.not (Bool.eq_false_iff.2 p13)) (aa ?_)
  clear bx5 o46
  refine a8 rfl (mi ((bc g).2) (lx (cZ (m:=(bc g).2) (n:=1) rfl rfl) (mv (vb (decide (((bc g).2)=1))) ?_)))
  have q64:((bc g).2)=1:=by assumption
  refine lv (vi ((b6 g).2)) (wy (dt q64)) (au rfl) (lv (vb (decide (((b6 g).2)=1))) (wy (dt q64)) (cZ (m:=(b6 g).2) (n:=1) rfl rfl) (lw (vb (decide (((b6 g).2)=1))) (aO rfl (dt q64) rfl) (mv (vb (decide (((b6 g).2)=1))) ?_)))
  have q68:((b6 g).2)=1:=by assumption
  refine lv (vi ((aF g u v).2)) (wy (dt q68)) (au rfl) (lv (vb (decide (((aF g u v).2)=1))) (wy (dt q68)) (cZ (m:=(aF g u v).2) (n:=1) rfl rfl) (lw (vb (decide (((aF g u v).2)=1))) (aO rfl (dt q68) rfl) (mv (vb (decide (((aF g u v).2)=1))) ?_)))
  have q72:((aF g u v).2)=1:=by assumption
  refine lv (vi ((aW g).2)) (wy (dt q72)) (au rfl) (lv (vb (decide (((aW g).2)=1))) (wy (dt q72)) (cZ (m:=(aW g).2) (n:=1) rfl rfl) (lw (vb (decide (((aW g).2)=1))) (aO rfl (dt q72) rfl) (mv (vb (decide (((aW g).2)=1))) ?_)))
  have q76:((aW g).2)=1:=by assumption
  refine lv (vi ((bc g).1)) (wy (dt q76)) (au rfl) (lv (v31) (wy (dt q76)) (au rfl) ?_)
  have C295:=cg [] (ch41.n.seq (ch48.n.seq (ch55.n.seq (hb59.n.seq hb61.n))))
  replace o32:=o32.ca C295
  have len296:=(o32.flat).small
  refine lv (vi (List.length ((b6 g).1):Int)) (wy (dt q76)) (bq dc rfl o32.flat) (lv (vi (((bc g).1)+(List.length ((b6 g).1):Int))) (wy (dt q76)) (aI (m:=(bc g).1) (n:=(List.length ((b6 g).1):Int)) rfl rfl (by omega)) (lv (v38) (wy (dt q76)) (au rfl) ?_))
  have C297:=cg [] (ch48.n.seq (ch55.n.seq (hb59.n.seq hb61.n)))
  replace o39:=o39.ca C297
  have len298:=(o39.sl).small
  refine lv (vi (List.length ((aF g u v).1):Int)) (wy (dt q76)) (bq dd rfl o39.sl) (lv (vi ((((bc g).1)+(List.length ((b6 g).1):Int))+(List.length ((aF g u v).1):Int))) (wy (dt q76)) (aI (m:=((bc g).1)+(List.length ((b6 g).1):Int)) (n:=(List.length ((aF g u v).1):Int)) rfl rfl (by omega)) (lv (v52) (wy (dt q76)) (au rfl) ?_))
  replace o53:=(o53.cn hb59).cn hb61
  have len299:=(o53.flat).small
  refine lv (vi (List.length ((aW g).1):Int)) (wy (dt q76)) (bq dc rfl o53.flat) (lv (vi (((((bc g).1)+(List.length ((b6 g).1):Int))+(List.length ((aF g u v).1):Int))+(List.length ((aW g).1):Int))) (wy (dt q76)) (aI (m:=(((bc g).1)+(List.length ((b6 g).1):Int))+(List.length ((aF g u v).1):Int)) (n:=(List.length ((aW g).1):Int)) rfl rfl (by omega)) (lv (vb (decide ((((((bc g).1)+(List.length ((b6 g).1):Int))+(List.length ((aF g u v).1):Int))+(List.length ((aW g).1):Int))=0))) (wy (dt q76)) (cZ (m:=((((bc g).1)+(List.length ((b6 g).1):Int))+(List.length ((aF g u v).1):Int))+(List.length ((aW g).1):Int)) (n:=0) rfl rfl) ?_))
  refine lw (vb (decide ((((((bc g).1)+(List.length ((b6 g).1):Int))+(List.length ((aF g u v).1):Int))+(List.length ((aW g).1):Int))=0))) (aO rfl (dt q76) rfl) (ma (vb (decide ((((((bc g).1)+(List.length ((b6 g).1):Int))+(List.length ((aF g u v).1):Int))+(List.length ((aW g).1):Int))=0))) (ab (aD (vs:=[vb (decide ((((((bc g).1)+(List.length ((b6 g).1):Int))+(List.length ((aF g u v).1):Int))+(List.length ((aW g).1):Int))=0))]) Try.func3 (.tmp rfl .nil) ?_)))
  have e0:(decide ((((((bc g).1)+(List.length ((b6 g).1):Int))+(List.length ((aF g u v).1):Int))+(List.length ((aW g).1):Int))=0):Bool)=(true):=by
    exact dt (by omega)
  have C300:=cg [3] (ch2.n.seq (hb7.n.seq (hb9.n.seq (ch16.n.seq (ch19.n.seq ((ch24.l rfl).seq (hb27.n.seq (ch34.n.seq (ch41.n.seq (ch48.n.seq (ch55.n.seq (hb59.n.seq hb61.n))))))))))))
  replace bH:=bH.ca C300
  exact⟨(congrArg (a₁:=decide ((((((bc g).1)+(List.length ((b6 g).1):Int))+(List.length ((aF g u v).1):Int))+(List.length ((aW g).1):Int))=0)) (λ(z0:Bool)=>Ending.returned (vb z0)) e0),bH.below⟩
 refine ah rfl (congrArg Bool.not (Bool.eq_false_iff.2 p3)) (aa ?_)
 clear bx5
 refine a8 rfl (ma (vb true) (ab (aD (vs:=[vb true]) Try.func3 (.tmp rfl .nil) ?_)))
 have e0:(true:Bool)=(true):=by
   rfl
 have C301:=cg [] (ch2.n.seq (hb7.n.seq hb9.n))
 replace bH:=bH.ca C301
 exact⟨rb e0,bH.below⟩
end TL
