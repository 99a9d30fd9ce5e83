import Derived.Test.YtbadiajeohbpcaaGreatTlP3
import Derived.Test.YtbadiajeohbpcaaGreatTlGkA
import Derived.Test.YtbadiajeohbpcaaGreatTlGkB
import Derived.Test.YtbadiajeohbpcaaGreatTlGkC
import Derived.Test.YtbadiajeohbpcaaGreatTlGkD
import Derived.Test.YtbadiajeohbpcaaGreatTlGkT
import Derived.Test.YtbadiajeohbpcaaGreatTlGkU
import Derived.Test.YtbadiajeohbpcaaGreatTlGjA
import Derived.Test.YtbadiajeohbpcaaGreatTlGjB
import Derived.Test.YtbadiajeohbpcaaGreatTlGjC
import Derived.Test.YtbadiajeohbpcaaGreatTlGjD
import Derived.Test.YtbadiajeohbpcaaGreatTlGjE
import Derived.Test.YtbadiajeohbpcaaGreatTlGjT
import Derived.Test.YtbadiajeohbpcaaGreatTlGenA
import Derived.Test.YtbadiajeohbpcaaGreatTlGenD
import Derived.Test.YtbadiajeohbpcaaGreatTlGenR
import Derived.Test.YtbadiajeohbpcaaGreatTlGenX
import Derived.Test.YtbadiajeohbpcaaGreatTlKeepA
import Derived.Test.YtbadiajeohbpcaaGreatProg
import Derived.Test.YtbadiajeohbpcaaGreatTlAli
set_option linter.all false
set_option maxRecDepth 20000
namespace TL
open Go Go.Proofs
theorem lW:Tryz.prog.follows .mixedOrders=true:=by kernel_rfl
theorem ey:Tp Tryz.prog 29 false 1 24 (.slice none 0 0):=Tp.of (by kernel_rfl)
theorem zC:Tryz.f4.body.isNone=false:=rfl
theorem z7:(Tryz.f4.name== "runtime.NumGoroutine")=false:=by decide+kernel
theorem zo:Tryz.f5.body.isNone=false:=rfl
theorem zU:(Tryz.f5.name== "runtime.NumGoroutine")=false:=by decide+kernel
theorem lJ:Tryz.f6.body.isNone=false:=rfl
theorem lF:(Tryz.f6.name== "runtime.NumGoroutine")=false:=by decide+kernel
theorem gg:Tryz.f7.body.isNone=false:=rfl
theorem gn:(Tryz.f7.name== "runtime.NumGoroutine")=false:=by decide+kernel
theorem xC:Tryz.f10.body.isNone=false:=rfl
theorem wM:(Tryz.f10.name== "runtime.NumGoroutine")=false:=by decide+kernel
theorem wx:Tryz.f12.body.isNone=false:=rfl
theorem yc:(Tryz.f12.name== "runtime.NumGoroutine")=false:=by decide+kernel
theorem yt:Tryz.f13.body.isNone=false:=rfl
theorem ww:(Tryz.f13.name== "runtime.NumGoroutine")=false:=by decide+kernel
theorem xu:Tryz.f14.body.isNone=false:=rfl
theorem yr:(Tryz.f14.name== "runtime.NumGoroutine")=false:=by decide+kernel
theorem xB:Tryz.f17.body.isNone=false:=rfl
theorem yl:(Tryz.f17.name== "runtime.NumGoroutine")=false:=by decide+kernel
theorem yb:Tryz.f18.body.isNone=false:=rfl
theorem wF:(Tryz.f18.name== "runtime.NumGoroutine")=false:=by decide+kernel
theorem yy:Tryz.f21.body.isNone=false:=rfl
theorem x3:(Tryz.f21.name== "runtime.NumGoroutine")=false:=by decide+kernel
theorem xl:Tryz.f22.body.isNone=false:=rfl
theorem yC:(Tryz.f22.name== "runtime.NumGoroutine")=false:=by decide+kernel
theorem wl:Tryz.f23.body.isNone=false:=rfl
theorem xK:(Tryz.f23.name== "runtime.NumGoroutine")=false:=by decide+kernel
theorem wk:Tryz.f56.body.isNone=false:=rfl
theorem wv:(Tryz.f56.name== "runtime.NumGoroutine")=false:=by decide+kernel
set_option maxHeartbeats 16000000 in
theorem oT(w0:World)(g:(Int)×(List Pt))(g_v:Value)(hg_v:Ro w0 g_v g.2)(p:(List Pt)×(List (List Pt)))(p_v p_v1:Value)(hp_v:Ro w0 p_v p.1)(hp_v1:Ro w0 p_v1 p.2)(r:cT)(r_v:Value)(hr_v:Ro w0 r_v r)(hg:(g.2.length:Int)<=1048576)(hb:zK p):
    Calls Tryz.prog 3 #[vg [vi g.1,g_v],vg [p_v,p_v1],r_v] w0 (λee w=>ee= .returned (vb true)/\cE w0.heap.size w0 w):=by
 refine au Tryz.func3 rfl nq ?_
 have bH:=aT.start w0
 have Rg:=hg_v.sl
 have Rp:=hp_v.sl
 have r_p_v1:=hp_v1.sl
 have Rr:=hr_v.sl
 obtain⟨⟨hb1,hb2,hb3⟩,hb4,hb5⟩:=hb
 have htlen:=sv g p
 refine a7 (a6 rfl (bW rfl (bh c0 (is 1) (1,0) rfl rfl ?_)))
 intro g4 w1 b3 ch2 bx5
 replace bx5:Bx g4 (is 1) w1 b3 [vi g.1,g_v]:=bx5
 refine lo (bh g4 (is 2) (2,0) rfl rfl ?_)
 intro g9 w6 b8 ch7 bx10
 replace bx10:Bx g9 (is 2) w6 b8 [p_v,p_v1]:=bx10
 refine ma (vb false) (aa (a7 (a7 (a6 rfl (bW rfl (aO (v:=vb true) (aA (vals:=[]) Tryz.func4 zC z7 rfl) (q9 w6) ?_))))))
 intro w11 hb12
 replace hb12:=ao hb12 g9
 refine lx (bZ (b:=true) rfl) (aa (ag rfl rfl (ak (a7 (a7 (a6 rfl ?_))))))
 replace bx5:=(bx5.cn ch7).cn hb12
 refine lx (aj (ds:=[vi g.1,g_v]) bF rfl bx5 rfl rfl) ?_
 replace bx10:=bx10.cn hb12
 refine lx (aj (ds:=[p_v,p_v1]) bI rfl bx10 rfl rfl) ?_
 have C13:=cg [] (ch2.n.seq (ch7.n.seq hb12.n))
 replace Rg:=Rg.ca C13
 replace Rp:=Rp.ca C13
 replace r_p_v1:=r_p_v1.ca C13
 refine lo (aO (v:=vb (decide (eD g p))) (aA (vals:=[vg [vi g.1,g_v],vg [p_v,p_v1]]) Tryz.func5 zo zU rfl) (qy w11 g g_v (Rg).ro p p_v p_v1 (Rp).ro (r_p_v1).ro ‹_› ‹_› ‹_›) ?_)
 intro w14 hb15
 replace hb15:=ao hb15 g9
 refine lx (bZ (b:=(decide (eD g p))) rfl) (mv (vb (!(decide (eD g p)))) ?_)
 by_cases q30:(decide (eD g p))=true
 ·
  obtain⟨hfew,⟨hp4,hp5⟩,hp6⟩:=sI (of_decide_eq_true q30)
  refine lv (r_v) (wy (congrArg Bool.not q30)) (aq rfl) ?_
  have C16:=cg [] (ch2.n.seq (ch7.n.seq (hb12.n.seq hb15.n)))
  replace Rr:=Rr.ca C16
  have len17:=(Rr).small
  refine lv (vi (r.length:Int)) (wy (congrArg Bool.not q30)) (aQ ik rfl Rr) (lv (vb (decide (60<(r.length:Int)))) (wy (congrArg Bool.not q30)) (d8 (m:=(r.length:Int)) (n:=60) rfl rfl) (lw (vb (decide (60<(r.length:Int)))) (aB rfl (congrArg Bool.not q30) rfl) (aa ?_)))
  by_cases p3:60<(r.length:Int)
  ·
   refine af rfl (dt p3) (a7 ?_)
   clear bx5 bx10
   refine a6 rfl (ma (vb true) (aa (ar (vs:=[vb true]) Tryz.func3 (.tmp rfl .nil) ?_)))
   have e0:(true:Bool)=(true):=by
     rfl
   replace bH:=bH.ca C16
   exact⟨rb e0,bH.below⟩
  refine ag rfl (df p3) (ak (a7 ?_))
  refine dj (σ:=Nat×Nat×Value×Value×Value×aK) (λ⟨b43,b49,v23,v32,v34,gq⟩ f w=>aT w0 gq w/\f 2=r_v/\f 3=vp b3 0/\f 4=vp b8 0/\f 7=vp b43 0/\f 8=vp b49 0/\Sl gq (is 0) w g_v g.2/\Sl gq (is 0) w p_v p.1/\Sl gq (is 0) w p_v1 p.2/\Sl gq (is 0) w r_v r/\Bx gq (is 1) w b3 [vi g.1,g_v]/\Bx gq (is 2) w b8 [p_v,p_v1]/\Ow gq (is 3) (is 3) w (fS v23) (g.2++[((-7:Int),(7:Int))])/\Sl gq (is 3) w v23 g.2/\Ow gq (is 4) (is 4) w (fS v32) (p.1++[((-7:Int),(7:Int))])/\Sl gq (is 4) w v32 p.1/\Ow gq (is 5) (is 5) w (u5 v34) (kV p.2)/\Sl gq (is 5) w v34 p.2/\Bx gq (is 6) w b43 [vi g.1,v23]/\Bx gq (is 7) w b49 [v32,v34]) g9 (bV [6,7]) lW ?_ ?_
  ·
   intro mid
   intro w19 ch18
   replace bx5:=(bx5.cn hb15).cn ch18
   refine ht 0 rfl (bj.refl _ _ _) (λw' hw'=>aj (ds:=[vi g.1,g_v]) bF rfl (bx5.chg hw' (bD rfl)) rfl rfl) ?_
   replace bx10:=(bx10.cn hb15).cn ch18
   refine ht 2 rfl (bj.refl _ _ _) (λw' hw'=>aj (ds:=[p_v,p_v1]) bI rfl (bx10.chg hw' (bD rfl)) rfl rfl) ?_
   refine cy 1 [4,5] (by kernel_rfl) ⟨cv 1 rfl (by kernel_rfl) rfl ?_,cv 4 rfl (by kernel_rfl) rfl ?_,cv 5 rfl (by kernel_rfl) rfl ?_,trivial⟩
   ·
    replace Rg:=(Rg.cn hb15).cn ch18
    refine bi (aA (vals:=[vg [vi g.1,g_v]]) Tryz.func6 lJ lF rfl) (kk w19 g g_v (Rg).ro (by omega)) ?_
    rintro⟨d21,v23⟩ w20 ⟨fr22,o24⟩
    obtain⟨g25,ch26,G25⟩:=fC g9 fr22 (λn=>if n=1 then 3 else 0)
    replace o24:=o24.gl G25 3
    have r27:=cz o24.flat
    have hs28:bj (bV [6,7]) _ _ _ _:=ch26.n
    refine⟨hs28.same,?_⟩
    refine cy 3 [4,5] (by kernel_rfl) ⟨cv 3 rfl (by kernel_rfl) rfl ?_,cv 4 rfl (by kernel_rfl) rfl ?_,cv 5 rfl (by kernel_rfl) rfl ?_,trivial⟩
    ·
     replace Rp:=(Rp.cn hb15).cn ch18
     replace r_p_v1:=(r_p_v1.cn hb15).cn ch18
     refine bi (aA (vals:=[vg [p_v,p_v1]]) Tryz.func7 gg gn rfl) (eh w20 p p_v p_v1 ((Rp.ca hs28)).ro ((r_p_v1.ca hs28)).ro (by omega) (by omega) (by exact d3 hp6)) ?_
     rintro⟨d30,v32,v34⟩ w29 ⟨fr31,o33,o35⟩
     obtain⟨g36,ch37,G36⟩:=fC g25 fr31 (λn=>if n=1 then 4 else if n=2 then 5 else 0)
     replace o33:=o33.gl G36 4
     have r38:=cz o33.flat
     replace o35:=o35.gl G36 5
     have r39:=gb o35.sl_same
     have hs40:=hs28.seq (ch37.n)
     refine⟨hs40.same,?_⟩
     refine cy 4 [5] (by kernel_rfl) ⟨cv 4 rfl (by kernel_rfl) rfl ?_,cv 5 rfl (by kernel_rfl) rfl ?_,trivial⟩
     ·
      refine aS g36 (is 6) (6,0) rfl bF ?_
      intro g44 w41 b43 ch42 bx45
      replace bx45:Bx g44 (is 6) w41 b43 [vi 0,vn]:=bx45
      have hs46:=hs40.seq (ch42.n)
      refine⟨hs46.same,?_⟩
      refine aP 5 rfl (by kernel_rfl) rfl (aS g44 (is 7) (7,0) rfl bI ?_)
      intro g50 w47 b49 ch48 bx51
      replace bx51:Bx g50 (is 7) w47 b49 [vn,vn]:=bx51
      have hs52:=hs46.seq (ch48.n)
      refine⟨hs52.same,?_⟩
      refine aP 6 rfl (by kernel_rfl) rfl ?_
      replace bx45:=bx45.cn ch48
      have C56:=cg [] (ch37.n.seq (ch42.n.seq ch48.n))
      replace r27:=r27.ca C56
      refine aw (cs':=[vi g.1,v23]) bF rfl rfl bx45 rfl nq (AllOne.all (.cons rfl (.cons (bu r27) .nil))) rfl ?_
      intro w53 ch54 bx55
      clear bx45
      have hs57:=hs52.seq (ch54.l rfl)
      refine⟨hs57.same,?_⟩
      refine aP 7 rfl (by kernel_rfl) rfl ?_
      replace bx51:=bx51.ce ch54
      have C61:=cg [6] (ch42.n.seq (ch48.n.seq (ch54.l rfl)))
      replace r39:=r39.ca C61
      replace r38:=r38.ca C61
      refine aw (cs':=[v32,v34]) bI rfl rfl bx51 rfl nq (AllOne.all (.cons (bu r38) (.cons (bu r39) .nil))) rfl ?_
      intro w58 ch59 bx60
      clear bx51
      have hs62:=hs57.seq (ch59.l rfl)
      refine⟨hs62.same,?_⟩
      refine c9 (by kernel_rfl) ?_
      have C65:=cg [6,7] (ch42.n.seq (ch48.n.seq ((ch54.l rfl).seq (ch59.l rfl))))
      have C64:=ch37.n.seq C65
      have C63:=ch2.n.seq (ch7.n.seq (hb12.n.seq (hb15.n.seq (ch18.n.seq (ch26.n.seq C64)))))
      replace Rr:=Rr.cn ch18
      exact mid (b43,b49,v23,v32,v34,g50) _ _ ⟨bH.ca C63,rfl,rfl,rfl,rfl,rfl,(Rg.ca hs62),(Rp.ca hs62),(r_p_v1.ca hs62),(Rr.ca hs62),(bx5.ca hs62),(bx10.ca hs62),o24.ca C64,(r27.ce ch54).ce ch59,o33.ca C65,r38.ce ch59,o35.ca C65,r39.ce ch59,bx55.ce ch59,bx60⟩
     ·
      refine aS g36 (is 7) (7,0) rfl bI ?_
      intro g69 w66 b68 ch67 bx70
      replace bx70:Bx g69 (is 7) w66 b68 [vn,vn]:=bx70
      have hs71:=hs40.seq (ch67.n)
      refine⟨hs71.same,?_⟩
      refine aP 4 rfl (by kernel_rfl) rfl (aS g69 (is 6) (6,0) rfl bF ?_)
      intro g75 w72 b74 ch73 bx76
      replace bx76:Bx g75 (is 6) w72 b74 [vi 0,vn]:=bx76
      have hs77:=hs71.seq (ch73.n)
      refine⟨hs77.same,?_⟩
      refine aP 6 rfl (by kernel_rfl) rfl ?_
      have C81:=cg [] (ch37.n.seq (ch67.n.seq ch73.n))
      replace r27:=r27.ca C81
      refine aw (cs':=[vi g.1,v23]) bF rfl rfl bx76 rfl nq (AllOne.all (.cons rfl (.cons (bu r27) .nil))) rfl ?_
      intro w78 ch79 bx80
      clear bx76
      have hs82:=hs77.seq (ch79.l rfl)
      refine⟨hs82.same,?_⟩
      refine aP 7 rfl (by kernel_rfl) rfl ?_
      replace bx70:=(bx70.cn ch73).ce ch79
      have C86:=cg [6] (ch67.n.seq (ch73.n.seq (ch79.l rfl)))
      replace r39:=r39.ca C86
      replace r38:=r38.ca C86
      refine aw (cs':=[v32,v34]) bI rfl rfl bx70 rfl nq (AllOne.all (.cons (bu r38) (.cons (bu r39) .nil))) rfl ?_
      intro w83 ch84 bx85
      clear bx70
      have hs87:=hs82.seq (ch84.l rfl)
      refine⟨hs87.same,?_⟩
      refine c9 (by kernel_rfl) ?_
      have C90:=cg [6,7] (ch67.n.seq (ch73.n.seq ((ch79.l rfl).seq (ch84.l rfl))))
      have C89:=ch37.n.seq C90
      have C88:=ch2.n.seq (ch7.n.seq (hb12.n.seq (hb15.n.seq (ch18.n.seq (ch26.n.seq C89)))))
      replace Rr:=Rr.cn ch18
      exact mid (b74,b68,v23,v32,v34,g75) _ _ ⟨bH.ca C88,rfl,rfl,rfl,rfl,rfl,(Rg.ca hs87),(Rp.ca hs87),(r_p_v1.ca hs87),(Rr.ca hs87),(bx5.ca hs87),(bx10.ca hs87),o24.ca C89,(r27.ce ch79).ce ch84,o33.ca C90,r38.ce ch84,o35.ca C90,r39.ce ch84,bx80.ce ch84,bx85⟩
    ·
     refine aS g25 (is 6) (6,0) rfl bF ?_
     intro g94 w91 b93 ch92 bx95
     replace bx95:Bx g94 (is 6) w91 b93 [vi 0,vn]:=bx95
     have hs96:=hs28.seq (ch92.n)
     refine⟨hs96.same,?_⟩
     refine cy 3 [5] (by kernel_rfl) ⟨cv 3 rfl (by kernel_rfl) rfl ?_,cv 5 rfl (by kernel_rfl) rfl ?_,trivial⟩
     ·
      replace Rp:=(Rp.cn hb15).cn ch18
      replace r_p_v1:=(r_p_v1.cn hb15).cn ch18
      refine bi (aA (vals:=[vg [p_v,p_v1]]) Tryz.func7 gg gn rfl) (eh w91 p p_v p_v1 ((Rp.ca hs96)).ro ((r_p_v1.ca hs96)).ro (by omega) (by omega) (by exact d3 hp6)) ?_
      rintro⟨d98,v100,v102⟩ w97 ⟨fr99,o101,o103⟩
      obtain⟨g104,ch105,G104⟩:=fC g94 fr99 (λn=>if n=1 then 4 else if n=2 then 5 else 0)
      replace o101:=o101.gl G104 4
      have r106:=cz o101.flat
      replace o103:=o103.gl G104 5
      have r107:=gb o103.sl_same
      have hs108:=hs96.seq (ch105.n)
      refine⟨hs108.same,?_⟩
      refine aP 5 rfl (by kernel_rfl) rfl (aS g104 (is 7) (7,0) rfl bI ?_)
      intro g112 w109 b111 ch110 bx113
      replace bx113:Bx g112 (is 7) w109 b111 [vn,vn]:=bx113
      have hs114:=hs108.seq (ch110.n)
      refine⟨hs114.same,?_⟩
      refine aP 6 rfl (by kernel_rfl) rfl ?_
      replace bx95:=(bx95.cn ch105).cn ch110
      have C118:=cg [] (ch92.n.seq (ch105.n.seq ch110.n))
      replace r27:=r27.ca C118
      refine aw (cs':=[vi g.1,v23]) bF rfl rfl bx95 rfl nq (AllOne.all (.cons rfl (.cons (bu r27) .nil))) rfl ?_
      intro w115 ch116 bx117
      clear bx95
      have hs119:=hs114.seq (ch116.l rfl)
      refine⟨hs119.same,?_⟩
      refine aP 7 rfl (by kernel_rfl) rfl ?_
      replace bx113:=bx113.ce ch116
      replace r107:=(r107.cn ch110).ce ch116
      replace r106:=(r106.cn ch110).ce ch116
      refine aw (cs':=[v100,v102]) bI rfl rfl bx113 rfl nq (AllOne.all (.cons (bu r106) (.cons (bu r107) .nil))) rfl ?_
      intro w120 ch121 bx122
      clear bx113
      have hs123:=hs119.seq (ch121.l rfl)
      refine⟨hs123.same,?_⟩
      refine c9 (by kernel_rfl) ?_
      have C126:=cg [6,7] (ch110.n.seq ((ch116.l rfl).seq (ch121.l rfl)))
      have C125:=ch92.n.seq (ch105.n.seq C126)
      have C124:=ch2.n.seq (ch7.n.seq (hb12.n.seq (hb15.n.seq (ch18.n.seq (ch26.n.seq C125)))))
      replace Rr:=Rr.cn ch18
      exact mid (b93,b111,v23,v100,v102,g112) _ _ ⟨bH.ca C124,rfl,rfl,rfl,rfl,rfl,(Rg.ca hs123),(Rp.ca hs123),(r_p_v1.ca hs123),(Rr.ca hs123),(bx5.ca hs123),(bx10.ca hs123),o24.ca C125,(r27.ce ch116).ce ch121,o101.ca C126,r106.ce ch121,o103.ca C126,r107.ce ch121,bx117.ce ch121,bx122⟩
     ·
      refine aS g94 (is 7) (7,0) rfl bI ?_
      intro g130 w127 b129 ch128 bx131
      replace bx131:Bx g130 (is 7) w127 b129 [vn,vn]:=bx131
      have hs132:=hs96.seq (ch128.n)
      refine⟨hs132.same,?_⟩
      refine aP 3 rfl (by kernel_rfl) rfl ?_
      replace Rp:=(Rp.cn hb15).cn ch18
      replace r_p_v1:=(r_p_v1.cn hb15).cn ch18
      refine bi (aA (vals:=[vg [p_v,p_v1]]) Tryz.func7 gg gn rfl) (eh w127 p p_v p_v1 ((Rp.ca hs132)).ro ((r_p_v1.ca hs132)).ro (by omega) (by omega) (by exact d3 hp6)) ?_
      rintro⟨d134,v136,v138⟩ w133 ⟨fr135,o137,o139⟩
      obtain⟨g140,ch141,G140⟩:=fC g130 fr135 (λn=>if n=1 then 4 else if n=2 then 5 else 0)
      replace o137:=o137.gl G140 4
      have r142:=cz o137.flat
      replace o139:=o139.gl G140 5
      have r143:=gb o139.sl_same
      have hs144:=hs132.seq (ch141.n)
      refine⟨hs144.same,?_⟩
      refine aP 6 rfl (by kernel_rfl) rfl ?_
      replace bx95:=(bx95.cn ch128).cn ch141
      have C148:=cg [] (ch92.n.seq (ch128.n.seq ch141.n))
      replace r27:=r27.ca C148
      refine aw (cs':=[vi g.1,v23]) bF rfl rfl bx95 rfl nq (AllOne.all (.cons rfl (.cons (bu r27) .nil))) rfl ?_
      intro w145 ch146 bx147
      clear bx95
      have hs149:=hs144.seq (ch146.l rfl)
      refine⟨hs149.same,?_⟩
      refine aP 7 rfl (by kernel_rfl) rfl ?_
      replace bx131:=(bx131.cn ch141).ce ch146
      replace r143:=r143.ce ch146
      replace r142:=r142.ce ch146
      refine aw (cs':=[v136,v138]) bI rfl rfl bx131 rfl nq (AllOne.all (.cons (bu r142) (.cons (bu r143) .nil))) rfl ?_
      intro w150 ch151 bx152
      clear bx131
      have hs153:=hs149.seq (ch151.l rfl)
      refine⟨hs153.same,?_⟩
      refine c9 (by kernel_rfl) ?_
      have C155:=cg [6,7] (ch92.n.seq (ch128.n.seq (ch141.n.seq ((ch146.l rfl).seq (ch151.l rfl)))))
      have C154:=ch2.n.seq (ch7.n.seq (hb12.n.seq (hb15.n.seq (ch18.n.seq (ch26.n.seq C155)))))
      replace Rr:=Rr.cn ch18
      exact mid (b93,b129,v23,v136,v138,g140) _ _ ⟨bH.ca C154,rfl,rfl,rfl,rfl,rfl,(Rg.ca hs153),(Rp.ca hs153),(r_p_v1.ca hs153),(Rr.ca hs153),(bx5.ca hs153),(bx10.ca hs153),o24.ca C155,(r27.ce ch146).ce ch151,(o137.ce ch146).ce ch151,r142.ce ch151,(o139.ce ch146).ce ch151,r143.ce ch151,bx147.ce ch151,bx152⟩
    ·
     refine aS g25 (is 7) (7,0) rfl bI ?_
     intro g159 w156 b158 ch157 bx160
     replace bx160:Bx g159 (is 7) w156 b158 [vn,vn]:=bx160
     have hs161:=hs28.seq (ch157.n)
     refine⟨hs161.same,?_⟩
     refine cy 3 [4] (by kernel_rfl) ⟨cv 3 rfl (by kernel_rfl) rfl ?_,cv 4 rfl (by kernel_rfl) rfl ?_,trivial⟩
     ·
      replace Rp:=(Rp.cn hb15).cn ch18
      replace r_p_v1:=(r_p_v1.cn hb15).cn ch18
      refine bi (aA (vals:=[vg [p_v,p_v1]]) Tryz.func7 gg gn rfl) (eh w156 p p_v p_v1 ((Rp.ca hs161)).ro ((r_p_v1.ca hs161)).ro (by omega) (by omega) (by exact d3 hp6)) ?_
      rintro⟨d163,v165,v167⟩ w162 ⟨fr164,o166,o168⟩
      obtain⟨g169,ch170,G169⟩:=fC g159 fr164 (λn=>if n=1 then 4 else if n=2 then 5 else 0)
      replace o166:=o166.gl G169 4
      have r171:=cz o166.flat
      replace o168:=o168.gl G169 5
      have r172:=gb o168.sl_same
      have hs173:=hs161.seq (ch170.n)
      refine⟨hs173.same,?_⟩
      refine aP 4 rfl (by kernel_rfl) rfl (aS g169 (is 6) (6,0) rfl bF ?_)
      intro g177 w174 b176 ch175 bx178
      replace bx178:Bx g177 (is 6) w174 b176 [vi 0,vn]:=bx178
      have hs179:=hs173.seq (ch175.n)
      refine⟨hs179.same,?_⟩
      refine aP 6 rfl (by kernel_rfl) rfl ?_
      have C183:=cg [] (ch157.n.seq (ch170.n.seq ch175.n))
      replace r27:=r27.ca C183
      refine aw (cs':=[vi g.1,v23]) bF rfl rfl bx178 rfl nq (AllOne.all (.cons rfl (.cons (bu r27) .nil))) rfl ?_
      intro w180 ch181 bx182
      clear bx178
      have hs184:=hs179.seq (ch181.l rfl)
      refine⟨hs184.same,?_⟩
      refine aP 7 rfl (by kernel_rfl) rfl ?_
      have C188:=cg [6] (ch170.n.seq (ch175.n.seq (ch181.l rfl)))
      replace bx160:=bx160.ca C188
      replace r172:=(r172.cn ch175).ce ch181
      replace r171:=(r171.cn ch175).ce ch181
      refine aw (cs':=[v165,v167]) bI rfl rfl bx160 rfl nq (AllOne.all (.cons (bu r171) (.cons (bu r172) .nil))) rfl ?_
      intro w185 ch186 bx187
      clear bx160
      have hs189:=hs184.seq (ch186.l rfl)
      refine⟨hs189.same,?_⟩
      refine c9 (by kernel_rfl) ?_
      have C192:=cg [6,7] (ch175.n.seq ((ch181.l rfl).seq (ch186.l rfl)))
      have C191:=ch157.n.seq (ch170.n.seq C192)
      have C190:=ch2.n.seq (ch7.n.seq (hb12.n.seq (hb15.n.seq (ch18.n.seq (ch26.n.seq C191)))))
      replace Rr:=Rr.cn ch18
      exact mid (b176,b158,v23,v165,v167,g177) _ _ ⟨bH.ca C190,rfl,rfl,rfl,rfl,rfl,(Rg.ca hs189),(Rp.ca hs189),(r_p_v1.ca hs189),(Rr.ca hs189),(bx5.ca hs189),(bx10.ca hs189),o24.ca C191,(r27.ce ch181).ce ch186,o166.ca C192,r171.ce ch186,o168.ca C192,r172.ce ch186,bx182.ce ch186,bx187⟩
     ·
      refine aS g159 (is 6) (6,0) rfl bF ?_
      intro g196 w193 b195 ch194 bx197
      replace bx197:Bx g196 (is 6) w193 b195 [vi 0,vn]:=bx197
      have hs198:=hs161.seq (ch194.n)
      refine⟨hs198.same,?_⟩
      refine aP 3 rfl (by kernel_rfl) rfl ?_
      replace Rp:=(Rp.cn hb15).cn ch18
      replace r_p_v1:=(r_p_v1.cn hb15).cn ch18
      refine bi (aA (vals:=[vg [p_v,p_v1]]) Tryz.func7 gg gn rfl) (eh w193 p p_v p_v1 ((Rp.ca hs198)).ro ((r_p_v1.ca hs198)).ro (by omega) (by omega) (by exact d3 hp6)) ?_
      rintro⟨d200,v202,v204⟩ w199 ⟨fr201,o203,o205⟩
      obtain⟨g206,ch207,G206⟩:=fC g196 fr201 (λn=>if n=1 then 4 else if n=2 then 5 else 0)
      replace o203:=o203.gl G206 4
      have r208:=cz o203.flat
      replace o205:=o205.gl G206 5
      have r209:=gb o205.sl_same
      have hs210:=hs198.seq (ch207.n)
      refine⟨hs210.same,?_⟩
      refine aP 6 rfl (by kernel_rfl) rfl ?_
      replace bx197:=bx197.cn ch207
      have C214:=cg [] (ch157.n.seq (ch194.n.seq ch207.n))
      replace r27:=r27.ca C214
      refine aw (cs':=[vi g.1,v23]) bF rfl rfl bx197 rfl nq (AllOne.all (.cons rfl (.cons (bu r27) .nil))) rfl ?_
      intro w211 ch212 bx213
      clear bx197
      have hs215:=hs210.seq (ch212.l rfl)
      refine⟨hs215.same,?_⟩
      refine aP 7 rfl (by kernel_rfl) rfl ?_
      have C219:=cg [6] (ch194.n.seq (ch207.n.seq (ch212.l rfl)))
      replace bx160:=bx160.ca C219
      replace r209:=r209.ce ch212
      replace r208:=r208.ce ch212
      refine aw (cs':=[v202,v204]) bI rfl rfl bx160 rfl nq (AllOne.all (.cons (bu r208) (.cons (bu r209) .nil))) rfl ?_
      intro w216 ch217 bx218
      clear bx160
      have hs220:=hs215.seq (ch217.l rfl)
      refine⟨hs220.same,?_⟩
      refine c9 (by kernel_rfl) ?_
      have C222:=cg [6,7] (ch157.n.seq (ch194.n.seq (ch207.n.seq ((ch212.l rfl).seq (ch217.l rfl)))))
      have C221:=ch2.n.seq (ch7.n.seq (hb12.n.seq (hb15.n.seq (ch18.n.seq (ch26.n.seq C222)))))
      replace Rr:=Rr.cn ch18
      exact mid (b195,b158,v23,v202,v204,g206) _ _ ⟨bH.ca C221,rfl,rfl,rfl,rfl,rfl,(Rg.ca hs220),(Rp.ca hs220),(r_p_v1.ca hs220),(Rr.ca hs220),(bx5.ca hs220),(bx10.ca hs220),o24.ca C222,(r27.ce ch212).ce ch217,(o203.ce ch212).ce ch217,r208.ce ch217,(o205.ce ch212).ce ch217,r209.ce ch217,bx213.ce ch217,bx218⟩
   ·
    refine aS g9 (is 6) (6,0) rfl bF ?_
    intro g226 w223 b225 ch224 bx227
    replace bx227:Bx g226 (is 6) w223 b225 [vi 0,vn]:=bx227
    have hs228:bj (bV [6,7]) _ _ _ _:=ch224.n
    refine⟨hs228.same,?_⟩
    refine cy 1 [5] (by kernel_rfl) ⟨cv 1 rfl (by kernel_rfl) rfl ?_,cv 5 rfl (by kernel_rfl) rfl ?_,trivial⟩
    ·
     replace Rg:=(Rg.cn hb15).cn ch18
     refine bi (aA (vals:=[vg [vi g.1,g_v]]) Tryz.func6 lJ lF rfl) (kk w223 g g_v ((Rg.ca hs228)).ro (by omega)) ?_
     rintro⟨d230,v232⟩ w229 ⟨fr231,o233⟩
     obtain⟨g234,ch235,G234⟩:=fC g226 fr231 (λn=>if n=1 then 3 else 0)
     replace o233:=o233.gl G234 3
     have r236:=cz o233.flat
     have hs237:=hs228.seq (ch235.n)
     refine⟨hs237.same,?_⟩
     refine cy 3 [5] (by kernel_rfl) ⟨cv 3 rfl (by kernel_rfl) rfl ?_,cv 5 rfl (by kernel_rfl) rfl ?_,trivial⟩
     ·
      replace Rp:=(Rp.cn hb15).cn ch18
      replace r_p_v1:=(r_p_v1.cn hb15).cn ch18
      refine bi (aA (vals:=[vg [p_v,p_v1]]) Tryz.func7 gg gn rfl) (eh w229 p p_v p_v1 ((Rp.ca hs237)).ro ((r_p_v1.ca hs237)).ro (by omega) (by omega) (by exact d3 hp6)) ?_
      rintro⟨d239,v241,v243⟩ w238 ⟨fr240,o242,o244⟩
      obtain⟨g245,ch246,G245⟩:=fC g234 fr240 (λn=>if n=1 then 4 else if n=2 then 5 else 0)
      replace o242:=o242.gl G245 4
      have r247:=cz o242.flat
      replace o244:=o244.gl G245 5
      have r248:=gb o244.sl_same
      have hs249:=hs237.seq (ch246.n)
      refine⟨hs249.same,?_⟩
      refine aP 5 rfl (by kernel_rfl) rfl (aS g245 (is 7) (7,0) rfl bI ?_)
      intro g253 w250 b252 ch251 bx254
      replace bx254:Bx g253 (is 7) w250 b252 [vn,vn]:=bx254
      have hs255:=hs249.seq (ch251.n)
      refine⟨hs255.same,?_⟩
      refine aP 6 rfl (by kernel_rfl) rfl ?_
      have C259:=cg [] (ch235.n.seq (ch246.n.seq ch251.n))
      replace bx227:=bx227.ca C259
      replace r236:=(r236.cn ch246).cn ch251
      refine aw (cs':=[vi g.1,v232]) bF rfl rfl bx227 rfl nq (AllOne.all (.cons rfl (.cons (bu r236) .nil))) rfl ?_
      intro w256 ch257 bx258
      clear bx227
      have hs260:=hs255.seq (ch257.l rfl)
      refine⟨hs260.same,?_⟩
      refine aP 7 rfl (by kernel_rfl) rfl ?_
      replace bx254:=bx254.ce ch257
      replace r248:=(r248.cn ch251).ce ch257
      replace r247:=(r247.cn ch251).ce ch257
      refine aw (cs':=[v241,v243]) bI rfl rfl bx254 rfl nq (AllOne.all (.cons (bu r247) (.cons (bu r248) .nil))) rfl ?_
      intro w261 ch262 bx263
      clear bx254
      have hs264:=hs260.seq (ch262.l rfl)
      refine⟨hs264.same,?_⟩
      refine c9 (by kernel_rfl) ?_
      have C267:=cg [6,7] (ch251.n.seq ((ch257.l rfl).seq (ch262.l rfl)))
      have C266:=ch246.n.seq C267
      have C265:=ch2.n.seq (ch7.n.seq (hb12.n.seq (hb15.n.seq (ch18.n.seq (ch224.n.seq (ch235.n.seq C266))))))
      replace Rr:=Rr.cn ch18
      exact mid (b225,b252,v232,v241,v243,g253) _ _ ⟨bH.ca C265,rfl,rfl,rfl,rfl,rfl,(Rg.ca hs264),(Rp.ca hs264),(r_p_v1.ca hs264),(Rr.ca hs264),(bx5.ca hs264),(bx10.ca hs264),o233.ca C266,(r236.ce ch257).ce ch262,o242.ca C267,r247.ce ch262,o244.ca C267,r248.ce ch262,bx258.ce ch262,bx263⟩
     ·
      refine aS g234 (is 7) (7,0) rfl bI ?_
      intro g271 w268 b270 ch269 bx272
      replace bx272:Bx g271 (is 7) w268 b270 [vn,vn]:=bx272
      have hs273:=hs237.seq (ch269.n)
      refine⟨hs273.same,?_⟩
      refine aP 3 rfl (by kernel_rfl) rfl ?_
      replace Rp:=(Rp.cn hb15).cn ch18
      replace r_p_v1:=(r_p_v1.cn hb15).cn ch18
      refine bi (aA (vals:=[vg [p_v,p_v1]]) Tryz.func7 gg gn rfl) (eh w268 p p_v p_v1 ((Rp.ca hs273)).ro ((r_p_v1.ca hs273)).ro (by omega) (by omega) (by exact d3 hp6)) ?_
      rintro⟨d275,v277,v279⟩ w274 ⟨fr276,o278,o280⟩
      obtain⟨g281,ch282,G281⟩:=fC g271 fr276 (λn=>if n=1 then 4 else if n=2 then 5 else 0)
      replace o278:=o278.gl G281 4
      have r283:=cz o278.flat
      replace o280:=o280.gl G281 5
      have r284:=gb o280.sl_same
      have hs285:=hs273.seq (ch282.n)
      refine⟨hs285.same,?_⟩
      refine aP 6 rfl (by kernel_rfl) rfl ?_
      have C289:=cg [] (ch235.n.seq (ch269.n.seq ch282.n))
      replace bx227:=bx227.ca C289
      replace r236:=(r236.cn ch269).cn ch282
      refine aw (cs':=[vi g.1,v232]) bF rfl rfl bx227 rfl nq (AllOne.all (.cons rfl (.cons (bu r236) .nil))) rfl ?_
      intro w286 ch287 bx288
      clear bx227
      have hs290:=hs285.seq (ch287.l rfl)
      refine⟨hs290.same,?_⟩
      refine aP 7 rfl (by kernel_rfl) rfl ?_
      replace bx272:=(bx272.cn ch282).ce ch287
      replace r284:=r284.ce ch287
      replace r283:=r283.ce ch287
      refine aw (cs':=[v277,v279]) bI rfl rfl bx272 rfl nq (AllOne.all (.cons (bu r283) (.cons (bu r284) .nil))) rfl ?_
      intro w291 ch292 bx293
      clear bx272
      have hs294:=hs290.seq (ch292.l rfl)
      refine⟨hs294.same,?_⟩
      refine c9 (by kernel_rfl) ?_
      have C296:=cg [6,7] (ch269.n.seq (ch282.n.seq ((ch287.l rfl).seq (ch292.l rfl))))
      have C295:=ch2.n.seq (ch7.n.seq (hb12.n.seq (hb15.n.seq (ch18.n.seq (ch224.n.seq (ch235.n.seq C296))))))
      replace Rr:=Rr.cn ch18
      exact mid (b225,b270,v232,v277,v279,g281) _ _ ⟨bH.ca C295,rfl,rfl,rfl,rfl,rfl,(Rg.ca hs294),(Rp.ca hs294),(r_p_v1.ca hs294),(Rr.ca hs294),(bx5.ca hs294),(bx10.ca hs294),o233.ca C296,(r236.ce ch287).ce ch292,(o278.ce ch287).ce ch292,r283.ce ch292,(o280.ce ch287).ce ch292,r284.ce ch292,bx288.ce ch292,bx293⟩
    ·
     refine aS g226 (is 7) (7,0) rfl bI ?_
     intro g300 w297 b299 ch298 bx301
     replace bx301:Bx g300 (is 7) w297 b299 [vn,vn]:=bx301
     have hs302:=hs228.seq (ch298.n)
     refine⟨hs302.same,?_⟩
     refine aP 1 rfl (by kernel_rfl) rfl ?_
     replace Rg:=(Rg.cn hb15).cn ch18
     refine bi (aA (vals:=[vg [vi g.1,g_v]]) Tryz.func6 lJ lF rfl) (kk w297 g g_v ((Rg.ca hs302)).ro (by omega)) ?_
     rintro⟨d304,v306⟩ w303 ⟨fr305,o307⟩
     obtain⟨g308,ch309,G308⟩:=fC g300 fr305 (λn=>if n=1 then 3 else 0)
     replace o307:=o307.gl G308 3
     have r310:=cz o307.flat
     have hs311:=hs302.seq (ch309.n)
     refine⟨hs311.same,?_⟩
     refine aP 3 rfl (by kernel_rfl) rfl ?_
     replace Rp:=(Rp.cn hb15).cn ch18
     replace r_p_v1:=(r_p_v1.cn hb15).cn ch18
     refine bi (aA (vals:=[vg [p_v,p_v1]]) Tryz.func7 gg gn rfl) (eh w303 p p_v p_v1 ((Rp.ca hs311)).ro ((r_p_v1.ca hs311)).ro (by omega) (by omega) (by exact d3 hp6)) ?_
     rintro⟨d313,v315,v317⟩ w312 ⟨fr314,o316,o318⟩
     obtain⟨g319,ch320,G319⟩:=fC g308 fr314 (λn=>if n=1 then 4 else if n=2 then 5 else 0)
     replace o316:=o316.gl G319 4
     have r321:=cz o316.flat
     replace o318:=o318.gl G319 5
     have r322:=gb o318.sl_same
     have hs323:=hs311.seq (ch320.n)
     refine⟨hs323.same,?_⟩
     refine aP 6 rfl (by kernel_rfl) rfl ?_
     have C327:=cg [] (ch298.n.seq (ch309.n.seq ch320.n))
     replace bx227:=bx227.ca C327
     replace r310:=r310.cn ch320
     refine aw (cs':=[vi g.1,v306]) bF rfl rfl bx227 rfl nq (AllOne.all (.cons rfl (.cons (bu r310) .nil))) rfl ?_
     intro w324 ch325 bx326
     clear bx227
     have hs328:=hs323.seq (ch325.l rfl)
     refine⟨hs328.same,?_⟩
     refine aP 7 rfl (by kernel_rfl) rfl ?_
     have C332:=cg [6] (ch309.n.seq (ch320.n.seq (ch325.l rfl)))
     replace bx301:=bx301.ca C332
     replace r322:=r322.ce ch325
     replace r321:=r321.ce ch325
     refine aw (cs':=[v315,v317]) bI rfl rfl bx301 rfl nq (AllOne.all (.cons (bu r321) (.cons (bu r322) .nil))) rfl ?_
     intro w329 ch330 bx331
     clear bx301
     have hs333:=hs328.seq (ch330.l rfl)
     refine⟨hs333.same,?_⟩
     refine c9 (by kernel_rfl) ?_
     have C335:=cg [6,7] (ch320.n.seq ((ch325.l rfl).seq (ch330.l rfl)))
     have C334:=ch2.n.seq (ch7.n.seq (hb12.n.seq (hb15.n.seq (ch18.n.seq (ch224.n.seq (ch298.n.seq (ch309.n.seq C335)))))))
     replace Rr:=Rr.cn ch18
     exact mid (b225,b299,v306,v315,v317,g319) _ _ ⟨bH.ca C334,rfl,rfl,rfl,rfl,rfl,(Rg.ca hs333),(Rp.ca hs333),(r_p_v1.ca hs333),(Rr.ca hs333),(bx5.ca hs333),(bx10.ca hs333),o307.ca C335,(r310.ce ch325).ce ch330,(o316.ce ch325).ce ch330,r321.ce ch330,(o318.ce ch325).ce ch330,r322.ce ch330,bx326.ce ch330,bx331⟩
   ·
    refine aS g9 (is 7) (7,0) rfl bI ?_
    intro g339 w336 b338 ch337 bx340
    replace bx340:Bx g339 (is 7) w336 b338 [vn,vn]:=bx340
    have hs341:bj (bV [6,7]) _ _ _ _:=ch337.n
    refine⟨hs341.same,?_⟩
    refine cy 1 [4] (by kernel_rfl) ⟨cv 1 rfl (by kernel_rfl) rfl ?_,cv 4 rfl (by kernel_rfl) rfl ?_,trivial⟩
    ·
     replace Rg:=(Rg.cn hb15).cn ch18
     refine bi (aA (vals:=[vg [vi g.1,g_v]]) Tryz.func6 lJ lF rfl) (kk w336 g g_v ((Rg.ca hs341)).ro (by omega)) ?_
     rintro⟨d343,v345⟩ w342 ⟨fr344,o346⟩
     obtain⟨g347,ch348,G347⟩:=fC g339 fr344 (λn=>if n=1 then 3 else 0)
     replace o346:=o346.gl G347 3
     have r349:=cz o346.flat
     have hs350:=hs341.seq (ch348.n)
     refine⟨hs350.same,?_⟩
     refine cy 3 [4] (by kernel_rfl) ⟨cv 3 rfl (by kernel_rfl) rfl ?_,cv 4 rfl (by kernel_rfl) rfl ?_,trivial⟩
     ·
      replace Rp:=(Rp.cn hb15).cn ch18
      replace r_p_v1:=(r_p_v1.cn hb15).cn ch18
      refine bi (aA (vals:=[vg [p_v,p_v1]]) Tryz.func7 gg gn rfl) (eh w342 p p_v p_v1 ((Rp.ca hs350)).ro ((r_p_v1.ca hs350)).ro (by omega) (by omega) (by exact d3 hp6)) ?_
      rintro⟨d352,v354,v356⟩ w351 ⟨fr353,o355,o357⟩
      obtain⟨g358,ch359,G358⟩:=fC g347 fr353 (λn=>if n=1 then 4 else if n=2 then 5 else 0)
      replace o355:=o355.gl G358 4
      have r360:=cz o355.flat
      replace o357:=o357.gl G358 5
      have r361:=gb o357.sl_same
      have hs362:=hs350.seq (ch359.n)
      refine⟨hs362.same,?_⟩
      refine aP 4 rfl (by kernel_rfl) rfl (aS g358 (is 6) (6,0) rfl bF ?_)
      intro g366 w363 b365 ch364 bx367
      replace bx367:Bx g366 (is 6) w363 b365 [vi 0,vn]:=bx367
      have hs368:=hs362.seq (ch364.n)
      refine⟨hs368.same,?_⟩
      refine aP 6 rfl (by kernel_rfl) rfl ?_
      replace r349:=(r349.cn ch359).cn ch364
      refine aw (cs':=[vi g.1,v345]) bF rfl rfl bx367 rfl nq (AllOne.all (.cons rfl (.cons (bu r349) .nil))) rfl ?_
      intro w369 ch370 bx371
      clear bx367
      have hs372:=hs368.seq (ch370.l rfl)
      refine⟨hs372.same,?_⟩
      refine aP 7 rfl (by kernel_rfl) rfl ?_
      have C376:=cg [6] (ch348.n.seq (ch359.n.seq (ch364.n.seq (ch370.l rfl))))
      replace bx340:=bx340.ca C376
      replace r361:=(r361.cn ch364).ce ch370
      replace r360:=(r360.cn ch364).ce ch370
      refine aw (cs':=[v354,v356]) bI rfl rfl bx340 rfl nq (AllOne.all (.cons (bu r360) (.cons (bu r361) .nil))) rfl ?_
      intro w373 ch374 bx375
      clear bx340
      have hs377:=hs372.seq (ch374.l rfl)
      refine⟨hs377.same,?_⟩
      refine c9 (by kernel_rfl) ?_
      have C380:=cg [6,7] (ch364.n.seq ((ch370.l rfl).seq (ch374.l rfl)))
      have C379:=ch359.n.seq C380
      have C378:=ch2.n.seq (ch7.n.seq (hb12.n.seq (hb15.n.seq (ch18.n.seq (ch337.n.seq (ch348.n.seq C379))))))
      replace Rr:=Rr.cn ch18
      exact mid (b365,b338,v345,v354,v356,g366) _ _ ⟨bH.ca C378,rfl,rfl,rfl,rfl,rfl,(Rg.ca hs377),(Rp.ca hs377),(r_p_v1.ca hs377),(Rr.ca hs377),(bx5.ca hs377),(bx10.ca hs377),o346.ca C379,(r349.ce ch370).ce ch374,o355.ca C380,r360.ce ch374,o357.ca C380,r361.ce ch374,bx371.ce ch374,bx375⟩
     ·
      refine aS g347 (is 6) (6,0) rfl bF ?_
      intro g384 w381 b383 ch382 bx385
      replace bx385:Bx g384 (is 6) w381 b383 [vi 0,vn]:=bx385
      have hs386:=hs350.seq (ch382.n)
      refine⟨hs386.same,?_⟩
      refine aP 3 rfl (by kernel_rfl) rfl ?_
      replace Rp:=(Rp.cn hb15).cn ch18
      replace r_p_v1:=(r_p_v1.cn hb15).cn ch18
      refine bi (aA (vals:=[vg [p_v,p_v1]]) Tryz.func7 gg gn rfl) (eh w381 p p_v p_v1 ((Rp.ca hs386)).ro ((r_p_v1.ca hs386)).ro (by omega) (by omega) (by exact d3 hp6)) ?_
      rintro⟨d388,v390,v392⟩ w387 ⟨fr389,o391,o393⟩
      obtain⟨g394,ch395,G394⟩:=fC g384 fr389 (λn=>if n=1 then 4 else if n=2 then 5 else 0)
      replace o391:=o391.gl G394 4
      have r396:=cz o391.flat
      replace o393:=o393.gl G394 5
      have r397:=gb o393.sl_same
      have hs398:=hs386.seq (ch395.n)
      refine⟨hs398.same,?_⟩
      refine aP 6 rfl (by kernel_rfl) rfl ?_
      replace bx385:=bx385.cn ch395
      replace r349:=(r349.cn ch382).cn ch395
      refine aw (cs':=[vi g.1,v345]) bF rfl rfl bx385 rfl nq (AllOne.all (.cons rfl (.cons (bu r349) .nil))) rfl ?_
      intro w399 ch400 bx401
      clear bx385
      have hs402:=hs398.seq (ch400.l rfl)
      refine⟨hs402.same,?_⟩
      refine aP 7 rfl (by kernel_rfl) rfl ?_
      have C406:=cg [6] (ch348.n.seq (ch382.n.seq (ch395.n.seq (ch400.l rfl))))
      replace bx340:=bx340.ca C406
      replace r397:=r397.ce ch400
      replace r396:=r396.ce ch400
      refine aw (cs':=[v390,v392]) bI rfl rfl bx340 rfl nq (AllOne.all (.cons (bu r396) (.cons (bu r397) .nil))) rfl ?_
      intro w403 ch404 bx405
      clear bx340
      have hs407:=hs402.seq (ch404.l rfl)
      refine⟨hs407.same,?_⟩
      refine c9 (by kernel_rfl) ?_
      have C409:=cg [6,7] (ch382.n.seq (ch395.n.seq ((ch400.l rfl).seq (ch404.l rfl))))
      have C408:=ch2.n.seq (ch7.n.seq (hb12.n.seq (hb15.n.seq (ch18.n.seq (ch337.n.seq (ch348.n.seq C409))))))
      replace Rr:=Rr.cn ch18
      exact mid (b383,b338,v345,v390,v392,g394) _ _ ⟨bH.ca C408,rfl,rfl,rfl,rfl,rfl,(Rg.ca hs407),(Rp.ca hs407),(r_p_v1.ca hs407),(Rr.ca hs407),(bx5.ca hs407),(bx10.ca hs407),o346.ca C409,(r349.ce ch400).ce ch404,(o391.ce ch400).ce ch404,r396.ce ch404,(o393.ce ch400).ce ch404,r397.ce ch404,bx401.ce ch404,bx405⟩
    ·
     refine aS g339 (is 6) (6,0) rfl bF ?_
     intro g413 w410 b412 ch411 bx414
     replace bx414:Bx g413 (is 6) w410 b412 [vi 0,vn]:=bx414
     have hs415:=hs341.seq (ch411.n)
     refine⟨hs415.same,?_⟩
     refine aP 1 rfl (by kernel_rfl) rfl ?_
     replace Rg:=(Rg.cn hb15).cn ch18
     refine bi (aA (vals:=[vg [vi g.1,g_v]]) Tryz.func6 lJ lF rfl) (kk w410 g g_v ((Rg.ca hs415)).ro (by omega)) ?_
     rintro⟨d417,v419⟩ w416 ⟨fr418,o420⟩
     obtain⟨g421,ch422,G421⟩:=fC g413 fr418 (λn=>if n=1 then 3 else 0)
     replace o420:=o420.gl G421 3
     have r423:=cz o420.flat
     have hs424:=hs415.seq (ch422.n)
     refine⟨hs424.same,?_⟩
     refine aP 3 rfl (by kernel_rfl) rfl ?_
     replace Rp:=(Rp.cn hb15).cn ch18
     replace r_p_v1:=(r_p_v1.cn hb15).cn ch18
     refine bi (aA (vals:=[vg [p_v,p_v1]]) Tryz.func7 gg gn rfl) (eh w416 p p_v p_v1 ((Rp.ca hs424)).ro ((r_p_v1.ca hs424)).ro (by omega) (by omega) (by exact d3 hp6)) ?_
     rintro⟨d426,v428,v430⟩ w425 ⟨fr427,o429,o431⟩
     obtain⟨g432,ch433,G432⟩:=fC g421 fr427 (λn=>if n=1 then 4 else if n=2 then 5 else 0)
     replace o429:=o429.gl G432 4
     have r434:=cz o429.flat
     replace o431:=o431.gl G432 5
     have r435:=gb o431.sl_same
     have hs436:=hs424.seq (ch433.n)
     refine⟨hs436.same,?_⟩
     refine aP 6 rfl (by kernel_rfl) rfl ?_
     replace bx414:=(bx414.cn ch422).cn ch433
     replace r423:=r423.cn ch433
     refine aw (cs':=[vi g.1,v419]) bF rfl rfl bx414 rfl nq (AllOne.all (.cons rfl (.cons (bu r423) .nil))) rfl ?_
     intro w437 ch438 bx439
     clear bx414
     have hs440:=hs436.seq (ch438.l rfl)
     refine⟨hs440.same,?_⟩
     refine aP 7 rfl (by kernel_rfl) rfl ?_
     have C444:=cg [6] (ch411.n.seq (ch422.n.seq (ch433.n.seq (ch438.l rfl))))
     replace bx340:=bx340.ca C444
     replace r435:=r435.ce ch438
     replace r434:=r434.ce ch438
     refine aw (cs':=[v428,v430]) bI rfl rfl bx340 rfl nq (AllOne.all (.cons (bu r434) (.cons (bu r435) .nil))) rfl ?_
     intro w441 ch442 bx443
     clear bx340
     have hs445:=hs440.seq (ch442.l rfl)
     refine⟨hs445.same,?_⟩
     refine c9 (by kernel_rfl) ?_
     have C447:=cg [6,7] (ch433.n.seq ((ch438.l rfl).seq (ch442.l rfl)))
     have C446:=ch2.n.seq (ch7.n.seq (hb12.n.seq (hb15.n.seq (ch18.n.seq (ch337.n.seq (ch411.n.seq (ch422.n.seq C447)))))))
     replace Rr:=Rr.cn ch18
     exact mid (b412,b338,v419,v428,v430,g432) _ _ ⟨bH.ca C446,rfl,rfl,rfl,rfl,rfl,(Rg.ca hs445),(Rp.ca hs445),(r_p_v1.ca hs445),(Rr.ca hs445),(bx5.ca hs445),(bx10.ca hs445),o420.ca C447,(r423.ce ch438).ce ch442,(o429.ce ch438).ce ch442,r434.ce ch442,(o431.ce ch438).ce ch442,r435.ce ch442,bx439.ce ch442,bx443⟩
  clear Rg Rp r_p_v1 Rr bx5 bx10 bH
  rintro⟨b43,b49,v23,v32,v34,g450⟩ f448 w449 ⟨bH,zs2,zs3,zs4,zs7,zs8,Rg,Rp,r_p_v1,Rr,bx5,bx10,o24,r27,o33,r38,o35,r39,bx55,bx60⟩
  refine a7 (a6 rfl (lw (vg [vn,vi 0]) (bw (vs:=[]) rfl (by kernel_rfl)) (lo (bh g450 (is 8) (8,0) rfl rfl ?_))))
  intro g454 w451 b453 ch452 bx455
  replace bx455:Bx g454 (is 8) w451 b453 [vn,vi 0]:=bx455
  refine ma (vp b453 0) (aa (a7 (a7 (a6 rfl (ai 0 (aa (am ?_)))))))
  refine aN (σ:=Value×cT×Int×Nat×aK) (λ⟨b_0_v,b_0,b_1,turn,gq⟩ f w=>aT w0 gq w/\f 2=r_v/\f 3=vp b3 0/\f 4=vp b8 0/\f 7=vp b43 0/\f 8=vp b49 0/\f 9=vp b453 0/\f 10=vi ↑turn/\Sl gq (is 0) w g_v g.2/\Sl gq (is 0) w p_v p.1/\Sl gq (is 0) w p_v1 p.2/\Sl gq (is 0) w r_v r/\Bx gq (is 1) w b3 [vi g.1,g_v]/\Bx gq (is 2) w b8 [p_v,p_v1]/\Ow gq (is 3) (is 3) w (fS v23) (g.2++[((-7:Int),(7:Int))])/\Sl gq (is 3) w v23 g.2/\Ow gq (is 4) (is 4) w (fS v32) (p.1++[((-7:Int),(7:Int))])/\Sl gq (is 4) w v32 p.1/\Ow gq (is 5) (is 5) w (u5 v34) (kV p.2)/\Sl gq (is 5) w v34 p.2/\Bx gq (is 6) w b43 [vi g.1,v23]/\Bx gq (is 7) w b49 [v32,v34]/\Bx gq (is 8) w b453 [b_0_v,vi b_1]/\dr gq 12 w b_0_v b_0/\(turn:Int)<=(2:Int)/\(gm b_0 b_1)) (λ⟨b_0_v,b_0,b_1,turn,gq⟩=>Int.toNat ((2:Int)-(turn:Int))) (vn,[],0,0,g454) ?_ ?_
  · exact⟨bH.cn ch452,zs2,zs3,zs4,zs7,zs8,rfl,rfl,Rg.cn ch452,Rp.cn ch452,r_p_v1.cn ch452,Rr.cn ch452,bx5.cn ch452,bx10.cn ch452,o24.cn ch452,r27.cn ch452,o33.cn ch452,r38.cn ch452,o35.cn ch452,r39.cn ch452,bx55.cn ch452,bx60.cn ch452,bx455,dr.nil,by omega,by exact gm.nil⟩
  clear Rg Rp r_p_v1 Rr bx5 bx10 o24 r27 o33 r38 o35 r39 bx55 bx60 bx455 bH
  rintro⟨b_0_v,b_0,b_1,turn,g458⟩ f456 w457 ⟨bH,zs2,zs3,zs4,zs7,zs8,zs9,zs10,Rg,Rp,r_p_v1,Rr,bx5,bx10,o24,r27,o33,r38,o35,r39,bx55,bx60,bx455,o_b_0,hle_turn,hk⟩ back8
  obtain⟨hka,hkb,hkc⟩:=hk.len
  refine a7 (a7 (a6 rfl (mz zs10 (lx (aZ (m:=↑turn) (n:=2) rfl rfl) (aa ?_)))))
  by_cases p8:(turn:Int)<2
  ·
   refine af rfl (dt p8) (ak (a7 (am (a7 (a6 rfl (lx (aj (ds:=[vi g.1,v23]) bF zs7 bx55 rfl rfl) (lx (aj (ds:=[v32,v34]) bI zs8 bx60 rfl rfl) (lo (bi (aA (vals:=[vg [vi g.1,v23],vg [v32,v34]]) Tryz.func8 qF qG rfl) (m9 w457 g v23 (r27).ro p v32 v34 (r38).ro (r39).ro) ?_)))))))))
   rintro⟨d460,v462⟩ w459 ⟨fr461,o463⟩
   obtain⟨g464,ch465,G464⟩:=fC g458 fr461 (λn=>if n=1 then 9 else 0)
   replace o463:=o463.gl G464 9
   refine mv (vt [v462,vi ((b9 g p).2)]) (lx (b6 rfl rfl) (lx (b6 rfl rfl) (ma v462 (ai ((b9 g p).2) (aa (a7 (a6 rfl ?_)))))))
   replace bx55:=bx55.cn ch465
   refine lx (aj (ds:=[vi g.1,v23]) bF zs7 bx55 rfl rfl) ?_
   replace bx60:=bx60.cn ch465
   refine lx (aj (ds:=[v32,v34]) bI zs8 bx60 rfl rfl) ?_
   replace r27:=r27.cn ch465
   replace r38:=r38.cn ch465
   replace r39:=r39.cn ch465
   refine lo (bi (aA (vals:=[vg [vi g.1,v23],vg [v32,v34]]) Tryz.func9 uM ur rfl) (lU w459 g v23 (r27).ro p v32 v34 (r38).ro (r39).ro (by exact hfew)) ?_)
   rintro⟨d467,v469⟩ w466 ⟨fr468,o470⟩
   obtain⟨g471,ch472,G471⟩:=fC g464 fr468 (λn=>if n=1 then 10 else 0)
   replace o470:=o470.gl G471 10
   refine mv (vt [v469,vi ((turnsR g p).2)]) (lx (b6 rfl rfl) (lx (b6 rfl rfl) (ma v469 (ai ((turnsR g p).2) (aa (a7 (a6 rfl ?_)))))))
   replace bx55:=bx55.cn ch472
   refine lx (aj (ds:=[vi g.1,v23]) bF zs7 bx55 rfl rfl) (mz zs2 ?_)
   replace bx60:=bx60.cn ch472
   refine lx (aj (ds:=[v32,v34]) bI zs8 bx60 rfl rfl) ?_
   replace r27:=r27.cn ch472
   replace Rr:=(Rr.cn ch465).cn ch472
   replace r38:=r38.cn ch472
   replace r39:=r39.cn ch472
   refine lo (aO (v:=vt [vb ((fitsR g r p).1),vi ((fitsR g r p).2)]) (aA (vals:=[vg [vi g.1,v23],r_v,vg [v32,v34]]) Tryz.func10 xC wM rfl) (tJ w466 g v23 (r27).ro r r_v (Rr).ro p v32 v34 (r38).ro (r39).ro (by exact hfew)) ?_)
   intro w473 hb474
   replace hb474:=ao hb474 g471
   refine mv (vt [vb ((fitsR g r p).1),vi ((fitsR g r p).2)]) (lx (b6 rfl rfl) (lx (b6 rfl rfl) (ma (vb ((fitsR g r p).1)) (ai ((fitsR g r p).2) (aa (a7 (a6 rfl ?_)))))))
   replace bx55:=bx55.cn hb474
   refine lx (aj (ds:=[vi g.1,v23]) bF zs7 bx55 rfl rfl) ?_
   replace bx60:=bx60.cn hb474
   refine lx (aj (ds:=[v32,v34]) bI zs8 bx60 rfl rfl) ?_
   replace r27:=r27.cn hb474
   replace r38:=r38.cn hb474
   replace r39:=r39.cn hb474
   refine lo (aO (v:=vt [vg [vi (((aC g p).1).1),vi ((((aC g p).1).2).1),vi (((((aC g p).1).2).2).1),vb ((((((aC g p).1).2).2).2).1),vb ((((((aC g p).1).2).2).2).2)],vi ((aC g p).2)]) (aA (vals:=[vg [vi g.1,v23],vg [v32,v34]]) Tryz.func11 r9 qQ rfl) (oJ w473 g v23 (r27).ro p v32 v34 (r38).ro (r39).ro) ?_)
   intro w475 hb476
   replace hb476:=ao hb476 g471
   refine mv (vt [vg [vi (((aC g p).1).1),vi ((((aC g p).1).2).1),vi (((((aC g p).1).2).2).1),vb ((((((aC g p).1).2).2).2).1),vb ((((((aC g p).1).2).2).2).2)],vi ((aC g p).2)]) (lx (b6 rfl rfl) (lx (b6 rfl rfl) (lo (aS g471 (is 11) (11,0) rfl dm ?_))))
   intro g480 w477 b479 ch478 bx481
   replace bx481:Bx g480 (is 11) w477 b479 [vi 0,vi 0,vi 0,vb false,vb false]:=bx481
   refine lo (aw (cs':=[vi (((aC g p).1).1),vi ((((aC g p).1).2).1),vi (((((aC g p).1).2).2).1),vb ((((((aC g p).1).2).2).2).1),vb ((((((aC g p).1).2).2).2).2)]) dm rfl rfl bx481 rfl nq (AllOne.all (.cons rfl (.cons rfl (.cons rfl (.cons rfl (.cons rfl .nil)))))) rfl ?_)
   intro w482 ch483 bx484
   clear bx481
   refine ai ((aC g p).2) (aa (a7 (a6 rfl (mz zs9 (mv v469 (lo ?_))))))
   have C486:=cg [11] (hb474.n.seq (hb476.n.seq (ch478.n.seq (ch483.l rfl))))
   have C485:=ch465.n.seq (ch472.n.seq C486)
   replace o_b_0:=o_b_0.ca C485
   replace bx455:=bx455.ca C485
   replace o470:=o470.ca C486
   refine bi (σ:=Value×cT×Int×aK) (V:=λ_=>vt []) (aA (vals:=[vp b453 0,v469]) Tryz.func12 wx yc rfl) (nj (γ:=g480) (q:=8) (i:=12) (k:=10) (K:=b_0) (s:=b_1) bx455 o_b_0 o470 ‹_› (by omega) rfl rfl rfl) ?_
   rintro⟨v487,K488,s489,g490⟩ w491 ⟨ch492,o493,o494,hj495,r496⟩
   replace ch492:bj (j3 8 12 10) g480 w482 g490 w491:=ch492
   replace o493:Bx g490 (is 8) w491 b453 [v487,vi s489]:=o493
   replace o494:dr g490 12 w491 v487 K488:=o494
   replace hj495:gm K488 s489:=hj495
   replace r496:Sl g490 (AS 10 12) w491 v469 ((turnsR g p).1):=r496
   obtain⟨hj495a,hj495b,hj495c⟩:=hj495.len
   clear bx455 o_b_0 o470
   refine aa (a7 (a7 (a6 rfl ?_)))
   have C497:=cg [8,10,11,12] (hb476.n.seq (ch478.n.seq ((ch483.l rfl).seq (ch492.l3 rfl rfl rfl))))
   replace bx55:=bx55.ca C497
   refine lx (aj (ds:=[vi g.1,v23]) bF zs7 bx55 rfl rfl) ?_
   have C498:=cg [8,10,11,12] (ch465.n.seq (ch472.n.seq (hb474.n.seq (hb476.n.seq (ch478.n.seq ((ch483.l rfl).seq (ch492.l3 rfl rfl rfl)))))))
   replace bx5:=bx5.ca C498
   refine lx (aj (ds:=[vi g.1,g_v]) bF zs3 bx5 rfl rfl) ?_
   replace o24:=o24.ca C498
   replace o33:=o33.ca C498
   replace o35:=o35.ca C498
   replace r27:=r27.ca C497
   replace Rg:=Rg.ca C498
   refine lo (aO (v:=vb (decide (g=g))) (aA (vals:=[vg [vi g.1,v23],vg [vi g.1,g_v]]) Tryz.func13 yt ww rfl) (yu w491 g v23 (r27).ro g g_v (Rg).ro (by exact Sl.ro (Ow.flat ‹_›))) ?_)
   intro w499 hb500
   replace hb500:=ao hb500 g490
   refine lx (bZ (b:=(decide (g=g))) rfl) (mv (vb (!(decide (g=g)))) ?_)
   have q77:(decide (g=g))=true:=by exact dt rfl
   have C501:=cg [8,10,11,12] (hb476.n.seq (ch478.n.seq ((ch483.l rfl).seq ((ch492.l3 rfl rfl rfl).seq hb500.n))))
   replace bx60:=bx60.ca C501
   refine lv (vg [v32,v34]) (wy (congrArg Bool.not q77)) (aj (ds:=[v32,v34]) bI zs8 bx60 rfl rfl) ?_
   have C502:=cg [8,10,11,12] (ch465.n.seq (ch472.n.seq (hb474.n.seq (hb476.n.seq (ch478.n.seq ((ch483.l rfl).seq ((ch492.l3 rfl rfl rfl).seq hb500.n)))))))
   replace bx10:=bx10.ca C502
   refine lv (vg [p_v,p_v1]) (wy (congrArg Bool.not q77)) (aj (ds:=[p_v,p_v1]) bI zs4 bx10 rfl rfl) ?_
   replace o24:=o24.cn hb500
   replace o33:=o33.cn hb500
   replace o35:=o35.cn hb500
   replace r38:=r38.ca C501
   replace r39:=r39.ca C501
   replace Rp:=Rp.ca C502
   replace r_p_v1:=r_p_v1.ca C502
   refine bW (wy (congrArg Bool.not q77)) (aO (v:=vb true) (aA (vals:=[vg [v32,v34],vg [p_v,p_v1]]) Tryz.func14 xu yr rfl) (tA w499 p v32 v34 (r38).ro (r39).ro p p_v p_v1 (Rp).ro (r_p_v1).ro (by exact Sl.ro (Ow.flat ‹_›)) (by exact Sl.ro (Ow.sl_same ‹_›)) (by rfl)) ?_)
   intro w503 hb504
   replace hb504:=ao hb504 g490
   refine lv (vb false) (wy (congrArg Bool.not q77)) (bZ (b:=true) rfl) (lw (vb false) (aB rfl (congrArg Bool.not q77) rfl) (aa (ag rfl rfl (ak (a7 (a7 (a6 rfl ?_)))))))
   replace bx5:=(bx5.cn hb500).cn hb504
   refine lx (aj (ds:=[vi g.1,g_v]) bF zs3 bx5 rfl rfl) ?_
   replace Rg:=(Rg.cn hb500).cn hb504
   refine lo (aO (v:=vb (dq g)) (aA (vals:=[vg [vi g.1,g_v]]) Tryz.func15 qq qo rfl) (nG w503 g g_v (Rg).ro) ?_)
   intro w505 hb506
   replace hb506:=ao hb506 g490
   refine lx (bZ (b:=(dq g)) rfl) (aa ?_)
   by_cases p17:(dq g)=true
   ·
    have hm:c8 g:=of_decide_eq_true p17
    refine ag rfl (congrArg Bool.not p17) (ak (a7 (a6 rfl ?_)))
    replace bx5:=bx5.cn hb506
    refine lx (aj (ds:=[vi g.1,g_v]) bF zs3 bx5 rfl rfl) ?_
    replace bx10:=(bx10.cn hb504).cn hb506
    refine lx (aj (ds:=[p_v,p_v1]) bI zs4 bx10 rfl rfl) ?_
    replace Rg:=Rg.cn hb506
    replace Rp:=(Rp.cn hb504).cn hb506
    replace r_p_v1:=(r_p_v1.cn hb504).cn hb506
    refine lo (bi (aA (vals:=[vg [vi g.1,g_v],vg [p_v,p_v1]]) Tryz.func16 rK se rfl) (lT w505 g g_v (Rg).ro p p_v p_v1 (Rp).ro (r_p_v1).ro ‹_› (by exact hfew hm)) ?_)
    rintro⟨d508,v510⟩ w507 ⟨fr509,o511⟩
    obtain⟨g512,ch513,G512⟩:=fC g490 fr509 (λn=>if n=1 then 13 else 0)
    replace o511:=o511.gl G512 13
    refine mv (vt [v510,vi ((turnsR g p).2)]) (lx (b6 rfl rfl) (lx (b6 rfl rfl) (ma v510 (ai ((turnsR g p).2) (aa (a7 (a6 rfl ?_)))))))
    replace bx5:=bx5.cn ch513
    refine lx (aj (ds:=[vi g.1,g_v]) bF zs3 bx5 rfl rfl) ?_
    replace bx10:=bx10.cn ch513
    refine lx (aj (ds:=[p_v,p_v1]) bI zs4 bx10 rfl rfl) ?_
    replace Rg:=Rg.cn ch513
    replace Rp:=Rp.cn ch513
    replace r_p_v1:=r_p_v1.cn ch513
    refine lo (aO (v:=vt [vg [vi (((aC g p).1).1),vi ((((aC g p).1).2).1),vi (((((aC g p).1).2).2).1),vb ((((((aC g p).1).2).2).2).1),vb ((((((aC g p).1).2).2).2).2)],vi ((aC g p).2)]) (aA (vals:=[vg [vi g.1,g_v],vg [p_v,p_v1]]) Tryz.func17 xB yl rfl) (sW w507 g g_v (Rg).ro p p_v p_v1 (Rp).ro (r_p_v1).ro ‹_›) ?_)
    intro w514 hb515
    replace hb515:=ao hb515 g512
    refine mv (vt [vg [vi (((aC g p).1).1),vi ((((aC g p).1).2).1),vi (((((aC g p).1).2).2).1),vb ((((((aC g p).1).2).2).2).1),vb ((((((aC g p).1).2).2).2).2)],vi ((aC g p).2)]) (lx (b6 rfl rfl) (lx (b6 rfl rfl) (lo (aS g512 (is 14) (14,0) rfl dm ?_))))
    intro g519 w516 b518 ch517 bx520
    replace bx520:Bx g519 (is 14) w516 b518 [vi 0,vi 0,vi 0,vb false,vb false]:=bx520
    refine lo (aw (cs':=[vi (((aC g p).1).1),vi ((((aC g p).1).2).1),vi (((((aC g p).1).2).2).1),vb ((((((aC g p).1).2).2).2).1),vb ((((((aC g p).1).2).2).2).2)]) dm rfl rfl bx520 rfl nq (AllOne.all (.cons rfl (.cons rfl (.cons rfl (.cons rfl (.cons rfl .nil)))))) rfl ?_)
    intro w521 ch522 bx523
    clear bx520
    refine ai ((aC g p).2) (aa (a7 (a7 (a6 rfl (mi ((b9 g p).2) (lx (c5 (m:=(b9 g p).2) (n:=0) rfl rfl) (mv (vb (!(decide (((b9 g p).2)=0)))) ?_)))))))
    have q130:((b9 g p).2)=0:=by exact AX hm
    refine lv (v462) (wy (congrArg Bool.not (dt q130))) (aq rfl) ?_
    have C524:=cg [14] (hb515.n.seq (ch517.n.seq (ch522.l rfl)))
    replace bx5:=bx5.ca C524
    refine lv (vg [vi g.1,g_v]) (wy (congrArg Bool.not (dt q130))) (aj (ds:=[vi g.1,g_v]) bF zs3 bx5 rfl rfl) ?_
    replace bx10:=bx10.ca C524
    refine lv (vg [p_v,p_v1]) (wy (congrArg Bool.not (dt q130))) (aj (ds:=[p_v,p_v1]) bI zs4 bx10 rfl rfl) ?_
    replace Rg:=Rg.ca C524
    replace Rp:=Rp.ca C524
    replace r_p_v1:=r_p_v1.ca C524
    refine bW (wy (congrArg Bool.not (dt q130))) (bi (aA (vals:=[vg [vi g.1,g_v],vg [p_v,p_v1]]) Tryz.func19 sc rW rfl) (lB w521 g g_v (Rg).ro p p_v p_v1 (Rp).ro (r_p_v1).ro ‹_›) ?_)
    rintro⟨d526,v528⟩ w525 ⟨fr527,o529⟩
    obtain⟨g530,ch531,G530⟩:=fC g519 fr527 (λn=>if n=1 then 15 else 0)
    replace o529:=o529.gl G530 15
    have C532:=cg [8,10,11,12,14] (ch472.n.seq (hb474.n.seq (hb476.n.seq (ch478.n.seq ((ch483.l rfl).seq ((ch492.l3 rfl rfl rfl).seq (hb500.n.seq (hb504.n.seq (hb506.n.seq (ch513.n.seq (hb515.n.seq (ch517.n.seq ((ch522.l rfl).seq ch531.n)))))))))))))
    replace o463:=o463.ca C532
    refine bW (wy (congrArg Bool.not (dt q130))) (aO (v:=vb (decide (((b9 g p).1)=(bT g p)))) (aA (vals:=[v462,v528]) Tryz.func18 yb wF rfl) (tt w525 ((b9 g p).1) v462 (o463.flat).ro (bT g p) v528 (o529.flat).ro) ?_)
    intro w533 hb534
    replace hb534:=ao hb534 g530
    refine lv (vb (!(decide (((b9 g p).1)=(bT g p))))) (wy (congrArg Bool.not (dt q130))) (bZ (b:=(decide (((b9 g p).1)=(bT g p)))) rfl) (lw (vb (!(decide (((b9 g p).1)=(bT g p))))) (aB rfl (congrArg Bool.not (dt q130)) rfl) (mv (vb (!(decide (((b9 g p).1)=(bT g p))))) ?_))
    have q138:(decide (((b9 g p).1)=(bT g p)))=true:=by exact dt (B6 hm)
    refine lv (vi ((turnsR g p).2)) (wy (congrArg Bool.not q138)) (aq rfl) (lv (vi ((turnsR g p).2)) (wy (congrArg Bool.not q138)) (aq rfl) (lv (vb (!(decide (((turnsR g p).2)=((turnsR g p).2))))) (wy (congrArg Bool.not q138)) (c5 (m:=(turnsR g p).2) (n:=(turnsR g p).2) rfl rfl) (lw (vb (!(decide (((turnsR g p).2)=((turnsR g p).2))))) (aB rfl (congrArg Bool.not q138) rfl) (mv (vb (!(decide (((turnsR g p).2)=((turnsR g p).2))))) ?_))))
    have q143:((turnsR g p).2)=((turnsR g p).2):=by rfl
    refine lv (v469) (wy (congrArg Bool.not (dt q143))) (aq rfl) (lv (v510) (wy (congrArg Bool.not (dt q143))) (aq rfl) ?_)
    replace r496:=((((((((r496.cn hb500).cn hb504).cn hb506).cn ch513).cn hb515).cn ch517).chg ch522 (zq rfl rfl)).cn ch531).cn hb534
    have C535:=cg [14] (hb515.n.seq (ch517.n.seq ((ch522.l rfl).seq (ch531.n.seq hb534.n))))
    replace o511:=o511.ca C535
    refine bW (wy (congrArg Bool.not (dt q143))) (aO (v:=vb (decide (((turnsR g p).1)=((turnsR g p).1)))) (aA (vals:=[v469,v510]) Tryz.func20 tC vG rfl) (oe w533 ((turnsR g p).1) v469 (r496).ro ((turnsR g p).1) v510 (o511.sl).ro) ?_)
    intro w536 hb537
    replace hb537:=ao hb537 g530
    refine lv (vb (!(decide (((turnsR g p).1)=((turnsR g p).1))))) (wy (congrArg Bool.not (dt q143))) (bZ (b:=(decide (((turnsR g p).1)=((turnsR g p).1)))) rfl) (lw (vb (!(decide (((turnsR g p).1)=((turnsR g p).1))))) (aB rfl (congrArg Bool.not (dt q143)) rfl) (mv (vb (!(decide (((turnsR g p).1)=((turnsR g p).1))))) ?_))
    have q149:(decide (((turnsR g p).1)=((turnsR g p).1)))=true:=by exact dt rfl
    refine lv (vi ((aC g p).2)) (wy (congrArg Bool.not q149)) (aq rfl) (lv (vi ((aC g p).2)) (wy (congrArg Bool.not q149)) (aq rfl) (lv (vb (!(decide (((aC g p).2)=((aC g p).2))))) (wy (congrArg Bool.not q149)) (c5 (m:=(aC g p).2) (n:=(aC g p).2) rfl rfl) (lw (vb (!(decide (((aC g p).2)=((aC g p).2))))) (aB rfl (congrArg Bool.not q149) rfl) (mv (vb (!(decide (((aC g p).2)=((aC g p).2))))) ?_))))
    have q154:((aC g p).2)=((aC g p).2):=by rfl
    have C538:=cg [8,10,12,14] ((ch492.l3 rfl rfl rfl).seq (hb500.n.seq (hb504.n.seq (hb506.n.seq (ch513.n.seq (hb515.n.seq (ch517.n.seq ((ch522.l rfl).seq (ch531.n.seq (hb534.n.seq hb537.n))))))))))
    replace bx484:=bx484.ca C538
    refine lv (vg [vi (((aC g p).1).1),vi ((((aC g p).1).2).1),vi (((((aC g p).1).2).2).1),vb ((((((aC g p).1).2).2).2).1),vb ((((((aC g p).1).2).2).2).2)]) (wy (congrArg Bool.not (dt q154))) (aj (ds:=[vi (((aC g p).1).1),vi ((((aC g p).1).2).1),vi (((((aC g p).1).2).2).1),vb ((((((aC g p).1).2).2).2).1),vb ((((((aC g p).1).2).2).2).2)]) dm rfl bx484 rfl rfl) ?_
    have C539:=cg [] (ch531.n.seq (hb534.n.seq hb537.n))
    replace bx523:=bx523.ca C539
    refine lv (vg [vi (((aC g p).1).1),vi ((((aC g p).1).2).1),vi (((((aC g p).1).2).2).1),vb ((((((aC g p).1).2).2).2).1),vb ((((((aC g p).1).2).2).2).2)]) (wy (congrArg Bool.not (dt q154))) (aj (ds:=[vi (((aC g p).1).1),vi ((((aC g p).1).2).1),vi (((((aC g p).1).2).2).1),vb ((((((aC g p).1).2).2).2).1),vb ((((((aC g p).1).2).2).2).2)]) dm rfl bx523 rfl rfl) ?_
    refine lv (vb (!(decide ((((aC g p).1).1,(((aC g p).1).2).1,((((aC g p).1).2).2).1,((((((aC g p).1).2).2).2).1),((((((aC g p).1).2).2).2).2))=(((aC g p).1).1,(((aC g p).1).2).1,((((aC g p).1).2).2).1,((((((aC g p).1).2).2).2).1),((((((aC g p).1).2).2).2).2)))))) (wy (congrArg Bool.not (dt q154))) (de (bs:=[decide ((((aC g p).1).1)=(((aC g p).1).1)),decide (((((aC g p).1).2).1)=((((aC g p).1).2).1)),decide ((((((aC g p).1).2).2).1)=(((((aC g p).1).2).2).1)),decide (((((((aC g p).1).2).2).2).1)=((((((aC g p).1).2).2).2).1)),decide (((((((aC g p).1).2).2).2).2)=((((((aC g p).1).2).2).2).2))]) lc (by kernel_rfl) (by kernel_rfl) rfl rfl (.cons (by decide+kernel) az rfl rfl (.int U3) (.cons (by decide+kernel) az rfl rfl (.int U3) (.cons (by decide+kernel) az rfl rfl (.int U3) (.cons (by decide+kernel) eW rfl rfl (.bool U4) (.cons (by decide+kernel) eW rfl rfl (.bool U4) .nil))))) (by simp[Prod.ext_iff,Bool.decide_and,Bool.and_assoc])) ?_
    refine lw (vb (!(decide ((((aC g p).1).1,(((aC g p).1).2).1,((((aC g p).1).2).2).1,((((((aC g p).1).2).2).2).1),((((((aC g p).1).2).2).2).2))=(((aC g p).1).1,(((aC g p).1).2).1,((((aC g p).1).2).2).1,((((((aC g p).1).2).2).2).1),((((((aC g p).1).2).2).2).2)))))) (aB rfl (congrArg Bool.not (dt q154)) rfl) (aa ?_)
    have p22:(((aC g p).1).1,(((aC g p).1).2).1,((((aC g p).1).2).2).1,((((((aC g p).1).2).2).2).1),((((((aC g p).1).2).2).2).2))=(((aC g p).1).1,(((aC g p).1).2).1,((((aC g p).1).2).2).1,((((((aC g p).1).2).2).2).1),((((((aC g p).1).2).2).2).2)):=by rfl
    refine ag rfl (congrArg Bool.not (dt p22)) (ak (a7 ?_))
    clear o463 bx484 r496 o511 bx523 o529
    refine a6 rfl ?_
    replace bx5:=bx5.ca C539
    refine lx (aj (ds:=[vi g.1,g_v]) bF zs3 bx5 rfl rfl) (mz zs2 ?_)
    replace Rg:=Rg.ca C539
    have C540:=cg [8,10,11,12,14] (hb474.n.seq (hb476.n.seq (ch478.n.seq ((ch483.l rfl).seq ((ch492.l3 rfl rfl rfl).seq (hb500.n.seq (hb504.n.seq (hb506.n.seq (ch513.n.seq (hb515.n.seq (ch517.n.seq ((ch522.l rfl).seq (ch531.n.seq (hb534.n.seq hb537.n))))))))))))))
    replace Rr:=Rr.ca C540
    refine lo (aO (v:=vi (bg g r)) (aA (vals:=[vg [vi g.1,g_v],r_v]) Tryz.func21 yy x3 rfl) (v7 w536 g g_v (Rg).ro r r_v (Rr).ro) ?_)
    intro w541 hb542
    replace hb542:=ao hb542 g530
    refine ai (bg g r) (aa (a7 (a6 rfl (mi ((fitsR g r p).2) (mi (bg g r) (lx (c5 (m:=(fitsR g r p).2) (n:=bg g r) rfl rfl) (mv (vb (!(decide (((fitsR g r p).2)=(bg g r))))) ?_)))))))
    have q165:((fitsR g r p).2)=(bg g r):=by exact B1 hm hfew
    refine lv (vb ((fitsR g r p).1)) (wy (congrArg Bool.not (dt q165))) (aq rfl) (lv (vi (bg g r)) (wy (congrArg Bool.not (dt q165))) (aq rfl) (lv (vb (decide ((bg g r)=0))) (wy (congrArg Bool.not (dt q165))) (c7 (m:=bg g r) (n:=0) rfl rfl) (lv (vb (decide ((bg g r)=0))) (wy (congrArg Bool.not (dt q165))) (aq rfl) ?_)))
    by_cases q169:(bg g r)=0
    ·
     replace bx5:=bx5.cn hb542
     refine lv (vg [vi g.1,g_v]) (wy (dt q169)) (aj (ds:=[vi g.1,g_v]) bF zs3 bx5 rfl rfl) (lv (r_v) (wy (dt q169)) (aq zs2) ?_)
     have C543:=cg [] (ch531.n.seq (hb534.n.seq (hb537.n.seq hb542.n)))
     replace bx10:=bx10.ca C543
     refine lv (vg [p_v,p_v1]) (wy (dt q169)) (aj (ds:=[p_v,p_v1]) bI zs4 bx10 rfl rfl) ?_
     replace Rg:=Rg.cn hb542
     replace Rr:=Rr.cn hb542
     replace Rp:=Rp.ca C543
     replace r_p_v1:=r_p_v1.ca C543
     refine bW (wy (dt q169)) (aO (v:=vb (decide ((turnsR g p).2=0/\aU r=aU (turnsR g p).1))) (aA (vals:=[vg [vi g.1,g_v],r_v,vg [p_v,p_v1]]) Tryz.func22 xl yC rfl) (sX w541 g g_v (Rg).ro r r_v (Rr).ro p p_v p_v1 (Rp).ro (r_p_v1).ro ‹_› (by exact hfew hm)) ?_)
     intro w544 hb545
     replace hb545:=ao hb545 g530
     refine lv (vb (decide ((turnsR g p).2=0/\aU r=aU (turnsR g p).1))) (wy (congrArg Bool.not (dt q165))) (aD rfl (dt q169) rfl) (lv (vb (!(decide (((fitsR g r p).1)=(decide ((turnsR g p).2=0/\aU r=aU (turnsR g p).1)))))) (wy (congrArg Bool.not (dt q165))) (li U4 rfl rfl) (lw (vb (!(decide (((fitsR g r p).1)=(decide ((turnsR g p).2=0/\aU r=aU (turnsR g p).1)))))) (aB rfl (congrArg Bool.not (dt q165)) rfl) (aa ?_)))
     have p25:((fitsR g r p).1)=(decide ((turnsR g p).2=0/\aU r=aU (turnsR g p).1)):=by exact B0 hm hfew ‹_›
     refine ag rfl (congrArg Bool.not (dt p25)) (ak (al (a6 rfl (mz zs10 (lx (aM (m:=↑turn) (n:=1) rfl rfl (by omega)) (ai ((turn:Int)+1) (aa ?_)))))))
     have C546:=cg [8,10,11,12,14] (ch465.n.seq (ch472.n.seq (hb474.n.seq (hb476.n.seq (ch478.n.seq ((ch483.l rfl).seq ((ch492.l3 rfl rfl rfl).seq (hb500.n.seq (hb504.n.seq (hb506.n.seq (ch513.n.seq (hb515.n.seq (ch517.n.seq ((ch522.l rfl).seq (ch531.n.seq (hb534.n.seq (hb537.n.seq (hb542.n.seq hb545.n))))))))))))))))))
     have C547:=cg [14] (hb504.n.seq (hb506.n.seq (ch513.n.seq (hb515.n.seq (ch517.n.seq ((ch522.l rfl).seq (ch531.n.seq (hb534.n.seq (hb537.n.seq (hb542.n.seq hb545.n))))))))))
     have C548:=hb500.n.seq C547
     refine back8 (v487,K488,s489,turn+1,g530) _ _ ⟨bH.ca C546,zs2,zs3,zs4,zs7,zs8,zs9,rfl,Rg.cn hb545,Rp.cn hb545,r_p_v1.cn hb545,Rr.cn hb545,bx5.cn hb545,bx10.cn hb545,o24.ca C547,r27.ca C548,o33.ca C547,r38.ca C547,o35.ca C547,r39.ca C547,bx55.ca C548,bx60.ca C547,o493.ca C548,o494.ca C548,by omega,?_⟩ ?_
     · show gm K488 s489
       assumption
     · show Int.toNat ((2:Int)-((turn+1):Int))<Int.toNat ((2:Int)-(turn:Int))
       omega
    refine ae (wn (df q169)) (ae (wn (df q169)) (ae (wn (df q169)) (ae (wn (df q169)) (lv (vb false) (wy (congrArg Bool.not (dt q165))) (aB rfl (df q169) rfl) (lv (vb (!(decide (((fitsR g r p).1)=false)))) (wy (congrArg Bool.not (dt q165))) (li U4 rfl rfl) (lw (vb (!(decide (((fitsR g r p).1)=false)))) (aB rfl (congrArg Bool.not (dt q165)) rfl) (aa ?_)))))))
    have p25_549:((fitsR g r p).1)=false:=by exact B5 ‹_›
    refine ag rfl (congrArg Bool.not (dt p25_549)) (ak (al (a6 rfl (mz zs10 (lx (aM (m:=↑turn) (n:=1) rfl rfl (by omega)) (ai ((turn:Int)+1) (aa ?_)))))))
    have C550:=cg [8,10,11,12,14] (ch465.n.seq (ch472.n.seq (hb474.n.seq (hb476.n.seq (ch478.n.seq ((ch483.l rfl).seq ((ch492.l3 rfl rfl rfl).seq (hb500.n.seq (hb504.n.seq (hb506.n.seq (ch513.n.seq (hb515.n.seq (ch517.n.seq ((ch522.l rfl).seq (ch531.n.seq (hb534.n.seq (hb537.n.seq hb542.n)))))))))))))))))
    have C551:=cg [] (ch531.n.seq (hb534.n.seq (hb537.n.seq hb542.n)))
    have C552:=cg [14] (hb504.n.seq (hb506.n.seq (ch513.n.seq (hb515.n.seq (ch517.n.seq ((ch522.l rfl).seq (ch531.n.seq (hb534.n.seq (hb537.n.seq hb542.n)))))))))
    have C553:=hb500.n.seq C552
    refine back8 (v487,K488,s489,turn+1,g530) _ _ ⟨bH.ca C550,zs2,zs3,zs4,zs7,zs8,zs9,rfl,Rg.cn hb542,Rp.ca C551,r_p_v1.ca C551,Rr.cn hb542,bx5.cn hb542,bx10.ca C551,o24.ca C552,r27.ca C553,o33.ca C552,r38.ca C552,o35.ca C552,r39.ca C552,bx55.ca C553,bx60.ca C552,o493.ca C553,o494.ca C553,by omega,?_⟩ ?_
    · show gm K488 s489
      assumption
    · show Int.toNat ((2:Int)-((turn+1):Int))<Int.toNat ((2:Int)-(turn:Int))
      omega
   have hn:¬c8 g:=λh=>p17 (dt h)
   refine af rfl (congrArg Bool.not (Bool.eq_false_iff.2 p17)) (a7 (a7 (a6 rfl (mi ((b9 g p).2) (lx (c5 (m:=(b9 g p).2) (n:=1) rfl rfl) (mv (vb (!(decide (((b9 g p).2)=1)))) ?_))))))
   have q88:((b9 g p).2)=1:=by(rw[yI hn];done)
   refine lv (vi ((turnsR g p).2)) (wy (congrArg Bool.not (dt q88))) (aq rfl) (lv (vb (!(decide (((turnsR g p).2)=1)))) (wy (congrArg Bool.not (dt q88))) (c5 (m:=(turnsR g p).2) (n:=1) rfl rfl) (lw (vb (!(decide (((turnsR g p).2)=1)))) (aB rfl (congrArg Bool.not (dt q88)) rfl) (mv (vb (!(decide (((turnsR g p).2)=1)))) ?_)))
   have q92:((turnsR g p).2)=1:=by(rw[jI hn];done)
   refine lv (vi ((fitsR g r p).2)) (wy (congrArg Bool.not (dt q92))) (aq rfl) (lv (vb (!(decide (((fitsR g r p).2)=1)))) (wy (congrArg Bool.not (dt q92))) (c5 (m:=(fitsR g r p).2) (n:=1) rfl rfl) (lw (vb (!(decide (((fitsR g r p).2)=1)))) (aB rfl (congrArg Bool.not (dt q92)) rfl) (mv (vb (!(decide (((fitsR g r p).2)=1)))) ?_)))
   have q96:((fitsR g r p).2)=1:=by(rw[yT hn];done)
   refine lv (vi ((aC g p).2)) (wy (congrArg Bool.not (dt q96))) (aq rfl) (lv (vb (!(decide (((aC g p).2)=1)))) (wy (congrArg Bool.not (dt q96))) (c5 (m:=(aC g p).2) (n:=1) rfl rfl) (lw (vb (!(decide (((aC g p).2)=1)))) (aB rfl (congrArg Bool.not (dt q96)) rfl) (mv (vb (!(decide (((aC g p).2)=1)))) ?_)))
   have q100:((aC g p).2)=1:=by(rw[ng hn];done)
   refine lv (v462) (wy (congrArg Bool.not (dt q100))) (aq rfl) ?_
   have C554:=cg [8,10,11,12] (ch472.n.seq (hb474.n.seq (hb476.n.seq (ch478.n.seq ((ch483.l rfl).seq ((ch492.l3 rfl rfl rfl).seq (hb500.n.seq (hb504.n.seq hb506.n))))))))
   replace o463:=o463.ca C554
   have len555:=(o463.flat).small
   refine lv (vi (List.length ((b9 g p).1):Int)) (wy (congrArg Bool.not (dt q100))) (aQ eH rfl o463.flat) (lv (v469) (wy (congrArg Bool.not (dt q100))) (aq rfl) ?_)
   replace r496:=((r496.cn hb500).cn hb504).cn hb506
   have len556:=(r496).small
   refine lv (vi (List.length ((turnsR g p).1):Int)) (wy (congrArg Bool.not (dt q100))) (aQ ik rfl r496) (lv (vi ((List.length ((b9 g p).1):Int)+(List.length ((turnsR g p).1):Int))) (wy (congrArg Bool.not (dt q100))) (aM (m:=(List.length ((b9 g p).1):Int)) (n:=(List.length ((turnsR g p).1):Int)) rfl rfl (by omega)) (lv (vb (!(decide (((List.length ((b9 g p).1):Int)+(List.length ((turnsR g p).1):Int))=0)))) (wy (congrArg Bool.not (dt q100))) (c5 (m:=(List.length ((b9 g p).1):Int)+(List.length ((turnsR g p).1):Int)) (n:=0) rfl rfl) (lw (vb (!(decide (((List.length ((b9 g p).1):Int)+(List.length ((turnsR g p).1):Int))=0)))) (aB rfl (congrArg Bool.not (dt q100)) rfl) ?_)))
   refine mv (vb (!(decide (((List.length ((b9 g p).1):Int)+(List.length ((turnsR g p).1):Int))=0)))) ?_
   have q108:((List.length ((b9 g p).1):Int)+(List.length ((turnsR g p).1):Int))=0:=by(rw[yI hn,jI hn];rfl)
   refine lv (vb ((fitsR g r p).1)) (wy (congrArg Bool.not (dt q108))) (aq rfl) (lw (vb ((fitsR g r p).1)) (aB rfl (congrArg Bool.not (dt q108)) rfl) (mv (vb ((fitsR g r p).1)) ?_))
   have q111:¬(((fitsR g r p).1)=true):=by(rw[yT hn];decide)
   have C557:=cg [8,10,12] ((ch492.l3 rfl rfl rfl).seq (hb500.n.seq (hb504.n.seq hb506.n)))
   replace bx484:=bx484.ca C557
   refine lv (vg [vi (((aC g p).1).1),vi ((((aC g p).1).2).1),vi (((((aC g p).1).2).2).1),vb ((((((aC g p).1).2).2).2).1),vb ((((((aC g p).1).2).2).2).2)]) (wy (Bool.eq_false_iff.2 q111)) (aj (ds:=[vi (((aC g p).1).1),vi ((((aC g p).1).2).1),vi (((((aC g p).1).2).2).1),vb ((((((aC g p).1).2).2).2).1),vb ((((((aC g p).1).2).2).2).2)]) dm rfl bx484 rfl rfl) (lv (vg [vi 0,vi 0,vi 0,vb false,vb false]) (wy (Bool.eq_false_iff.2 q111)) (bw (vs:=[]) rfl (by kernel_rfl)) ?_)
   refine lv (vb (!(decide ((((aC g p).1).1,(((aC g p).1).2).1,((((aC g p).1).2).2).1,((((((aC g p).1).2).2).2).1),((((((aC g p).1).2).2).2).2))=(0,0,0,false,false))))) (wy (Bool.eq_false_iff.2 q111)) (de (bs:=[decide ((((aC g p).1).1)=0),decide (((((aC g p).1).2).1)=0),decide ((((((aC g p).1).2).2).1)=0),decide (((((((aC g p).1).2).2).2).1)=false),decide (((((((aC g p).1).2).2).2).2)=false)]) lc (by kernel_rfl) (by kernel_rfl) rfl rfl (.cons (by decide+kernel) az rfl rfl (.int U3) (.cons (by decide+kernel) az rfl rfl (.int U3) (.cons (by decide+kernel) az rfl rfl (.int U3) (.cons (by decide+kernel) eW rfl rfl (.bool U4) (.cons (by decide+kernel) eW rfl rfl (.bool U4) .nil))))) (by simp[Prod.ext_iff,Bool.decide_and,Bool.and_assoc])) ?_
   refine lw (vb (!(decide ((((aC g p).1).1,(((aC g p).1).2).1,((((aC g p).1).2).2).1,((((((aC g p).1).2).2).2).1),((((((aC g p).1).2).2).2).2))=(0,0,0,false,false))))) (aB rfl (Bool.eq_false_iff.2 q111) rfl) (aa ?_)
   have p18:(((aC g p).1).1,(((aC g p).1).2).1,((((aC g p).1).2).2).1,((((((aC g p).1).2).2).2).1),((((((aC g p).1).2).2).2).2))=(0,0,0,false,false):=by(rw[ng hn];done)
   refine ag rfl (congrArg Bool.not (dt p18)) (ak (aJ rfl ?_))
   clear o463 bx484 r496
   refine a6 rfl (mz zs10 (lx (aM (m:=↑turn) (n:=1) rfl rfl (by omega)) (ai ((turn:Int)+1) (aa ?_))))
   have C559:=cg [8,10,11,12] (hb474.n.seq (hb476.n.seq (ch478.n.seq ((ch483.l rfl).seq ((ch492.l3 rfl rfl rfl).seq (hb500.n.seq (hb504.n.seq hb506.n)))))))
   have C558:=ch465.n.seq (ch472.n.seq C559)
   have C560:=cg [] (hb500.n.seq (hb504.n.seq hb506.n))
   refine back8 (v487,K488,s489,turn+1,g490) _ _ ⟨bH.ca C558,zs2,zs3,zs4,zs7,zs8,zs9,rfl,Rg.cn hb506,(Rp.cn hb504).cn hb506,(r_p_v1.cn hb504).cn hb506,Rr.ca C559,bx5.cn hb506,(bx10.cn hb504).cn hb506,(o24.cn hb504).cn hb506,r27.ca C560,(o33.cn hb504).cn hb506,(r38.cn hb504).cn hb506,(o35.cn hb504).cn hb506,(r39.cn hb504).cn hb506,bx55.ca C560,(bx60.cn hb504).cn hb506,o493.ca C560,o494.ca C560,by omega,?_⟩ ?_
   · show gm K488 s489
     assumption
   · show Int.toNat ((2:Int)-((turn+1):Int))<Int.toNat ((2:Int)-(turn:Int))
     omega
  refine ag rfl (df p8) (aJ rfl (a7 ?_))
  clear bx5 bx10 r27 r38 r39 bx55 bx60
  refine a6 rfl (mz zs9 (lo (co (aA (vals:=[vp b453 0]) Tryz.func23 wl xK rfl) (au Tryz.func23 rfl nq (a7 (a6 rfl (ma (vb false) (aa (a7 (a7 (a6 rfl (ai 0 (aa ?_)))))))))))))
  refine am ?_
  refine aN (σ:=Nat×cT×aK) (λ⟨i_c1,L_c1,gq⟩ f w=>aT w0 gq w/\f 0=vp b453 0/\f 3=vi ↑i_c1/\Sl gq (is 0) w g_v g.2/\Sl gq (is 0) w p_v p.1/\Sl gq (is 0) w p_v1 p.2/\Sl gq (is 0) w r_v r/\Ow gq (is 3) (is 3) w (fS v23) (g.2++[((-7:Int),(7:Int))])/\Ow gq (is 4) (is 4) w (fS v32) (p.1++[((-7:Int),(7:Int))])/\Ow gq (is 5) (is 5) w (u5 v34) (kV p.2)/\Bx gq (is 8) w b453 [b_0_v,vi b_1]/\dr gq 12 w b_0_v L_c1/\(kP L_c1 i_c1)) (λ⟨i_c1,L_c1,gq⟩=>List.length L_c1-i_c1) (0,b_0,g458) ?_ ?_
  · exact⟨bH,rfl,rfl,Rg,Rp,r_p_v1,Rr,o24,o33,o35,bx455,o_b_0,by exact gm.ap ‹_›⟩
  clear Rg Rp r_p_v1 Rr o24 o33 o35 bx455 o_b_0 bH
  rintro⟨i_c1,L_c1,g563⟩ f561 w562 ⟨bH,zs0_c1,zs3_c1,Rg,Rp,r_p_v1,Rr,o24,o33,o35,bx455,o_b_0,ha_c1⟩ back2_c1
  have hale_c1:=ha_c1.le
  have hafew_c1:=ha_c1.few
  refine a7 (a7 (a6 rfl (mz zs3_c1 (mz zs0_c1 (lw (vp b453 0) (aI rfl) (lx (a8 pK rfl rfl rfl rfl) (lx (ab ey rfl bx455 rfl) ?_)))))))
  have len564:=(o_b_0.sl).small
  refine lx (aQ gM rfl o_b_0.sl) (lx (aZ (m:=↑i_c1) (n:=(L_c1.length:Int)) rfl rfl) (aa ?_))
  by_cases p2_c1:(i_c1:Int)<(L_c1.length:Int)
  ·
   refine af rfl (dt p2_c1) ?_
   have hares_c1:=ha_c1.rest i_c1 (Nat.le_refl _) (by omega)
   refine ak (a7 (am (a7 (a7 (bz g563 rfl lW (by kernel_rfl) ?_)))))
   intro w566 ch565
   refine qz zs0_c1 (qv (vp b453 0) (λw' hw'=>aI rfl) (qx (λw' hw'=>a8 pK rfl rfl rfl rfl) ?_))
   replace bx455:=bx455.cn ch565
   refine qx (λw' hw'=>ab ey rfl (bx455.bel hw') rfl) (qz zs3_c1 ?_)
   replace o_b_0:=o_b_0.cn ch565
   refine qx (λw' hw'=>ad (v:=b_0_v) (i:=↑i_c1) gM rfl rfl (o_b_0.sl.bel hw') rfl (by omega) (by omega)) ?_
   obtain⟨v567,cel568,r569⟩:=cD (r:=(i_c1:Int)) o_b_0 (by omega) (by omega)
   refine qx (λw' hw'=>ba c4 rfl (e7 cel568 hw')) ?_
   have len570:=(r569.row_sl).small
   refine qx (λw' hw'=>aQ cS rfl (r569.row_sl.bel hw')) (qz zs0_c1 (qv (vp b453 0) (λw' hw'=>aI rfl) (qx (λw' hw'=>a8 pK rfl rfl rfl rfl) (qx (λw' hw'=>ab ey rfl (bx455.bel hw') rfl) (qz zs3_c1 (qx (λw' hw'=>ad (v:=b_0_v) (i:=↑i_c1) gM rfl rfl (o_b_0.sl.bel hw') rfl (by omega) (by omega)) ?_))))))
   obtain⟨v571,cel572,r573⟩:=cD (r:=(i_c1:Int)) o_b_0 (by omega) (by omega)
   refine qx (λw' hw'=>ba c4 rfl (e7 cel572 hw')) ?_
   have cap574:=Sl.cap r573.row_sl
   refine qv (vi (dv v571:Int)) (λw' hw'=>yS cS rfl (r573.row_sl.bel hw')) (cl (v:=vi (min (dv v571:Int) ((List.length (gI L_c1 ↑i_c1):Int)+2000))) rfl (λw' hw'=>aA (vals:=[vi (List.length (gI L_c1 ↑i_c1):Int),vi (dv v571:Int)]) Tryz.func56 wk wv rfl) (λw' hw'=>(rr w' (List.length (gI L_c1 ↑i_c1):Int) (dv v571:Int) (by omega)).mono λe w2 h2=>⟨h2.1,hw'.trans (h2.2.mono hw'.size)⟩) (qv (vi (min (dv v571:Int) ((List.length (gI L_c1 ↑i_c1):Int)+2000))) (λw' hw'=>br rfl) (bN ?_)))
   intro w575 hc576
   replace hc576:=ao hc576 g563
   refine am ?_
   clear cel568 r569 cel572 r573
   refine aN (σ:=cT×aK) (λ⟨L1_c1,gq⟩ f w=>aT w0 gq w/\f 0=vp b453 0/\f 3=vi ↑i_c1/\f 4=vi (min (dv v571:Int) ((List.length (gI L_c1 ↑i_c1):Int)+2000))/\Sl gq (is 0) w g_v g.2/\Sl gq (is 0) w p_v p.1/\Sl gq (is 0) w p_v1 p.2/\Sl gq (is 0) w r_v r/\Ow gq (is 3) (is 3) w (fS v23) (g.2++[((-7:Int),(7:Int))])/\Ow gq (is 4) (is 4) w (fS v32) (p.1++[((-7:Int),(7:Int))])/\Ow gq (is 5) (is 5) w (u5 v34) (kV p.2)/\Bx gq (is 8) w b453 [b_0_v,vi b_1]/\dr gq 12 w b_0_v L1_c1/\(ii L1_c1 L_c1 i_c1 (min (dv v571:Int) ((List.length (gI L_c1 ↑i_c1):Int)+2000)))) (λ⟨L1_c1,gq⟩=>Int.toNat ((min (dv v571:Int) ((List.length (gI L_c1 ↑i_c1):Int)+2000))-(List.length (gI L1_c1 ↑i_c1):Int))) (L_c1,g563) ?_ ?_
   replace bH:=bH.cn ch565
   · exact⟨bH.cn hc576,zs0_c1,zs3_c1,rfl,(Rg.cn ch565).cn hc576,(Rp.cn ch565).cn hc576,(r_p_v1.cn ch565).cn hc576,(Rr.cn ch565).cn hc576,(o24.cn ch565).cn hc576,(o33.cn ch565).cn hc576,(o35.cn ch565).cn hc576,bx455.cn hc576,o_b_0.cn hc576,by exact ii.start ha_c1 ‹_›⟩
   clear Rg Rp r_p_v1 Rr o24 o33 o35 bx455 o_b_0 bH
   rintro⟨L1_c1,g579⟩ f577 w578 ⟨bH,zs0_c1,zs3_c1,zs4_c1,Rg,Rp,r_p_v1,Rr,o24,o33,o35,bx455,o_b_0,hg_c1⟩ back5_c1
   have hgl_c1:=hg_c1.len
   have hgle_c1:=hg_c1.le
   refine a7 (a7 (a6 rfl (mz zs0_c1 (lw (vp b453 0) (aI rfl) (lx (a8 pK rfl rfl rfl rfl) (lx (ab ey rfl bx455 rfl) (mz zs3_c1 (lx (ad (v:=b_0_v) (i:=↑i_c1) gM rfl rfl o_b_0.sl rfl (by omega) (by omega)) ?_))))))))
   obtain⟨v580,cel581,r582⟩:=cD (r:=(i_c1:Int)) o_b_0 (by omega) (by omega)
   refine lx (ba c4 rfl cel581) ?_
   have len583:=(r582.row_sl).small
   refine lx (aQ cS rfl r582.row_sl) (mz zs4_c1 (lx (aZ (m:=(List.length (gI L1_c1 ↑i_c1):Int)) (n:=min (dv v571:Int) ((List.length (gI L_c1 ↑i_c1):Int)+2000)) rfl rfl) (aa ?_)))
   by_cases p5_c1:(List.length (gI L1_c1 ↑i_c1):Int)<(min (dv v571:Int) ((List.length (gI L_c1 ↑i_c1):Int)+2000))
   ·
    refine af rfl (dt p5_c1) (ak (am ?_))
    clear cel581 r582
    refine mf (σ:=aK) (λgq f w=>aT w0 gq w/\f 0=vp b453 0/\f 3=vi ↑i_c1/\f 4=vi (min (dv v571:Int) ((List.length (gI L_c1 ↑i_c1):Int)+2000))/\Sl gq (is 0) w g_v g.2/\Sl gq (is 0) w p_v p.1/\Sl gq (is 0) w p_v1 p.2/\Sl gq (is 0) w r_v r/\Ow gq (is 3) (is 3) w (fS v23) (g.2++[((-7:Int),(7:Int))])/\Ow gq (is 4) (is 4) w (fS v32) (p.1++[((-7:Int),(7:Int))])/\Ow gq (is 5) (is 5) w (u5 v34) (kV p.2)/\Bx gq (is 8) w b453 [b_0_v,vi b_1]/\dr gq 12 w b_0_v (List.set L1_c1 (Int.toNat ↑i_c1) (gI L1_c1 ↑i_c1++[0]))) g579 [0,1,2,4,5,6,7,8,9,10,11,14] lW ?_ ?_
    ·
     intro mid
     intro w585 ch584
     refine xp (v:=vp b453 0) 0 rfl (λw=>aq zs0_c1) (xp (v:=vp b453 0) 1 rfl (λw=>aI rfl) (xp 2 rfl (λw=>a8 pK rfl rfl rfl rfl) (xp (v:=vi ↑i_c1) 4 rfl (λw=>aq zs3_c1) (xp (v:=vp b453 0) 5 rfl (λw=>aq zs0_c1) (xp (v:=vp b453 0) 6 rfl (λw=>aI rfl) (xp 7 rfl (λw=>a8 pK rfl rfl rfl rfl) ?_))))))
     replace bx455:=bx455.cn ch584
     refine xh 8 [7,6,5,4,2,1,0,3,9,12] rfl (λw' hw'=>ab ey rfl (bx455.bel hw') rfl) (xp (v:=vi ↑i_c1) 9 rfl (λw=>aq zs3_c1) ?_)
     replace o_b_0:=o_b_0.cn ch584
     refine xh 10 [9,8,7,6,5,4,2,1,0,3,12] rfl (λw' hw'=>ad (v:=b_0_v) (i:=↑i_c1) gM rfl rfl (o_b_0.sl.bel hw') rfl (by omega) (by omega)) ?_
     obtain⟨v586,cel587,r588⟩:=cD (r:=(i_c1:Int)) o_b_0 (by omega) (by omega)
     refine xh 11 [10,9,8,7,6,5,4,2,1,0,3,12] rfl (λw' hw'=>ba c4 rfl (e7 cel587 hw')) ?_
     refine rX 3 12 rfl rfl (by kernel_rfl) rfl rfl ?_ ?_
     ·
      refine bC (v:=b_0_v) (ab ey rfl bx455 rfl) (ct 12 rfl (by kernel_rfl) rfl (aG (α:=Int) g579 (is 16) (is 16) (16,0) rfl [0] cS az (by decide) (by decide) (vs:=[(0,vi 0)]) rfl rfl (.cons rfl .nil) ?_))
      intro g589 w590 v591 ch592 o593
      refine ct 13 rfl (by kernel_rfl) rfl ?_
      replace o_b_0:=o_b_0.cn ch592
      replace r588:=r588.cn ch592
      refine aV (α:=Int) (xs:=(gI L1_c1 ↑i_c1)) (ys:=([0])) g589 (J:=row 12 (Int.toNat ↑i_c1+1)) (S:=row 12 (Int.toNat ↑i_c1+1)) (12,Int.toNat ↑i_c1+1) rfl cS az (by decide) rfl rfl rfl r588 o593.flat (by decide) (by(simp;omega)) ?_
      intro g594 w595 v596 ch597 o598
      have o599:=o_b_0.rowchg ch597
      clear o_b_0 cel587 r588
      obtain⟨us600,hl601,r602⟩:=o599.vc
      try simp only[List.length_set,List.length_append,List.length_cons,List.length_nil] at hl601
      refine xv 14 [13,12,3,11,10,9,8,7,6,5,4,2,1,0] rfl (ad (v:=b_0_v) (i:=↑i_c1) gM rfl rfl r602 rfl (by omega) (by omega)) (ct 15 rfl (by kernel_rfl) rfl (cQ (r:=(i_c1:Int)) c4 rfl rfl o599 o598 (by omega) (by omega) ?_))
      intro w606 ch607 o608
      clear o599 o598
      refine ec (by kernel_rfl) ?_
      have C610:=cg [12] (ch592.n.seq ((ch597.lr rfl).seq (ch607.l rfl)))
      have C609:=ch584.n.seq C610
      exact mid (g594) _ _ ⟨bH.ca C609,zs0_c1,zs3_c1,zs4_c1,Rg.ca C609,Rp.ca C609,r_p_v1.ca C609,Rr.ca C609,o24.ca C609,o33.ca C609,o35.ca C609,bx455.ca C610,o608⟩
     ·
      refine aG (α:=Int) g579 (is 16) (is 16) (16,0) rfl [0] cS az (by decide) (by decide) (vs:=[(0,vi 0)]) rfl rfl (.cons rfl .nil) ?_
      intro g611 w612 v613 ch614 o615
      refine rX 3 13 rfl rfl (by kernel_rfl) rfl rfl ?_ ?_
      ·
       replace bx455:=bx455.cn ch614
       refine bC (v:=b_0_v) (ab ey rfl bx455 rfl) (ct 13 rfl (by kernel_rfl) rfl ?_)
       replace o_b_0:=o_b_0.cn ch614
       replace r588:=r588.cn ch614
       refine aV (α:=Int) (xs:=(gI L1_c1 ↑i_c1)) (ys:=([0])) g611 (J:=row 12 (Int.toNat ↑i_c1+1)) (S:=row 12 (Int.toNat ↑i_c1+1)) (12,Int.toNat ↑i_c1+1) rfl cS az (by decide) rfl rfl rfl r588 o615.flat (by decide) (by(simp;omega)) ?_
       intro g616 w617 v618 ch619 o620
       have o621:=o_b_0.rowchg ch619
       clear o_b_0 cel587 r588
       obtain⟨us622,hl623,r624⟩:=o621.vc
       try simp only[List.length_set,List.length_append,List.length_cons,List.length_nil] at hl623
       refine xv 14 [13,3,12,11,10,9,8,7,6,5,4,2,1,0] rfl (ad (v:=b_0_v) (i:=↑i_c1) gM rfl rfl r624 rfl (by omega) (by omega)) (ct 15 rfl (by kernel_rfl) rfl (cQ (r:=(i_c1:Int)) c4 rfl rfl o621 o620 (by omega) (by omega) ?_))
       intro w628 ch629 o630
       clear o621 o620
       refine ec (by kernel_rfl) ?_
       have C631:=cg [12] (ch584.n.seq (ch614.n.seq ((ch619.lr rfl).seq (ch629.l rfl))))
       exact mid (g616) _ _ ⟨bH.ca C631,zs0_c1,zs3_c1,zs4_c1,Rg.ca C631,Rp.ca C631,r_p_v1.ca C631,Rr.ca C631,o24.ca C631,o33.ca C631,o35.ca C631,(bx455.chg ch619 (ed rfl)).ce ch629,o630⟩
      ·
       replace o_b_0:=o_b_0.cn ch614
       replace r588:=r588.cn ch614
       refine aV (α:=Int) (xs:=(gI L1_c1 ↑i_c1)) (ys:=([0])) g611 (J:=row 12 (Int.toNat ↑i_c1+1)) (S:=row 12 (Int.toNat ↑i_c1+1)) (12,Int.toNat ↑i_c1+1) rfl cS az (by decide) rfl rfl rfl r588 o615.flat (by decide) (by(simp;omega)) ?_
       intro g632 w633 v634 ch635 o636
       have o637:=o_b_0.rowchg ch635
       clear o_b_0 cel587 r588
       replace bx455:=(bx455.cn ch614).chg ch635 (ed rfl)
       refine ct 3 rfl (by kernel_rfl) rfl (bC (v:=b_0_v) (ab ey rfl bx455 rfl) ?_)
       obtain⟨us638,hl639,r640⟩:=o637.vc
       try simp only[List.length_set,List.length_append,List.length_cons,List.length_nil] at hl639
       refine xv 14 [3,13,12,11,10,9,8,7,6,5,4,2,1,0] rfl (ad (v:=b_0_v) (i:=↑i_c1) gM rfl rfl r640 rfl (by omega) (by omega)) (ct 15 rfl (by kernel_rfl) rfl (cQ (r:=(i_c1:Int)) c4 rfl rfl o637 o636 (by omega) (by omega) ?_))
       intro w644 ch645 o646
       clear o637 o636
       refine ec (by kernel_rfl) ?_
       have C647:=cg [12] (ch584.n.seq (ch614.n.seq ((ch635.lr rfl).seq (ch645.l rfl))))
       exact mid (g632) _ _ ⟨bH.ca C647,zs0_c1,zs3_c1,zs4_c1,Rg.ca C647,Rp.ca C647,r_p_v1.ca C647,Rr.ca C647,o24.ca C647,o33.ca C647,o35.ca C647,bx455.ce ch645,o646⟩
    clear Rg Rp r_p_v1 Rr o24 o33 o35 bx455 o_b_0 bH
    rintro g650 f648 w649 ⟨bH,zs0_c1,zs3_c1,zs4_c1,Rg,Rp,r_p_v1,Rr,o24,o33,o35,bx455,o606⟩
    refine al ?_
    refine back5_c1 ((List.set L1_c1 (Int.toNat ↑i_c1) (gI L1_c1 ↑i_c1++[0])),g650) _ _ ⟨bH,zs0_c1,zs3_c1,zs4_c1,Rg,Rp,r_p_v1,Rr,o24,o33,o35,bx455,o606,?_⟩ ?_
    · show ii (List.set L1_c1 (Int.toNat ↑i_c1) (gI L1_c1 ↑i_c1++[0])) L_c1 i_c1 (min (dv v571:Int) ((List.length (gI L_c1 ↑i_c1):Int)+2000))
      exact hg_c1.next ‹_› ‹_› (by omega)
    · show Int.toNat ((min (dv v571:Int) ((List.length (gI L_c1 ↑i_c1):Int)+2000))-(List.length (gI (List.set L1_c1 (Int.toNat ↑i_c1) (gI L1_c1 ↑i_c1++[0])) (i_c1:Int)):Int))<Int.toNat ((min (dv v571:Int) ((List.length (gI L_c1 ↑i_c1):Int)+2000))-(List.length (gI L1_c1 ↑i_c1):Int))
      (have h1:=hg_c1.meas ‹_›;omega)
   refine ag rfl (df p5_c1) (aJ rfl (a7 ?_))
   clear cel581 r582
   refine a6 rfl (ai 0 (aa (am ?_)))
   refine aN (σ:=Nat×cT×aK) (λ⟨k_c1,L2_c1,gq⟩ f w=>aT w0 gq w/\f 0=vp b453 0/\f 3=vi ↑i_c1/\f 5=vi ↑k_c1/\Sl gq (is 0) w g_v g.2/\Sl gq (is 0) w p_v p.1/\Sl gq (is 0) w p_v1 p.2/\Sl gq (is 0) w r_v r/\Ow gq (is 3) (is 3) w (fS v23) (g.2++[((-7:Int),(7:Int))])/\Ow gq (is 4) (is 4) w (fS v32) (p.1++[((-7:Int),(7:Int))])/\Ow gq (is 5) (is 5) w (u5 v34) (kV p.2)/\Bx gq (is 8) w b453 [b_0_v,vi b_1]/\dr gq 12 w b_0_v L2_c1/\(kL L2_c1 L_c1 i_c1 k_c1)) (λ⟨k_c1,L2_c1,gq⟩=>List.length (gI L2_c1 ↑i_c1)-k_c1) (0,L1_c1,g579) ?_ ?_
   · exact⟨bH,zs0_c1,zs3_c1,rfl,Rg,Rp,r_p_v1,Rr,o24,o33,o35,bx455,o_b_0,by exact hg_c1.wr⟩
   clear Rg Rp r_p_v1 Rr o24 o33 o35 bx455 o_b_0 bH
   rintro⟨k_c1,L2_c1,g653⟩ f651 w652 ⟨bH,zs0_c1,zs3_c1,zs5_c1,Rg,Rp,r_p_v1,Rr,o24,o33,o35,bx455,o_b_0,hw_c1⟩ back8_c1
   have hwl_c1:=hw_c1.len
   have hwle_c1:=hw_c1.le
   have hwf_c1:=hw_c1.few
   refine a7 (a7 (a6 rfl (mz zs5_c1 (mz zs0_c1 (lw (vp b453 0) (aI rfl) (lx (a8 pK rfl rfl rfl rfl) (lx (ab ey rfl bx455 rfl) (mz zs3_c1 (lx (ad (v:=b_0_v) (i:=↑i_c1) gM rfl rfl o_b_0.sl rfl (by omega) (by omega)) ?_)))))))))
   obtain⟨v654,cel655,r656⟩:=cD (r:=(i_c1:Int)) o_b_0 (by omega) (by omega)
   refine lx (ba c4 rfl cel655) ?_
   have len657:=(r656.row_sl).small
   refine lx (aQ cS rfl r656.row_sl) (lx (aZ (m:=↑k_c1) (n:=(List.length (gI L2_c1 ↑i_c1):Int)) rfl rfl) (aa ?_))
   by_cases p8_c1:(k_c1:Int)<(List.length (gI L2_c1 ↑i_c1):Int)
   ·
    refine af rfl (dt p8_c1) (ak (a7 (am ?_)))
    clear cel655 r656
    refine a6 rfl (mz zs0_c1 (lw (vp b453 0) (aI rfl) (lx (a8 pK rfl rfl rfl rfl) (lx (ab ey rfl bx455 rfl) (mz zs3_c1 (lx (ad (v:=b_0_v) (i:=↑i_c1) gM rfl rfl o_b_0.sl rfl (by omega) (by omega)) ?_))))))
    obtain⟨v658,cel659,r660⟩:=cD (r:=(i_c1:Int)) o_b_0 (by omega) (by omega)
    refine lx (ba c4 rfl cel659) (mz zs5_c1 (mz zs3_c1 (lx (c3 (m:= -1000) (n:=↑i_c1) rfl rfl (by omega)) (lx (ad (v:=v658) (i:=↑k_c1) cS rfl rfl r660.row_sl rfl (by omega) (by omega)) (lo (dz (i:=↑k_c1) ((-1000)-(i_c1:Int)) az rfl rfl r660 (by omega) (by omega) rfl ?_))))))
    intro w664 ch665 r666
    obtain⟨o667,cel668⟩:=zA (r:=(i_c1:Int)) o_b_0 (by omega) (by omega) ch665 cel659 r666
    clear o_b_0 cel659 r660
    refine aa (al ?_)
    clear cel668 r666
    refine a6 rfl (mz zs5_c1 (lx (aM (m:=↑k_c1) (n:=1) rfl rfl (by omega)) (ai ((k_c1:Int)+1) (aa ?_))))
    refine back8_c1 (k_c1+1,(List.set L2_c1 (Int.toNat ↑i_c1) (List.set (gI L2_c1 ↑i_c1) (Int.toNat ↑k_c1) ((-1000)-(i_c1:Int)))),g653) _ _ ⟨bH.chg ch665 (ed rfl),zs0_c1,zs3_c1,rfl,Rg.chg ch665 (ed rfl),Rp.chg ch665 (ed rfl),r_p_v1.chg ch665 (ed rfl),Rr.chg ch665 (ed rfl),o24.chg ch665 (ed rfl) (ed rfl),o33.chg ch665 (ed rfl) (ed rfl),o35.chg ch665 (ed rfl) (ed rfl),bx455.chg ch665 (ed rfl),o667,?_⟩ ?_
    · show kL (List.set L2_c1 (Int.toNat ↑i_c1) (List.set (gI L2_c1 ↑i_c1) (Int.toNat ↑k_c1) ((-1000)-(i_c1:Int)))) L_c1 i_c1 (k_c1+1)
      exact(hw_c1.next ‹_› ‹_›).1
    · show List.length (gI (List.set L2_c1 (Int.toNat ↑i_c1) (List.set (gI L2_c1 ↑i_c1) (Int.toNat ↑k_c1) ((-1000)-(i_c1:Int)))) (i_c1:Int))-(k_c1+1)<List.length (gI L2_c1 ↑i_c1)-k_c1
      (have h1:=(hw_c1.next ‹_› ‹_›).2;omega)
   refine ag rfl (df p8_c1) (aJ rfl (al ?_))
   clear cel655 r656
   refine a6 rfl (mz zs3_c1 (lx (aM (m:=↑i_c1) (n:=1) rfl rfl (by omega)) (ai ((i_c1:Int)+1) (aa ?_))))
   refine back2_c1 (i_c1+1,L2_c1,g653) _ _ ⟨bH,zs0_c1,rfl,Rg,Rp,r_p_v1,Rr,o24,o33,o35,bx455,o_b_0,?_⟩ ?_
   · show kP L2_c1 (i_c1+1)
     exact hw_c1.fin ha_c1 ‹_› ‹_›
   · show List.length L2_c1-(i_c1+1)<List.length L_c1-i_c1
     (have h1:=hw_c1.len;omega)
  refine ag rfl (df p2_c1) (aJ rfl (a7 (a7 (a6 rfl (ai 0 (aa (am ?_)))))))
  refine aN (σ:=Nat×aK) (λ⟨m_c1,gq⟩ f w=>aT w0 gq w/\f 0=vp b453 0/\f 6=vi ↑m_c1/\Sl gq (is 0) w g_v g.2/\Sl gq (is 0) w p_v p.1/\Sl gq (is 0) w p_v1 p.2/\Sl gq (is 0) w r_v r/\Ow gq (is 3) (is 3) w (fS v23) (g.2++[((-7:Int),(7:Int))])/\Ow gq (is 4) (is 4) w (fS v32) (p.1++[((-7:Int),(7:Int))])/\Ow gq (is 5) (is 5) w (u5 v34) (kV p.2)/\Bx gq (is 8) w b453 [b_0_v,vi b_1]/\dr gq 12 w b_0_v L_c1/\(m_c1:Int)<=((L_c1.length:Int):Int)/\(True)) (λ⟨m_c1,gq⟩=>Int.toNat (((L_c1.length:Int):Int)-(m_c1:Int))) (0,g563) ?_ ?_
  · exact⟨bH,zs0_c1,rfl,Rg,Rp,r_p_v1,Rr,o24,o33,o35,bx455,o_b_0,by omega,by trivial⟩
  clear Rg Rp r_p_v1 Rr o24 o33 o35 bx455 o_b_0 bH
  rintro⟨m_c1,g671⟩ f669 w670 ⟨bH,zs0_c1,zs6_c1,Rg,Rp,r_p_v1,Rr,o24,o33,o35,bx455,o_b_0,hle_m_c1,hinv12_c1⟩ back12_c1
  refine a7 (a7 (a6 rfl (mz zs6_c1 (mz zs0_c1 (lw (vp b453 0) (aI rfl) (lx (a8 pK rfl rfl rfl rfl) (lx (ab ey rfl bx455 rfl) (lx (aQ gM rfl o_b_0.sl) (lx (aZ (m:=↑m_c1) (n:=(L_c1.length:Int)) rfl rfl) (aa ?_))))))))))
  by_cases p12_c1:(m_c1:Int)<(L_c1.length:Int)
  ·
   refine af rfl (dt p12_c1) (ak (a7 (am (a7 (a6 rfl (ai 0 (aa (am ?_))))))))
   refine aN (σ:=Nat×aK) (λ⟨n_c1,gq⟩ f w=>aT w0 gq w/\f 0=vp b453 0/\f 6=vi ↑m_c1/\f 7=vi ↑n_c1/\Sl gq (is 0) w g_v g.2/\Sl gq (is 0) w p_v p.1/\Sl gq (is 0) w p_v1 p.2/\Sl gq (is 0) w r_v r/\Ow gq (is 3) (is 3) w (fS v23) (g.2++[((-7:Int),(7:Int))])/\Ow gq (is 4) (is 4) w (fS v32) (p.1++[((-7:Int),(7:Int))])/\Ow gq (is 5) (is 5) w (u5 v34) (kV p.2)/\Bx gq (is 8) w b453 [b_0_v,vi b_1]/\dr gq 12 w b_0_v L_c1/\(n_c1:Int)<=((List.length (gI L_c1 ↑m_c1):Int):Int)/\(True)) (λ⟨n_c1,gq⟩=>Int.toNat (((List.length (gI L_c1 ↑m_c1):Int):Int)-(n_c1:Int))) (0,g671) ?_ ?_
   · exact⟨bH,zs0_c1,zs6_c1,rfl,Rg,Rp,r_p_v1,Rr,o24,o33,o35,bx455,o_b_0,by omega,by trivial⟩
   clear Rg Rp r_p_v1 Rr o24 o33 o35 bx455 o_b_0 bH
   rintro⟨n_c1,g674⟩ f672 w673 ⟨bH,zs0_c1,zs6_c1,zs7_c1,Rg,Rp,r_p_v1,Rr,o24,o33,o35,bx455,o_b_0,hle_n_c1,hinv15_c1⟩ back15_c1
   refine a7 (a7 (a6 rfl (mz zs7_c1 (mz zs0_c1 (lw (vp b453 0) (aI rfl) (lx (a8 pK rfl rfl rfl rfl) (lx (ab ey rfl bx455 rfl) (mz zs6_c1 (lx (ad (v:=b_0_v) (i:=↑m_c1) gM rfl rfl o_b_0.sl rfl (by omega) (by omega)) ?_)))))))))
   obtain⟨v675,cel676,r677⟩:=cD (r:=(m_c1:Int)) o_b_0 (by omega) (by omega)
   refine lx (ba c4 rfl cel676) ?_
   have len678:=(r677.row_sl).small
   refine lx (aQ cS rfl r677.row_sl) (lx (aZ (m:=↑n_c1) (n:=(List.length (gI L_c1 ↑m_c1):Int)) rfl rfl) (aa ?_))
   by_cases p15_c1:(n_c1:Int)<(List.length (gI L_c1 ↑m_c1):Int)
   ·
    refine af rfl (dt p15_c1) (ak (a7 (am (a7 ?_))))
    clear cel676 r677
    refine a6 rfl (mz zs0_c1 (lw (vp b453 0) (aI rfl) (lx (a8 pK rfl rfl rfl rfl) (lx (ab ey rfl bx455 rfl) (mz zs6_c1 (lx (ad (v:=b_0_v) (i:=↑m_c1) gM rfl rfl o_b_0.sl rfl (by omega) (by omega)) ?_))))))
    obtain⟨v679,cel680,r681⟩:=cD (r:=(m_c1:Int)) o_b_0 (by omega) (by omega)
    refine lx (ba c4 rfl cel680) (mz zs7_c1 (lx (ad (v:=v679) (i:=↑n_c1) cS rfl rfl r681.row_sl rfl (by omega) (by omega)) (lx (bA (v:=v679) (i:=↑n_c1) az rfl r681.row_sl (by omega) (by omega) (by decide) rfl) (mz zs6_c1 (lx (c3 (m:= -1000) (n:=↑m_c1) rfl rfl (by omega)) (lx (c5 (m:=(gI (gI L_c1 ↑m_c1) ↑n_c1)) (n:=(-1000)-(m_c1:Int)) rfl rfl) (aa ?_)))))))
    have p17_c1:(gI (gI L_c1 ↑m_c1) ↑n_c1)=((-1000)-(m_c1:Int)):=by exact ha_c1.read (by omega) ‹_› ‹_›
    refine ag rfl (congrArg Bool.not (dt p17_c1)) (ak (al ?_))
    clear cel680 r681
    refine a6 rfl (mz zs7_c1 (lx (aM (m:=↑n_c1) (n:=1) rfl rfl (by omega)) (ai ((n_c1:Int)+1) (aa ?_))))
    refine back15_c1 (n_c1+1,g674) _ _ ⟨bH,zs0_c1,zs6_c1,rfl,Rg,Rp,r_p_v1,Rr,o24,o33,o35,bx455,o_b_0,by omega,?_⟩ ?_
    · show True
      trivial
    · show Int.toNat (((List.length (gI L_c1 ↑m_c1):Int):Int)-((n_c1+1):Int))<Int.toNat (((List.length (gI L_c1 ↑m_c1):Int):Int)-(n_c1:Int))
      omega
   refine ag rfl (df p15_c1) (aJ rfl (al ?_))
   clear cel676 r677
   refine a6 rfl (mz zs6_c1 (lx (aM (m:=↑m_c1) (n:=1) rfl rfl (by omega)) (ai ((m_c1:Int)+1) (aa ?_))))
   refine back12_c1 (m_c1+1,g674) _ _ ⟨bH,zs0_c1,rfl,Rg,Rp,r_p_v1,Rr,o24,o33,o35,bx455,o_b_0,by omega,?_⟩ ?_
   · show True
     trivial
   · show Int.toNat (((L_c1.length:Int):Int)-((m_c1+1):Int))<Int.toNat (((L_c1.length:Int):Int)-(m_c1:Int))
     omega
  refine ag rfl (df p12_c1) (aJ rfl (a7 (a6 rfl (ma (vb true) (aa (ar (vs:=[vb true]) Tryz.func23 (.tmp rfl .nil) ?_))))))
  refine⟨vb true,rfl,?_⟩
  refine ma (vb true) (aa (ar (vs:=[vb true]) Tryz.func3 (.tmp rfl .nil) ?_))
  have e0:(true:Bool)=(true):=by
    rfl
  exact⟨rb e0,bH.below⟩
 refine ae (wn (congrArg Bool.not (Bool.eq_false_iff.2 q30))) (ae (wn (congrArg Bool.not (Bool.eq_false_iff.2 q30))) (ae (wn (congrArg Bool.not (Bool.eq_false_iff.2 q30))) (lw (vb true) (aD rfl (congrArg Bool.not (Bool.eq_false_iff.2 q30)) rfl) (aa (af rfl rfl (a7 ?_))))))
 clear bx5 bx10
 refine a6 rfl (ma (vb true) (aa (ar (vs:=[vb true]) Tryz.func3 (.tmp rfl .nil) ?_)))
 have e0:(true:Bool)=(true):=by
   rfl
 have C682:=cg [] (ch2.n.seq (ch7.n.seq (hb12.n.seq hb15.n)))
 replace bH:=bH.ca C682
 exact⟨rb e0,bH.below⟩
end TL
