import Derived.Test.YtbadiajeohbpcaaGreatTlP3
import Derived.Test.YtbadiajeohbpcaaGreatTlGkC
import Derived.Test.YtbadiajeohbpcaaGreatTlGjD
import Derived.Test.YtbadiajeohbpcaaGreatTlGenX
import Derived.Test.YtbadiajeohbpcaaGreatProg
import Derived.Test.YtbadiajeohbpcaaGreatTlAli
set_option linter.all false
set_option maxRecDepth 20000
namespace TL
open Go Go.Proofs
theorem uM:Tryz.f9.body.isNone=false:=rfl
theorem ur:(Tryz.f9.name== "runtime.NumGoroutine")=false:=by decide+kernel
theorem rK:Tryz.f16.body.isNone=false:=rfl
theorem se:(Tryz.f16.name== "runtime.NumGoroutine")=false:=by decide+kernel
theorem wH:Tryz.f35.body.isNone=false:=rfl
theorem wV:(Tryz.f35.name== "runtime.NumGoroutine")=false:=by decide+kernel
theorem wL:Tryz.f55.body.isNone=false:=rfl
theorem xS:(Tryz.f55.name== "runtime.NumGoroutine")=false:=by decide+kernel
theorem sX(w0:World)(g:(Int)×(List Pt))(g_v:Value)(hg_v:Ro w0 g_v g.2)(r:cT)(r_v:Value)(hr_v:Ro w0 r_v r)(p:(List Pt)×(List (List Pt)))(p_v p_v1:Value)(hp_v:Ro w0 p_v p.1)(hp_v1:Ro w0 p_v1 p.2)(hmay:c8 g)(hfew:(g.2.length:Int)<=2000):
    Calls Tryz.prog 22 #[vg [vi g.1,g_v],r_v,vg [p_v,p_v1]] w0 (λee w=>ee= .returned (vb (decide ((turnsR g p).2=0/\aU r=aU (turnsR g p).1)))/\cE w0.heap.size w0 w):=by
 refine au Tryz.func22 rfl nq ?_
 have bH:=aT.start w0
 have Rg:=hg_v.sl
 have Rr:=hr_v.sl
 have Rp:=hp_v.sl
 have r_p_v1:=hp_v1.sl
 refine a7 (a6 rfl (bW rfl (bh c0 (is 1) (1,0) rfl rfl ?_)))
 intro g4 w1 b3 ch2 bx5
 replace bx5:Bx g4 (is 1) w1 b3 [vi g.1,g_v]:=bx5
 refine lo (bh g4 (is 2) (2,0) rfl rfl ?_)
 intro g9 w6 b8 ch7 bx10
 replace bx10:Bx g9 (is 2) w6 b8 [p_v,p_v1]:=bx10
 refine ma (vb false) (aa (a7 (a6 rfl ?_)))
 replace bx5:=bx5.cn ch7
 refine lx (aj (ds:=[vi g.1,g_v]) bF rfl bx5 rfl rfl) (lx (aj (ds:=[p_v,p_v1]) bI rfl bx10 rfl rfl) ?_)
 replace Rg:=(Rg.cn ch2).cn ch7
 replace Rp:=(Rp.cn ch2).cn ch7
 replace r_p_v1:=(r_p_v1.cn ch2).cn ch7
 refine lo (bi (aA (vals:=[vg [vi g.1,g_v],vg [p_v,p_v1]]) Tryz.func16 rK se rfl) (lT w6 g g_v (Rg).ro p p_v p_v1 (Rp).ro (r_p_v1).ro ‹_› ‹_›) ?_)
 rintro⟨d12,v14⟩ w11 ⟨fr13,o15⟩
 obtain⟨g16,ch17,G16⟩:=fC g9 fr13 (λn=>if n=1 then 3 else 0)
 replace o15:=o15.gl G16 3
 refine mv (vt [v14,vi ((turnsR g p).2)]) (lx (b6 rfl rfl) (lx (b6 rfl rfl) (ma v14 (ai ((turnsR g p).2) (aa (a7 ?_))))))
 clear bx5 bx10
 refine a6 rfl (mi ((turnsR g p).2) (lx (c7 (m:=(turnsR g p).2) (n:=0) rfl rfl) (mv (vb (decide (((turnsR g p).2)=0))) ?_)))
 by_cases q17:((turnsR g p).2)=0
 ·
  refine lv (r_v) (wy (dt q17)) (aq rfl) (lv (v14) (wy (dt q17)) (aq rfl) ?_)
  have C18:=cg [] (ch2.n.seq (ch7.n.seq ch17.n))
  replace Rr:=Rr.ca C18
  refine bW (wy (dt q17)) (aO (v:=vb (decide (aU r=aU ((turnsR g p).1)))) (aA (vals:=[r_v,v14]) Tryz.func55 wL xS rfl) (sP w11 r r_v (Rr).ro ((turnsR g p).1) v14 (o15.sl).ro) ?_)
  intro w19 hb20
  replace hb20:=ao hb20 g16
  refine lw (vb (decide (aU r=aU ((turnsR g p).1)))) (aD rfl (dt q17) rfl) (ma (vb (decide (aU r=aU ((turnsR g p).1)))) (aa (ar (vs:=[vb (decide (aU r=aU ((turnsR g p).1)))]) Tryz.func22 (.tmp rfl .nil) ?_)))
  have e0:((decide (aU r=aU ((turnsR g p).1))):Bool)=(decide ((turnsR g p).2=0/\aU r=aU (turnsR g p).1)):=by
    exact Aq ‹_› rfl
  have C21:=cg [] (ch2.n.seq (ch7.n.seq (ch17.n.seq hb20.n)))
  replace bH:=bH.ca C21
  exact⟨(congrArg (a₁:=(decide (aU r=aU ((turnsR g p).1)))) (λ(z0:Bool)=>Ending.returned (vb z0)) e0),bH.below⟩
 refine ae (wn (df q17)) (ae (wn (df q17)) (ae (wn (df q17)) (lw (vb false) (aB rfl (df q17) rfl) (ma (vb false) (aa (ar (vs:=[vb false]) Tryz.func22 (.tmp rfl .nil) ?_))))))
 have e0:(false:Bool)=(decide ((turnsR g p).2=0/\aU r=aU (turnsR g p).1)):=by
   exact AK ‹_›
 have C22:=cg [] (ch2.n.seq (ch7.n.seq ch17.n))
 replace bH:=bH.ca C22
 exact⟨rb e0,bH.below⟩
theorem tJ(w0:World)(g:(Int)×(List Pt))(g_v:Value)(hg_v:Ro w0 g_v g.2)(r:cT)(r_v:Value)(hr_v:Ro w0 r_v r)(p:(List Pt)×(List (List Pt)))(p_v p_v1:Value)(hp_v:Ro w0 p_v p.1)(hp_v1:Ro w0 p_v1 p.2)(hfew:c8 g->(g.2.length:Int)<=2000):
    Calls Tryz.prog 10 #[vg [vi g.1,g_v],r_v,vg [p_v,p_v1]] w0 (λee w=>ee= .returned (vt [vb ((fitsR g r p).1),vi ((fitsR g r p).2)])/\cE w0.heap.size w0 w):=by
 refine au Tryz.func10 rfl nq ?_
 have bH:=aT.start w0
 have Rg:=hg_v.sl
 have Rr:=hr_v.sl
 have Rp:=hp_v.sl
 have r_p_v1:=hp_v1.sl
 refine a7 (a6 rfl (bW rfl (bh c0 (is 1) (1,0) rfl rfl ?_)))
 intro g4 w1 b3 ch2 bx5
 replace bx5:Bx g4 (is 1) w1 b3 [vi g.1,g_v]:=bx5
 refine lo (bh g4 (is 2) (2,0) rfl rfl ?_)
 intro g9 w6 b8 ch7 bx10
 replace bx10:Bx g9 (is 2) w6 b8 [p_v,p_v1]:=bx10
 refine ma (vb false) (ai 0 (aa (a7 (a7 (a6 rfl ?_)))))
 replace bx5:=bx5.cn ch7
 refine lx (aj (ds:=[vi g.1,g_v]) bF rfl bx5 rfl rfl) (mv r_v ?_)
 replace Rg:=(Rg.cn ch2).cn ch7
 replace Rr:=(Rr.cn ch2).cn ch7
 refine lo (aO (v:=vi (bg g r)) (aA (vals:=[vg [vi g.1,g_v],r_v]) Tryz.func34 nf nQ rfl) (ld w6 g g_v (Rg).ro r r_v (Rr).ro) ?_)
 intro w11 hb12
 replace hb12:=ao hb12 g9
 refine ai (bg g r) (aa (a7 (a6 rfl (mi (bg g r) (lx (c5 (m:=bg g r) (n:=0) rfl rfl) (aa ?_))))))
 by_cases p2:(bg g r)=0
 ·
  refine ag rfl (congrArg Bool.not (dt p2)) (ak (a7 (a6 rfl ?_)))
  replace bx5:=bx5.cn hb12
  refine lx (aj (ds:=[vi g.1,g_v]) bF rfl bx5 rfl rfl) ?_
  replace bx10:=bx10.cn hb12
  refine lx (aj (ds:=[p_v,p_v1]) bI rfl bx10 rfl rfl) ?_
  replace Rg:=Rg.cn hb12
  have C13:=cg [] (ch2.n.seq (ch7.n.seq hb12.n))
  replace Rp:=Rp.ca C13
  replace r_p_v1:=r_p_v1.ca C13
  refine lo (bi (aA (vals:=[vg [vi g.1,g_v],vg [p_v,p_v1]]) Tryz.func9 uM ur rfl) (lU w11 g g_v (Rg).ro p p_v p_v1 (Rp).ro (r_p_v1).ro ‹_›) ?_)
  rintro⟨d15,v17⟩ w14 ⟨fr16,o18⟩
  obtain⟨g19,ch20,G19⟩:=fC g9 fr16 (λn=>if n=1 then 3 else 0)
  replace o18:=o18.gl G19 3
  refine mv (vt [v17,vi ((turnsR g p).2)]) (lx (b6 rfl rfl) (lx (b6 rfl rfl) (ma v17 (ai ((turnsR g p).2) (aa (a7 (a7 ?_)))))))
  clear bx10
  refine a6 rfl (mi ((turnsR g p).2) (lx (c5 (m:=(turnsR g p).2) (n:=0) rfl rfl) (aa ?_)))
  by_cases p5:((turnsR g p).2)=0
  ·
   refine ag rfl (congrArg Bool.not (dt p5)) (ak (a7 (a6 rfl ?_)))
   replace bx5:=bx5.cn ch20
   refine lx (aj (ds:=[vi g.1,g_v]) bF rfl bx5 rfl rfl) (mv r_v (mv v17 ?_))
   replace Rg:=Rg.cn ch20
   replace Rr:=(Rr.cn hb12).cn ch20
   refine lo (aO (v:=vt [vb ((cW g r ((turnsR g p).1)).1),vi ((cW g r ((turnsR g p).1)).2)]) (aA (vals:=[vg [vi g.1,g_v],r_v,v17]) Tryz.func35 wH wV rfl) (uj w14 g g_v (Rg).ro r r_v (Rr).ro ((turnsR g p).1) v17 (o18.sl).ro) ?_)
   intro w21 hb22
   replace hb22:=ao hb22 g19
   refine lx (b6 rfl rfl) (lx (b6 rfl rfl) (ma (vb ((cW g r ((turnsR g p).1)).1)) (ai ((cW g r ((turnsR g p).1)).2) (aa (ar (vs:=[vb ((cW g r ((turnsR g p).1)).1),vi ((cW g r ((turnsR g p).1)).2)]) Tryz.func10 (.tmp rfl (.tmp rfl .nil)) ?_)))))
   have e0:(((cW g r ((turnsR g p).1)).1):Bool)=((fitsR g r p).1):=by
     unfold fitsR
     rw[if_pos (by omega),if_pos (by omega)]
   have e1:((cW g r ((turnsR g p).1)).2:Int)=((fitsR g r p).2):=by
     unfold fitsR
     rw[if_pos (by omega),if_pos (by omega)]
   have C23:=cg [] (ch2.n.seq (ch7.n.seq (hb12.n.seq (ch20.n.seq hb22.n))))
   replace bH:=bH.ca C23
   exact⟨(bR (a:=((cW g r ((turnsR g p).1)).1)) (b:=(cW g r ((turnsR g p).1)).2) (λ(z0:Bool) (z1:Int)=>Ending.returned (vt [vb z0,vi z1])) e0 e1),bH.below⟩
  refine af rfl (congrArg Bool.not (df p5)) (a7 ?_)
  clear bx5 o18
  refine a6 rfl (ma (vb false) (ai 0 (aa (ar (vs:=[vb false,vi 0]) Tryz.func10 (.tmp rfl (.tmp rfl .nil)) ?_))))
  have e0:(false:Bool)=((fitsR g r p).1):=by
    unfold fitsR
    rw[if_pos (by omega),if_neg ‹_›]
  have e1:(0:Int)=((fitsR g r p).2):=by
    unfold fitsR
    rw[if_pos (by omega),if_neg ‹_›]
  have C24:=cg [] (ch2.n.seq (ch7.n.seq (hb12.n.seq ch20.n)))
  replace bH:=bH.ca C24
  exact⟨(bR (a:=false) (b:=0) (λ(z0:Bool) (z1:Int)=>Ending.returned (vt [vb z0,vi z1])) e0 e1),bH.below⟩
 refine af rfl (congrArg Bool.not (df p2)) (a7 ?_)
 clear bx5 bx10
 refine a6 rfl (mi (bg g r) (ma (vb false) (ai (bg g r) (aa (ar (vs:=[vb false,vi (bg g r)]) Tryz.func10 (.tmp rfl (.tmp rfl .nil)) ?_)))))
 have e0:(false:Bool)=((fitsR g r p).1):=by
   unfold fitsR
   rw[if_neg ‹_›]
 have e1:(bg g r:Int)=((fitsR g r p).2):=by
   unfold fitsR
   rw[if_neg ‹_›]
 have C25:=cg [] (ch2.n.seq (ch7.n.seq hb12.n))
 replace bH:=bH.ca C25
 exact⟨(bR (a:=false) (b:=bg g r) (λ(z0:Bool) (z1:Int)=>Ending.returned (vt [vb z0,vi z1])) e0 e1),bH.below⟩
end TL
