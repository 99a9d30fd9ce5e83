import Derived.Test.YtmakonaaojadbaaBjTlP3
import Derived.Test.YtmakonaaojadbaaBjTlGmA
import Derived.Test.YtmakonaaojadbaaBjTlGenA
import Derived.Test.YtmakonaaojadbaaBjTlBkG
import Derived.Test.YtmakonaaojadbaaBjTlBkW
import Derived.Test.YtmakonaaojadbaaProg
import Derived.Test.YtmakonaaojadbaaBjTlAli
set_option linter.all false
set_option maxRecDepth 20000
namespace TL
open Go Go.Proofs
theorem gr:Try.prog.follows .mixedOrders=true:=by kernel_rfl
theorem pL:Try.f8.body.isNone=false:=rfl
theorem qg:(Try.f8.name== "runtime.NumGoroutine")=false:=by decide+kernel
theorem pV:Try.f9.body.isNone=false:=rfl
theorem qb:(Try.f9.name== "runtime.NumGoroutine")=false:=by decide+kernel
theorem oA:Try.f32.body.isNone=false:=rfl
theorem nO:(Try.f32.name== "runtime.NumGoroutine")=false:=by decide+kernel
theorem oN:Try.f33.body.isNone=false:=rfl
theorem nV:(Try.f33.name== "runtime.NumGoroutine")=false:=by decide+kernel
theorem oB:Try.f34.body.isNone=false:=rfl
theorem ou:(Try.f34.name== "runtime.NumGoroutine")=false:=by decide+kernel
set_option maxHeartbeats 8000000 in
theorem iF(w0:World)(g:(Int)×(List Pt))(g_v:Value)(hg_v:Ro w0 g_v g.2)(u:Int)(v:Int):
    Calls Try.prog 7 #[vg [vi g.1,g_v],vi u,vi v] w0 (λee w=>ee= .returned (vb true)/\dE w0.heap.size w0 w):=by
 refine ar Try.func7 rfl nq ?_
 have bH:=bj.start w0
 have Rg:=hg_v.sl
 refine a6 (a0 rfl (dG rfl (d8 c0 (is 1) (1,0) rfl rfl ?_)))
 intro g4 w1 b3 ch2 bx5
 replace bx5:Bx g4 (is 1) w1 b3 [vi g.1,g_v]:=bx5
 refine ma (vb false) (aa (a6 (a6 (a0 rfl (dG rfl (d4 (v:=vb true) (aV (vals:=[]) Try.func8 pL qg rfl) (me w1) ?_))))))
 intro w6 hb7
 replace hb7:=aY hb7 g4
 refine lx (dQ (b:=true) rfl) (aa (ae rfl rfl (ap (a6 (a6 (a0 rfl ?_))))))
 replace bx5:=bx5.cn hb7
 refine lx (aB (ds:=[vi g.1,g_v]) bn rfl bx5 rfl rfl) ?_
 replace Rg:=(Rg.cn ch2).cn hb7
 refine lo (d4 (v:=vb (decide (¬ba g\/(g.1<=40/\g.2.length<=60)))) (aV (vals:=[vg [vi g.1,g_v]]) Try.func9 pV qb rfl) (lW w6 g g_v (Rg).ro) ?_)
 intro w8 hb9
 replace hb9:=aY hb9 g4
 refine lx (dQ (b:=(decide (¬ba g\/(g.1<=40/\g.2.length<=60)))) rfl) (mv (vb (!(decide (¬ba g\/(g.1<=40/\g.2.length<=60))))) ?_)
 by_cases q23:(decide (¬ba g\/(g.1<=40/\g.2.length<=60)))=true
 ·
  replace bx5:=bx5.cn hb9
  refine lv (vg [vi g.1,g_v]) (wy (congrArg Bool.not q23)) (aB (ds:=[vi g.1,g_v]) bn rfl bx5 rfl rfl) ?_
  replace Rg:=Rg.cn hb9
  refine dG (wy (congrArg Bool.not q23)) (d4 (v:=vb (cd g)) (aV (vals:=[vg [vi g.1,g_v]]) Try.func16 lQ lk rfl) (kS w8 g g_v (Rg).ro) ?_)
  intro w10 hb11
  replace hb11:=aY hb11 g4
  refine lv (vb (!(cd g))) (wy (congrArg Bool.not q23)) (dQ (b:=(cd g)) rfl) (lw (vb (!(cd g))) (b9 rfl (congrArg Bool.not q23) rfl) (mv (vb (!(cd g))) ?_))
  by_cases q28:(cd g)=true
  ·
   refine lv (vp b3 1) (wy (congrArg Bool.not q28)) (a7 d5 rfl rfl rfl rfl) ?_
   replace bx5:=bx5.cn hb11
   refine lv (g_v) (wy (congrArg Bool.not q28)) (a8 bD rfl bx5 rfl) ?_
   replace Rg:=Rg.cn hb11
   have len12:=(Rg).small
   refine lv (vi (g.2.length:Int)) (wy (congrArg Bool.not q28)) (bC dB rfl Rg) (lv (vb (decide (59<(g.2.length:Int)))) (wy (congrArg Bool.not q28)) (dV (m:=(g.2.length:Int)) (n:=59) rfl rfl) (lw (vb (decide (59<(g.2.length:Int)))) (b9 rfl (congrArg Bool.not q28) rfl) (mv (vb (decide (59<(g.2.length:Int)))) ?_)))
   by_cases q34:59<(g.2.length:Int)
   ·
    refine aq (wn (dt q34)) (aq (wn (dt q34)) (lw (vb true) (aI rfl (dt q34) rfl) (mv (vb true) (aq (wn rfl) (aq (wn rfl) (lw (vb true) (aI rfl rfl rfl) (mv (vb true) (aq (wn rfl) (aq (wn rfl) (aq (wn rfl) (aq (wn rfl) (lw (vb true) (aI rfl rfl rfl) (mv (vb true) ?_)))))))))))))
    refine aq (wn rfl) (aq (wn rfl) (aq (wn rfl) (aq (wn rfl) (lw (vb true) (aI rfl rfl rfl) (mv (vb true) (aq (wn rfl) (aq (wn rfl) (aq (wn rfl) (lw (vb true) (aI rfl rfl rfl) (aa (af rfl rfl (a6 ?_))))))))))))
    clear bx5
    refine a0 rfl (ma (vb true) (aa (aA (vs:=[vb true]) Try.func7 (.tmp rfl .nil) ?_)))
    have e0:(true:Bool)=(true):=by
      rfl
    have C13:=cg [] (ch2.n.seq (hb7.n.seq (hb9.n.seq hb11.n)))
    replace bH:=bH.ca C13
    exact⟨rb e0,bH.below⟩
   refine lv (vi u) (wy (df q34)) (ak rfl) (lv (vb (decide (u<0))) (wy (df q34)) (aZ (m:=u) (n:=0) rfl rfl) (lw (vb (decide (u<0))) (b9 rfl (df q34) rfl) (mv (vb (decide (u<0))) ?_)))
   by_cases q38:u<0
   ·
    refine aq (wn (dt q38)) (aq (wn (dt q38)) (lw (vb true) (aI rfl (dt q38) rfl) (mv (vb true) (aq (wn rfl) (aq (wn rfl) (aq (wn rfl) (aq (wn rfl) (lw (vb true) (aI rfl rfl rfl) (mv (vb true) (aq (wn rfl) (aq (wn rfl) (aq (wn rfl) (aq (wn rfl) (lw (vb true) (aI rfl rfl rfl) (mv (vb true) ?_)))))))))))))))
    refine aq (wn rfl) (aq (wn rfl) (aq (wn rfl) (lw (vb true) (aI rfl rfl rfl) (aa (af rfl rfl (a6 ?_))))))
    clear bx5
    refine a0 rfl (ma (vb true) (aa (aA (vs:=[vb true]) Try.func7 (.tmp rfl .nil) ?_)))
    have e0:(true:Bool)=(true):=by
      rfl
    have C14:=cg [] (ch2.n.seq (hb7.n.seq (hb9.n.seq hb11.n)))
    replace bH:=bH.ca C14
    exact⟨rb e0,bH.below⟩
   refine lv (vi v) (wy (df q38)) (ak rfl) (lv (vb (decide (v<0))) (wy (df q38)) (aZ (m:=v) (n:=0) rfl rfl) (lw (vb (decide (v<0))) (b9 rfl (df q38) rfl) (mv (vb (decide (v<0))) ?_)))
   by_cases q42:v<0
   ·
    refine aq (wn (dt q42)) (aq (wn (dt q42)) (aq (wn (dt q42)) (aq (wn (dt q42)) (lw (vb true) (aI rfl (dt q42) rfl) (mv (vb true) (aq (wn rfl) (aq (wn rfl) (aq (wn rfl) (aq (wn rfl) (lw (vb true) (aI rfl rfl rfl) (mv (vb true) (aq (wn rfl) (aq (wn rfl) (aq (wn rfl) ?_))))))))))))))
    refine lw (vb true) (aI rfl rfl rfl) (aa (af rfl rfl (a6 ?_)))
    clear bx5
    refine a0 rfl (ma (vb true) (aa (aA (vs:=[vb true]) Try.func7 (.tmp rfl .nil) ?_)))
    have e0:(true:Bool)=(true):=by
      rfl
    have C15:=cg [] (ch2.n.seq (hb7.n.seq (hb9.n.seq hb11.n)))
    replace bH:=bH.ca C15
    exact⟨rb e0,bH.below⟩
   refine lv (vi u) (wy (df q42)) (ak rfl) (lv (vp b3 0) (wy (df q42)) (a7 d5 rfl rfl rfl rfl) (lv (vi g.1) (wy (df q42)) (a8 ab rfl bx5 rfl) (lv (vb (decide (g.1<=u))) (wy (df q42)) (eI (m:=u) (n:=g.1) rfl rfl) (lw (vb (decide (g.1<=u))) (b9 rfl (df q42) rfl) (mv (vb (decide (g.1<=u))) ?_)))))
   by_cases q48:g.1<=u
   ·
    refine aq (wn (dt q48)) (aq (wn (dt q48)) (aq (wn (dt q48)) (aq (wn (dt q48)) (lw (vb true) (aI rfl (dt q48) rfl) (mv (vb true) (aq (wn rfl) (aq (wn rfl) (aq (wn rfl) (lw (vb true) (aI rfl rfl rfl) (aa (af rfl rfl ?_)))))))))))
    refine a6 ?_
    clear bx5
    refine a0 rfl (ma (vb true) (aa (aA (vs:=[vb true]) Try.func7 (.tmp rfl .nil) ?_)))
    have e0:(true:Bool)=(true):=by
      rfl
    have C16:=cg [] (ch2.n.seq (hb7.n.seq (hb9.n.seq hb11.n)))
    replace bH:=bH.ca C16
    exact⟨rb e0,bH.below⟩
   refine lv (vi v) (wy (df q48)) (ak rfl) (lv (vp b3 0) (wy (df q48)) (a7 d5 rfl rfl rfl rfl) (lv (vi g.1) (wy (df q48)) (a8 ab rfl bx5 rfl) (lv (vb (decide (g.1<=v))) (wy (df q48)) (eI (m:=v) (n:=g.1) rfl rfl) (lw (vb (decide (g.1<=v))) (b9 rfl (df q48) rfl) (mv (vb (decide (g.1<=v))) ?_)))))
   by_cases q54:g.1<=v
   ·
    refine aq (wn (dt q54)) (aq (wn (dt q54)) (aq (wn (dt q54)) (lw (vb true) (aI rfl (dt q54) rfl) (aa (af rfl rfl (a6 ?_))))))
    clear bx5
    refine a0 rfl (ma (vb true) (aa (aA (vs:=[vb true]) Try.func7 (.tmp rfl .nil) ?_)))
    have e0:(true:Bool)=(true):=by
      rfl
    have C17:=cg [] (ch2.n.seq (hb7.n.seq (hb9.n.seq hb11.n)))
    replace bH:=bH.ca C17
    exact⟨rb e0,bH.below⟩
   refine lv (vi u) (wy (df q54)) (ak rfl) (lv (vi v) (wy (df q54)) (ak rfl) (lv (vb (decide (u=v))) (wy (df q54)) (cF (m:=u) (n:=v) rfl rfl) (lw (vb (decide (u=v))) (b9 rfl (df q54) rfl) (aa ?_))))
   by_cases p3:u=v
   ·
    refine af rfl (dt p3) (a6 ?_)
    clear bx5
    refine a0 rfl (ma (vb true) (aa (aA (vs:=[vb true]) Try.func7 (.tmp rfl .nil) ?_)))
    have e0:(true:Bool)=(true):=by
      rfl
    have C18:=cg [] (ch2.n.seq (hb7.n.seq (hb9.n.seq hb11.n)))
    replace bH:=bH.ca C18
    exact⟨rb e0,bH.below⟩
   refine ae rfl (df p3) (ap (a6 ?_))
   have hm:ba g:=of_decide_eq_true ‹_›
   obtain⟨hm1,hm2,hm3,hm4⟩:=id hm
   have hbt:=jR (s:=u) hm ⟨by omega,by omega⟩
   have hfar:(aM g u).1.2.2.1=(b7 g u).far:=by rw[hbt]
   have hby:(aM g u).1.2.1=(b7 g u).by_:=by rw[hbt]
   have hfl:((aM g u).1.2.2.1.length:Int)=g.1:=by rw[hfar];exact pK hm (by omega) (by omega)
   refine a0 rfl (lx (aB (ds:=[vi g.1,g_v]) bn rfl bx5 rfl rfl) (mi u (lo (cw (aV (vals:=[vg [vi g.1,g_v],vi u]) Try.func32 oA nO rfl) (kQ w10 g g_v (Rg).ro u) ?_))))
   rintro⟨d20,v22,v24,v26,v28⟩ w19 ⟨fr21,o23,o25,o27,o29⟩
   obtain⟨g30,ch31,G30⟩:=js g4 fr21 (λn=>if n=1 then 2 else if n=2 then 3 else if n=3 then 4 else if n=4 then 5 else 0)
   replace o23:=o23.gl G30 2
   replace o25:=o25.gl G30 3
   replace o27:=o27.gl G30 4
   replace o29:=o29.gl G30 5
   refine mv (vt [vg [v22,v24,v26,v28],vi ((aM g u).2)]) (lx (aH rfl rfl) (lx (aH rfl rfl) (lo (bf g30 (is 6) (6,0) rfl cD ?_))))
   intro g35 w32 b34 ch33 bx36
   replace bx36:Bx g35 (is 6) w32 b34 [vn,vn,vn,vn]:=bx36
   refine lo ?_
   replace o29:=o29.cn ch33
   replace o27:=o27.cn ch33
   replace o25:=o25.cn ch33
   replace o23:=o23.cn ch33
   refine aw (cs':=[v22,v24,v26,v28]) cD rfl rfl bx36 rfl nq (AllOne.all (.cons (bp o23.flat) (.cons (bp o25.flat) (.cons (bp o27.flat) (.cons (bp o29.flat) .nil))))) rfl ?_
   intro w37 ch38 bx39
   clear bx36
   refine ai ((aM g u).2) (aa (a6 (a6 (a0 rfl (lx (a7 mB rfl rfl rfl rfl) (lx (a8 aj rfl bx39 rfl) (mi v ?_)))))))
   replace o27:=o27.ce ch38
   refine lx (a9 (v:=v26) (i:=v) b6 rfl rfl o27.flat rfl (by omega) (by omega)) (lx (ah (v:=v26) (i:=v) ab rfl o27.flat (by omega) (by omega) (by decide) rfl) (lx (aZ (m:=(gI (((((aM g u).1).2).2).1) v)) (n:=0) rfl rfl) (aa ?_)))
   by_cases p6:(gI (((((aM g u).1).2).2).1) v)<0
   ·
    refine af rfl (dt p6) (a6 ?_)
    clear bx5 o23 o25 o27 o29 bx39
    refine a0 rfl (ma (vb true) (aa (aA (vs:=[vb true]) Try.func7 (.tmp rfl .nil) ?_)))
    have e0:(true:Bool)=(true):=by
      rfl
    have C40:=cg [6] (ch2.n.seq (hb7.n.seq (hb9.n.seq (hb11.n.seq (ch31.n.seq (ch33.n.seq (ch38.l rfl)))))))
    replace bH:=bH.ca C40
    exact⟨rb e0,bH.below⟩
   refine ae rfl (df p6) (ap (a6 ?_))
   have hjn:kj g u v:=kj.of hm (by omega) (by omega) (by omega) (by omega) (by omega) ‹_› (by rw[<-hfar];assumption)
   have hbl:((aM g u).1.2.1.length:Int)=g.1:=by rw[hby];exact hjn.bl
   obtain⟨⟨hcb0,hcb1⟩,hofl⟩:=pP hm
   have hofh:=ql hjn.hm2
   refine a0 rfl ?_
   have C41:=cg [6] (ch31.n.seq (ch33.n.seq (ch38.l rfl)))
   replace bx5:=bx5.ca C41
   refine lx (aB (ds:=[vi g.1,g_v]) bn rfl bx5 rfl rfl) ?_
   replace Rg:=Rg.ca C41
   refine lo (cw (aV (vals:=[vg [vi g.1,g_v]]) Try.func11 ji je rfl) (fW w37 g g_v (Rg).ro) ?_)
   rintro⟨d43,v45,v47⟩ w42 ⟨fr44,o46,o48⟩
   obtain⟨g49,ch50,G49⟩:=js g35 fr44 (λn=>if n=1 then 7 else if n=2 then 8 else 0)
   replace o46:=o46.gl G49 7
   replace o48:=o48.gl G49 8
   refine mv (vt [vg [v45,v47,vi ((((ao g).1).2).2)],vi ((ao g).2)]) (lx (aH rfl rfl) (lx (aH rfl rfl) (lo (bf g49 (is 9) (9,0) rfl cv ?_))))
   intro g54 w51 b53 ch52 bx55
   replace bx55:Bx g54 (is 9) w51 b53 [vn,vn,vi 0]:=bx55
   refine lo ?_
   replace o48:=o48.cn ch52
   replace o46:=o46.cn ch52
   refine aw (cs':=[v45,v47,vi ((((ao g).1).2).2)]) cv rfl rfl bx55 rfl nq (AllOne.all (.cons (bp o46.flat) (.cons (bp o48.flat) (.cons rfl .nil)))) rfl ?_
   intro w56 ch57 bx58
   clear bx55
   refine ai ((ao g).2) (aa (a6 (a0 rfl ?_)))
   have C59:=cg [9] (ch50.n.seq (ch52.n.seq (ch57.l rfl)))
   replace bx5:=bx5.ca C59
   refine lx (aB (ds:=[vi g.1,g_v]) bn rfl bx5 rfl rfl) ?_
   replace Rg:=Rg.ca C59
   refine lo (cw (aV (vals:=[vg [vi g.1,g_v]]) Try.func33 oN nV rfl) (ns w56 g g_v (Rg).ro (by omega)) ?_)
   rintro⟨d61,v63⟩ w60 ⟨fr62,o64⟩
   obtain⟨g65,ch66,G65⟩:=js g54 fr62 (λn=>if n=1 then 10 else 0)
   replace o64:=o64.gl G65 10
   refine lo (bf g65 (is 11) (11,0) rfl bn ?_)
   intro g70 w67 b69 ch68 bx71
   replace bx71:Bx g70 (is 11) w67 b69 [vi 0,vn]:=bx71
   refine lo ?_
   replace o64:=o64.cn ch68
   refine aw (cs':=[vi g.1,v63]) bn rfl rfl bx71 rfl nq (AllOne.all (.cons rfl (.cons (bp o64.flat) .nil))) rfl ?_
   intro w72 ch73 bx74
   clear bx71
   refine aa (a6 (a0 rfl (lx (a7 d5 rfl rfl rfl rfl) (lx (a8 bD rfl bx74 rfl) (mi u (mi v (lw (vg [vi u,vi v]) (bh (vs:=[(0,vi u),(1,vi v)]) rfl (by kernel_rfl)) (lo (aL (α:=Pt) g70 (is 12) (is 12) (12,0) rfl [(u,v)] dB aE (by decide) (by decide) (vs:=[(0,vg [vi u,vi v])]) rfl rfl (.cons rfl .nil) ?_)))))))))
   intro g75 w76 v77 ch78 o79
   refine lo ?_
   replace o64:=(o64.ce ch73).cn ch78
   refine bv (α:=Pt) (xs:=g.2) (ys:=([(u,v)])) g75 (J:=is 10) (S:=is 10) (10,0) rfl dB aE (by decide) rfl rfl rfl o64 o79.flat (by decide) (by(simp;omega)) ?_
   intro g80 w81 v82 ch83 o84
   clear o64
   refine lx (a7 d5 rfl rfl rfl rfl) (lo ?_)
   replace bx74:=(bx74.cn ch78).ce ch83
   refine bP (cs':=[vi g.1,v82]) bD rfl rfl bx74 (cf o84.flat) nq (bp o84.flat) rfl ?_
   intro w85 ch86 bx87
   clear bx74
   refine aa (a6 ?_)
   clear o79
   refine a0 rfl (lx (aB (ds:=[vi g.1,v82]) bn rfl bx87 rfl rfl) ?_)
   replace o84:=o84.ce ch86
   refine lo (cw (aV (vals:=[vg [vi g.1,v82]]) Try.func11 ji je rfl) (fW w85 (g.1,(g.2++[(u,v)])) v82 (o84.flat).ro) ?_)
   rintro⟨d89,v91,v93⟩ w88 ⟨fr90,o92,o94⟩
   obtain⟨g95,ch96,G95⟩:=js g80 fr90 (λn=>if n=1 then 13 else if n=2 then 14 else 0)
   replace o92:=o92.gl G95 13
   replace o94:=o94.gl G95 14
   refine mv (vt [vg [v91,v93,vi ((((ao (g.1,(g.2++[(u,v)]))).1).2).2)],vi ((ao (g.1,(g.2++[(u,v)]))).2)]) (lx (aH rfl rfl) (lx (aH rfl rfl) (lo (bf g95 (is 15) (15,0) rfl cv ?_))))
   intro g100 w97 b99 ch98 bx101
   replace bx101:Bx g100 (is 15) w97 b99 [vn,vn,vi 0]:=bx101
   refine lo ?_
   replace o94:=o94.cn ch98
   replace o92:=o92.cn ch98
   refine aw (cs':=[v91,v93,vi ((((ao (g.1,(g.2++[(u,v)]))).1).2).2)]) cv rfl rfl bx101 rfl nq (AllOne.all (.cons (bp o92.flat) (.cons (bp o94.flat) (.cons rfl .nil)))) rfl ?_
   intro w102 ch103 bx104
   clear bx101
   refine ai ((ao (g.1,(g.2++[(u,v)]))).2) (aa (a6 (a6 ?_)))
   clear o84 bx87
   refine a0 rfl (mi ((ao (g.1,(g.2++[(u,v)]))).2) (lx (eG (m:=(ao (g.1,(g.2++[(u,v)]))).2) (n:=0) rfl rfl) (aa ?_)))
   have p12:((ao (g.1,(g.2++[(u,v)]))).2)=0:=by exact pJ hjn.hm2
   refine ae rfl (congrArg Bool.not (dt p12)) (ap (a6 (a0 rfl (lx (a7 eE rfl rfl rfl rfl) ?_))))
   have C105:=cg [10,11,15] (ch66.n.seq (ch68.n.seq ((ch73.l rfl).seq (ch78.n.seq ((ch83.l rfl).seq ((ch86.l rfl).seq (ch96.n.seq (ch98.n.seq (ch103.l rfl)))))))))
   replace bx58:=bx58.ca C105
   refine lx (a8 ab rfl bx58 rfl) (lo (cL (α:=Bool) (l:=(((ao g).1).2).2) (cp:=(((ao g).1).2).2) g100 (is 16) (is 16) (16,0) rfl false eH bm rfl rfl rfl (by omega) (by omega) (by omega) (by omega) ?_))
   intro g106 w107 v108 ch109 o110 hcap_
   clear hcap_
   refine ma v108 (aa (a6 (a6 (a0 rfl (mi v (ai v (aa (al ?_))))))))
   refine bd (σ:=Int×(List Bool)×aC) (λ⟨ww,on,gq⟩ f w=>bj w0 gq w/\f 1=vi u/\f 3=vp b3 0/\f 7=vp b34 0/\f 9=vp b53 0/\f 12=vp b99 0/\f 14=v108/\f 15=vi ww/\Sl gq (is 0) w g_v g.2/\Bx gq (is 1) w b3 [vi g.1,g_v]/\Ow gq (is 2) (is 2) w v22 (((aM g u).1).1)/\Ow gq (is 3) (is 3) w v24 ((((aM g u).1).2).1)/\Ow gq (is 4) (is 4) w v26 (((((aM g u).1).2).2).1)/\Ow gq (is 5) (is 5) w v28 (((((aM g u).1).2).2).2)/\Bx gq (is 6) w b34 [v22,v24,v26,v28]/\Ow gq (is 7) (is 7) w v45 (((ao g).1).1)/\Ow gq (is 8) (is 8) w v47 ((((ao g).1).2).1)/\Bx gq (is 9) w b53 [v45,v47,vi ((((ao g).1).2).2)]/\Ow gq (is 13) (is 13) w v91 (((ao (g.1,(g.2++[(u,v)]))).1).1)/\Ow gq (is 14) (is 14) w v93 ((((ao (g.1,(g.2++[(u,v)]))).1).2).1)/\Bx gq (is 15) w b99 [v91,v93,vi ((((ao (g.1,(g.2++[(u,v)]))).1).2).2)]/\Ow gq (is 16) (is 16) w v108 on/\(mS g u v on ww)) (λ⟨ww,on,gq⟩=>Int.toNat (gI (b7 g u).far ww)) (v,(List.replicate (Int.toNat ((((ao g).1).2).2)) false),g106) ?_ ?_
   have C113:=cg [6,9,10,11,15] ((ch38.l rfl).seq (ch50.n.seq (ch52.n.seq ((ch57.l rfl).seq (ch66.n.seq (ch68.n.seq ((ch73.l rfl).seq (ch78.n.seq ((ch83.l rfl).seq ((ch86.l rfl).seq (ch96.n.seq (ch98.n.seq ((ch103.l rfl).seq ch109.n)))))))))))))
   have C111:=ch2.n.seq (hb7.n.seq (hb9.n.seq (hb11.n.seq (ch31.n.seq (ch33.n.seq C113)))))
   have C112:=cg [10,11,15] (ch66.n.seq (ch68.n.seq ((ch73.l rfl).seq (ch78.n.seq ((ch83.l rfl).seq ((ch86.l rfl).seq (ch96.n.seq (ch98.n.seq ((ch103.l rfl).seq ch109.n)))))))))
   have C115:=cg [9,10,11,15] ((ch57.l rfl).seq (ch66.n.seq (ch68.n.seq ((ch73.l rfl).seq (ch78.n.seq ((ch83.l rfl).seq ((ch86.l rfl).seq (ch96.n.seq (ch98.n.seq ((ch103.l rfl).seq ch109.n))))))))))
   have C114:=ch50.n.seq (ch52.n.seq C115)
   · exact⟨bH.ca C111,rfl,rfl,rfl,rfl,rfl,rfl,rfl,Rg.ca C112,bx5.ca C112,o23.ca C113,o25.ca C113,o27.ca C114,o29.ca C113,bx39.ca C114,o46.ca C115,o48.ca C115,bx58.cn ch109,(o92.ce ch103).cn ch109,(o94.ce ch103).cn ch109,bx104.cn ch109,o110,by exact hjn.start⟩
   clear Rg bx5 o23 o25 o27 o29 bx39 o46 o48 bx58 o92 o94 bx104 o110 bH
   rintro⟨ww,on,g118⟩ f116 w117 ⟨bH,zs1,zs3,zs7,zs9,zs12,zs14,zs15,Rg,bx5,o23,o25,o27,o29,bx39,o46,o48,bx58,o92,o94,bx104,o110,hi⟩ back16
   have hol:=hi.len hm
   obtain⟨⟨hw0,hw1⟩,hwf⟩:=hjn.rng hi
   refine a6 (a6 (a0 rfl (mz zs15 (mz zs1 (lx (eG (m:=ww) (n:=u) rfl rfl) (aa ?_))))))
   by_cases p16:ww=u
   ·
    refine ae rfl (congrArg Bool.not (dt p16)) (aF rfl (a6 (a6 ?_)))
    clear o23 o25 o27 o29 bx39
    refine a0 rfl (ai 0 (aa (al ?_)))
    refine bd (σ:=Nat×aC) (λ⟨i,gq⟩ f w=>bj w0 gq w/\f 3=vp b3 0/\f 9=vp b53 0/\f 12=vp b99 0/\f 14=v108/\f 16=vi ↑i/\Sl gq (is 0) w g_v g.2/\Bx gq (is 1) w b3 [vi g.1,g_v]/\Ow gq (is 7) (is 7) w v45 (((ao g).1).1)/\Ow gq (is 8) (is 8) w v47 ((((ao g).1).2).1)/\Bx gq (is 9) w b53 [v45,v47,vi ((((ao g).1).2).2)]/\Ow gq (is 13) (is 13) w v91 (((ao (g.1,(g.2++[(u,v)]))).1).1)/\Ow gq (is 14) (is 14) w v93 ((((ao (g.1,(g.2++[(u,v)]))).1).2).1)/\Bx gq (is 15) w b99 [v91,v93,vi ((((ao (g.1,(g.2++[(u,v)]))).1).2).2)]/\Ow gq (is 16) (is 16) w v108 on/\(i:Int)<=((g.2.length:Int):Int)/\(True)) (λ⟨i,gq⟩=>Int.toNat (((g.2.length:Int):Int)-(i:Int))) (0,g118) ?_ ?_
    · exact⟨bH,zs3,zs9,zs12,zs14,rfl,Rg,bx5,o46,o48,bx58,o92,o94,bx104,o110,by omega,by trivial⟩
    clear Rg bx5 o46 o48 bx58 o92 o94 bx104 o110 bH
    rintro⟨i,g121⟩ f119 w120 ⟨bH,zs3,zs9,zs12,zs14,zs16,Rg,bx5,o46,o48,bx58,o92,o94,bx104,o110,hle_i,ht1⟩ back20
    refine a6 (a6 (a0 rfl (mz zs16 (lx (a7 d5 rfl rfl zs3 rfl) (lx (a8 bD rfl bx5 rfl) (lx (bC dB rfl Rg) (lx (aZ (m:=↑i) (n:=(g.2.length:Int)) rfl rfl) (aa ?_))))))))
    by_cases p20:(i:Int)<(g.2.length:Int)
    ·
     refine af rfl (dt p20) ?_
     obtain⟨hoi0,hoi1⟩:=l8 hm (i:=↑i) (by omega) (by omega)
     refine ap (a6 (al (a6 (a6 (cR g121 rfl gr (by kernel_rfl) ?_)))))
     intro w123 ch122
     refine qz zs14 (qx (λw' hw'=>a7 eE rfl rfl zs9 rfl) ?_)
     replace bx58:=bx58.cn ch122
     refine qx (λw' hw'=>a8 aj rfl (bx58.bel hw') rfl) (qz zs16 ?_)
     replace o46:=o46.cn ch122
     refine qx (λw' hw'=>a9 (v:=v45) (i:=↑i) b6 rfl rfl (o46.flat.bel hw') rfl (by omega) (by omega)) (qx (λw' hw'=>ah (v:=v45) (i:=↑i) ab rfl (o46.flat.bel hw') (by omega) (by omega) (by decide) rfl) ?_)
     replace o110:=o110.cn ch122
     refine qx (λw' hw'=>a9 (v:=v108) (i:=(gI (((ao g).1).1) (i:Int))) eH rfl rfl (o110.flat.bel hw') rfl (by omega) (by omega)) (qx (λw' hw'=>ah (v:=v108) (i:=(gI (((ao g).1).1) (i:Int))) bm rfl (o110.flat.bel hw') (by omega) (by omega) (by decide) rfl) (qx (λw' hw'=>a7 eE rfl rfl zs12 rfl) ?_))
     replace bx104:=bx104.cn ch122
     refine qx (λw' hw'=>a8 aj rfl (bx104.bel hw') rfl) (qz zs16 ?_)
     replace o92:=o92.cn ch122
     refine qx (λw' hw'=>a9 (v:=v91) (i:=↑i) b6 rfl rfl (o92.flat.bel hw') rfl (by omega) (by omega)) (qx (λw' hw'=>ah (v:=v91) (i:=↑i) ab rfl (o92.flat.bel hw') (by omega) (by omega) (by decide) rfl) (qx (λw' hw'=>a7 eE rfl rfl zs12 rfl) (qx (λw' hw'=>a8 aj rfl (bx104.bel hw') rfl) (qx (λw' hw'=>a7 d5 rfl rfl zs3 rfl) ?_))))
     replace bx5:=bx5.cn ch122
     refine qx (λw' hw'=>a8 bD rfl (bx5.bel hw') rfl) ?_
     replace Rg:=Rg.cn ch122
     refine qx (λw' hw'=>bC dB rfl (Rg.bel hw')) (qx (λw' hw'=>a9 (v:=v91) (i:=(g.2.length:Int)) b6 rfl rfl (o92.flat.bel hw') rfl (by omega) (by omega)) (qx (λw' hw'=>ah (v:=v91) (i:=(g.2.length:Int)) ab rfl (o92.flat.bel hw') (by omega) (by omega) (by decide) rfl) (qx (λw' hw'=>cF (m:=(gI (((ao (g.1,(g.2++[(u,v)]))).1).1) (i:Int))) (n:=(gI (((ao (g.1,(g.2++[(u,v)]))).1).1) (g.2.length:Int))) rfl rfl) (qv (vb (!(decide ((gI on (gI (((ao g).1).1) (i:Int)))=(decide ((gI (((ao (g.1,(g.2++[(u,v)]))).1).1) (i:Int))=(gI (((ao (g.1,(g.2++[(u,v)]))).1).1) (g.2.length:Int)))))))) (λw' hw'=>ig U4 rfl rfl) (dC ?_)))))
     intro w124 hc125
     replace hc125:=aY hc125 g121
     have p22:(gI on (gI (((ao g).1).1) (i:Int)))=(decide ((gI (((ao (g.1,(g.2++[(u,v)]))).1).1) (i:Int))=(gI (((ao (g.1,(g.2++[(u,v)]))).1).1) (g.2.length:Int)))):=by exact hjn.law1 hi ‹_› (by omega) (by omega)
     refine ae rfl (congrArg Bool.not (dt p22)) (ap (a6 (a0 rfl (ai 0 (aa (al ?_))))))
     refine bd (σ:=Nat×aC) (λ⟨k,gq⟩ f w=>bj w0 gq w/\f 3=vp b3 0/\f 9=vp b53 0/\f 12=vp b99 0/\f 14=v108/\f 16=vi ↑i/\f 17=vi ↑k/\Sl gq (is 0) w g_v g.2/\Bx gq (is 1) w b3 [vi g.1,g_v]/\Ow gq (is 7) (is 7) w v45 (((ao g).1).1)/\Ow gq (is 8) (is 8) w v47 ((((ao g).1).2).1)/\Bx gq (is 9) w b53 [v45,v47,vi ((((ao g).1).2).2)]/\Ow gq (is 13) (is 13) w v91 (((ao (g.1,(g.2++[(u,v)]))).1).1)/\Ow gq (is 14) (is 14) w v93 ((((ao (g.1,(g.2++[(u,v)]))).1).2).1)/\Bx gq (is 15) w b99 [v91,v93,vi ((((ao (g.1,(g.2++[(u,v)]))).1).2).2)]/\Ow gq (is 16) (is 16) w v108 on/\(k:Int)<=((i:Int):Int)/\(True)) (λ⟨k,gq⟩=>Int.toNat (((i:Int):Int)-(k:Int))) (0,g121) ?_ ?_
     replace bH:=bH.cn ch122
     · exact⟨bH.cn hc125,zs3,zs9,zs12,zs14,zs16,rfl,Rg.cn hc125,bx5.cn hc125,o46.cn hc125,(o48.cn ch122).cn hc125,bx58.cn hc125,o92.cn hc125,(o94.cn ch122).cn hc125,bx104.cn hc125,o110.cn hc125,by omega,by trivial⟩
     clear Rg bx5 o46 o48 bx58 o92 o94 bx104 o110 bH
     rintro⟨k,g128⟩ f126 w127 ⟨bH,zs3,zs9,zs12,zs14,zs16,zs17,Rg,bx5,o46,o48,bx58,o92,o94,bx104,o110,hle_k,ht2⟩ back25
     refine a6 (a6 (a0 rfl (mz zs17 (mz zs16 (lx (aZ (m:=↑k) (n:=↑i) rfl rfl) (aa ?_))))))
     by_cases p25:(k:Int)<(i:Int)
     ·
      refine af rfl (dt p25) ?_
      obtain⟨hok0,hok1⟩:=l8 hm (i:=↑k) (by omega) (by omega)
      refine ap (a6 (al (a6 (cR g128 rfl gr (by kernel_rfl) ?_))))
      intro w130 ch129
      refine qz zs14 (qx (λw' hw'=>a7 eE rfl rfl zs9 rfl) ?_)
      replace bx58:=bx58.cn ch129
      refine qx (λw' hw'=>a8 aj rfl (bx58.bel hw') rfl) (qz zs16 ?_)
      replace o46:=o46.cn ch129
      refine qx (λw' hw'=>a9 (v:=v45) (i:=↑i) b6 rfl rfl (o46.flat.bel hw') rfl (by omega) (by omega)) (qx (λw' hw'=>ah (v:=v45) (i:=↑i) ab rfl (o46.flat.bel hw') (by omega) (by omega) (by decide) rfl) ?_)
      replace o110:=o110.cn ch129
      refine qx (λw' hw'=>a9 (v:=v108) (i:=(gI (((ao g).1).1) (i:Int))) eH rfl rfl (o110.flat.bel hw') rfl (by omega) (by omega)) (qx (λw' hw'=>ah (v:=v108) (i:=(gI (((ao g).1).1) (i:Int))) bm rfl (o110.flat.bel hw') (by omega) (by omega) (by decide) rfl) (qx (λw' hw'=>dQ (b:=(gI on (gI (((ao g).1).1) (i:Int)))) rfl) (qm (vb (!(gI on (gI (((ao g).1).1) (i:Int))))) ?_)))
      by_cases q162:(gI on (gI (((ao g).1).1) (i:Int)))=true
      ·
       refine aK (wn (congrArg Bool.not q162)) (aK (wn (congrArg Bool.not q162)) (aK (wn (congrArg Bool.not q162)) (aK (wn (congrArg Bool.not q162)) (aK (wn (congrArg Bool.not q162)) (aK (wn (congrArg Bool.not q162)) (aK (wn (congrArg Bool.not q162)) (aK (wn (congrArg Bool.not q162)) (aK (wn (congrArg Bool.not q162)) (qv (vb false) (λw' hw'=>b9 rfl (congrArg Bool.not q162) rfl) ?_)))))))))
       refine qm (vb false) (aK (wn rfl) (aK (wn rfl) (aK (wn rfl) (aK (wn rfl) (aK (wn rfl) (aK (wn rfl) (aK (wn rfl) (aK (wn rfl) (aK (wn rfl) ?_)))))))))
       refine aK (wn rfl) (aK (wn rfl) (aK (wn rfl) (aK (wn rfl) (aK (wn rfl) (aK (wn rfl) (aK (wn rfl) (aK (wn rfl) (aK (wn rfl) (aK (wn rfl) ?_)))))))))
       refine aK (wn rfl) (aK (wn rfl) (aK (wn rfl) (aK (wn rfl) (qv (vb false) (λw' hw'=>b9 rfl rfl rfl) (dC ?_)))))
       intro w131 hc132
       replace hc132:=aY hc132 g128
       refine ae rfl rfl (ap (ag (a0 rfl (mz zs17 (lx (aD (m:=↑k) (n:=1) rfl rfl (by omega)) (ai ((k:Int)+1) (aa ?_)))))))
       replace bH:=bH.cn ch129
       refine back25 (k+1,g128) _ _ ⟨bH.cn hc132,zs3,zs9,zs12,zs14,zs16,rfl,(Rg.cn ch129).cn hc132,(bx5.cn ch129).cn hc132,o46.cn hc132,(o48.cn ch129).cn hc132,bx58.cn hc132,(o92.cn ch129).cn hc132,(o94.cn ch129).cn hc132,(bx104.cn ch129).cn hc132,o110.cn hc132,by omega,?_⟩ ?_
       · show True
         trivial
       · show Int.toNat (((i:Int):Int)-((k+1):Int))<Int.toNat (((i:Int):Int)-(k:Int))
         omega
      refine bc (v:=v108) (wy (congrArg Bool.not (Bool.eq_false_iff.2 q162))) (λw' hw'=>ak zs14) (bc (v:=vp b53 0) (wy (congrArg Bool.not (Bool.eq_false_iff.2 q162))) (λw' hw'=>a7 eE rfl rfl zs9 rfl) (bc (v:=v45) (wy (congrArg Bool.not (Bool.eq_false_iff.2 q162))) (λw' hw'=>a8 aj rfl (bx58.bel hw') rfl) (bc (v:=vi ↑k) (wy (congrArg Bool.not (Bool.eq_false_iff.2 q162))) (λw' hw'=>ak zs17) ?_)))
      refine bc (v:=Value.pointer (some (aP v45 1 (Int.toNat ↑k)))) (wy (congrArg Bool.not (Bool.eq_false_iff.2 q162))) (λw' hw'=>a9 (α:=Int) (xs:=((ao g).1).1) (v:=v45) (i:=↑k) b6 rfl rfl (o46.flat.bel hw') rfl (by omega) (by omega)) (bc (v:=vi (gI (((ao g).1).1) (k:Int))) (wy (congrArg Bool.not (Bool.eq_false_iff.2 q162))) (λw' hw'=>ah (α:=Int) (xs:=((ao g).1).1) (v:=v45) (i:=↑k) ab rfl (o46.flat.bel hw') (by omega) (by omega) (by decide) rfl) ?_)
      refine bc (v:=Value.pointer (some (aP v108 1 (Int.toNat (gI (((ao g).1).1) (k:Int)))))) (wy (congrArg Bool.not (Bool.eq_false_iff.2 q162))) (λw' hw'=>a9 (α:=Bool) (xs:=on) (v:=v108) (i:=(gI (((ao g).1).1) (k:Int))) eH rfl rfl (o110.flat.bel hw') rfl (by omega) (by omega)) (bc (v:=vb (gI on (gI (((ao g).1).1) (k:Int)))) (wy (congrArg Bool.not (Bool.eq_false_iff.2 q162))) (λw' hw'=>ah (α:=Bool) (xs:=on) (v:=v108) (i:=(gI (((ao g).1).1) (k:Int))) bm rfl (o110.flat.bel hw') (by omega) (by omega) (by decide) rfl) (bc (v:=vb (!(gI on (gI (((ao g).1).1) (k:Int))))) (wy (congrArg Bool.not (Bool.eq_false_iff.2 q162))) (λw' hw'=>dQ (b:=(gI on (gI (((ao g).1).1) (k:Int)))) rfl) ?_))
      refine qv (vb (!(gI on (gI (((ao g).1).1) (k:Int))))) (λw' hw'=>aI rfl (congrArg Bool.not (Bool.eq_false_iff.2 q162)) rfl) (qm (vb (!(gI on (gI (((ao g).1).1) (k:Int))))) ?_)
      by_cases q173:(gI on (gI (((ao g).1).1) (k:Int)))=true
      ·
       refine aK (wn (congrArg Bool.not q173)) (aK (wn (congrArg Bool.not q173)) (aK (wn (congrArg Bool.not q173)) (aK (wn (congrArg Bool.not q173)) (aK (wn (congrArg Bool.not q173)) (aK (wn (congrArg Bool.not q173)) (aK (wn (congrArg Bool.not q173)) (aK (wn (congrArg Bool.not q173)) (aK (wn (congrArg Bool.not q173)) (aK (wn (congrArg Bool.not q173)) ?_)))))))))
       refine aK (wn (congrArg Bool.not q173)) (aK (wn (congrArg Bool.not q173)) (aK (wn (congrArg Bool.not q173)) (aK (wn (congrArg Bool.not q173)) (aK (wn (congrArg Bool.not q173)) (aK (wn (congrArg Bool.not q173)) (aK (wn (congrArg Bool.not q173)) (aK (wn (congrArg Bool.not q173)) (aK (wn (congrArg Bool.not q173)) (aK (wn (congrArg Bool.not q173)) ?_)))))))))
       refine aK (wn (congrArg Bool.not q173)) (aK (wn (congrArg Bool.not q173)) (aK (wn (congrArg Bool.not q173)) (qv (vb false) (λw' hw'=>b9 rfl (congrArg Bool.not q173) rfl) (dC ?_))))
       intro w133 hc134
       replace hc134:=aY hc134 g128
       refine ae rfl rfl (ap (ag (a0 rfl (mz zs17 (lx (aD (m:=↑k) (n:=1) rfl rfl (by omega)) (ai ((k:Int)+1) (aa ?_)))))))
       replace bH:=bH.cn ch129
       refine back25 (k+1,g128) _ _ ⟨bH.cn hc134,zs3,zs9,zs12,zs14,zs16,rfl,(Rg.cn ch129).cn hc134,(bx5.cn ch129).cn hc134,o46.cn hc134,(o48.cn ch129).cn hc134,bx58.cn hc134,(o92.cn ch129).cn hc134,(o94.cn ch129).cn hc134,(bx104.cn ch129).cn hc134,o110.cn hc134,by omega,?_⟩ ?_
       · show True
         trivial
       · show Int.toNat (((i:Int):Int)-((k+1):Int))<Int.toNat (((i:Int):Int)-(k:Int))
         omega
      refine bc (v:=vp b53 0) (wy (congrArg Bool.not (Bool.eq_false_iff.2 q173))) (λw' hw'=>a7 eE rfl rfl zs9 rfl) (bc (v:=v45) (wy (congrArg Bool.not (Bool.eq_false_iff.2 q173))) (λw' hw'=>a8 aj rfl (bx58.bel hw') rfl) (bc (v:=vi ↑i) (wy (congrArg Bool.not (Bool.eq_false_iff.2 q173))) (λw' hw'=>ak zs16) (bc (v:=Value.pointer (some (aP v45 1 (Int.toNat ↑i)))) (wy (congrArg Bool.not (Bool.eq_false_iff.2 q173))) (λw' hw'=>a9 (α:=Int) (xs:=((ao g).1).1) (v:=v45) (i:=↑i) b6 rfl rfl (o46.flat.bel hw') rfl (by omega) (by omega)) ?_)))
      refine bc (v:=vi (gI (((ao g).1).1) (i:Int))) (wy (congrArg Bool.not (Bool.eq_false_iff.2 q173))) (λw' hw'=>ah (α:=Int) (xs:=((ao g).1).1) (v:=v45) (i:=↑i) ab rfl (o46.flat.bel hw') (by omega) (by omega) (by decide) rfl) (bc (v:=vp b53 0) (wy (congrArg Bool.not (Bool.eq_false_iff.2 q173))) (λw' hw'=>a7 eE rfl rfl zs9 rfl) (bc (v:=v45) (wy (congrArg Bool.not (Bool.eq_false_iff.2 q173))) (λw' hw'=>a8 aj rfl (bx58.bel hw') rfl) (bc (v:=vi ↑k) (wy (congrArg Bool.not (Bool.eq_false_iff.2 q173))) (λw' hw'=>ak zs17) ?_)))
      refine bc (v:=Value.pointer (some (aP v45 1 (Int.toNat ↑k)))) (wy (congrArg Bool.not (Bool.eq_false_iff.2 q173))) (λw' hw'=>a9 (α:=Int) (xs:=((ao g).1).1) (v:=v45) (i:=↑k) b6 rfl rfl (o46.flat.bel hw') rfl (by omega) (by omega)) (bc (v:=vi (gI (((ao g).1).1) (k:Int))) (wy (congrArg Bool.not (Bool.eq_false_iff.2 q173))) (λw' hw'=>ah (α:=Int) (xs:=((ao g).1).1) (v:=v45) (i:=↑k) ab rfl (o46.flat.bel hw') (by omega) (by omega) (by decide) rfl) (bc (v:=vb (decide ((gI (((ao g).1).1) (i:Int))=(gI (((ao g).1).1) (k:Int))))) (wy (congrArg Bool.not (Bool.eq_false_iff.2 q173))) (λw' hw'=>cF (m:=(gI (((ao g).1).1) (i:Int))) (n:=(gI (((ao g).1).1) (k:Int))) rfl rfl) ?_))
      refine bc (v:=vp b99 0) (wy (congrArg Bool.not (Bool.eq_false_iff.2 q173))) (λw' hw'=>a7 eE rfl rfl zs12 rfl) ?_
      replace bx104:=bx104.cn ch129
      refine bc (v:=v91) (wy (congrArg Bool.not (Bool.eq_false_iff.2 q173))) (λw' hw'=>a8 aj rfl (bx104.bel hw') rfl) (bc (v:=vi ↑i) (wy (congrArg Bool.not (Bool.eq_false_iff.2 q173))) (λw' hw'=>ak zs16) ?_)
      replace o92:=o92.cn ch129
      refine bc (v:=Value.pointer (some (aP v91 1 (Int.toNat ↑i)))) (wy (congrArg Bool.not (Bool.eq_false_iff.2 q173))) (λw' hw'=>a9 (α:=Int) (xs:=((ao (g.1,(g.2++[(u,v)]))).1).1) (v:=v91) (i:=↑i) b6 rfl rfl (o92.flat.bel hw') rfl (by omega) (by omega)) (bc (v:=vi (gI (((ao (g.1,(g.2++[(u,v)]))).1).1) (i:Int))) (wy (congrArg Bool.not (Bool.eq_false_iff.2 q173))) (λw' hw'=>ah (α:=Int) (xs:=((ao (g.1,(g.2++[(u,v)]))).1).1) (v:=v91) (i:=↑i) ab rfl (o92.flat.bel hw') (by omega) (by omega) (by decide) rfl) (bc (v:=vp b99 0) (wy (congrArg Bool.not (Bool.eq_false_iff.2 q173))) (λw' hw'=>a7 eE rfl rfl zs12 rfl) ?_))
      refine bc (v:=v91) (wy (congrArg Bool.not (Bool.eq_false_iff.2 q173))) (λw' hw'=>a8 aj rfl (bx104.bel hw') rfl) (bc (v:=vi ↑k) (wy (congrArg Bool.not (Bool.eq_false_iff.2 q173))) (λw' hw'=>ak zs17) (bc (v:=Value.pointer (some (aP v91 1 (Int.toNat ↑k)))) (wy (congrArg Bool.not (Bool.eq_false_iff.2 q173))) (λw' hw'=>a9 (α:=Int) (xs:=((ao (g.1,(g.2++[(u,v)]))).1).1) (v:=v91) (i:=↑k) b6 rfl rfl (o92.flat.bel hw') rfl (by omega) (by omega)) ?_))
      refine bc (v:=vi (gI (((ao (g.1,(g.2++[(u,v)]))).1).1) (k:Int))) (wy (congrArg Bool.not (Bool.eq_false_iff.2 q173))) (λw' hw'=>ah (α:=Int) (xs:=((ao (g.1,(g.2++[(u,v)]))).1).1) (v:=v91) (i:=↑k) ab rfl (o92.flat.bel hw') (by omega) (by omega) (by decide) rfl) (bc (v:=vb (decide ((gI (((ao (g.1,(g.2++[(u,v)]))).1).1) (i:Int))=(gI (((ao (g.1,(g.2++[(u,v)]))).1).1) (k:Int))))) (wy (congrArg Bool.not (Bool.eq_false_iff.2 q173))) (λw' hw'=>cF (m:=(gI (((ao (g.1,(g.2++[(u,v)]))).1).1) (i:Int))) (n:=(gI (((ao (g.1,(g.2++[(u,v)]))).1).1) (k:Int))) rfl rfl) ?_)
      refine bc (v:=vb (!(decide ((decide ((gI (((ao g).1).1) (i:Int))=(gI (((ao g).1).1) (k:Int))))=(decide ((gI (((ao (g.1,(g.2++[(u,v)]))).1).1) (i:Int))=(gI (((ao (g.1,(g.2++[(u,v)]))).1).1) (k:Int)))))))) (wy (congrArg Bool.not (Bool.eq_false_iff.2 q173))) (λw' hw'=>ig U4 rfl rfl) (qv (vb (!(decide ((decide ((gI (((ao g).1).1) (i:Int))=(gI (((ao g).1).1) (k:Int))))=(decide ((gI (((ao (g.1,(g.2++[(u,v)]))).1).1) (i:Int))=(gI (((ao (g.1,(g.2++[(u,v)]))).1).1) (k:Int)))))))) (λw' hw'=>aI rfl (congrArg Bool.not (Bool.eq_false_iff.2 q173)) rfl) (dC ?_))
      intro w135 hc136
      replace hc136:=aY hc136 g128
      have p27:(decide ((gI (((ao g).1).1) (i:Int))=(gI (((ao g).1).1) (k:Int))))=(decide ((gI (((ao (g.1,(g.2++[(u,v)]))).1).1) (i:Int))=(gI (((ao (g.1,(g.2++[(u,v)]))).1).1) (k:Int)))):=by exact hjn.law2 hi ‹_› (by omega) (by omega) (by omega) (by omega) ‹_›
      refine ae rfl (congrArg Bool.not (dt p27)) (ap (ag (a0 rfl (mz zs17 (lx (aD (m:=↑k) (n:=1) rfl rfl (by omega)) (ai ((k:Int)+1) (aa ?_)))))))
      replace bH:=bH.cn ch129
      refine back25 (k+1,g128) _ _ ⟨bH.cn hc136,zs3,zs9,zs12,zs14,zs16,rfl,(Rg.cn ch129).cn hc136,(bx5.cn ch129).cn hc136,o46.cn hc136,(o48.cn ch129).cn hc136,bx58.cn hc136,o92.cn hc136,(o94.cn ch129).cn hc136,bx104.cn hc136,o110.cn hc136,by omega,?_⟩ ?_
      · show True
        trivial
      · show Int.toNat (((i:Int):Int)-((k+1):Int))<Int.toNat (((i:Int):Int)-(k:Int))
        omega
     refine ae rfl (df p25) (aF rfl (ag (a0 rfl (mz zs16 (lx (aD (m:=↑i) (n:=1) rfl rfl (by omega)) (ai ((i:Int)+1) (aa ?_)))))))
     refine back20 (i+1,g128) _ _ ⟨bH,zs3,zs9,zs12,zs14,rfl,Rg,bx5,o46,o48,bx58,o92,o94,bx104,o110,by omega,?_⟩ ?_
     · show True
       trivial
     · show Int.toNat (((g.2.length:Int):Int)-((i+1):Int))<Int.toNat (((g.2.length:Int):Int)-(i:Int))
       omega
    refine ae rfl (df p20) (aF rfl (a6 ?_))
    clear bx5 o46 o48 bx58 o92 o94 bx104 o110
    refine a0 rfl (ma (vb true) (aa (aA (vs:=[vb true]) Try.func7 (.tmp rfl .nil) ?_)))
    have e0:(true:Bool)=(true):=by
      rfl
    exact⟨rb e0,bH.below⟩
   refine af rfl (congrArg Bool.not (df p16)) ?_
   have hbb:=hjn.by_ hi ‹_›
   rw[<-hby] at hbb
   obtain⟨⟨hb0,hb1⟩,hb2,hb3⟩:=hbb
   refine ap (a6 (al (aW g118 [0,1,2,3,4,5,6,7,8,9,10,11] gr ?_)))
   intro w138 ch137
   refine xp (v:=v108) 0 rfl (λw=>ak zs14) (xp 1 rfl (λw=>a7 eE rfl rfl zs9 rfl) ?_)
   replace bx58:=bx58.cn ch137
   refine xv 2 [1,0,3,5,4,6,7,8] rfl (a8 aj rfl bx58 rfl) (xp 3 rfl (λw=>a7 mB rfl rfl zs7 rfl) ?_)
   replace bx39:=bx39.cn ch137
   refine xv 4 [3,2,1,0,5] rfl (a8 aj rfl bx39 rfl) (xp (v:=vi ww) 5 rfl (λw=>ak zs15) ?_)
   replace o25:=o25.cn ch137
   refine xv 6 [5,4,3,2,1,0] rfl (a9 (v:=v24) (i:=ww) b6 rfl rfl o25.flat rfl (by omega) (by omega)) (xv 7 [6,5,4,3,2,1,0] rfl (ah (v:=v24) (i:=ww) ab rfl o25.flat (by omega) (by omega) (by decide) rfl) (xp 8 rfl (λw=>ep (m:=(gI ((((aM g u).1).2).1) ww)) (n:=2) rfl rfl (by omega) (by omega) (by omega)) ?_))
   replace o46:=o46.cn ch137
   refine xv 9 [8,7,6,5,4,3,2,1,0] rfl (a9 (v:=v45) (i:=(gI ((((aM g u).1).2).1) ww)/2) b6 rfl rfl o46.flat rfl (by omega) (by omega)) (xv 10 [9,8,7,6,5,4,3,2,1,0] rfl (ah (v:=v45) (i:=(gI ((((aM g u).1).2).1) ww)/2) ab rfl o46.flat (by omega) (by omega) (by decide) rfl) ?_)
   replace o110:=o110.cn ch137
   refine xv 11 [10,9,8,7,6,5,4,3,2,1,0] rfl (a9 (v:=v108) (i:=(gI (((ao g).1).1) ((gI ((((aM g u).1).2).1) ww)/2))) eH rfl rfl o110.flat rfl (by omega) (by omega)) (aR 12 rfl (by kernel_rfl) rfl (av (i:=(gI (((ao g).1).1) ((gI ((((aM g u).1).2).1) ww)/2))) true bm rfl rfl o110 (by omega) (by omega) rfl ?_))
   intro w139 ch140 bx141
   clear o110
   refine bu (by kernel_rfl) (ag (cR g118 rfl gr (by kernel_rfl) ?_))
   intro w143 ch142
   have C144:=cg [16] (ch137.n.seq ((ch140.l rfl).seq ch142.n))
   replace bx5:=bx5.ca C144
   refine qx (λw' hw'=>aB (ds:=[vi g.1,g_v]) bn zs3 (bx5.bel hw') rfl rfl) (qx (λw' hw'=>a7 mB rfl rfl zs7 rfl) ?_)
   replace bx39:=(bx39.ce ch140).cn ch142
   refine qx (λw' hw'=>a8 aj rfl (bx39.bel hw') rfl) (qz zs15 ?_)
   replace o25:=(o25.ce ch140).cn ch142
   refine qx (λw' hw'=>a9 (v:=v24) (i:=ww) b6 rfl rfl (o25.flat.bel hw') rfl (by omega) (by omega)) (qx (λw' hw'=>ah (v:=v24) (i:=ww) ab rfl (o25.flat.bel hw') (by omega) (by omega) (by decide) rfl) ?_)
   replace Rg:=Rg.ca C144
   refine ni (v:=vi (au g (gI ((((aM g u).1).2).1) ww))) rfl (λw' hw'=>aV (vals:=[vg [vi g.1,g_v],vi (gI ((((aM g u).1).2).1) ww)]) Try.func34 oB ou rfl) (λw' hw'=>(oH w' g g_v ((Rg.bel hw')).ro (gI ((((aM g u).1).2).1) ww) (by omega) (by omega)).mono λe w2 h2=>⟨h2.1,hw'.trans (h2.2.mono hw'.size)⟩) (qv (vi (au g (gI ((((aM g u).1).2).1) ww))) (λw' hw'=>cj rfl) (dC ?_))
   intro w145 hc146
   replace hc146:=aY hc146 g118
   have C148:=cg [16] ((ch140.l rfl).seq (ch142.n.seq hc146.n))
   have C147:=ch137.n.seq C148
   refine back16 (au g (gI ((((aM g u).1).2).1) ww),(List.set on (Int.toNat (gI (((ao g).1).1) ((gI ((((aM g u).1).2).1) ww)/2))) true),g118) _ _ ⟨bH.ca C147,zs1,zs3,zs7,zs9,zs12,zs14,rfl,Rg.cn hc146,bx5.cn hc146,o23.ca C147,o25.cn hc146,o27.ca C147,o29.ca C147,bx39.cn hc146,o46.ca C148,o48.ca C147,bx58.ca C148,o92.ca C147,o94.ca C147,bx104.ca C147,(bx141.cn ch142).cn hc146,?_⟩ ?_
   · show mS g u v (List.set on (Int.toNat (gI (((ao g).1).1) ((gI ((((aM g u).1).2).1) ww)/2))) true) (au g (gI ((((aM g u).1).2).1) ww))
     (rw[hby];exact(hjn.next hi ‹_›).1)
   · show Int.toNat (gI (b7 g u).far (au g (gI ((((aM g u).1).2).1) ww)))<Int.toNat (gI (b7 g u).far ww)
     (rw[hby];exact(hjn.next hi ‹_›).2)
  refine aq (wn (congrArg Bool.not (Bool.eq_false_iff.2 q28))) (aq (wn (congrArg Bool.not (Bool.eq_false_iff.2 q28))) (aq (wn (congrArg Bool.not (Bool.eq_false_iff.2 q28))) (aq (wn (congrArg Bool.not (Bool.eq_false_iff.2 q28))) (lw (vb true) (aI rfl (congrArg Bool.not (Bool.eq_false_iff.2 q28)) rfl) (mv (vb true) (aq (wn rfl) (aq (wn rfl) (lw (vb true) (aI rfl rfl rfl) (mv (vb true) (aq (wn rfl) (aq (wn rfl) ?_)))))))))))
  refine lw (vb true) (aI rfl rfl rfl) (mv (vb true) (aq (wn rfl) (aq (wn rfl) (aq (wn rfl) (aq (wn rfl) (lw (vb true) (aI rfl rfl rfl) (mv (vb true) (aq (wn rfl) (aq (wn rfl) (aq (wn rfl) (aq (wn rfl) (lw (vb true) (aI rfl rfl rfl) (mv (vb true) (aq (wn rfl) (aq (wn rfl) (aq (wn rfl) (lw (vb true) (aI rfl rfl rfl) ?_)))))))))))))))))
  refine aa (af rfl rfl (a6 ?_))
  clear bx5
  refine a0 rfl (ma (vb true) (aa (aA (vs:=[vb true]) Try.func7 (.tmp rfl .nil) ?_)))
  have e0:(true:Bool)=(true):=by
    rfl
  have C149:=cg [] (ch2.n.seq (hb7.n.seq (hb9.n.seq hb11.n)))
  replace bH:=bH.ca C149
  exact⟨rb e0,bH.below⟩
 refine aq (wn (congrArg Bool.not (Bool.eq_false_iff.2 q23))) (aq (wn (congrArg Bool.not (Bool.eq_false_iff.2 q23))) (aq (wn (congrArg Bool.not (Bool.eq_false_iff.2 q23))) (lw (vb true) (aI rfl (congrArg Bool.not (Bool.eq_false_iff.2 q23)) rfl) (mv (vb true) (aq (wn rfl) (aq (wn rfl) (aq (wn rfl) (aq (wn rfl) (lw (vb true) (aI rfl rfl rfl) (mv (vb true) (aq (wn rfl) (aq (wn rfl) (lw (vb true) (aI rfl rfl rfl) ?_)))))))))))))
 refine mv (vb true) (aq (wn rfl) (aq (wn rfl) (lw (vb true) (aI rfl rfl rfl) (mv (vb true) (aq (wn rfl) (aq (wn rfl) (aq (wn rfl) (aq (wn rfl) (lw (vb true) (aI rfl rfl rfl) (mv (vb true) (aq (wn rfl) (aq (wn rfl) (aq (wn rfl) (aq (wn rfl) (lw (vb true) (aI rfl rfl rfl) (mv (vb true) ?_))))))))))))))))
 refine aq (wn rfl) (aq (wn rfl) (aq (wn rfl) (lw (vb true) (aI rfl rfl rfl) (aa (af rfl rfl (a6 ?_))))))
 clear bx5
 refine a0 rfl (ma (vb true) (aa (aA (vs:=[vb true]) Try.func7 (.tmp rfl .nil) ?_)))
 have e0:(true:Bool)=(true):=by
   rfl
 have C150:=cg [] (ch2.n.seq (hb7.n.seq hb9.n))
 replace bH:=bH.ca C150
 exact⟨rb e0,bH.below⟩
end TL
