import Derived.Test.YtcblhagfadineaaJpTlP4
import Derived.Test.YtcblhagfadineaaJpTlGjA
import Derived.Test.YtcblhagfadineaaJpTlGjB
import Derived.Test.YtcblhagfadineaaJpTlGjC
import Derived.Test.YtcblhagfadineaaJpTlGjD
import Derived.Test.YtcblhagfadineaaProg
import Derived.Test.YtcblhagfadineaaJpTlAli
set_option linter.all false
set_option maxRecDepth 20000
namespace TL
open Go Go.Proofs
theorem tQ:Try.prog.follows .mixedOrders=true:=by kernel_rfl
theorem u6:Try.f6.body.isNone=false:=rfl
theorem ua:(Try.f6.name== "runtime.NumGoroutine")=false:=by decide+kernel
theorem pR:Try.f7.body.isNone=false:=rfl
theorem pz:(Try.f7.name== "runtime.NumGoroutine")=false:=by decide+kernel
theorem xn:Try.f11.body.isNone=false:=rfl
theorem wa:(Try.f11.name== "runtime.NumGoroutine")=false:=by decide+kernel
theorem xj:Try.f12.body.isNone=false:=rfl
theorem vT:(Try.f12.name== "runtime.NumGoroutine")=false:=by decide+kernel
theorem fb:Try.f13.body.isNone=false:=rfl
theorem fc:(Try.f13.name== "runtime.NumGoroutine")=false:=by decide+kernel
theorem fa(w0:World)(x:Int)(y:Int):
    Calls Try.prog 13 #[vi x,vi y] w0 (λee w=>ee= .returned (vg [vi x,vi y])/\dd w0.heap.size w0 w):=by
 refine av Try.func13 rfl nq ?_
 have bH:=aX.start w0
 refine aa (a8 rfl (cj rfl (aY c0 (is 1) (1,0) rfl ah ?_)))
 intro g4 w1 b3 ch2 bx5
 replace bx5:Bx g4 (is 1) w1 b3 [vi 0,vi 0]:=bx5
 refine ab (aa (a8 rfl (mi x (mi y (lw (vg [vi x,vi y]) (bQ (vs:=[(0,vi x),(1,vi y)]) rfl (by kernel_rfl)) (lo (aw (cs':=[vi x,vi y]) ah rfl rfl bx5 rfl nq (AllOne.all (.cons rfl (.cons rfl .nil))) rfl ?_)))))))
 intro w6 ch7 bx8
 clear bx5
 refine ab (au (vs:=[vg [vi x,vi y]]) Try.func13 (.cell rfl (eb (ds:=[vi x,vi y]) ah bx8 rfl rfl) .nil) ?_)
 have e0:((x,y):Pt)=((x,y)):=by
   rfl
 replace bH:=bH.cn ch2
 replace bH:=bH.ce ch7
 exact⟨(congrArg (a₁:=(x,y)) (λ(z0:Pt)=>Ending.returned (vg [vi z0.1,vi z0.2])) e0),bH.below⟩
set_option maxHeartbeats 4000000 in
theorem pE(w0:World):
    Calls Try.prog 4 #[] w0 (λee w=>ee= .returned (vb true)/\dd w0.heap.size w0 w):=by
 refine av Try.func4 rfl nq ?_
 have bH:=aX.start w0
 refine aa (a8 rfl (ma (vb false) (ab (aa (a8 rfl (cj rfl (bT (aA (vals:=[]) Try.func11 xn wa rfl) (av Try.func11 rfl nq (aa (a8 rfl (cj rfl (aY c0 (is 1) (1,0) rfl cL ?_))))))))))))
 intro g4 w1 b3 ch2 bx5
 replace bx5:Bx g4 (is 1) w1 b3 [vi 0,vn]:=bx5
 refine lo (aY g4 (is 2) (2,0) rfl cP ?_)
 intro g9 w6 b8 ch7 bx10
 replace bx10:Bx g9 (is 2) w6 b8 [vn,vn]:=bx10
 refine ab (aa (a8 rfl (lw (vg [vi 0,vi 1]) (bQ (vs:=[(0,vi 0),(1,vi 1)]) rfl (by kernel_rfl)) (lw (vg [vi 1,vi 2]) (bQ (vs:=[(0,vi 1),(1,vi 2)]) rfl (by kernel_rfl)) (lo (aF (α:=Pt) g9 (is 3) (is 3) (3,0) rfl ([(0,1),(1,2)]:List Pt) jQ dY (by decide) (by decide) (vs:=[(0,vg [vi 0,vi 1]),(1,vg [vi 1,vi 2])]) rfl rfl (.cons rfl (.cons rfl .nil)) ?_))))))
 intro g11 w12 v13 ch14 o15
 refine lw (vg [vi 3,v13]) (bQ (vs:=[(0,vi 3),(1,v13)]) rfl (by rw[Sl.form o15.flat];kernel_rfl)) (lo (aK (v:=vg [vi 0,vi 0]) (aA (vals:=[vi 0,vi 0]) Try.func13 fb fc rfl) (fa w12 0 0) ?_))
 intro w16 hb17
 replace hb17:=ar hb17 g11
 refine lo (aK (v:=vg [vi 2,vi 0]) (aA (vals:=[vi 2,vi 0]) Try.func13 fb fc rfl) (fa w16 2 0) ?_)
 intro w18 hb19
 replace hb19:=ar hb19 g11
 refine lo (aK (v:=vg [vi 1,vi 0]) (aA (vals:=[vi 1,vi 0]) Try.func13 fb fc rfl) (fa w18 1 0) ?_)
 intro w20 hb21
 replace hb21:=ar hb21 g11
 refine lo (aF (α:=Pt) g11 (is 4) (is 4) (4,0) rfl ([(0,0),(2,0),(1,0)]:List Pt) cX ah (by decide) (by decide) (vs:=[(0,vg [vi 0,vi 0]),(1,vg [vi 2,vi 0]),(2,vg [vi 1,vi 0])]) rfl rfl (.cons rfl (.cons rfl (.cons rfl .nil))) ?_)
 intro g22 w23 v24 ch25 o26
 refine lo (aK (v:=vg [vi 0,vi 0]) (aA (vals:=[vi 0,vi 0]) Try.func13 fb fc rfl) (fa w23 0 0) ?_)
 intro w27 hb28
 replace hb28:=ar hb28 g22
 refine lo (aK (v:=vg [vi 1,vi 1]) (aA (vals:=[vi 1,vi 1]) Try.func13 fb fc rfl) (fa w27 1 1) ?_)
 intro w29 hb30
 replace hb30:=ar hb30 g22
 refine lo (aK (v:=vg [vi 2,vi 0]) (aA (vals:=[vi 2,vi 0]) Try.func13 fb fc rfl) (fa w29 2 0) ?_)
 intro w31 hb32
 replace hb32:=ar hb32 g22
 refine lo (aF (α:=Pt) g22 (is 5) (is 5) (5,0) rfl ([(0,0),(1,1),(2,0)]:List Pt) cX ah (by decide) (by decide) (vs:=[(0,vg [vi 0,vi 0]),(1,vg [vi 1,vi 1]),(2,vg [vi 2,vi 0])]) rfl rfl (.cons rfl (.cons rfl (.cons rfl .nil))) ?_)
 intro g33 w34 v35 ch36 o37
 refine lo (aK (v:=vg [vi 2,vi 0]) (aA (vals:=[vi 2,vi 0]) Try.func13 fb fc rfl) (fa w34 2 0) ?_)
 intro w38 hb39
 replace hb39:=ar hb39 g33
 refine lo (aK (v:=vg [vi 1,vi 0]) (aA (vals:=[vi 1,vi 0]) Try.func13 fb fc rfl) (fa w38 1 0) ?_)
 intro w40 hb41
 replace hb41:=ar hb41 g33
 refine lo (aF (α:=Pt) g33 (is 6) (is 6) (6,0) rfl ([(2,0),(1,0)]:List Pt) cX ah (by decide) (by decide) (vs:=[(0,vg [vi 2,vi 0]),(1,vg [vi 1,vi 0])]) rfl rfl (.cons rfl (.cons rfl .nil)) ?_)
 intro g42 w43 v44 ch45 o46
 refine lo ?_
 have C49:=cg [] (hb39.n.seq (hb41.n.seq ch45.n))
 replace o37:=o37.ca C49
 obtain⟨c47,hv48⟩:=nS (u:=v35) (cz o37.flat)
 obtain⟨c50,hv51⟩:=nS (u:=v44) (cz o46.flat)
 refine aF (α:=Vc) g42 (is 7) (is 7) (7,0) rfl [c47,c50] kM bO (by decide) (by decide) (vs:=[(0,v35),(1,v44)]) rfl rfl (.cons (lq hv48 (bK o37.flat)) (.cons (lq hv51 (bK o46.flat)) .nil)) ?_
 intro g52 w53 v54 ch55 o56
 have C57:=cg [] (hb28.n.seq (hb30.n.seq (hb32.n.seq (ch36.n.seq (hb39.n.seq (hb41.n.seq (ch45.n.seq ch55.n)))))))
 replace o26:=o26.ca C57
 replace o46:=o46.cn ch55
 replace o37:=o37.cn ch55
 refine lw (vg [v24,v54]) (bQ (vs:=[(0,v24),(1,v54)]) rfl (by rw[Sl.form o26.flat,Sl.form (kB o56 (VcR.consv hv48 (o37.flat).ro (VcR.consv hv51 (o46.flat).ro VcR.nil)))];kernel_rfl)) (lo ?_)
 have C62:=cg [] (hb17.n.seq (hb19.n.seq (hb21.n.seq (ch25.n.seq (hb28.n.seq (hb30.n.seq (hb32.n.seq (ch36.n.seq (hb39.n.seq (hb41.n.seq (ch45.n.seq ch55.n)))))))))))
 have C61:=ch7.n.seq (ch14.n.seq C62)
 replace bx5:=bx5.ca C61
 replace o15:=o15.ca C62
 refine aw (cs':=[vi 3,v13]) cL rfl rfl bx5 rfl nq (AllOne.all (.cons rfl (.cons (cz o15.flat) .nil))) rfl ?_
 intro w58 ch59 bx60
 clear bx5
 refine lo ?_
 have C66:=cg [1] (ch14.n.seq (hb17.n.seq (hb19.n.seq (hb21.n.seq (ch25.n.seq (hb28.n.seq (hb30.n.seq (hb32.n.seq (ch36.n.seq (hb39.n.seq (hb41.n.seq (ch45.n.seq (ch55.n.seq (ch59.l rfl))))))))))))))
 replace bx10:=bx10.ca C66
 replace o46:=o46.ce ch59
 replace o37:=o37.ce ch59
 replace o56:=o56.ce ch59
 replace o26:=o26.ce ch59
 refine aw (cs':=[v24,v54]) cP rfl rfl bx10 rfl nq (AllOne.all (.cons (cz o26.flat) (.cons (cz (kB o56 (VcR.consv hv48 (o37.flat).ro (VcR.consv hv51 (o46.flat).ro VcR.nil)))) .nil))) rfl ?_
 intro w63 ch64 bx65
 clear bx10
 refine ab ?_
 replace bx60:=bx60.ce ch64
 refine au (vs:=[vg [vi 3,v13],vg [v24,v54]]) Try.func11 (.cell rfl (eb (ds:=[vi 3,v13]) cL bx60 rfl rfl) (.cell rfl (eb (ds:=[v24,v54]) cP bx65 rfl rfl) .nil)) ?_
 refine⟨vt [vg [vi 3,v13],vg [v24,v54]],rfl,?_⟩
 refine mv (vt [vg [vi 3,v13],vg [v24,v54]]) (lx (aV rfl rfl) (lx (aV rfl rfl) (lo (aY g52 (is 8) (8,0) rfl cL ?_))))
 intro g70 w67 b69 ch68 bx71
 replace bx71:Bx g70 (is 8) w67 b69 [vi 0,vn]:=bx71
 refine lo (aY g70 (is 9) (9,0) rfl cP ?_)
 intro g75 w72 b74 ch73 bx76
 replace bx76:Bx g75 (is 9) w72 b74 [vn,vn]:=bx76
 refine lo ?_
 replace bx71:=bx71.cn ch73
 have C80:=cg [1,2] ((ch59.l rfl).seq ((ch64.l rfl).seq (ch68.n.seq ch73.n)))
 replace o15:=o15.ca C80
 refine aw (cs':=[vi 3,v13]) cL rfl rfl bx71 rfl nq (AllOne.all (.cons rfl (.cons (cz o15.flat) .nil))) rfl ?_
 intro w77 ch78 bx79
 clear bx71
 refine lo ?_
 replace bx76:=bx76.ce ch78
 have C84:=cg [2,8] ((ch64.l rfl).seq (ch68.n.seq (ch73.n.seq (ch78.l rfl))))
 replace o46:=o46.ca C84
 replace o37:=o37.ca C84
 replace o56:=o56.ca C84
 replace o26:=o26.ca C84
 refine aw (cs':=[v24,v54]) cP rfl rfl bx76 rfl nq (AllOne.all (.cons (cz o26.flat) (.cons (cz (kB o56 (VcR.consv hv48 (o37.flat).ro (VcR.consv hv51 (o46.flat).ro VcR.nil)))) .nil))) rfl ?_
 intro w81 ch82 bx83
 clear bx76
 refine ab (aa ?_)
 clear bx60 bx65
 refine a8 rfl ?_
 replace bx79:=bx79.ce ch82
 refine lx (ak (ds:=[vi 3,v13]) cL rfl bx79 rfl rfl) (lx (ak (ds:=[v24,v54]) cP rfl bx83 rfl rfl) ?_)
 replace o15:=(o15.ce ch78).ce ch82
 replace o26:=o26.ce ch82
 replace o46:=o46.ce ch82
 replace o37:=o37.ce ch82
 replace o56:=o56.ce ch82
 refine lo (c3 (aA (vals:=[vg [vi 3,v13],vg [v24,v54]]) Try.func7 pR pz rfl) (lj w81 (3,([(0,1),(1,2)]:List Pt)) v13 (o15.flat).ro (([(0,0),(2,0),(1,0)]:List Pt),[([(0,0),(1,1),(2,0)]:List Pt),([(2,0),(1,0)]:List Pt)]) v24 v54 (o26.flat).ro ((kB o56 (VcR.consv hv48 (o37.flat).ro (VcR.consv hv51 (o46.flat).ro VcR.nil)))).ro) ?_)
 rintro⟨d86,v88⟩ w85 ⟨fr87,o89⟩
 obtain⟨g90,ch91,G90⟩:=nH g75 fr87 (λn=>if n=1 then 10 else 0)
 replace o89:=o89.gl G90 10
 refine mv (vt [v88,vi ((aU (3,([(0,1),(1,2)]:List Pt)) (([(0,0),(2,0),(1,0)]:List Pt),[([(0,0),(1,1),(2,0)]:List Pt),([(2,0),(1,0)]:List Pt)])).2)]) (lx (aV rfl rfl) (lx (aV rfl rfl) (ma v88 (ai ((aU (3,([(0,1),(1,2)]:List Pt)) (([(0,0),(2,0),(1,0)]:List Pt),[([(0,0),(1,1),(2,0)]:List Pt),([(2,0),(1,0)]:List Pt)])).2) (ab (aa (a8 rfl ?_)))))))
 replace bx79:=bx79.cn ch91
 refine lx (ak (ds:=[vi 3,v13]) cL rfl bx79 rfl rfl) ?_
 replace bx83:=bx83.cn ch91
 refine lx (ak (ds:=[v24,v54]) cP rfl bx83 rfl rfl) ?_
 replace o15:=o15.cn ch91
 replace o26:=o26.cn ch91
 replace o46:=o46.cn ch91
 replace o37:=o37.cn ch91
 replace o56:=o56.cn ch91
 refine lo ?_
 refine aK (v:=vt [vg [vi (((bf (3,([(0,1),(1,2)]:List Pt)) (([(0,0),(2,0),(1,0)]:List Pt),[([(0,0),(1,1),(2,0)]:List Pt),([(2,0),(1,0)]:List Pt)])).1).1),vi ((((bf (3,([(0,1),(1,2)]:List Pt)) (([(0,0),(2,0),(1,0)]:List Pt),[([(0,0),(1,1),(2,0)]:List Pt),([(2,0),(1,0)]:List Pt)])).1).2).1),vi (((((bf (3,([(0,1),(1,2)]:List Pt)) (([(0,0),(2,0),(1,0)]:List Pt),[([(0,0),(1,1),(2,0)]:List Pt),([(2,0),(1,0)]:List Pt)])).1).2).2).1),vb ((((((bf (3,([(0,1),(1,2)]:List Pt)) (([(0,0),(2,0),(1,0)]:List Pt),[([(0,0),(1,1),(2,0)]:List Pt),([(2,0),(1,0)]:List Pt)])).1).2).2).2).1),vb ((((((bf (3,([(0,1),(1,2)]:List Pt)) (([(0,0),(2,0),(1,0)]:List Pt),[([(0,0),(1,1),(2,0)]:List Pt),([(2,0),(1,0)]:List Pt)])).1).2).2).2).2)],vi ((bf (3,([(0,1),(1,2)]:List Pt)) (([(0,0),(2,0),(1,0)]:List Pt),[([(0,0),(1,1),(2,0)]:List Pt),([(2,0),(1,0)]:List Pt)])).2)]) (aA (vals:=[vg [vi 3,v13],vg [v24,v54]]) Try.func12 xj vT rfl) (u9 w85 (3,([(0,1),(1,2)]:List Pt)) v13 (o15.flat).ro (([(0,0),(2,0),(1,0)]:List Pt),[([(0,0),(1,1),(2,0)]:List Pt),([(2,0),(1,0)]:List Pt)]) v24 v54 (o26.flat).ro ((kB o56 (VcR.consv hv48 (o37.flat).ro (VcR.consv hv51 (o46.flat).ro VcR.nil)))).ro) ?_
 intro w92 hb93
 replace hb93:=ar hb93 g90
 refine mv (vt [vg [vi (((bf (3,([(0,1),(1,2)]:List Pt)) (([(0,0),(2,0),(1,0)]:List Pt),[([(0,0),(1,1),(2,0)]:List Pt),([(2,0),(1,0)]:List Pt)])).1).1),vi ((((bf (3,([(0,1),(1,2)]:List Pt)) (([(0,0),(2,0),(1,0)]:List Pt),[([(0,0),(1,1),(2,0)]:List Pt),([(2,0),(1,0)]:List Pt)])).1).2).1),vi (((((bf (3,([(0,1),(1,2)]:List Pt)) (([(0,0),(2,0),(1,0)]:List Pt),[([(0,0),(1,1),(2,0)]:List Pt),([(2,0),(1,0)]:List Pt)])).1).2).2).1),vb ((((((bf (3,([(0,1),(1,2)]:List Pt)) (([(0,0),(2,0),(1,0)]:List Pt),[([(0,0),(1,1),(2,0)]:List Pt),([(2,0),(1,0)]:List Pt)])).1).2).2).2).1),vb ((((((bf (3,([(0,1),(1,2)]:List Pt)) (([(0,0),(2,0),(1,0)]:List Pt),[([(0,0),(1,1),(2,0)]:List Pt),([(2,0),(1,0)]:List Pt)])).1).2).2).2).2)],vi ((bf (3,([(0,1),(1,2)]:List Pt)) (([(0,0),(2,0),(1,0)]:List Pt),[([(0,0),(1,1),(2,0)]:List Pt),([(2,0),(1,0)]:List Pt)])).2)]) ?_
 refine lx (aV rfl rfl) (lx (aV rfl rfl) (lo (aY g90 (is 11) (11,0) rfl dv ?_)))
 intro g97 w94 b96 ch95 bx98
 replace bx98:Bx g97 (is 11) w94 b96 [vi 0,vi 0,vi 0,vb false,vb false]:=bx98
 refine lo ?_
 refine aw (cs':=[vi (((bf (3,([(0,1),(1,2)]:List Pt)) (([(0,0),(2,0),(1,0)]:List Pt),[([(0,0),(1,1),(2,0)]:List Pt),([(2,0),(1,0)]:List Pt)])).1).1),vi ((((bf (3,([(0,1),(1,2)]:List Pt)) (([(0,0),(2,0),(1,0)]:List Pt),[([(0,0),(1,1),(2,0)]:List Pt),([(2,0),(1,0)]:List Pt)])).1).2).1),vi (((((bf (3,([(0,1),(1,2)]:List Pt)) (([(0,0),(2,0),(1,0)]:List Pt),[([(0,0),(1,1),(2,0)]:List Pt),([(2,0),(1,0)]:List Pt)])).1).2).2).1),vb ((((((bf (3,([(0,1),(1,2)]:List Pt)) (([(0,0),(2,0),(1,0)]:List Pt),[([(0,0),(1,1),(2,0)]:List Pt),([(2,0),(1,0)]:List Pt)])).1).2).2).2).1),vb ((((((bf (3,([(0,1),(1,2)]:List Pt)) (([(0,0),(2,0),(1,0)]:List Pt),[([(0,0),(1,1),(2,0)]:List Pt),([(2,0),(1,0)]:List Pt)])).1).2).2).2).2)]) dv rfl rfl bx98 rfl nq (AllOne.all (.cons rfl (.cons rfl (.cons rfl (.cons rfl (.cons rfl .nil)))))) rfl ?_
 intro w99 ch100 bx101
 clear bx98
 refine ai ((bf (3,([(0,1),(1,2)]:List Pt)) (([(0,0),(2,0),(1,0)]:List Pt),[([(0,0),(1,1),(2,0)]:List Pt),([(2,0),(1,0)]:List Pt)])).2) (ab (aa (a8 rfl ?_)))
 have C102:=cg [11] (hb93.n.seq (ch95.n.seq (ch100.l rfl)))
 replace bx79:=bx79.ca C102
 refine lx (ak (ds:=[vi 3,v13]) cL rfl bx79 rfl rfl) ?_
 replace bx83:=bx83.ca C102
 refine lx (ak (ds:=[v24,v54]) cP rfl bx83 rfl rfl) ?_
 replace o15:=o15.ca C102
 replace o26:=o26.ca C102
 replace o46:=o46.ca C102
 replace o37:=o37.ca C102
 replace o56:=o56.ca C102
 refine lo (c3 (aA (vals:=[vg [vi 3,v13],vg [v24,v54]]) Try.func6 u6 ua rfl) (oU w99 (3,([(0,1),(1,2)]:List Pt)) v13 (o15.flat).ro (([(0,0),(2,0),(1,0)]:List Pt),[([(0,0),(1,1),(2,0)]:List Pt),([(2,0),(1,0)]:List Pt)]) v24 v54 (o26.flat).ro ((kB o56 (VcR.consv hv48 (o37.flat).ro (VcR.consv hv51 (o46.flat).ro VcR.nil)))).ro (by exact λ_=>by decide)) ?_)
 rintro⟨d104,v106⟩ w103 ⟨fr105,o107⟩
 obtain⟨g108,ch109,G108⟩:=nH g97 fr105 (λn=>if n=1 then 12 else 0)
 replace o107:=o107.gl G108 12
 refine mv (vt [v106,vi ((turnsR (3,([(0,1),(1,2)]:List Pt)) (([(0,0),(2,0),(1,0)]:List Pt),[([(0,0),(1,1),(2,0)]:List Pt),([(2,0),(1,0)]:List Pt)])).2)]) (lx (aV rfl rfl) (lx (aV rfl rfl) (ma v106 (ai ((turnsR (3,([(0,1),(1,2)]:List Pt)) (([(0,0),(2,0),(1,0)]:List Pt),[([(0,0),(1,1),(2,0)]:List Pt),([(2,0),(1,0)]:List Pt)])).2) (ab (aa (dQ g108 (inl [7]) tQ ?_)))))))
 intro w111 ch110
 refine ht 0 rfl (b5.refl _ _ _) (λw' hw'=>ad iK rfl rfl rfl rfl) ?_
 replace bx83:=(bx83.cn ch109).cn ch110
 refine ht 1 rfl (b5.refl _ _ _) (λw' hw'=>af d3 rfl (bx83.chg hw' (bA rfl)) rfl) (aO 2 rfl (by kernel_rfl) rfl (aK (v:=vg [vi 0,vi 0]) (aA (vals:=[vi 0,vi 0]) Try.func13 fb fc rfl) (fa w111 0 0) ?_))
 intro w112 hb113
 replace hb113:=ar hb113 g108
 have hs114:b5 (inl [7]) _ _ _ _:=hb113.n
 refine⟨hs114.same,?_⟩
 refine aO 3 rfl (by kernel_rfl) rfl (aK (v:=vg [vi 2,vi 0]) (aA (vals:=[vi 2,vi 0]) Try.func13 fb fc rfl) (fa w112 2 0) ?_)
 intro w115 hb116
 replace hb116:=ar hb116 g108
 have hs117:=hs114.seq (hb116.n)
 refine⟨hs117.same,?_⟩
 refine aO 4 rfl (by kernel_rfl) rfl (aF (α:=Pt) g108 (is 13) (is 13) (13,0) rfl ([(0,0),(2,0)]:List Pt) cX ah (by decide) (by decide) (vs:=[(0,vg [vi 0,vi 0]),(1,vg [vi 2,vi 0])]) rfl rfl (.cons rfl (.cons rfl .nil)) ?_)
 intro g118 w119 v120 ch121 o122
 have hs123:=hs117.seq (ch121.n)
 refine⟨hs123.same,?_⟩
 refine aO 5 rfl (by kernel_rfl) rfl ?_
 replace o46:=(o46.cn ch109).cn ch110
 replace o37:=(o37.cn ch109).cn ch110
 have C124:=cg [] (ch109.n.seq (ch110.n.seq (hb113.n.seq (hb116.n.seq ch121.n))))
 replace o56:=o56.ca C124
 refine bJ (v:=Value.pointer (some (bu v54 1 (Int.toNat 0)))) (al (α:=List Pt) (xs:=[([(0,0),(1,1),(2,0)]:List Pt),([(2,0),(1,0)]:List Pt)]) (v:=v54) (i:=0) kM rfl rfl (kB o56 (VcR.consv hv48 ((o37.ca hs123).flat).ro (VcR.consv hv51 ((o46.ca hs123).flat).ro VcR.nil))) rfl (by omega) (by(simp only[List.length_set,List.length_append,List.length_cons,List.length_nil,List.length_replicate,List.length_map,List.length_take,List.length_drop];omega))) ?_
 refine⟨hs123.same,?_⟩
 refine aO 6 rfl (by kernel_rfl) rfl ?_
 obtain⟨c128,hv129⟩:=nS (u:=v120) (cz o122.flat)
 refine dq (α:=Vc) (i:=0) c128 bO rfl rfl o56 (by decide) (by simp) (lq hv129 (bK o122.flat)) ?_
 intro w125 ch126 bx127
 clear o56
 replace bx127:Ow g118 (is 7) (is 7) w125 v54 [c128,c50]:=bx127
 have hs130:=hs123.seq (ch126.l rfl)
 refine⟨hs130.same,?_⟩
 refine cK (by kernel_rfl) (aa ?_)
 clear o37
 refine a8 rfl ?_
 have C131:=cg [7] (ch109.n.seq (ch110.n.seq (hb113.n.seq (hb116.n.seq (ch121.n.seq (ch126.l rfl))))))
 replace bx79:=bx79.ca C131
 refine lx (ak (ds:=[vi 3,v13]) cL rfl bx79 rfl rfl) ?_
 have C132:=cg [7] (hb113.n.seq (hb116.n.seq (ch121.n.seq (ch126.l rfl))))
 replace bx83:=bx83.ca C132
 refine lx (ak (ds:=[v24,v54]) cP rfl bx83 rfl rfl) ?_
 replace o15:=o15.ca C131
 replace o26:=o26.ca C131
 replace o46:=o46.ca C132
 replace o122:=o122.ce ch126
 refine lo (c3 (aA (vals:=[vg [vi 3,v13],vg [v24,v54]]) Try.func7 pR pz rfl) (lj w125 (3,([(0,1),(1,2)]:List Pt)) v13 (o15.flat).ro (([(0,0),(2,0),(1,0)]:List Pt),[([(0,0),(2,0)]:List Pt),([(2,0),(1,0)]:List Pt)]) v24 v54 (o26.flat).ro ((kB bx127 (VcR.consv hv129 (o122.flat).ro (VcR.consv hv51 (o46.flat).ro VcR.nil)))).ro) ?_)
 rintro⟨d134,v136⟩ w133 ⟨fr135,o137⟩
 obtain⟨g138,ch139,G138⟩:=nH g118 fr135 (λn=>if n=1 then 14 else 0)
 replace o137:=o137.gl G138 14
 refine mv (vt [v136,vi ((aU (3,([(0,1),(1,2)]:List Pt)) (([(0,0),(2,0),(1,0)]:List Pt),[([(0,0),(2,0)]:List Pt),([(2,0),(1,0)]:List Pt)])).2)]) (lx (aV rfl rfl) (lx (aV rfl rfl) (ma v136 (ai ((aU (3,([(0,1),(1,2)]:List Pt)) (([(0,0),(2,0),(1,0)]:List Pt),[([(0,0),(2,0)]:List Pt),([(2,0),(1,0)]:List Pt)])).2) (ab (aa ?_))))))
 clear o15 o26 o46 bx79 bx83 o122 bx127
 refine a8 rfl (mv v88 ?_)
 have C140:=cg [7,11] (hb93.n.seq (ch95.n.seq ((ch100.l rfl).seq (ch109.n.seq (ch110.n.seq (hb113.n.seq (hb116.n.seq (ch121.n.seq ((ch126.l rfl).seq ch139.n)))))))))
 replace o89:=o89.ca C140
 have len141:=(o89.flat).small
 refine lx (aT gB rfl o89.flat) (lx (cq (m:=(List.length ((aU (3,([(0,1),(1,2)]:List Pt)) (([(0,0),(2,0),(1,0)]:List Pt),[([(0,0),(1,1),(2,0)]:List Pt),([(2,0),(1,0)]:List Pt)])).1):Int)) (n:=0) rfl rfl) (mv (vb (decide ((List.length ((aU (3,([(0,1),(1,2)]:List Pt)) (([(0,0),(2,0),(1,0)]:List Pt),[([(0,0),(1,1),(2,0)]:List Pt),([(2,0),(1,0)]:List Pt)])).1):Int)=0))) ?_))
 have q48:(List.length ((aU (3,([(0,1),(1,2)]:List Pt)) (([(0,0),(2,0),(1,0)]:List Pt),[([(0,0),(1,1),(2,0)]:List Pt),([(2,0),(1,0)]:List Pt)])).1):Int)=0:=by rfl
 refine lv (vi ((aU (3,([(0,1),(1,2)]:List Pt)) (([(0,0),(2,0),(1,0)]:List Pt),[([(0,0),(1,1),(2,0)]:List Pt),([(2,0),(1,0)]:List Pt)])).2)) (wy (dt q48)) (aD rfl) (lv (vb (decide (((aU (3,([(0,1),(1,2)]:List Pt)) (([(0,0),(2,0),(1,0)]:List Pt),[([(0,0),(1,1),(2,0)]:List Pt),([(2,0),(1,0)]:List Pt)])).2)=0))) (wy (dt q48)) (cq (m:=(aU (3,([(0,1),(1,2)]:List Pt)) (([(0,0),(2,0),(1,0)]:List Pt),[([(0,0),(1,1),(2,0)]:List Pt),([(2,0),(1,0)]:List Pt)])).2) (n:=0) rfl rfl) ?_)
 refine lw (vb (decide (((aU (3,([(0,1),(1,2)]:List Pt)) (([(0,0),(2,0),(1,0)]:List Pt),[([(0,0),(1,1),(2,0)]:List Pt),([(2,0),(1,0)]:List Pt)])).2)=0))) (aE rfl (dt q48) rfl) (mv (vb (decide (((aU (3,([(0,1),(1,2)]:List Pt)) (([(0,0),(2,0),(1,0)]:List Pt),[([(0,0),(1,1),(2,0)]:List Pt),([(2,0),(1,0)]:List Pt)])).2)=0))) ?_)
 have q52:((aU (3,([(0,1),(1,2)]:List Pt)) (([(0,0),(2,0),(1,0)]:List Pt),[([(0,0),(1,1),(2,0)]:List Pt),([(2,0),(1,0)]:List Pt)])).2)=0:=by rfl
 refine lv (vp b96 0) (wy (dt q52)) (ad sM rfl rfl rfl rfl) ?_
 have C142:=cg [7] (ch109.n.seq (ch110.n.seq (hb113.n.seq (hb116.n.seq (ch121.n.seq ((ch126.l rfl).seq ch139.n))))))
 replace bx101:=bx101.ca C142
 refine lv (vi (((bf (3,([(0,1),(1,2)]:List Pt)) (([(0,0),(2,0),(1,0)]:List Pt),[([(0,0),(1,1),(2,0)]:List Pt),([(2,0),(1,0)]:List Pt)])).1).1)) (wy (dt q52)) (af aI rfl bx101 rfl) (lv (vb (decide ((((bf (3,([(0,1),(1,2)]:List Pt)) (([(0,0),(2,0),(1,0)]:List Pt),[([(0,0),(1,1),(2,0)]:List Pt),([(2,0),(1,0)]:List Pt)])).1).1)=1))) (wy (dt q52)) (cq (m:=((bf (3,([(0,1),(1,2)]:List Pt)) (([(0,0),(2,0),(1,0)]:List Pt),[([(0,0),(1,1),(2,0)]:List Pt),([(2,0),(1,0)]:List Pt)])).1).1) (n:=1) rfl rfl) ?_)
 refine lw (vb (decide ((((bf (3,([(0,1),(1,2)]:List Pt)) (([(0,0),(2,0),(1,0)]:List Pt),[([(0,0),(1,1),(2,0)]:List Pt),([(2,0),(1,0)]:List Pt)])).1).1)=1))) (aE rfl (dt q52) rfl) (mv (vb (decide ((((bf (3,([(0,1),(1,2)]:List Pt)) (([(0,0),(2,0),(1,0)]:List Pt),[([(0,0),(1,1),(2,0)]:List Pt),([(2,0),(1,0)]:List Pt)])).1).1)=1))) ?_)
 have q57:(((bf (3,([(0,1),(1,2)]:List Pt)) (([(0,0),(2,0),(1,0)]:List Pt),[([(0,0),(1,1),(2,0)]:List Pt),([(2,0),(1,0)]:List Pt)])).1).1)=1:=by rfl
 refine lv (vp b96 1) (wy (dt q57)) (ad sM rfl rfl rfl rfl) (lv (vi ((((bf (3,([(0,1),(1,2)]:List Pt)) (([(0,0),(2,0),(1,0)]:List Pt),[([(0,0),(1,1),(2,0)]:List Pt),([(2,0),(1,0)]:List Pt)])).1).2).1)) (wy (dt q57)) (af aI rfl bx101 rfl) ?_)
 refine lv (vb (decide (((((bf (3,([(0,1),(1,2)]:List Pt)) (([(0,0),(2,0),(1,0)]:List Pt),[([(0,0),(1,1),(2,0)]:List Pt),([(2,0),(1,0)]:List Pt)])).1).2).1)=2))) (wy (dt q57)) (cq (m:=(((bf (3,([(0,1),(1,2)]:List Pt)) (([(0,0),(2,0),(1,0)]:List Pt),[([(0,0),(1,1),(2,0)]:List Pt),([(2,0),(1,0)]:List Pt)])).1).2).1) (n:=2) rfl rfl) (lw (vb (decide (((((bf (3,([(0,1),(1,2)]:List Pt)) (([(0,0),(2,0),(1,0)]:List Pt),[([(0,0),(1,1),(2,0)]:List Pt),([(2,0),(1,0)]:List Pt)])).1).2).1)=2))) (aE rfl (dt q57) rfl) ?_)
 refine mv (vb (decide (((((bf (3,([(0,1),(1,2)]:List Pt)) (([(0,0),(2,0),(1,0)]:List Pt),[([(0,0),(1,1),(2,0)]:List Pt),([(2,0),(1,0)]:List Pt)])).1).2).1)=2))) ?_
 have q62:((((bf (3,([(0,1),(1,2)]:List Pt)) (([(0,0),(2,0),(1,0)]:List Pt),[([(0,0),(1,1),(2,0)]:List Pt),([(2,0),(1,0)]:List Pt)])).1).2).1)=2:=by rfl
 refine lv (vi ((bf (3,([(0,1),(1,2)]:List Pt)) (([(0,0),(2,0),(1,0)]:List Pt),[([(0,0),(1,1),(2,0)]:List Pt),([(2,0),(1,0)]:List Pt)])).2)) (wy (dt q62)) (aD rfl) (lv (vb (decide (((bf (3,([(0,1),(1,2)]:List Pt)) (([(0,0),(2,0),(1,0)]:List Pt),[([(0,0),(1,1),(2,0)]:List Pt),([(2,0),(1,0)]:List Pt)])).2)=0))) (wy (dt q62)) (cq (m:=(bf (3,([(0,1),(1,2)]:List Pt)) (([(0,0),(2,0),(1,0)]:List Pt),[([(0,0),(1,1),(2,0)]:List Pt),([(2,0),(1,0)]:List Pt)])).2) (n:=0) rfl rfl) ?_)
 refine lw (vb (decide (((bf (3,([(0,1),(1,2)]:List Pt)) (([(0,0),(2,0),(1,0)]:List Pt),[([(0,0),(1,1),(2,0)]:List Pt),([(2,0),(1,0)]:List Pt)])).2)=0))) (aE rfl (dt q62) rfl) (mv (vb (decide (((bf (3,([(0,1),(1,2)]:List Pt)) (([(0,0),(2,0),(1,0)]:List Pt),[([(0,0),(1,1),(2,0)]:List Pt),([(2,0),(1,0)]:List Pt)])).2)=0))) ?_)
 have q66:((bf (3,([(0,1),(1,2)]:List Pt)) (([(0,0),(2,0),(1,0)]:List Pt),[([(0,0),(1,1),(2,0)]:List Pt),([(2,0),(1,0)]:List Pt)])).2)=0:=by rfl
 refine lv (v106) (wy (dt q66)) (aD rfl) ?_
 have C143:=cg [7] (ch110.n.seq (hb113.n.seq (hb116.n.seq (ch121.n.seq ((ch126.l rfl).seq ch139.n)))))
 replace o107:=o107.ca C143
 have len144:=(o107.sl).small
 refine lv (vi (List.length ((turnsR (3,([(0,1),(1,2)]:List Pt)) (([(0,0),(2,0),(1,0)]:List Pt),[([(0,0),(1,1),(2,0)]:List Pt),([(2,0),(1,0)]:List Pt)])).1):Int)) (wy (dt q66)) (aT kr rfl o107.sl) (lv (vb (decide ((List.length ((turnsR (3,([(0,1),(1,2)]:List Pt)) (([(0,0),(2,0),(1,0)]:List Pt),[([(0,0),(1,1),(2,0)]:List Pt),([(2,0),(1,0)]:List Pt)])).1):Int)=3))) (wy (dt q66)) (cq (m:=(List.length ((turnsR (3,([(0,1),(1,2)]:List Pt)) (([(0,0),(2,0),(1,0)]:List Pt),[([(0,0),(1,1),(2,0)]:List Pt),([(2,0),(1,0)]:List Pt)])).1):Int)) (n:=3) rfl rfl) ?_)
 refine lw (vb (decide ((List.length ((turnsR (3,([(0,1),(1,2)]:List Pt)) (([(0,0),(2,0),(1,0)]:List Pt),[([(0,0),(1,1),(2,0)]:List Pt),([(2,0),(1,0)]:List Pt)])).1):Int)=3))) (aE rfl (dt q66) rfl) (mv (vb (decide ((List.length ((turnsR (3,([(0,1),(1,2)]:List Pt)) (([(0,0),(2,0),(1,0)]:List Pt),[([(0,0),(1,1),(2,0)]:List Pt),([(2,0),(1,0)]:List Pt)])).1):Int)=3))) ?_)
 have q71:(List.length ((turnsR (3,([(0,1),(1,2)]:List Pt)) (([(0,0),(2,0),(1,0)]:List Pt),[([(0,0),(1,1),(2,0)]:List Pt),([(2,0),(1,0)]:List Pt)])).1):Int)=3:=by exact tx
 refine lv (vi ((turnsR (3,([(0,1),(1,2)]:List Pt)) (([(0,0),(2,0),(1,0)]:List Pt),[([(0,0),(1,1),(2,0)]:List Pt),([(2,0),(1,0)]:List Pt)])).2)) (wy (dt q71)) (aD rfl) (lv (vb (decide (((turnsR (3,([(0,1),(1,2)]:List Pt)) (([(0,0),(2,0),(1,0)]:List Pt),[([(0,0),(1,1),(2,0)]:List Pt),([(2,0),(1,0)]:List Pt)])).2)=0))) (wy (dt q71)) (cq (m:=(turnsR (3,([(0,1),(1,2)]:List Pt)) (([(0,0),(2,0),(1,0)]:List Pt),[([(0,0),(1,1),(2,0)]:List Pt),([(2,0),(1,0)]:List Pt)])).2) (n:=0) rfl rfl) ?_)
 refine lw (vb (decide (((turnsR (3,([(0,1),(1,2)]:List Pt)) (([(0,0),(2,0),(1,0)]:List Pt),[([(0,0),(1,1),(2,0)]:List Pt),([(2,0),(1,0)]:List Pt)])).2)=0))) (aE rfl (dt q71) rfl) (mv (vb (decide (((turnsR (3,([(0,1),(1,2)]:List Pt)) (([(0,0),(2,0),(1,0)]:List Pt),[([(0,0),(1,1),(2,0)]:List Pt),([(2,0),(1,0)]:List Pt)])).2)=0))) ?_)
 have q75:((turnsR (3,([(0,1),(1,2)]:List Pt)) (([(0,0),(2,0),(1,0)]:List Pt),[([(0,0),(1,1),(2,0)]:List Pt),([(2,0),(1,0)]:List Pt)])).2)=0:=by exact tl
 refine lv (v136) (wy (dt q75)) (aD rfl) ?_
 have len145:=(o137.flat).small
 refine lv (vi (List.length ((aU (3,([(0,1),(1,2)]:List Pt)) (([(0,0),(2,0),(1,0)]:List Pt),[([(0,0),(2,0)]:List Pt),([(2,0),(1,0)]:List Pt)])).1):Int)) (wy (dt q75)) (aT gB rfl o137.flat) (lv (vb (decide ((List.length ((aU (3,([(0,1),(1,2)]:List Pt)) (([(0,0),(2,0),(1,0)]:List Pt),[([(0,0),(2,0)]:List Pt),([(2,0),(1,0)]:List Pt)])).1):Int)=2))) (wy (dt q75)) (cq (m:=(List.length ((aU (3,([(0,1),(1,2)]:List Pt)) (([(0,0),(2,0),(1,0)]:List Pt),[([(0,0),(2,0)]:List Pt),([(2,0),(1,0)]:List Pt)])).1):Int)) (n:=2) rfl rfl) ?_)
 refine lw (vb (decide ((List.length ((aU (3,([(0,1),(1,2)]:List Pt)) (([(0,0),(2,0),(1,0)]:List Pt),[([(0,0),(2,0)]:List Pt),([(2,0),(1,0)]:List Pt)])).1):Int)=2))) (aE rfl (dt q75) rfl) (mv (vb (decide ((List.length ((aU (3,([(0,1),(1,2)]:List Pt)) (([(0,0),(2,0),(1,0)]:List Pt),[([(0,0),(2,0)]:List Pt),([(2,0),(1,0)]:List Pt)])).1):Int)=2))) ?_)
 have q80:(List.length ((aU (3,([(0,1),(1,2)]:List Pt)) (([(0,0),(2,0),(1,0)]:List Pt),[([(0,0),(2,0)]:List Pt),([(2,0),(1,0)]:List Pt)])).1):Int)=2:=by rfl
 refine lv (v136) (wy (dt q80)) (aD rfl) (lv (Value.pointer (some (bu v136 3 (Int.toNat 0)))) (wy (dt q80)) (al (α:=cv) (xs:=(aU (3,([(0,1),(1,2)]:List Pt)) (([(0,0),(2,0),(1,0)]:List Pt),[([(0,0),(2,0)]:List Pt),([(2,0),(1,0)]:List Pt)])).1) (v:=v136) (i:=0) gB rfl rfl o137.flat rfl (by omega) (by omega)) ?_)
 refine lv (vg [vi ((gI ((aU (3,([(0,1),(1,2)]:List Pt)) (([(0,0),(2,0),(1,0)]:List Pt),[([(0,0),(2,0)]:List Pt),([(2,0),(1,0)]:List Pt)])).1) 0).1),vi (((gI ((aU (3,([(0,1),(1,2)]:List Pt)) (([(0,0),(2,0),(1,0)]:List Pt),[([(0,0),(2,0)]:List Pt),([(2,0),(1,0)]:List Pt)])).1) 0).2).1),vi (((gI ((aU (3,([(0,1),(1,2)]:List Pt)) (([(0,0),(2,0),(1,0)]:List Pt),[([(0,0),(2,0)]:List Pt),([(2,0),(1,0)]:List Pt)])).1) 0).2).2)]) (wy (dt q80)) (aJ (α:=cv) (xs:=(aU (3,([(0,1),(1,2)]:List Pt)) (([(0,0),(2,0),(1,0)]:List Pt),[([(0,0),(2,0)]:List Pt),([(2,0),(1,0)]:List Pt)])).1) (v:=v136) (i:=0) bB rfl o137.flat (by omega) (by omega) rfl) ?_
 refine lv (vg [vi 7,vi 0,vi 2]) (wy (dt q80)) (bQ (vs:=[(0,vi 7),(1,vi 0),(2,vi 2)]) rfl (by kernel_rfl)) ?_
 refine lv (vb (decide (((gI ((aU (3,([(0,1),(1,2)]:List Pt)) (([(0,0),(2,0),(1,0)]:List Pt),[([(0,0),(2,0)]:List Pt),([(2,0),(1,0)]:List Pt)])).1) 0).1,((gI ((aU (3,([(0,1),(1,2)]:List Pt)) (([(0,0),(2,0),(1,0)]:List Pt),[([(0,0),(2,0)]:List Pt),([(2,0),(1,0)]:List Pt)])).1) 0).2).1,((gI ((aU (3,([(0,1),(1,2)]:List Pt)) (([(0,0),(2,0),(1,0)]:List Pt),[([(0,0),(2,0)]:List Pt),([(2,0),(1,0)]:List Pt)])).1) 0).2).2)=(7,0,2)))) (wy (dt q80)) (fE (bs:=[decide (((gI ((aU (3,([(0,1),(1,2)]:List Pt)) (([(0,0),(2,0),(1,0)]:List Pt),[([(0,0),(2,0)]:List Pt),([(2,0),(1,0)]:List Pt)])).1) 0).1)=7),decide ((((gI ((aU (3,([(0,1),(1,2)]:List Pt)) (([(0,0),(2,0),(1,0)]:List Pt),[([(0,0),(2,0)]:List Pt),([(2,0),(1,0)]:List Pt)])).1) 0).2).1)=0),decide ((((gI ((aU (3,([(0,1),(1,2)]:List Pt)) (([(0,0),(2,0),(1,0)]:List Pt),[([(0,0),(2,0)]:List Pt),([(2,0),(1,0)]:List Pt)])).1) 0).2).2)=2)]) Aw (by kernel_rfl) (by kernel_rfl) rfl rfl (.cons (by decide+kernel) aI rfl rfl (.int U3) (.cons (by decide+kernel) aI rfl rfl (.int U3) (.cons (by decide+kernel) aI rfl rfl (.int U3) .nil))) (by simp[Prod.ext_iff,Bool.decide_and,Bool.and_assoc])) ?_
 refine lw (vb (decide (((gI ((aU (3,([(0,1),(1,2)]:List Pt)) (([(0,0),(2,0),(1,0)]:List Pt),[([(0,0),(2,0)]:List Pt),([(2,0),(1,0)]:List Pt)])).1) 0).1,((gI ((aU (3,([(0,1),(1,2)]:List Pt)) (([(0,0),(2,0),(1,0)]:List Pt),[([(0,0),(2,0)]:List Pt),([(2,0),(1,0)]:List Pt)])).1) 0).2).1,((gI ((aU (3,([(0,1),(1,2)]:List Pt)) (([(0,0),(2,0),(1,0)]:List Pt),[([(0,0),(2,0)]:List Pt),([(2,0),(1,0)]:List Pt)])).1) 0).2).2)=(7,0,2)))) (aE rfl (dt q80) rfl) ?_
 refine mv (vb (decide (((gI ((aU (3,([(0,1),(1,2)]:List Pt)) (([(0,0),(2,0),(1,0)]:List Pt),[([(0,0),(2,0)]:List Pt),([(2,0),(1,0)]:List Pt)])).1) 0).1,((gI ((aU (3,([(0,1),(1,2)]:List Pt)) (([(0,0),(2,0),(1,0)]:List Pt),[([(0,0),(2,0)]:List Pt),([(2,0),(1,0)]:List Pt)])).1) 0).2).1,((gI ((aU (3,([(0,1),(1,2)]:List Pt)) (([(0,0),(2,0),(1,0)]:List Pt),[([(0,0),(2,0)]:List Pt),([(2,0),(1,0)]:List Pt)])).1) 0).2).2)=(7,0,2)))) ?_
 have q87:((gI ((aU (3,([(0,1),(1,2)]:List Pt)) (([(0,0),(2,0),(1,0)]:List Pt),[([(0,0),(2,0)]:List Pt),([(2,0),(1,0)]:List Pt)])).1) 0).1,((gI ((aU (3,([(0,1),(1,2)]:List Pt)) (([(0,0),(2,0),(1,0)]:List Pt),[([(0,0),(2,0)]:List Pt),([(2,0),(1,0)]:List Pt)])).1) 0).2).1,((gI ((aU (3,([(0,1),(1,2)]:List Pt)) (([(0,0),(2,0),(1,0)]:List Pt),[([(0,0),(2,0)]:List Pt),([(2,0),(1,0)]:List Pt)])).1) 0).2).2)=(7,0,2):=by rfl
 refine lv (vi ((aU (3,([(0,1),(1,2)]:List Pt)) (([(0,0),(2,0),(1,0)]:List Pt),[([(0,0),(2,0)]:List Pt),([(2,0),(1,0)]:List Pt)])).2)) (wy (dt q87)) (aD rfl) (lv (vb (decide (((aU (3,([(0,1),(1,2)]:List Pt)) (([(0,0),(2,0),(1,0)]:List Pt),[([(0,0),(2,0)]:List Pt),([(2,0),(1,0)]:List Pt)])).2)=0))) (wy (dt q87)) (cq (m:=(aU (3,([(0,1),(1,2)]:List Pt)) (([(0,0),(2,0),(1,0)]:List Pt),[([(0,0),(2,0)]:List Pt),([(2,0),(1,0)]:List Pt)])).2) (n:=0) rfl rfl) ?_)
 refine lw (vb (decide (((aU (3,([(0,1),(1,2)]:List Pt)) (([(0,0),(2,0),(1,0)]:List Pt),[([(0,0),(2,0)]:List Pt),([(2,0),(1,0)]:List Pt)])).2)=0))) (aE rfl (dt q87) rfl) (ma (vb (decide (((aU (3,([(0,1),(1,2)]:List Pt)) (([(0,0),(2,0),(1,0)]:List Pt),[([(0,0),(2,0)]:List Pt),([(2,0),(1,0)]:List Pt)])).2)=0))) (ab (au (vs:=[vb (decide (((aU (3,([(0,1),(1,2)]:List Pt)) (([(0,0),(2,0),(1,0)]:List Pt),[([(0,0),(2,0)]:List Pt),([(2,0),(1,0)]:List Pt)])).2)=0))]) Try.func4 (.tmp rfl .nil) ?_)))
 have e0:(decide (((aU (3,([(0,1),(1,2)]:List Pt)) (([(0,0),(2,0),(1,0)]:List Pt),[([(0,0),(2,0)]:List Pt),([(2,0),(1,0)]:List Pt)])).2)=0):Bool)=(true):=by
   rfl
 have C146:=cg [1,2,7,8,9,11] (ch2.n.seq (ch7.n.seq (ch14.n.seq (hb17.n.seq (hb19.n.seq (hb21.n.seq (ch25.n.seq (hb28.n.seq (hb30.n.seq (hb32.n.seq (ch36.n.seq (hb39.n.seq (hb41.n.seq (ch45.n.seq (ch55.n.seq ((ch59.l rfl).seq ((ch64.l rfl).seq (ch68.n.seq (ch73.n.seq ((ch78.l rfl).seq ((ch82.l rfl).seq (ch91.n.seq (hb93.n.seq (ch95.n.seq ((ch100.l rfl).seq (ch109.n.seq (ch110.n.seq (hb113.n.seq (hb116.n.seq (ch121.n.seq ((ch126.l rfl).seq ch139.n)))))))))))))))))))))))))))))))
 replace bH:=bH.ca C146
 exact⟨(congrArg (a₁:=decide (((aU (3,([(0,1),(1,2)]:List Pt)) (([(0,0),(2,0),(1,0)]:List Pt),[([(0,0),(2,0)]:List Pt),([(2,0),(1,0)]:List Pt)])).2)=0)) (λ(z0:Bool)=>Ending.returned (vb z0)) e0),bH.below⟩
end TL
