import Derived.Test.YtkhfimgjcdeejaaTlP1
import Derived.Test.YtkhfimgjcdeejaaTlGmA
import Derived.Test.YtkhfimgjcdeejaaTlGenA
import Derived.Test.YtkhfimgjcdeejaaTlGjC
import Derived.Test.YtkhfimgjcdeejaaTlMmA
import Derived.Test.YtkhfimgjcdeejaaTlMmB
import Derived.Test.YtkhfimgjcdeejaaTlMmC
import Derived.Test.YtkhfimgjcdeejaaTlMmW
import Derived.Test.YtkhfimgjcdeejaaTlMmR
import Derived.Test.YtkhfimgjcdeejaaProg
import Derived.Test.YtkhfimgjcdeejaaTlAli
set_option linter.all false
set_option maxRecDepth 20000
namespace TL
open Go Go.Proofs
theorem cu:Try.f8.body.isNone=false:=rfl
theorem cw:(Try.f8.name== "runtime.NumGoroutine")=false:=by decide+kernel
theorem kF:Try.f13.body.isNone=false:=rfl
theorem lB:(Try.f13.name== "runtime.NumGoroutine")=false:=by decide+kernel
theorem fA:Try.f15.body.isNone=false:=rfl
theorem fC:(Try.f15.name== "runtime.NumGoroutine")=false:=by decide+kernel
theorem kQ:Try.f17.body.isNone=false:=rfl
theorem lp:(Try.f17.name== "runtime.NumGoroutine")=false:=by decide+kernel
theorem lf:Try.f21.body.isNone=false:=rfl
theorem lj:(Try.f21.name== "runtime.NumGoroutine")=false:=by decide+kernel
set_option maxHeartbeats 4000000 in
theorem ir(w0:World):
    Calls Try.prog 6 #[] w0 (λee w=>ee= .returned (vb true)/\cA w0.heap.size w0 w):=by
 refine aR Try.func6 rfl nq ?_
 have bH:=bu.start w0
 refine a5 (a0 rfl (ma (vb false) (aa (a5 (a0 rfl (lw (vg [vi 0,vi 1]) (b6 (vs:=[(0,vi 0),(1,vi 1)]) rfl (by kernel_rfl)) (lo (aq (α:=Pt) c0 (is 1) (is 1) (1,0) rfl ([(0,1)]:List Pt) i5 cz (by decide) (by decide) (vs:=[(0,vg [vi 0,vi 1])]) rfl rfl (.cons rfl .nil) ?_))))))))
 intro g1 w2 v3 ch4 o5
 refine lw (vg [vi 2,v3]) (b6 (vs:=[(0,vi 2),(1,v3)]) rfl (by rw[Sl.form o5.flat];kernel_rfl)) (lo (bc g1 (is 2) (2,0) rfl bm ?_))
 intro g9 w6 b8 ch7 bx10
 replace bx10:Bx g9 (is 2) w6 b8 [vi 0,vn]:=bx10
 refine lo ?_
 replace o5:=o5.cn ch7
 refine ae (cs':=[vi 2,v3]) bm rfl rfl bx10 rfl nq (AllOne.all (.cons rfl (.cons (bK o5.flat) .nil))) rfl ?_
 intro w11 ch12 bx13
 clear bx10
 refine aa (a5 (a0 rfl (cq rfl (aG (v:=vg [vi 0,vi 0]) (aB (vals:=[vi 0,vi 0]) Try.func15 fA fC rfl) (fF w11 0 0) ?_))))
 intro w14 hb15
 replace hb15:=af hb15 g9
 refine lo (aG (v:=vg [vi 3,vi 4]) (aB (vals:=[vi 3,vi 4]) Try.func15 fA fC rfl) (fF w14 3 4) ?_)
 intro w16 hb17
 replace hb17:=af hb17 g9
 refine lo (aq (α:=Pt) g9 (is 3) (is 3) (3,0) rfl ([(0,0),(3,4)]:List Pt) cj am (by decide) (by decide) (vs:=[(0,vg [vi 0,vi 0]),(1,vg [vi 3,vi 4])]) rfl rfl (.cons rfl (.cons rfl .nil)) ?_)
 intro g18 w19 v20 ch21 o22
 refine lo (aG (v:=vg [vi 0,vi 0]) (aB (vals:=[vi 0,vi 0]) Try.func15 fA fC rfl) (fF w19 0 0) ?_)
 intro w23 hb24
 replace hb24:=af hb24 g18
 refine lo (aG (v:=vg [vi 3,vi 4]) (aB (vals:=[vi 3,vi 4]) Try.func15 fA fC rfl) (fF w23 3 4) ?_)
 intro w25 hb26
 replace hb26:=af hb26 g18
 refine lo (aq (α:=Pt) g18 (is 4) (is 4) (4,0) rfl ([(0,0),(3,4)]:List Pt) cj am (by decide) (by decide) (vs:=[(0,vg [vi 0,vi 0]),(1,vg [vi 3,vi 4])]) rfl rfl (.cons rfl (.cons rfl .nil)) ?_)
 intro g27 w28 v29 ch30 o31
 refine lo ?_
 obtain⟨c32,hv33⟩:=e6 (u:=v29) (bK o31.flat)
 refine aq (α:=Vc) g27 (is 5) (is 5) (5,0) rfl [c32] ex bq (by decide) (by decide) (vs:=[(0,v29)]) rfl rfl (.cons (dl hv33 (bz o31.flat)) .nil) ?_
 intro g34 w35 v36 ch37 o38
 have C39:=cg [] (hb24.n.seq (hb26.n.seq (ch30.n.seq ch37.n)))
 replace o22:=o22.ca C39
 replace o31:=o31.cn ch37
 refine lw (vg [v20,v36]) (b6 (vs:=[(0,v20),(1,v36)]) rfl (by rw[Sl.form o22.flat,Sl.form (dh o38 (VcR.consv hv33 (o31.flat).ro VcR.nil))];kernel_rfl)) (lo (bc g34 (is 6) (6,0) rfl bg ?_))
 intro g43 w40 b42 ch41 bx44
 replace bx44:Bx g43 (is 6) w40 b42 [vn,vn]:=bx44
 refine lo ?_
 replace o31:=o31.cn ch41
 replace o38:=o38.cn ch41
 replace o22:=o22.cn ch41
 refine ae (cs':=[v20,v36]) bg rfl rfl bx44 rfl nq (AllOne.all (.cons (bK o22.flat) (.cons (bK (dh o38 (VcR.consv hv33 (o31.flat).ro VcR.nil))) .nil))) rfl ?_
 intro w45 ch46 bx47
 clear bx44
 refine aa (a5 (a0 rfl ?_))
 have C48:=cg [6] (hb15.n.seq (hb17.n.seq (ch21.n.seq (hb24.n.seq (hb26.n.seq (ch30.n.seq (ch37.n.seq (ch41.n.seq (ch46.l rfl)))))))))
 replace bx13:=bx13.ca C48
 refine lx (ah (ds:=[vi 2,v3]) bm rfl bx13 rfl rfl) (lx (ah (ds:=[v20,v36]) bg rfl bx47 rfl rfl) ?_)
 have C49:=cg [2,6] ((ch12.l rfl).seq (hb15.n.seq (hb17.n.seq (ch21.n.seq (hb24.n.seq (hb26.n.seq (ch30.n.seq (ch37.n.seq (ch41.n.seq (ch46.l rfl))))))))))
 replace o5:=o5.ca C49
 replace o22:=o22.ce ch46
 replace o31:=o31.ce ch46
 replace o38:=o38.ce ch46
 refine lo (eh (aB (vals:=[vg [vi 2,v3],vg [v20,v36]]) Try.func21 lf lj rfl) (iv w45 (2,([(0,1)]:List Pt)) v3 (o5.flat).ro (([(0,0),(3,4)]:List Pt),[([(0,0),(3,4)]:List Pt)]) v20 v36 (o22.flat).ro ((dh o38 (VcR.consv hv33 (o31.flat).ro VcR.nil))).ro) ?_)
 rintro⟨d51,v53⟩ w50 ⟨fr52,o54⟩
 obtain⟨g55,ch56,G55⟩:=n5 g43 fr52 (λn=>if n=1 then 7 else 0)
 replace o54:=o54.gl G55 7
 refine mv (vt [v53,vi ((bj (2,([(0,1)]:List Pt)) (([(0,0),(3,4)]:List Pt),[([(0,0),(3,4)]:List Pt)])).2)]) (lx (aP rfl rfl) (lx (aP rfl rfl) (ma v53 (ai ((bj (2,([(0,1)]:List Pt)) (([(0,0),(3,4)]:List Pt),[([(0,0),(3,4)]:List Pt)])).2) (aa (a5 (a0 rfl ?_)))))))
 replace bx13:=bx13.cn ch56
 refine lx (ah (ds:=[vi 2,v3]) bm rfl bx13 rfl rfl) ?_
 replace bx47:=bx47.cn ch56
 refine lx (ah (ds:=[v20,v36]) bg rfl bx47 rfl rfl) ?_
 replace o5:=o5.cn ch56
 replace o22:=o22.cn ch56
 replace o31:=o31.cn ch56
 replace o38:=o38.cn ch56
 refine lo ?_
 refine aG (v:=vt [vg [Value.float .f64 (((a9 (2,([(0,1)]:List Pt)) (([(0,0),(3,4)]:List Pt),[([(0,0),(3,4)]:List Pt)])).1).1),Value.float .f64 ((((a9 (2,([(0,1)]:List Pt)) (([(0,0),(3,4)]:List Pt),[([(0,0),(3,4)]:List Pt)])).1).2).1),Value.float .f64 (((((a9 (2,([(0,1)]:List Pt)) (([(0,0),(3,4)]:List Pt),[([(0,0),(3,4)]:List Pt)])).1).2).2).1),Value.float .f64 ((((((a9 (2,([(0,1)]:List Pt)) (([(0,0),(3,4)]:List Pt),[([(0,0),(3,4)]:List Pt)])).1).2).2).2).1),Value.float .f64 (((((((a9 (2,([(0,1)]:List Pt)) (([(0,0),(3,4)]:List Pt),[([(0,0),(3,4)]:List Pt)])).1).2).2).2).2).1),Value.float .f64 ((((((((a9 (2,([(0,1)]:List Pt)) (([(0,0),(3,4)]:List Pt),[([(0,0),(3,4)]:List Pt)])).1).2).2).2).2).2).1),Value.float .f64 ((((((((a9 (2,([(0,1)]:List Pt)) (([(0,0),(3,4)]:List Pt),[([(0,0),(3,4)]:List Pt)])).1).2).2).2).2).2).2)],vi ((a9 (2,([(0,1)]:List Pt)) (([(0,0),(3,4)]:List Pt),[([(0,0),(3,4)]:List Pt)])).2)]) (aB (vals:=[vg [vi 2,v3],vg [v20,v36]]) Try.func8 cu cw rfl) (bN w50 (2,([(0,1)]:List Pt)) v3 (o5.flat).ro (([(0,0),(3,4)]:List Pt),[([(0,0),(3,4)]:List Pt)]) v20 v36 (o22.flat).ro ((dh o38 (VcR.consv hv33 (o31.flat).ro VcR.nil))).ro (by exact λ_=>lC)) ?_
 intro w57 hb58
 replace hb58:=af hb58 g55
 refine mv (vt [vg [Value.float .f64 (((a9 (2,([(0,1)]:List Pt)) (([(0,0),(3,4)]:List Pt),[([(0,0),(3,4)]:List Pt)])).1).1),Value.float .f64 ((((a9 (2,([(0,1)]:List Pt)) (([(0,0),(3,4)]:List Pt),[([(0,0),(3,4)]:List Pt)])).1).2).1),Value.float .f64 (((((a9 (2,([(0,1)]:List Pt)) (([(0,0),(3,4)]:List Pt),[([(0,0),(3,4)]:List Pt)])).1).2).2).1),Value.float .f64 ((((((a9 (2,([(0,1)]:List Pt)) (([(0,0),(3,4)]:List Pt),[([(0,0),(3,4)]:List Pt)])).1).2).2).2).1),Value.float .f64 (((((((a9 (2,([(0,1)]:List Pt)) (([(0,0),(3,4)]:List Pt),[([(0,0),(3,4)]:List Pt)])).1).2).2).2).2).1),Value.float .f64 ((((((((a9 (2,([(0,1)]:List Pt)) (([(0,0),(3,4)]:List Pt),[([(0,0),(3,4)]:List Pt)])).1).2).2).2).2).2).1),Value.float .f64 ((((((((a9 (2,([(0,1)]:List Pt)) (([(0,0),(3,4)]:List Pt),[([(0,0),(3,4)]:List Pt)])).1).2).2).2).2).2).2)],vi ((a9 (2,([(0,1)]:List Pt)) (([(0,0),(3,4)]:List Pt),[([(0,0),(3,4)]:List Pt)])).2)]) ?_
 refine lx (aP rfl rfl) (lx (aP rfl rfl) (lo (bc g55 (is 8) (8,0) rfl aH ?_)))
 intro g62 w59 b61 ch60 bx63
 replace bx63:Bx g62 (is 8) w59 b61 [Value.float .f64 0,Value.float .f64 0,Value.float .f64 0,Value.float .f64 0,Value.float .f64 0,Value.float .f64 0,Value.float .f64 0]:=bx63
 refine lo ?_
 refine ae (cs':=[Value.float .f64 (((a9 (2,([(0,1)]:List Pt)) (([(0,0),(3,4)]:List Pt),[([(0,0),(3,4)]:List Pt)])).1).1),Value.float .f64 ((((a9 (2,([(0,1)]:List Pt)) (([(0,0),(3,4)]:List Pt),[([(0,0),(3,4)]:List Pt)])).1).2).1),Value.float .f64 (((((a9 (2,([(0,1)]:List Pt)) (([(0,0),(3,4)]:List Pt),[([(0,0),(3,4)]:List Pt)])).1).2).2).1),Value.float .f64 ((((((a9 (2,([(0,1)]:List Pt)) (([(0,0),(3,4)]:List Pt),[([(0,0),(3,4)]:List Pt)])).1).2).2).2).1),Value.float .f64 (((((((a9 (2,([(0,1)]:List Pt)) (([(0,0),(3,4)]:List Pt),[([(0,0),(3,4)]:List Pt)])).1).2).2).2).2).1),Value.float .f64 ((((((((a9 (2,([(0,1)]:List Pt)) (([(0,0),(3,4)]:List Pt),[([(0,0),(3,4)]:List Pt)])).1).2).2).2).2).2).1),Value.float .f64 ((((((((a9 (2,([(0,1)]:List Pt)) (([(0,0),(3,4)]:List Pt),[([(0,0),(3,4)]:List Pt)])).1).2).2).2).2).2).2)]) aH rfl rfl bx63 rfl nq (AllOne.all (.cons rfl (.cons rfl (.cons rfl (.cons rfl (.cons rfl (.cons rfl (.cons rfl .nil)))))))) rfl ?_
 intro w64 ch65 bx66
 clear bx63
 refine ai ((a9 (2,([(0,1)]:List Pt)) (([(0,0),(3,4)]:List Pt),[([(0,0),(3,4)]:List Pt)])).2) (aa (a5 (a0 rfl ?_)))
 have C67:=cg [8] (hb58.n.seq (ch60.n.seq (ch65.l rfl)))
 replace bx13:=bx13.ca C67
 refine lx (ah (ds:=[vi 2,v3]) bm rfl bx13 rfl rfl) ?_
 replace bx47:=bx47.ca C67
 refine lx (ah (ds:=[v20,v36]) bg rfl bx47 rfl rfl) ?_
 replace o5:=o5.ca C67
 replace o22:=o22.ca C67
 replace o31:=o31.ca C67
 replace o38:=o38.ca C67
 refine lo (aG (v:=vt [vi 0,vi (aL (2,([(0,1)]:List Pt)) (([(0,0),(3,4)]:List Pt),[([(0,0),(3,4)]:List Pt)]))]) (aB (vals:=[vg [vi 2,v3],vg [v20,v36]]) Try.func13 kF lB rfl) (jE w64 (2,([(0,1)]:List Pt)) v3 (o5.flat).ro (([(0,0),(3,4)]:List Pt),[([(0,0),(3,4)]:List Pt)]) v20 v36 (o22.flat).ro ((dh o38 (VcR.consv hv33 (o31.flat).ro VcR.nil))).ro (by decide)) ?_)
 intro w68 hb69
 replace hb69:=af hb69 g62
 refine mv (vt [vi 0,vi (aL (2,([(0,1)]:List Pt)) (([(0,0),(3,4)]:List Pt),[([(0,0),(3,4)]:List Pt)]))]) (lx (aP rfl rfl) (lx (aP rfl rfl) (ai 0 (ai (aL (2,([(0,1)]:List Pt)) (([(0,0),(3,4)]:List Pt),[([(0,0),(3,4)]:List Pt)])) (aa (a5 (a0 rfl ?_)))))))
 replace bx13:=bx13.cn hb69
 refine lx (ah (ds:=[vi 2,v3]) bm rfl bx13 rfl rfl) ?_
 replace bx47:=bx47.cn hb69
 refine lx (ah (ds:=[v20,v36]) bg rfl bx47 rfl rfl) ?_
 replace o5:=o5.cn hb69
 replace o22:=o22.cn hb69
 replace o31:=o31.cn hb69
 replace o38:=o38.cn hb69
 refine lo (aG (v:=vt [Value.float .f64 ((bJ (2,([(0,1)]:List Pt)) (([(0,0),(3,4)]:List Pt),[([(0,0),(3,4)]:List Pt)])).1),vi ((bJ (2,([(0,1)]:List Pt)) (([(0,0),(3,4)]:List Pt),[([(0,0),(3,4)]:List Pt)])).2)]) (aB (vals:=[vg [vi 2,v3],vg [v20,v36]]) Try.func17 kQ lp rfl) (jB w68 (2,([(0,1)]:List Pt)) v3 (o5.flat).ro (([(0,0),(3,4)]:List Pt),[([(0,0),(3,4)]:List Pt)]) v20 v36 (o22.flat).ro ((dh o38 (VcR.consv hv33 (o31.flat).ro VcR.nil))).ro (by exact lF)) ?_)
 intro w70 hb71
 replace hb71:=af hb71 g62
 refine mv (vt [Value.float .f64 ((bJ (2,([(0,1)]:List Pt)) (([(0,0),(3,4)]:List Pt),[([(0,0),(3,4)]:List Pt)])).1),vi ((bJ (2,([(0,1)]:List Pt)) (([(0,0),(3,4)]:List Pt),[([(0,0),(3,4)]:List Pt)])).2)]) (lx (aP rfl rfl) (lx (aP rfl rfl) (ma (Value.float .f64 ((bJ (2,([(0,1)]:List Pt)) (([(0,0),(3,4)]:List Pt),[([(0,0),(3,4)]:List Pt)])).1)) (ai ((bJ (2,([(0,1)]:List Pt)) (([(0,0),(3,4)]:List Pt),[([(0,0),(3,4)]:List Pt)])).2) (aa (a5 ?_))))))
 clear o5 bx13 o22 o31 o38 bx47
 refine a0 rfl (mv v53 ?_)
 have C72:=cg [8] (hb58.n.seq (ch60.n.seq ((ch65.l rfl).seq (hb69.n.seq hb71.n))))
 replace o54:=o54.ca C72
 have len73:=(o54.flat).small
 refine lx (bM lc rfl o54.flat) (lx (co (m:=(List.length ((bj (2,([(0,1)]:List Pt)) (([(0,0),(3,4)]:List Pt),[([(0,0),(3,4)]:List Pt)])).1):Int)) (n:=1) rfl rfl) (mv (vb (decide ((List.length ((bj (2,([(0,1)]:List Pt)) (([(0,0),(3,4)]:List Pt),[([(0,0),(3,4)]:List Pt)])).1):Int)=1))) ?_))
 have q49:(List.length ((bj (2,([(0,1)]:List Pt)) (([(0,0),(3,4)]:List Pt),[([(0,0),(3,4)]:List Pt)])).1):Int)=1:=by rfl
 refine lv (v53) (wy (dt q49)) (aW rfl) (lv (Value.pointer (some (b9 v53 1 (Int.toNat 0)))) (wy (dt q49)) (ab (α:=Nat) (xs:=(bj (2,([(0,1)]:List Pt)) (([(0,0),(3,4)]:List Pt),[([(0,0),(3,4)]:List Pt)])).1) (v:=v53) (i:=0) lc rfl rfl o54.flat rfl (by omega) (by omega)) (lv (Value.float .f64 (gI ((bj (2,([(0,1)]:List Pt)) (([(0,0),(3,4)]:List Pt),[([(0,0),(3,4)]:List Pt)])).1) 0)) (wy (dt q49)) (eF (α:=Nat) (xs:=(bj (2,([(0,1)]:List Pt)) (([(0,0),(3,4)]:List Pt),[([(0,0),(3,4)]:List Pt)])).1) (v:=v53) (i:=0) ag rfl o54.flat (by omega) (by omega) (by decide) rfl) ?_))
 refine lv (vb (decide ((gI ((bj (2,([(0,1)]:List Pt)) (([(0,0),(3,4)]:List Pt),[([(0,0),(3,4)]:List Pt)])).1) 0)=4617315517961601024))) (wy (dt q49)) (iy (a:=(gI ((bj (2,([(0,1)]:List Pt)) (([(0,0),(3,4)]:List Pt),[([(0,0),(3,4)]:List Pt)])).1) 0)) (b:=4617315517961601024) rfl rfl (by exact j5 _ _) (by decide)) (lw (vb (decide ((gI ((bj (2,([(0,1)]:List Pt)) (([(0,0),(3,4)]:List Pt),[([(0,0),(3,4)]:List Pt)])).1) 0)=4617315517961601024))) (aA rfl (dt q49) rfl) ?_)
 refine mv (vb (decide ((gI ((bj (2,([(0,1)]:List Pt)) (([(0,0),(3,4)]:List Pt),[([(0,0),(3,4)]:List Pt)])).1) 0)=4617315517961601024))) ?_
 have q55:(gI ((bj (2,([(0,1)]:List Pt)) (([(0,0),(3,4)]:List Pt),[([(0,0),(3,4)]:List Pt)])).1) 0)=4617315517961601024:=by rfl
 refine lv (vi ((bj (2,([(0,1)]:List Pt)) (([(0,0),(3,4)]:List Pt),[([(0,0),(3,4)]:List Pt)])).2)) (wy (dt q55)) (aW rfl) (lv (vb (decide (((bj (2,([(0,1)]:List Pt)) (([(0,0),(3,4)]:List Pt),[([(0,0),(3,4)]:List Pt)])).2)=0))) (wy (dt q55)) (co (m:=(bj (2,([(0,1)]:List Pt)) (([(0,0),(3,4)]:List Pt),[([(0,0),(3,4)]:List Pt)])).2) (n:=0) rfl rfl) (lw (vb (decide (((bj (2,([(0,1)]:List Pt)) (([(0,0),(3,4)]:List Pt),[([(0,0),(3,4)]:List Pt)])).2)=0))) (aA rfl (dt q55) rfl) ?_))
 refine mv (vb (decide (((bj (2,([(0,1)]:List Pt)) (([(0,0),(3,4)]:List Pt),[([(0,0),(3,4)]:List Pt)])).2)=0))) ?_
 have q59:((bj (2,([(0,1)]:List Pt)) (([(0,0),(3,4)]:List Pt),[([(0,0),(3,4)]:List Pt)])).2)=0:=by rfl
 refine lv (vp b61 4) (wy (dt q59)) (a6 bT rfl rfl rfl rfl) ?_
 replace bx66:=(bx66.cn hb69).cn hb71
 refine lv (Value.float .f64 (((((((a9 (2,([(0,1)]:List Pt)) (([(0,0),(3,4)]:List Pt),[([(0,0),(3,4)]:List Pt)])).1).2).2).2).2).1)) (wy (dt q59)) (a7 ag rfl bx66 rfl) (lv (vb (decide ((((((((a9 (2,([(0,1)]:List Pt)) (([(0,0),(3,4)]:List Pt),[([(0,0),(3,4)]:List Pt)])).1).2).2).2).2).1)=4607182418800017408))) (wy (dt q59)) (iy (a:=(((((((a9 (2,([(0,1)]:List Pt)) (([(0,0),(3,4)]:List Pt),[([(0,0),(3,4)]:List Pt)])).1).2).2).2).2).1)) (b:=4607182418800017408) rfl rfl (by exact kh) (by decide)) ?_)
 refine lw (vb (decide ((((((((a9 (2,([(0,1)]:List Pt)) (([(0,0),(3,4)]:List Pt),[([(0,0),(3,4)]:List Pt)])).1).2).2).2).2).1)=4607182418800017408))) (aA rfl (dt q59) rfl) (mv (vb (decide ((((((((a9 (2,([(0,1)]:List Pt)) (([(0,0),(3,4)]:List Pt),[([(0,0),(3,4)]:List Pt)])).1).2).2).2).2).1)=4607182418800017408))) ?_)
 have q64:(((((((a9 (2,([(0,1)]:List Pt)) (([(0,0),(3,4)]:List Pt),[([(0,0),(3,4)]:List Pt)])).1).2).2).2).2).1)=4607182418800017408:=by rfl
 refine lv (vi ((a9 (2,([(0,1)]:List Pt)) (([(0,0),(3,4)]:List Pt),[([(0,0),(3,4)]:List Pt)])).2)) (wy (dt q64)) (aW rfl) (lv (vb (decide (((a9 (2,([(0,1)]:List Pt)) (([(0,0),(3,4)]:List Pt),[([(0,0),(3,4)]:List Pt)])).2)=0))) (wy (dt q64)) (co (m:=(a9 (2,([(0,1)]:List Pt)) (([(0,0),(3,4)]:List Pt),[([(0,0),(3,4)]:List Pt)])).2) (n:=0) rfl rfl) (lw (vb (decide (((a9 (2,([(0,1)]:List Pt)) (([(0,0),(3,4)]:List Pt),[([(0,0),(3,4)]:List Pt)])).2)=0))) (aA rfl (dt q64) rfl) ?_))
 refine mv (vb (decide (((a9 (2,([(0,1)]:List Pt)) (([(0,0),(3,4)]:List Pt),[([(0,0),(3,4)]:List Pt)])).2)=0))) ?_
 have q68:((a9 (2,([(0,1)]:List Pt)) (([(0,0),(3,4)]:List Pt),[([(0,0),(3,4)]:List Pt)])).2)=0:=by rfl
 refine lv (vi 0) (wy (dt q68)) (aW rfl) (lv (vb true) (wy (dt q68)) (co (m:=0) (n:=0) rfl rfl) (lw (vb true) (aA rfl (dt q68) rfl) (mv (vb true) (lv (vi (aL (2,([(0,1)]:List Pt)) (([(0,0),(3,4)]:List Pt),[([(0,0),(3,4)]:List Pt)]))) (wy rfl) (aW rfl) (lv (vb (decide ((aL (2,([(0,1)]:List Pt)) (([(0,0),(3,4)]:List Pt),[([(0,0),(3,4)]:List Pt)]))=0))) (wy rfl) (co (m:=aL (2,([(0,1)]:List Pt)) (([(0,0),(3,4)]:List Pt),[([(0,0),(3,4)]:List Pt)])) (n:=0) rfl rfl) ?_)))))
 refine lw (vb (decide ((aL (2,([(0,1)]:List Pt)) (([(0,0),(3,4)]:List Pt),[([(0,0),(3,4)]:List Pt)]))=0))) (aA rfl rfl rfl) (mv (vb (decide ((aL (2,([(0,1)]:List Pt)) (([(0,0),(3,4)]:List Pt),[([(0,0),(3,4)]:List Pt)]))=0))) ?_)
 have q76:(aL (2,([(0,1)]:List Pt)) (([(0,0),(3,4)]:List Pt),[([(0,0),(3,4)]:List Pt)]))=0:=by rfl
 refine lv (Value.float .f64 ((bJ (2,([(0,1)]:List Pt)) (([(0,0),(3,4)]:List Pt),[([(0,0),(3,4)]:List Pt)])).1)) (wy (dt q76)) (aW rfl) (lv (vb true) (wy (dt q76)) (bB (a:=((bJ (2,([(0,1)]:List Pt)) (([(0,0),(3,4)]:List Pt),[([(0,0),(3,4)]:List Pt)])).1)) (b:=13830554455654793216) rfl rfl (by decide+kernel)) (lw (vb true) (aA rfl (dt q76) rfl) (mv (vb true) (lv (vi ((bJ (2,([(0,1)]:List Pt)) (([(0,0),(3,4)]:List Pt),[([(0,0),(3,4)]:List Pt)])).2)) (wy rfl) (aW rfl) ?_))))
 refine lv (vb (decide (((bJ (2,([(0,1)]:List Pt)) (([(0,0),(3,4)]:List Pt),[([(0,0),(3,4)]:List Pt)])).2)=0))) (wy rfl) (co (m:=(bJ (2,([(0,1)]:List Pt)) (([(0,0),(3,4)]:List Pt),[([(0,0),(3,4)]:List Pt)])).2) (n:=0) rfl rfl) (lw (vb (decide (((bJ (2,([(0,1)]:List Pt)) (([(0,0),(3,4)]:List Pt),[([(0,0),(3,4)]:List Pt)])).2)=0))) (aA rfl rfl rfl) (ma (vb (decide (((bJ (2,([(0,1)]:List Pt)) (([(0,0),(3,4)]:List Pt),[([(0,0),(3,4)]:List Pt)])).2)=0))) (aa ?_)))
 refine aF (vs:=[vb (decide (((bJ (2,([(0,1)]:List Pt)) (([(0,0),(3,4)]:List Pt),[([(0,0),(3,4)]:List Pt)])).2)=0))]) Try.func6 (.tmp rfl .nil) ?_
 have e0:(decide (((bJ (2,([(0,1)]:List Pt)) (([(0,0),(3,4)]:List Pt),[([(0,0),(3,4)]:List Pt)])).2)=0):Bool)=(true):=by
   rfl
 have C74:=cg [2,6,8] (ch4.n.seq (ch7.n.seq ((ch12.l rfl).seq (hb15.n.seq (hb17.n.seq (ch21.n.seq (hb24.n.seq (hb26.n.seq (ch30.n.seq (ch37.n.seq (ch41.n.seq ((ch46.l rfl).seq (ch56.n.seq (hb58.n.seq (ch60.n.seq ((ch65.l rfl).seq (hb69.n.seq hb71.n)))))))))))))))))
 replace bH:=bH.ca C74
 exact⟨(congrArg (a₁:=decide (((bJ (2,([(0,1)]:List Pt)) (([(0,0),(3,4)]:List Pt),[([(0,0),(3,4)]:List Pt)])).2)=0)) (λ(z0:Bool)=>Ending.returned (vb z0)) e0),bH.below⟩
end TL
