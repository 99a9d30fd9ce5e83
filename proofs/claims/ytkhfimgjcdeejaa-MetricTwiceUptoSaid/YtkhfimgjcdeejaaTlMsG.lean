import Derived.Test.YtkhfimgjcdeejaaTlP2
import Derived.Test.YtkhfimgjcdeejaaTlGmA
import Derived.Test.YtkhfimgjcdeejaaTlGenA
import Derived.Test.YtkhfimgjcdeejaaTlGjC
import Derived.Test.YtkhfimgjcdeejaaTlMmA
import Derived.Test.YtkhfimgjcdeejaaTlMmB
import Derived.Test.YtkhfimgjcdeejaaTlMmC
import Derived.Test.YtkhfimgjcdeejaaTlMsD
import Derived.Test.YtkhfimgjcdeejaaTlMsC
import Derived.Test.YtkhfimgjcdeejaaProg
import Derived.Test.YtkhfimgjcdeejaaTlAli
set_option linter.all false
set_option maxRecDepth 20000
namespace TL
open Go Go.Proofs
theorem kX:Try.f8.body.isNone=false:=rfl
theorem l3:(Try.f8.name== "runtime.NumGoroutine")=false:=by decide+kernel
theorem q7:Try.f13.body.isNone=false:=rfl
theorem py:(Try.f13.name== "runtime.NumGoroutine")=false:=by decide+kernel
theorem eE:Try.f15.body.isNone=false:=rfl
theorem eD:(Try.f15.name== "runtime.NumGoroutine")=false:=by decide+kernel
theorem jq:Try.f17.body.isNone=false:=rfl
theorem jn:(Try.f17.name== "runtime.NumGoroutine")=false:=by decide+kernel
theorem qj:Try.f21.body.isNone=false:=rfl
theorem oG:(Try.f21.name== "runtime.NumGoroutine")=false:=by decide+kernel
theorem eJ(w0:World)(x:Int)(y:Int):
    Calls Try.prog 15 #[vi x,vi y] w0 (λee w=>ee= .returned (vg [vi x,vi y])/\cG w0.heap.size w0 w):=by
 refine aK Try.func15 rfl nq ?_
 have bH:=bu.start w0
 refine a8 (a7 rfl (cN rfl (bo c0 (is 1) (1,0) rfl aj ?_)))
 intro g4 w1 b3 ch2 bx5
 replace bx5:Bx g4 (is 1) w1 b3 [vi 0,vi 0]:=bx5
 refine ab (a8 (a7 rfl (mi x (mi y (lw (vg [vi x,vi y]) (bB (vs:=[(0,vi x),(1,vi y)]) rfl (by kernel_rfl)) (lo (ao (cs':=[vi x,vi y]) aj rfl rfl bx5 rfl nq (AllOne.all (.cons rfl (.cons rfl .nil))) rfl ?_)))))))
 intro w6 ch7 bx8
 clear bx5
 refine ab (aw (vs:=[vg [vi x,vi y]]) Try.func15 (.cell rfl (bM (ds:=[vi x,vi y]) aj bx8 rfl rfl) .nil) ?_)
 have e0:((x,y):Pt)=((x,y)):=by
   rfl
 replace bH:=bH.cn ch2
 replace bH:=bH.ce ch7
 exact⟨(congrArg (a₁:=(x,y)) (λ(z0:Pt)=>Ending.returned (vg [vi z0.1,vi z0.2])) e0),bH.below⟩
set_option maxHeartbeats 4000000 in
theorem lA(w0:World):
    Calls Try.prog 6 #[] w0 (λee w=>ee= .returned (vb true)/\cG w0.heap.size w0 w):=by
 refine aK Try.func6 rfl nq ?_
 have bH:=bu.start w0
 refine a8 (a7 rfl (ma (vb false) (ab (a8 (a7 rfl (lw (vg [vi 0,vi 1]) (bB (vs:=[(0,vi 0),(1,vi 1)]) rfl (by kernel_rfl)) (lo (aH (α:=Pt) c0 (is 1) (is 1) (1,0) rfl ([(0,1)]:List Pt) iJ ep (by decide) (by decide) (vs:=[(0,vg [vi 0,vi 1])]) rfl rfl (.cons rfl .nil) ?_))))))))
 intro g1 w2 v3 ch4 o5
 refine lw (vg [vi 2,v3]) (bB (vs:=[(0,vi 2),(1,v3)]) rfl (by rw[Sl.form o5.flat];kernel_rfl)) (lo (bo g1 (is 2) (2,0) rfl bS ?_))
 intro g9 w6 b8 ch7 bx10
 replace bx10:Bx g9 (is 2) w6 b8 [vi 0,vn]:=bx10
 refine lo ?_
 replace o5:=o5.cn ch7
 refine ao (cs':=[vi 2,v3]) bS rfl rfl bx10 rfl nq (AllOne.all (.cons rfl (.cons (dh o5.flat) .nil))) rfl ?_
 intro w11 ch12 bx13
 clear bx10
 refine ab (a8 (a7 rfl (cN rfl (aP (v:=vg [vi 0,vi 0]) (aG (vals:=[vi 0,vi 0]) Try.func15 eE eD rfl) (eJ w11 0 0) ?_))))
 intro w14 hb15
 replace hb15:=am hb15 g9
 refine lo (aP (v:=vg [vi 3,vi 4]) (aG (vals:=[vi 3,vi 4]) Try.func15 eE eD rfl) (eJ w14 3 4) ?_)
 intro w16 hb17
 replace hb17:=am hb17 g9
 refine lo (aH (α:=Pt) g9 (is 3) (is 3) (3,0) rfl ([(0,0),(3,4)]:List Pt) cT aj (by decide) (by decide) (vs:=[(0,vg [vi 0,vi 0]),(1,vg [vi 3,vi 4])]) rfl rfl (.cons rfl (.cons rfl .nil)) ?_)
 intro g18 w19 v20 ch21 o22
 refine lo (aP (v:=vg [vi 0,vi 0]) (aG (vals:=[vi 0,vi 0]) Try.func15 eE eD rfl) (eJ w19 0 0) ?_)
 intro w23 hb24
 replace hb24:=am hb24 g18
 refine lo (aP (v:=vg [vi 3,vi 4]) (aG (vals:=[vi 3,vi 4]) Try.func15 eE eD rfl) (eJ w23 3 4) ?_)
 intro w25 hb26
 replace hb26:=am hb26 g18
 refine lo (aH (α:=Pt) g18 (is 4) (is 4) (4,0) rfl ([(0,0),(3,4)]:List Pt) cT aj (by decide) (by decide) (vs:=[(0,vg [vi 0,vi 0]),(1,vg [vi 3,vi 4])]) rfl rfl (.cons rfl (.cons rfl .nil)) ?_)
 intro g27 w28 v29 ch30 o31
 refine lo ?_
 obtain⟨c32,hv33⟩:=iT (u:=v29) (dh o31.flat)
 refine aH (α:=Vc) g27 (is 5) (is 5) (5,0) rfl [c32] iL bD (by decide) (by decide) (vs:=[(0,v29)]) rfl rfl (.cons (gR hv33 (cI o31.flat)) .nil) ?_
 intro g34 w35 v36 ch37 o38
 have C39:=cg [] (hb24.n.seq (hb26.n.seq (ch30.n.seq ch37.n)))
 replace o22:=o22.ca C39
 replace o31:=o31.cn ch37
 refine lw (vg [v20,v36]) (bB (vs:=[(0,v20),(1,v36)]) rfl (by rw[Sl.form o22.flat,Sl.form (iQ o38 (VcR.consv hv33 (o31.flat).ro VcR.nil))];kernel_rfl)) (lo (bo g34 (is 6) (6,0) rfl bP ?_))
 intro g43 w40 b42 ch41 bx44
 replace bx44:Bx g43 (is 6) w40 b42 [vn,vn]:=bx44
 refine lo ?_
 replace o31:=o31.cn ch41
 replace o38:=o38.cn ch41
 replace o22:=o22.cn ch41
 refine ao (cs':=[v20,v36]) bP rfl rfl bx44 rfl nq (AllOne.all (.cons (dh o22.flat) (.cons (dh (iQ o38 (VcR.consv hv33 (o31.flat).ro VcR.nil))) .nil))) rfl ?_
 intro w45 ch46 bx47
 clear bx44
 refine ab (a8 (a7 rfl ?_))
 have C48:=cg [6] (hb15.n.seq (hb17.n.seq (ch21.n.seq (hb24.n.seq (hb26.n.seq (ch30.n.seq (ch37.n.seq (ch41.n.seq (ch46.l rfl)))))))))
 replace bx13:=bx13.ca C48
 refine lx (ae (ds:=[vi 2,v3]) bS rfl bx13 rfl rfl) (lx (ae (ds:=[v20,v36]) bP rfl bx47 rfl rfl) ?_)
 have C49:=cg [2,6] ((ch12.l rfl).seq (hb15.n.seq (hb17.n.seq (ch21.n.seq (hb24.n.seq (hb26.n.seq (ch30.n.seq (ch37.n.seq (ch41.n.seq (ch46.l rfl))))))))))
 replace o5:=o5.ca C49
 replace o22:=o22.ce ch46
 replace o31:=o31.ce ch46
 replace o38:=o38.ce ch46
 refine lo (fw (aG (vals:=[vg [vi 2,v3],vg [v20,v36]]) Try.func21 qj oG rfl) (ll w45 (2,([(0,1)]:List Pt)) v3 (o5.flat).ro (([(0,0),(3,4)]:List Pt),[([(0,0),(3,4)]:List Pt)]) v20 v36 (o22.flat).ro ((iQ o38 (VcR.consv hv33 (o31.flat).ro VcR.nil))).ro) ?_)
 rintro⟨d51,v53⟩ w50 ⟨fr52,o54⟩
 obtain⟨g55,ch56,G55⟩:=sg g43 fr52 (λn=>if n=1 then 7 else 0)
 replace o54:=o54.gl G55 7
 refine mv (vt [v53,vi ((bE (2,([(0,1)]:List Pt)) (([(0,0),(3,4)]:List Pt),[([(0,0),(3,4)]:List Pt)])).2)]) (lx (bg rfl rfl) (lx (bg rfl rfl) (ma v53 (ai ((bE (2,([(0,1)]:List Pt)) (([(0,0),(3,4)]:List Pt),[([(0,0),(3,4)]:List Pt)])).2) (ab (a8 (a7 rfl ?_)))))))
 replace bx13:=bx13.cn ch56
 refine lx (ae (ds:=[vi 2,v3]) bS rfl bx13 rfl rfl) ?_
 replace bx47:=bx47.cn ch56
 refine lx (ae (ds:=[v20,v36]) bP rfl bx47 rfl rfl) ?_
 replace o5:=o5.cn ch56
 replace o22:=o22.cn ch56
 replace o31:=o31.cn ch56
 replace o38:=o38.cn ch56
 refine lo ?_
 refine aP (v:=vt [vg [Value.float .f64 (((av (2,([(0,1)]:List Pt)) (([(0,0),(3,4)]:List Pt),[([(0,0),(3,4)]:List Pt)])).1).1),Value.float .f64 ((((av (2,([(0,1)]:List Pt)) (([(0,0),(3,4)]:List Pt),[([(0,0),(3,4)]:List Pt)])).1).2).1),Value.float .f64 (((((av (2,([(0,1)]:List Pt)) (([(0,0),(3,4)]:List Pt),[([(0,0),(3,4)]:List Pt)])).1).2).2).1),Value.float .f64 ((((((av (2,([(0,1)]:List Pt)) (([(0,0),(3,4)]:List Pt),[([(0,0),(3,4)]:List Pt)])).1).2).2).2).1),Value.float .f64 (((((((av (2,([(0,1)]:List Pt)) (([(0,0),(3,4)]:List Pt),[([(0,0),(3,4)]:List Pt)])).1).2).2).2).2).1),Value.float .f64 ((((((((av (2,([(0,1)]:List Pt)) (([(0,0),(3,4)]:List Pt),[([(0,0),(3,4)]:List Pt)])).1).2).2).2).2).2).1),Value.float .f64 ((((((((av (2,([(0,1)]:List Pt)) (([(0,0),(3,4)]:List Pt),[([(0,0),(3,4)]:List Pt)])).1).2).2).2).2).2).2)],vi ((av (2,([(0,1)]:List Pt)) (([(0,0),(3,4)]:List Pt),[([(0,0),(3,4)]:List Pt)])).2)]) (aG (vals:=[vg [vi 2,v3],vg [v20,v36]]) Try.func8 kX l3 rfl) (iB w50 (2,([(0,1)]:List Pt)) v3 (o5.flat).ro (([(0,0),(3,4)]:List Pt),[([(0,0),(3,4)]:List Pt)]) v20 v36 (o22.flat).ro ((iQ o38 (VcR.consv hv33 (o31.flat).ro VcR.nil))).ro (by exact λ_=>oL)) ?_
 intro w57 hb58
 replace hb58:=am hb58 g55
 refine mv (vt [vg [Value.float .f64 (((av (2,([(0,1)]:List Pt)) (([(0,0),(3,4)]:List Pt),[([(0,0),(3,4)]:List Pt)])).1).1),Value.float .f64 ((((av (2,([(0,1)]:List Pt)) (([(0,0),(3,4)]:List Pt),[([(0,0),(3,4)]:List Pt)])).1).2).1),Value.float .f64 (((((av (2,([(0,1)]:List Pt)) (([(0,0),(3,4)]:List Pt),[([(0,0),(3,4)]:List Pt)])).1).2).2).1),Value.float .f64 ((((((av (2,([(0,1)]:List Pt)) (([(0,0),(3,4)]:List Pt),[([(0,0),(3,4)]:List Pt)])).1).2).2).2).1),Value.float .f64 (((((((av (2,([(0,1)]:List Pt)) (([(0,0),(3,4)]:List Pt),[([(0,0),(3,4)]:List Pt)])).1).2).2).2).2).1),Value.float .f64 ((((((((av (2,([(0,1)]:List Pt)) (([(0,0),(3,4)]:List Pt),[([(0,0),(3,4)]:List Pt)])).1).2).2).2).2).2).1),Value.float .f64 ((((((((av (2,([(0,1)]:List Pt)) (([(0,0),(3,4)]:List Pt),[([(0,0),(3,4)]:List Pt)])).1).2).2).2).2).2).2)],vi ((av (2,([(0,1)]:List Pt)) (([(0,0),(3,4)]:List Pt),[([(0,0),(3,4)]:List Pt)])).2)]) ?_
 refine lx (bg rfl rfl) (lx (bg rfl rfl) (lo (bo g55 (is 8) (8,0) rfl b9 ?_)))
 intro g62 w59 b61 ch60 bx63
 replace bx63:Bx g62 (is 8) w59 b61 [Value.float .f64 0,Value.float .f64 0,Value.float .f64 0,Value.float .f64 0,Value.float .f64 0,Value.float .f64 0,Value.float .f64 0]:=bx63
 refine lo ?_
 refine ao (cs':=[Value.float .f64 (((av (2,([(0,1)]:List Pt)) (([(0,0),(3,4)]:List Pt),[([(0,0),(3,4)]:List Pt)])).1).1),Value.float .f64 ((((av (2,([(0,1)]:List Pt)) (([(0,0),(3,4)]:List Pt),[([(0,0),(3,4)]:List Pt)])).1).2).1),Value.float .f64 (((((av (2,([(0,1)]:List Pt)) (([(0,0),(3,4)]:List Pt),[([(0,0),(3,4)]:List Pt)])).1).2).2).1),Value.float .f64 ((((((av (2,([(0,1)]:List Pt)) (([(0,0),(3,4)]:List Pt),[([(0,0),(3,4)]:List Pt)])).1).2).2).2).1),Value.float .f64 (((((((av (2,([(0,1)]:List Pt)) (([(0,0),(3,4)]:List Pt),[([(0,0),(3,4)]:List Pt)])).1).2).2).2).2).1),Value.float .f64 ((((((((av (2,([(0,1)]:List Pt)) (([(0,0),(3,4)]:List Pt),[([(0,0),(3,4)]:List Pt)])).1).2).2).2).2).2).1),Value.float .f64 ((((((((av (2,([(0,1)]:List Pt)) (([(0,0),(3,4)]:List Pt),[([(0,0),(3,4)]:List Pt)])).1).2).2).2).2).2).2)]) b9 rfl rfl bx63 rfl nq (AllOne.all (.cons rfl (.cons rfl (.cons rfl (.cons rfl (.cons rfl (.cons rfl (.cons rfl .nil)))))))) rfl ?_
 intro w64 ch65 bx66
 clear bx63
 refine ai ((av (2,([(0,1)]:List Pt)) (([(0,0),(3,4)]:List Pt),[([(0,0),(3,4)]:List Pt)])).2) (ab (a8 (a7 rfl ?_)))
 have C67:=cg [8] (hb58.n.seq (ch60.n.seq (ch65.l rfl)))
 replace bx13:=bx13.ca C67
 refine lx (ae (ds:=[vi 2,v3]) bS rfl bx13 rfl rfl) ?_
 replace bx47:=bx47.ca C67
 refine lx (ae (ds:=[v20,v36]) bP rfl bx47 rfl rfl) ?_
 replace o5:=o5.ca C67
 replace o22:=o22.ca C67
 replace o31:=o31.ca C67
 replace o38:=o38.ca C67
 refine lo (aP (v:=vt [vi ((bZ (2,([(0,1)]:List Pt)) (([(0,0),(3,4)]:List Pt),[([(0,0),(3,4)]:List Pt)])).1),vi ((bZ (2,([(0,1)]:List Pt)) (([(0,0),(3,4)]:List Pt),[([(0,0),(3,4)]:List Pt)])).2)]) (aG (vals:=[vg [vi 2,v3],vg [v20,v36]]) Try.func13 q7 py rfl) (jr w64 (2,([(0,1)]:List Pt)) v3 (o5.flat).ro (([(0,0),(3,4)]:List Pt),[([(0,0),(3,4)]:List Pt)]) v20 v36 (o22.flat).ro ((iQ o38 (VcR.consv hv33 (o31.flat).ro VcR.nil))).ro) ?_)
 intro w68 hb69
 replace hb69:=am hb69 g62
 refine mv (vt [vi ((bZ (2,([(0,1)]:List Pt)) (([(0,0),(3,4)]:List Pt),[([(0,0),(3,4)]:List Pt)])).1),vi ((bZ (2,([(0,1)]:List Pt)) (([(0,0),(3,4)]:List Pt),[([(0,0),(3,4)]:List Pt)])).2)]) (lx (bg rfl rfl) (lx (bg rfl rfl) (ai ((bZ (2,([(0,1)]:List Pt)) (([(0,0),(3,4)]:List Pt),[([(0,0),(3,4)]:List Pt)])).1) (ai ((bZ (2,([(0,1)]:List Pt)) (([(0,0),(3,4)]:List Pt),[([(0,0),(3,4)]:List Pt)])).2) (ab (a8 (a7 rfl ?_)))))))
 replace bx13:=bx13.cn hb69
 refine lx (ae (ds:=[vi 2,v3]) bS rfl bx13 rfl rfl) ?_
 replace bx47:=bx47.cn hb69
 refine lx (ae (ds:=[v20,v36]) bP rfl bx47 rfl rfl) ?_
 replace o5:=o5.cn hb69
 replace o22:=o22.cn hb69
 replace o31:=o31.cn hb69
 replace o38:=o38.cn hb69
 refine lo (aP (v:=vt [Value.float .f64 ((bz (2,([(0,1)]:List Pt)) (([(0,0),(3,4)]:List Pt),[([(0,0),(3,4)]:List Pt)])).1),vi ((bz (2,([(0,1)]:List Pt)) (([(0,0),(3,4)]:List Pt),[([(0,0),(3,4)]:List Pt)])).2)]) (aG (vals:=[vg [vi 2,v3],vg [v20,v36]]) Try.func17 jq jn rfl) (ii w68 (2,([(0,1)]:List Pt)) v3 (o5.flat).ro (([(0,0),(3,4)]:List Pt),[([(0,0),(3,4)]:List Pt)]) v20 v36 (o22.flat).ro ((iQ o38 (VcR.consv hv33 (o31.flat).ro VcR.nil))).ro) ?_)
 intro w70 hb71
 replace hb71:=am hb71 g62
 refine mv (vt [Value.float .f64 ((bz (2,([(0,1)]:List Pt)) (([(0,0),(3,4)]:List Pt),[([(0,0),(3,4)]:List Pt)])).1),vi ((bz (2,([(0,1)]:List Pt)) (([(0,0),(3,4)]:List Pt),[([(0,0),(3,4)]:List Pt)])).2)]) (lx (bg rfl rfl) (lx (bg rfl rfl) (ma (Value.float .f64 ((bz (2,([(0,1)]:List Pt)) (([(0,0),(3,4)]:List Pt),[([(0,0),(3,4)]:List Pt)])).1)) (ai ((bz (2,([(0,1)]:List Pt)) (([(0,0),(3,4)]:List Pt),[([(0,0),(3,4)]:List Pt)])).2) (ab (a8 ?_))))))
 clear o5 bx13 o22 o31 o38 bx47
 refine a7 rfl (mv v53 ?_)
 have C72:=cg [8] (hb58.n.seq (ch60.n.seq ((ch65.l rfl).seq (hb69.n.seq hb71.n))))
 replace o54:=o54.ca C72
 have len73:=(o54.flat).small
 refine lx (bO pq rfl o54.flat) (lx (d7 (m:=(List.length ((bE (2,([(0,1)]:List Pt)) (([(0,0),(3,4)]:List Pt),[([(0,0),(3,4)]:List Pt)])).1):Int)) (n:=1) rfl rfl) (mv (vb (decide ((List.length ((bE (2,([(0,1)]:List Pt)) (([(0,0),(3,4)]:List Pt),[([(0,0),(3,4)]:List Pt)])).1):Int)=1))) ?_))
 have q49:(List.length ((bE (2,([(0,1)]:List Pt)) (([(0,0),(3,4)]:List Pt),[([(0,0),(3,4)]:List Pt)])).1):Int)=1:=by rfl
 refine lv (v53) (wy (dt q49)) (aR rfl) (lv (Value.pointer (some (bb v53 1 (Int.toNat 0)))) (wy (dt q49)) (af (α:=Nat) (xs:=(bE (2,([(0,1)]:List Pt)) (([(0,0),(3,4)]:List Pt),[([(0,0),(3,4)]:List Pt)])).1) (v:=v53) (i:=0) pq rfl rfl o54.flat rfl (by omega) (by omega)) (lv (Value.float .f64 (gI ((bE (2,([(0,1)]:List Pt)) (([(0,0),(3,4)]:List Pt),[([(0,0),(3,4)]:List Pt)])).1) 0)) (wy (dt q49)) (e6 (α:=Nat) (xs:=(bE (2,([(0,1)]:List Pt)) (([(0,0),(3,4)]:List Pt),[([(0,0),(3,4)]:List Pt)])).1) (v:=v53) (i:=0) aF rfl o54.flat (by omega) (by omega) (by decide) rfl) ?_))
 refine lv (vb (decide ((gI ((bE (2,([(0,1)]:List Pt)) (([(0,0),(3,4)]:List Pt),[([(0,0),(3,4)]:List Pt)])).1) 0)=4617315517961601024))) (wy (dt q49)) (dw (a:=(gI ((bE (2,([(0,1)]:List Pt)) (([(0,0),(3,4)]:List Pt),[([(0,0),(3,4)]:List Pt)])).1) 0)) (b:=4617315517961601024) rfl rfl (by exact lZ _ _) (by decide)) (lw (vb (decide ((gI ((bE (2,([(0,1)]:List Pt)) (([(0,0),(3,4)]:List Pt),[([(0,0),(3,4)]:List Pt)])).1) 0)=4617315517961601024))) (aM rfl (dt q49) rfl) ?_)
 refine mv (vb (decide ((gI ((bE (2,([(0,1)]:List Pt)) (([(0,0),(3,4)]:List Pt),[([(0,0),(3,4)]:List Pt)])).1) 0)=4617315517961601024))) ?_
 have q55:(gI ((bE (2,([(0,1)]:List Pt)) (([(0,0),(3,4)]:List Pt),[([(0,0),(3,4)]:List Pt)])).1) 0)=4617315517961601024:=by rfl
 refine lv (vi ((bE (2,([(0,1)]:List Pt)) (([(0,0),(3,4)]:List Pt),[([(0,0),(3,4)]:List Pt)])).2)) (wy (dt q55)) (aR rfl) (lv (vb (decide (((bE (2,([(0,1)]:List Pt)) (([(0,0),(3,4)]:List Pt),[([(0,0),(3,4)]:List Pt)])).2)=0))) (wy (dt q55)) (d7 (m:=(bE (2,([(0,1)]:List Pt)) (([(0,0),(3,4)]:List Pt),[([(0,0),(3,4)]:List Pt)])).2) (n:=0) rfl rfl) (lw (vb (decide (((bE (2,([(0,1)]:List Pt)) (([(0,0),(3,4)]:List Pt),[([(0,0),(3,4)]:List Pt)])).2)=0))) (aM rfl (dt q55) rfl) ?_))
 refine mv (vb (decide (((bE (2,([(0,1)]:List Pt)) (([(0,0),(3,4)]:List Pt),[([(0,0),(3,4)]:List Pt)])).2)=0))) ?_
 have q59:((bE (2,([(0,1)]:List Pt)) (([(0,0),(3,4)]:List Pt),[([(0,0),(3,4)]:List Pt)])).2)=0:=by rfl
 refine lv (vp b61 4) (wy (dt q59)) (a9 dR rfl rfl rfl rfl) ?_
 replace bx66:=(bx66.cn hb69).cn hb71
 refine lv (Value.float .f64 (((((((av (2,([(0,1)]:List Pt)) (([(0,0),(3,4)]:List Pt),[([(0,0),(3,4)]:List Pt)])).1).2).2).2).2).1)) (wy (dt q59)) (aa aF rfl bx66 rfl) (lv (vb (decide ((((((((av (2,([(0,1)]:List Pt)) (([(0,0),(3,4)]:List Pt),[([(0,0),(3,4)]:List Pt)])).1).2).2).2).2).1)=4607182418800017408))) (wy (dt q59)) (dw (a:=(((((((av (2,([(0,1)]:List Pt)) (([(0,0),(3,4)]:List Pt),[([(0,0),(3,4)]:List Pt)])).1).2).2).2).2).1)) (b:=4607182418800017408) rfl rfl (by exact nW) (by decide)) ?_)
 refine lw (vb (decide ((((((((av (2,([(0,1)]:List Pt)) (([(0,0),(3,4)]:List Pt),[([(0,0),(3,4)]:List Pt)])).1).2).2).2).2).1)=4607182418800017408))) (aM rfl (dt q59) rfl) (mv (vb (decide ((((((((av (2,([(0,1)]:List Pt)) (([(0,0),(3,4)]:List Pt),[([(0,0),(3,4)]:List Pt)])).1).2).2).2).2).1)=4607182418800017408))) ?_)
 have q64:(((((((av (2,([(0,1)]:List Pt)) (([(0,0),(3,4)]:List Pt),[([(0,0),(3,4)]:List Pt)])).1).2).2).2).2).1)=4607182418800017408:=by rfl
 refine lv (vi ((av (2,([(0,1)]:List Pt)) (([(0,0),(3,4)]:List Pt),[([(0,0),(3,4)]:List Pt)])).2)) (wy (dt q64)) (aR rfl) (lv (vb (decide (((av (2,([(0,1)]:List Pt)) (([(0,0),(3,4)]:List Pt),[([(0,0),(3,4)]:List Pt)])).2)=0))) (wy (dt q64)) (d7 (m:=(av (2,([(0,1)]:List Pt)) (([(0,0),(3,4)]:List Pt),[([(0,0),(3,4)]:List Pt)])).2) (n:=0) rfl rfl) (lw (vb (decide (((av (2,([(0,1)]:List Pt)) (([(0,0),(3,4)]:List Pt),[([(0,0),(3,4)]:List Pt)])).2)=0))) (aM rfl (dt q64) rfl) ?_))
 refine mv (vb (decide (((av (2,([(0,1)]:List Pt)) (([(0,0),(3,4)]:List Pt),[([(0,0),(3,4)]:List Pt)])).2)=0))) ?_
 have q68:((av (2,([(0,1)]:List Pt)) (([(0,0),(3,4)]:List Pt),[([(0,0),(3,4)]:List Pt)])).2)=0:=by rfl
 refine lv (vi ((bZ (2,([(0,1)]:List Pt)) (([(0,0),(3,4)]:List Pt),[([(0,0),(3,4)]:List Pt)])).1)) (wy (dt q68)) (aR rfl) (lv (vb (decide (((bZ (2,([(0,1)]:List Pt)) (([(0,0),(3,4)]:List Pt),[([(0,0),(3,4)]:List Pt)])).1)=0))) (wy (dt q68)) (d7 (m:=(bZ (2,([(0,1)]:List Pt)) (([(0,0),(3,4)]:List Pt),[([(0,0),(3,4)]:List Pt)])).1) (n:=0) rfl rfl) (lw (vb (decide (((bZ (2,([(0,1)]:List Pt)) (([(0,0),(3,4)]:List Pt),[([(0,0),(3,4)]:List Pt)])).1)=0))) (aM rfl (dt q68) rfl) ?_))
 refine mv (vb (decide (((bZ (2,([(0,1)]:List Pt)) (([(0,0),(3,4)]:List Pt),[([(0,0),(3,4)]:List Pt)])).1)=0))) ?_
 have q72:((bZ (2,([(0,1)]:List Pt)) (([(0,0),(3,4)]:List Pt),[([(0,0),(3,4)]:List Pt)])).1)=0:=by rfl
 refine lv (vi ((bZ (2,([(0,1)]:List Pt)) (([(0,0),(3,4)]:List Pt),[([(0,0),(3,4)]:List Pt)])).2)) (wy (dt q72)) (aR rfl) (lv (vb (decide (((bZ (2,([(0,1)]:List Pt)) (([(0,0),(3,4)]:List Pt),[([(0,0),(3,4)]:List Pt)])).2)=0))) (wy (dt q72)) (d7 (m:=(bZ (2,([(0,1)]:List Pt)) (([(0,0),(3,4)]:List Pt),[([(0,0),(3,4)]:List Pt)])).2) (n:=0) rfl rfl) (lw (vb (decide (((bZ (2,([(0,1)]:List Pt)) (([(0,0),(3,4)]:List Pt),[([(0,0),(3,4)]:List Pt)])).2)=0))) (aM rfl (dt q72) rfl) ?_))
 refine mv (vb (decide (((bZ (2,([(0,1)]:List Pt)) (([(0,0),(3,4)]:List Pt),[([(0,0),(3,4)]:List Pt)])).2)=0))) ?_
 have q76:((bZ (2,([(0,1)]:List Pt)) (([(0,0),(3,4)]:List Pt),[([(0,0),(3,4)]:List Pt)])).2)=0:=by rfl
 refine lv (Value.float .f64 ((bz (2,([(0,1)]:List Pt)) (([(0,0),(3,4)]:List Pt),[([(0,0),(3,4)]:List Pt)])).1)) (wy (dt q76)) (aR rfl) (lv (vb true) (wy (dt q76)) (gn (a:=((bz (2,([(0,1)]:List Pt)) (([(0,0),(3,4)]:List Pt),[([(0,0),(3,4)]:List Pt)])).1)) (b:=13830554455654793216) rfl rfl (by decide+kernel)) (lw (vb true) (aM rfl (dt q76) rfl) (mv (vb true) (lv (vi ((bz (2,([(0,1)]:List Pt)) (([(0,0),(3,4)]:List Pt),[([(0,0),(3,4)]:List Pt)])).2)) (wy rfl) (aR rfl) ?_))))
 refine lv (vb (decide (((bz (2,([(0,1)]:List Pt)) (([(0,0),(3,4)]:List Pt),[([(0,0),(3,4)]:List Pt)])).2)=0))) (wy rfl) (d7 (m:=(bz (2,([(0,1)]:List Pt)) (([(0,0),(3,4)]:List Pt),[([(0,0),(3,4)]:List Pt)])).2) (n:=0) rfl rfl) (lw (vb (decide (((bz (2,([(0,1)]:List Pt)) (([(0,0),(3,4)]:List Pt),[([(0,0),(3,4)]:List Pt)])).2)=0))) (aM rfl rfl rfl) (ma (vb (decide (((bz (2,([(0,1)]:List Pt)) (([(0,0),(3,4)]:List Pt),[([(0,0),(3,4)]:List Pt)])).2)=0))) (ab ?_)))
 refine aw (vs:=[vb (decide (((bz (2,([(0,1)]:List Pt)) (([(0,0),(3,4)]:List Pt),[([(0,0),(3,4)]:List Pt)])).2)=0))]) Try.func6 (.tmp rfl .nil) ?_
 have e0:(decide (((bz (2,([(0,1)]:List Pt)) (([(0,0),(3,4)]:List Pt),[([(0,0),(3,4)]:List Pt)])).2)=0):Bool)=(true):=by
   rfl
 have C74:=cg [2,6,8] (ch4.n.seq (ch7.n.seq ((ch12.l rfl).seq (hb15.n.seq (hb17.n.seq (ch21.n.seq (hb24.n.seq (hb26.n.seq (ch30.n.seq (ch37.n.seq (ch41.n.seq ((ch46.l rfl).seq (ch56.n.seq (hb58.n.seq (ch60.n.seq ((ch65.l rfl).seq (hb69.n.seq hb71.n)))))))))))))))))
 replace bH:=bH.ca C74
 exact⟨(congrArg (a₁:=decide (((bz (2,([(0,1)]:List Pt)) (([(0,0),(3,4)]:List Pt),[([(0,0),(3,4)]:List Pt)])).2)=0)) (λ(z0:Bool)=>Ending.returned (vb z0)) e0),bH.below⟩
end TL
