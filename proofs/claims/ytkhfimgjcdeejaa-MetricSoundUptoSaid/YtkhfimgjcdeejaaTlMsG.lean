import Derived.Test.YtkhfimgjcdeejaaTlP3
import Derived.Test.YtkhfimgjcdeejaaTlGmA
import Derived.Test.YtkhfimgjcdeejaaTlGenA
import Derived.Test.YtkhfimgjcdeejaaTlGjC
import Derived.Test.YtkhfimgjcdeejaaTlMmA
import Derived.Test.YtkhfimgjcdeejaaTlMmB
import Derived.Test.YtkhfimgjcdeejaaTlMmC
import Derived.Test.YtkhfimgjcdeejaaTlMsD
import Derived.Test.YtkhfimgjcdeejaaTlMsC
import Derived.Test.YtkhfimgjcdeejaaProg
import Derived.Test.YtkhfimgjcdeejaaTlAli
set_option linter.all false
set_option maxRecDepth 20000
namespace TL
open Go Go.Proofs
theorem kn:Try.f8.body.isNone=false:=rfl
theorem k7:(Try.f8.name== "runtime.NumGoroutine")=false:=by decide+kernel
theorem jf:Try.f13.body.isNone=false:=rfl
theorem jk:(Try.f13.name== "runtime.NumGoroutine")=false:=by decide+kernel
theorem dC:Try.f15.body.isNone=false:=rfl
theorem dF:(Try.f15.name== "runtime.NumGoroutine")=false:=by decide+kernel
theorem fY:Try.f17.body.isNone=false:=rfl
theorem gg:(Try.f17.name== "runtime.NumGoroutine")=false:=by decide+kernel
theorem sY:Try.f21.body.isNone=false:=rfl
theorem sT:(Try.f21.name== "runtime.NumGoroutine")=false:=by decide+kernel
theorem dE(w0:World)(x:Int)(y:Int):
    Calls Try.prog 15 #[vi x,vi y] w0 (λee w=>ee= .returned (vg [vi x,vi y])/\cW w0.heap.size w0 w):=by
 refine aI Try.func15 rfl nq ?_
 have bH:=bo.start w0
 refine a6 (a5 rfl (cj rfl (bB c0 (is 1) (1,0) rfl ah ?_)))
 intro g4 w1 b3 ch2 bx5
 replace bx5:Bx g4 (is 1) w1 b3 [vi 0,vi 0]:=bx5
 refine a8 (a6 (a5 rfl (mi x (mi y (lw (vg [vi x,vi y]) (bz (vs:=[(0,vi x),(1,vi y)]) rfl (by kernel_rfl)) (lo (au (cs':=[vi x,vi y]) ah rfl rfl bx5 rfl nq (AllOne.all (.cons rfl (.cons rfl .nil))) rfl ?_)))))))
 intro w6 ch7 bx8
 clear bx5
 refine a8 (av (vs:=[vg [vi x,vi y]]) Try.func15 (.cell rfl (cd (ds:=[vi x,vi y]) ah bx8 rfl rfl) .nil) ?_)
 have e0:((x,y):Pt)=((x,y)):=by
   rfl
 replace bH:=bH.cn ch2
 replace bH:=bH.ce ch7
 exact⟨(congrArg (a₁:=(x,y)) (λ(z0:Pt)=>Ending.returned (vg [vi z0.1,vi z0.2])) e0),bH.below⟩
set_option maxHeartbeats 4000000 in
theorem om(w0:World):
    Calls Try.prog 6 #[] w0 (λee w=>ee= .returned (vb true)/\cW w0.heap.size w0 w):=by
 refine aI Try.func6 rfl nq ?_
 have bH:=bo.start w0
 refine a6 (a5 rfl (ma (vb false) (a8 (a6 (a5 rfl (lw (vg [vi 0,vi 1]) (bz (vs:=[(0,vi 0),(1,vi 1)]) rfl (by kernel_rfl)) (lo (aC (α:=Pt) c0 (is 1) (is 1) (1,0) rfl ([(0,1)]:List Pt) gv fH (by decide) (by decide) (vs:=[(0,vg [vi 0,vi 1])]) rfl rfl (.cons rfl .nil) ?_))))))))
 intro g1 w2 v3 ch4 o5
 refine lw (vg [vi 2,v3]) (bz (vs:=[(0,vi 2),(1,v3)]) rfl (by rw[Sl.form o5.flat];kernel_rfl)) (lo (bB g1 (is 2) (2,0) rfl bO ?_))
 intro g9 w6 b8 ch7 bx10
 replace bx10:Bx g9 (is 2) w6 b8 [vi 0,vn]:=bx10
 refine lo ?_
 replace o5:=o5.cn ch7
 refine au (cs':=[vi 2,v3]) bO rfl rfl bx10 rfl nq (AllOne.all (.cons rfl (.cons (cU o5.flat) .nil))) rfl ?_
 intro w11 ch12 bx13
 clear bx10
 refine a8 (a6 (a5 rfl (cj rfl (aN (v:=vg [vi 0,vi 0]) (az (vals:=[vi 0,vi 0]) Try.func15 dC dF rfl) (dE w11 0 0) ?_))))
 intro w14 hb15
 replace hb15:=aj hb15 g9
 refine lo (aN (v:=vg [vi 3,vi 4]) (az (vals:=[vi 3,vi 4]) Try.func15 dC dF rfl) (dE w14 3 4) ?_)
 intro w16 hb17
 replace hb17:=aj hb17 g9
 refine lo (aC (α:=Pt) g9 (is 3) (is 3) (3,0) rfl ([(0,0),(3,4)]:List Pt) bZ ah (by decide) (by decide) (vs:=[(0,vg [vi 0,vi 0]),(1,vg [vi 3,vi 4])]) rfl rfl (.cons rfl (.cons rfl .nil)) ?_)
 intro g18 w19 v20 ch21 o22
 refine lo (aN (v:=vg [vi 0,vi 0]) (az (vals:=[vi 0,vi 0]) Try.func15 dC dF rfl) (dE w19 0 0) ?_)
 intro w23 hb24
 replace hb24:=aj hb24 g18
 refine lo (aN (v:=vg [vi 3,vi 4]) (az (vals:=[vi 3,vi 4]) Try.func15 dC dF rfl) (dE w23 3 4) ?_)
 intro w25 hb26
 replace hb26:=aj hb26 g18
 refine lo (aC (α:=Pt) g18 (is 4) (is 4) (4,0) rfl ([(0,0),(3,4)]:List Pt) bZ ah (by decide) (by decide) (vs:=[(0,vg [vi 0,vi 0]),(1,vg [vi 3,vi 4])]) rfl rfl (.cons rfl (.cons rfl .nil)) ?_)
 intro g27 w28 v29 ch30 o31
 refine lo ?_
 obtain⟨c32,hv33⟩:=jK (u:=v29) (cU o31.flat)
 refine aC (α:=Vc) g27 (is 5) (is 5) (5,0) rfl [c32] eP bt (by decide) (by decide) (vs:=[(0,v29)]) rfl rfl (.cons (gR hv33 (c5 o31.flat)) .nil) ?_
 intro g34 w35 v36 ch37 o38
 have C39:=cg [] (hb24.n.seq (hb26.n.seq (ch30.n.seq ch37.n)))
 replace o22:=o22.ca C39
 replace o31:=o31.cn ch37
 refine lw (vg [v20,v36]) (bz (vs:=[(0,v20),(1,v36)]) rfl (by rw[Sl.form o22.flat,Sl.form (kX o38 (VcR.consv hv33 (o31.flat).ro VcR.nil))];kernel_rfl)) (lo (bB g34 (is 6) (6,0) rfl bJ ?_))
 intro g43 w40 b42 ch41 bx44
 replace bx44:Bx g43 (is 6) w40 b42 [vn,vn]:=bx44
 refine lo ?_
 replace o31:=o31.cn ch41
 replace o38:=o38.cn ch41
 replace o22:=o22.cn ch41
 refine au (cs':=[v20,v36]) bJ rfl rfl bx44 rfl nq (AllOne.all (.cons (cU o22.flat) (.cons (cU (kX o38 (VcR.consv hv33 (o31.flat).ro VcR.nil))) .nil))) rfl ?_
 intro w45 ch46 bx47
 clear bx44
 refine a8 (a6 (a5 rfl ?_))
 have C48:=cg [6] (hb15.n.seq (hb17.n.seq (ch21.n.seq (hb24.n.seq (hb26.n.seq (ch30.n.seq (ch37.n.seq (ch41.n.seq (ch46.l rfl)))))))))
 replace bx13:=bx13.ca C48
 refine lx (ad (ds:=[vi 2,v3]) bO rfl bx13 rfl rfl) (lx (ad (ds:=[v20,v36]) bJ rfl bx47 rfl rfl) ?_)
 have C49:=cg [2,6] ((ch12.l rfl).seq (hb15.n.seq (hb17.n.seq (ch21.n.seq (hb24.n.seq (hb26.n.seq (ch30.n.seq (ch37.n.seq (ch41.n.seq (ch46.l rfl))))))))))
 replace o5:=o5.ca C49
 replace o22:=o22.ce ch46
 replace o31:=o31.ce ch46
 replace o38:=o38.ce ch46
 refine lo (d5 (az (vals:=[vg [vi 2,v3],vg [v20,v36]]) Try.func21 sY sT rfl) (nY w45 (2,([(0,1)]:List Pt)) v3 (o5.flat).ro (([(0,0),(3,4)]:List Pt),[([(0,0),(3,4)]:List Pt)]) v20 v36 (o22.flat).ro ((kX o38 (VcR.consv hv33 (o31.flat).ro VcR.nil))).ro) ?_)
 rintro⟨d51,v53⟩ w50 ⟨fr52,o54⟩
 obtain⟨g55,ch56,G55⟩:=ny g43 fr52 (λn=>if n=1 then 7 else 0)
 replace o54:=o54.gl G55 7
 refine mv (vt [v53,vi ((bP (2,([(0,1)]:List Pt)) (([(0,0),(3,4)]:List Pt),[([(0,0),(3,4)]:List Pt)])).2)]) (lx (b5 rfl rfl) (lx (b5 rfl rfl) (ma v53 (ai ((bP (2,([(0,1)]:List Pt)) (([(0,0),(3,4)]:List Pt),[([(0,0),(3,4)]:List Pt)])).2) (a8 (a6 (a5 rfl ?_)))))))
 replace bx13:=bx13.cn ch56
 refine lx (ad (ds:=[vi 2,v3]) bO rfl bx13 rfl rfl) ?_
 replace bx47:=bx47.cn ch56
 refine lx (ad (ds:=[v20,v36]) bJ rfl bx47 rfl rfl) ?_
 replace o5:=o5.cn ch56
 replace o22:=o22.cn ch56
 replace o31:=o31.cn ch56
 replace o38:=o38.cn ch56
 refine lo ?_
 refine aN (v:=vt [vg [Value.float .f64 (((al (2,([(0,1)]:List Pt)) (([(0,0),(3,4)]:List Pt),[([(0,0),(3,4)]:List Pt)])).1).1),Value.float .f64 ((((al (2,([(0,1)]:List Pt)) (([(0,0),(3,4)]:List Pt),[([(0,0),(3,4)]:List Pt)])).1).2).1),Value.float .f64 (((((al (2,([(0,1)]:List Pt)) (([(0,0),(3,4)]:List Pt),[([(0,0),(3,4)]:List Pt)])).1).2).2).1),Value.float .f64 ((((((al (2,([(0,1)]:List Pt)) (([(0,0),(3,4)]:List Pt),[([(0,0),(3,4)]:List Pt)])).1).2).2).2).1),Value.float .f64 (((((((al (2,([(0,1)]:List Pt)) (([(0,0),(3,4)]:List Pt),[([(0,0),(3,4)]:List Pt)])).1).2).2).2).2).1),Value.float .f64 ((((((((al (2,([(0,1)]:List Pt)) (([(0,0),(3,4)]:List Pt),[([(0,0),(3,4)]:List Pt)])).1).2).2).2).2).2).1),Value.float .f64 ((((((((al (2,([(0,1)]:List Pt)) (([(0,0),(3,4)]:List Pt),[([(0,0),(3,4)]:List Pt)])).1).2).2).2).2).2).2)],vi ((al (2,([(0,1)]:List Pt)) (([(0,0),(3,4)]:List Pt),[([(0,0),(3,4)]:List Pt)])).2)]) (az (vals:=[vg [vi 2,v3],vg [v20,v36]]) Try.func8 kn k7 rfl) (gD w50 (2,([(0,1)]:List Pt)) v3 (o5.flat).ro (([(0,0),(3,4)]:List Pt),[([(0,0),(3,4)]:List Pt)]) v20 v36 (o22.flat).ro ((kX o38 (VcR.consv hv33 (o31.flat).ro VcR.nil))).ro (by exact λ_=>uj)) ?_
 intro w57 hb58
 replace hb58:=aj hb58 g55
 refine mv (vt [vg [Value.float .f64 (((al (2,([(0,1)]:List Pt)) (([(0,0),(3,4)]:List Pt),[([(0,0),(3,4)]:List Pt)])).1).1),Value.float .f64 ((((al (2,([(0,1)]:List Pt)) (([(0,0),(3,4)]:List Pt),[([(0,0),(3,4)]:List Pt)])).1).2).1),Value.float .f64 (((((al (2,([(0,1)]:List Pt)) (([(0,0),(3,4)]:List Pt),[([(0,0),(3,4)]:List Pt)])).1).2).2).1),Value.float .f64 ((((((al (2,([(0,1)]:List Pt)) (([(0,0),(3,4)]:List Pt),[([(0,0),(3,4)]:List Pt)])).1).2).2).2).1),Value.float .f64 (((((((al (2,([(0,1)]:List Pt)) (([(0,0),(3,4)]:List Pt),[([(0,0),(3,4)]:List Pt)])).1).2).2).2).2).1),Value.float .f64 ((((((((al (2,([(0,1)]:List Pt)) (([(0,0),(3,4)]:List Pt),[([(0,0),(3,4)]:List Pt)])).1).2).2).2).2).2).1),Value.float .f64 ((((((((al (2,([(0,1)]:List Pt)) (([(0,0),(3,4)]:List Pt),[([(0,0),(3,4)]:List Pt)])).1).2).2).2).2).2).2)],vi ((al (2,([(0,1)]:List Pt)) (([(0,0),(3,4)]:List Pt),[([(0,0),(3,4)]:List Pt)])).2)]) ?_
 refine lx (b5 rfl rfl) (lx (b5 rfl rfl) (lo (bB g55 (is 8) (8,0) rfl bh ?_)))
 intro g62 w59 b61 ch60 bx63
 replace bx63:Bx g62 (is 8) w59 b61 [Value.float .f64 0,Value.float .f64 0,Value.float .f64 0,Value.float .f64 0,Value.float .f64 0,Value.float .f64 0,Value.float .f64 0]:=bx63
 refine lo ?_
 refine au (cs':=[Value.float .f64 (((al (2,([(0,1)]:List Pt)) (([(0,0),(3,4)]:List Pt),[([(0,0),(3,4)]:List Pt)])).1).1),Value.float .f64 ((((al (2,([(0,1)]:List Pt)) (([(0,0),(3,4)]:List Pt),[([(0,0),(3,4)]:List Pt)])).1).2).1),Value.float .f64 (((((al (2,([(0,1)]:List Pt)) (([(0,0),(3,4)]:List Pt),[([(0,0),(3,4)]:List Pt)])).1).2).2).1),Value.float .f64 ((((((al (2,([(0,1)]:List Pt)) (([(0,0),(3,4)]:List Pt),[([(0,0),(3,4)]:List Pt)])).1).2).2).2).1),Value.float .f64 (((((((al (2,([(0,1)]:List Pt)) (([(0,0),(3,4)]:List Pt),[([(0,0),(3,4)]:List Pt)])).1).2).2).2).2).1),Value.float .f64 ((((((((al (2,([(0,1)]:List Pt)) (([(0,0),(3,4)]:List Pt),[([(0,0),(3,4)]:List Pt)])).1).2).2).2).2).2).1),Value.float .f64 ((((((((al (2,([(0,1)]:List Pt)) (([(0,0),(3,4)]:List Pt),[([(0,0),(3,4)]:List Pt)])).1).2).2).2).2).2).2)]) bh rfl rfl bx63 rfl nq (AllOne.all (.cons rfl (.cons rfl (.cons rfl (.cons rfl (.cons rfl (.cons rfl (.cons rfl .nil)))))))) rfl ?_
 intro w64 ch65 bx66
 clear bx63
 refine ai ((al (2,([(0,1)]:List Pt)) (([(0,0),(3,4)]:List Pt),[([(0,0),(3,4)]:List Pt)])).2) (a8 (a6 (a5 rfl ?_)))
 have C67:=cg [8] (hb58.n.seq (ch60.n.seq (ch65.l rfl)))
 replace bx13:=bx13.ca C67
 refine lx (ad (ds:=[vi 2,v3]) bO rfl bx13 rfl rfl) ?_
 replace bx47:=bx47.ca C67
 refine lx (ad (ds:=[v20,v36]) bJ rfl bx47 rfl rfl) ?_
 replace o5:=o5.ca C67
 replace o22:=o22.ca C67
 replace o31:=o31.ca C67
 replace o38:=o38.ca C67
 refine lo (aN (v:=vt [vi ((aS (2,([(0,1)]:List Pt)) (([(0,0),(3,4)]:List Pt),[([(0,0),(3,4)]:List Pt)])).1),vi ((aS (2,([(0,1)]:List Pt)) (([(0,0),(3,4)]:List Pt),[([(0,0),(3,4)]:List Pt)])).2)]) (az (vals:=[vg [vi 2,v3],vg [v20,v36]]) Try.func13 jf jk rfl) (eg w64 (2,([(0,1)]:List Pt)) v3 (o5.flat).ro (([(0,0),(3,4)]:List Pt),[([(0,0),(3,4)]:List Pt)]) v20 v36 (o22.flat).ro ((kX o38 (VcR.consv hv33 (o31.flat).ro VcR.nil))).ro) ?_)
 intro w68 hb69
 replace hb69:=aj hb69 g62
 refine mv (vt [vi ((aS (2,([(0,1)]:List Pt)) (([(0,0),(3,4)]:List Pt),[([(0,0),(3,4)]:List Pt)])).1),vi ((aS (2,([(0,1)]:List Pt)) (([(0,0),(3,4)]:List Pt),[([(0,0),(3,4)]:List Pt)])).2)]) (lx (b5 rfl rfl) (lx (b5 rfl rfl) (ai ((aS (2,([(0,1)]:List Pt)) (([(0,0),(3,4)]:List Pt),[([(0,0),(3,4)]:List Pt)])).1) (ai ((aS (2,([(0,1)]:List Pt)) (([(0,0),(3,4)]:List Pt),[([(0,0),(3,4)]:List Pt)])).2) (a8 (a6 (a5 rfl ?_)))))))
 replace bx13:=bx13.cn hb69
 refine lx (ad (ds:=[vi 2,v3]) bO rfl bx13 rfl rfl) ?_
 replace bx47:=bx47.cn hb69
 refine lx (ad (ds:=[v20,v36]) bJ rfl bx47 rfl rfl) ?_
 replace o5:=o5.cn hb69
 replace o22:=o22.cn hb69
 replace o31:=o31.cn hb69
 replace o38:=o38.cn hb69
 refine lo (aN (v:=vt [Value.float .f64 ((aV (2,([(0,1)]:List Pt)) (([(0,0),(3,4)]:List Pt),[([(0,0),(3,4)]:List Pt)])).1),vi ((aV (2,([(0,1)]:List Pt)) (([(0,0),(3,4)]:List Pt),[([(0,0),(3,4)]:List Pt)])).2)]) (az (vals:=[vg [vi 2,v3],vg [v20,v36]]) Try.func17 fY gg rfl) (fj w68 (2,([(0,1)]:List Pt)) v3 (o5.flat).ro (([(0,0),(3,4)]:List Pt),[([(0,0),(3,4)]:List Pt)]) v20 v36 (o22.flat).ro ((kX o38 (VcR.consv hv33 (o31.flat).ro VcR.nil))).ro) ?_)
 intro w70 hb71
 replace hb71:=aj hb71 g62
 refine mv (vt [Value.float .f64 ((aV (2,([(0,1)]:List Pt)) (([(0,0),(3,4)]:List Pt),[([(0,0),(3,4)]:List Pt)])).1),vi ((aV (2,([(0,1)]:List Pt)) (([(0,0),(3,4)]:List Pt),[([(0,0),(3,4)]:List Pt)])).2)]) (lx (b5 rfl rfl) (lx (b5 rfl rfl) (ma (Value.float .f64 ((aV (2,([(0,1)]:List Pt)) (([(0,0),(3,4)]:List Pt),[([(0,0),(3,4)]:List Pt)])).1)) (ai ((aV (2,([(0,1)]:List Pt)) (([(0,0),(3,4)]:List Pt),[([(0,0),(3,4)]:List Pt)])).2) (a8 (a6 ?_))))))
 clear o5 bx13 o22 o31 o38 bx47
 refine a5 rfl (mv v53 ?_)
 have C72:=cg [8] (hb58.n.seq (ch60.n.seq ((ch65.l rfl).seq (hb69.n.seq hb71.n))))
 replace o54:=o54.ca C72
 have len73:=(o54.flat).small
 refine lx (bE tL rfl o54.flat) (lx (cu (m:=(List.length ((bP (2,([(0,1)]:List Pt)) (([(0,0),(3,4)]:List Pt),[([(0,0),(3,4)]:List Pt)])).1):Int)) (n:=1) rfl rfl) (mv (vb (decide ((List.length ((bP (2,([(0,1)]:List Pt)) (([(0,0),(3,4)]:List Pt),[([(0,0),(3,4)]:List Pt)])).1):Int)=1))) ?_))
 have q49:(List.length ((bP (2,([(0,1)]:List Pt)) (([(0,0),(3,4)]:List Pt),[([(0,0),(3,4)]:List Pt)])).1):Int)=1:=by rfl
 refine lv (v53) (wy (dt q49)) (aw rfl) (lv (Value.pointer (some (aU v53 1 (Int.toNat 0)))) (wy (dt q49)) (ab (α:=Nat) (xs:=(bP (2,([(0,1)]:List Pt)) (([(0,0),(3,4)]:List Pt),[([(0,0),(3,4)]:List Pt)])).1) (v:=v53) (i:=0) tL rfl rfl o54.flat rfl (by omega) (by omega)) (lv (Value.float .f64 (gI ((bP (2,([(0,1)]:List Pt)) (([(0,0),(3,4)]:List Pt),[([(0,0),(3,4)]:List Pt)])).1) 0)) (wy (dt q49)) (fk (α:=Nat) (xs:=(bP (2,([(0,1)]:List Pt)) (([(0,0),(3,4)]:List Pt),[([(0,0),(3,4)]:List Pt)])).1) (v:=v53) (i:=0) aX rfl o54.flat (by omega) (by omega) (by decide) rfl) ?_))
 refine lv (vb (decide ((gI ((bP (2,([(0,1)]:List Pt)) (([(0,0),(3,4)]:List Pt),[([(0,0),(3,4)]:List Pt)])).1) 0)=4617315517961601024))) (wy (dt q49)) (ov (a:=(gI ((bP (2,([(0,1)]:List Pt)) (([(0,0),(3,4)]:List Pt),[([(0,0),(3,4)]:List Pt)])).1) 0)) (b:=4617315517961601024) rfl rfl (by exact pe _ _) (by decide)) (lw (vb (decide ((gI ((bP (2,([(0,1)]:List Pt)) (([(0,0),(3,4)]:List Pt),[([(0,0),(3,4)]:List Pt)])).1) 0)=4617315517961601024))) (aD rfl (dt q49) rfl) ?_)
 refine mv (vb (decide ((gI ((bP (2,([(0,1)]:List Pt)) (([(0,0),(3,4)]:List Pt),[([(0,0),(3,4)]:List Pt)])).1) 0)=4617315517961601024))) ?_
 have q55:(gI ((bP (2,([(0,1)]:List Pt)) (([(0,0),(3,4)]:List Pt),[([(0,0),(3,4)]:List Pt)])).1) 0)=4617315517961601024:=by rfl
 refine lv (vi ((bP (2,([(0,1)]:List Pt)) (([(0,0),(3,4)]:List Pt),[([(0,0),(3,4)]:List Pt)])).2)) (wy (dt q55)) (aw rfl) (lv (vb (decide (((bP (2,([(0,1)]:List Pt)) (([(0,0),(3,4)]:List Pt),[([(0,0),(3,4)]:List Pt)])).2)=0))) (wy (dt q55)) (cu (m:=(bP (2,([(0,1)]:List Pt)) (([(0,0),(3,4)]:List Pt),[([(0,0),(3,4)]:List Pt)])).2) (n:=0) rfl rfl) (lw (vb (decide (((bP (2,([(0,1)]:List Pt)) (([(0,0),(3,4)]:List Pt),[([(0,0),(3,4)]:List Pt)])).2)=0))) (aD rfl (dt q55) rfl) ?_))
 refine mv (vb (decide (((bP (2,([(0,1)]:List Pt)) (([(0,0),(3,4)]:List Pt),[([(0,0),(3,4)]:List Pt)])).2)=0))) ?_
 have q59:((bP (2,([(0,1)]:List Pt)) (([(0,0),(3,4)]:List Pt),[([(0,0),(3,4)]:List Pt)])).2)=0:=by rfl
 refine lv (vp b61 4) (wy (dt q59)) (a7 gu rfl rfl rfl rfl) ?_
 replace bx66:=(bx66.cn hb69).cn hb71
 refine lv (Value.float .f64 (((((((al (2,([(0,1)]:List Pt)) (([(0,0),(3,4)]:List Pt),[([(0,0),(3,4)]:List Pt)])).1).2).2).2).2).1)) (wy (dt q59)) (a9 aX rfl bx66 rfl) (lv (vb (decide ((((((((al (2,([(0,1)]:List Pt)) (([(0,0),(3,4)]:List Pt),[([(0,0),(3,4)]:List Pt)])).1).2).2).2).2).1)=4607182418800017408))) (wy (dt q59)) (ov (a:=(((((((al (2,([(0,1)]:List Pt)) (([(0,0),(3,4)]:List Pt),[([(0,0),(3,4)]:List Pt)])).1).2).2).2).2).1)) (b:=4607182418800017408) rfl rfl (by exact rt) (by decide)) ?_)
 refine lw (vb (decide ((((((((al (2,([(0,1)]:List Pt)) (([(0,0),(3,4)]:List Pt),[([(0,0),(3,4)]:List Pt)])).1).2).2).2).2).1)=4607182418800017408))) (aD rfl (dt q59) rfl) (mv (vb (decide ((((((((al (2,([(0,1)]:List Pt)) (([(0,0),(3,4)]:List Pt),[([(0,0),(3,4)]:List Pt)])).1).2).2).2).2).1)=4607182418800017408))) ?_)
 have q64:(((((((al (2,([(0,1)]:List Pt)) (([(0,0),(3,4)]:List Pt),[([(0,0),(3,4)]:List Pt)])).1).2).2).2).2).1)=4607182418800017408:=by rfl
 refine lv (vi ((al (2,([(0,1)]:List Pt)) (([(0,0),(3,4)]:List Pt),[([(0,0),(3,4)]:List Pt)])).2)) (wy (dt q64)) (aw rfl) (lv (vb (decide (((al (2,([(0,1)]:List Pt)) (([(0,0),(3,4)]:List Pt),[([(0,0),(3,4)]:List Pt)])).2)=0))) (wy (dt q64)) (cu (m:=(al (2,([(0,1)]:List Pt)) (([(0,0),(3,4)]:List Pt),[([(0,0),(3,4)]:List Pt)])).2) (n:=0) rfl rfl) (lw (vb (decide (((al (2,([(0,1)]:List Pt)) (([(0,0),(3,4)]:List Pt),[([(0,0),(3,4)]:List Pt)])).2)=0))) (aD rfl (dt q64) rfl) ?_))
 refine mv (vb (decide (((al (2,([(0,1)]:List Pt)) (([(0,0),(3,4)]:List Pt),[([(0,0),(3,4)]:List Pt)])).2)=0))) ?_
 have q68:((al (2,([(0,1)]:List Pt)) (([(0,0),(3,4)]:List Pt),[([(0,0),(3,4)]:List Pt)])).2)=0:=by rfl
 refine lv (vi ((aS (2,([(0,1)]:List Pt)) (([(0,0),(3,4)]:List Pt),[([(0,0),(3,4)]:List Pt)])).1)) (wy (dt q68)) (aw rfl) (lv (vb (decide (((aS (2,([(0,1)]:List Pt)) (([(0,0),(3,4)]:List Pt),[([(0,0),(3,4)]:List Pt)])).1)=0))) (wy (dt q68)) (cu (m:=(aS (2,([(0,1)]:List Pt)) (([(0,0),(3,4)]:List Pt),[([(0,0),(3,4)]:List Pt)])).1) (n:=0) rfl rfl) (lw (vb (decide (((aS (2,([(0,1)]:List Pt)) (([(0,0),(3,4)]:List Pt),[([(0,0),(3,4)]:List Pt)])).1)=0))) (aD rfl (dt q68) rfl) ?_))
 refine mv (vb (decide (((aS (2,([(0,1)]:List Pt)) (([(0,0),(3,4)]:List Pt),[([(0,0),(3,4)]:List Pt)])).1)=0))) ?_
 have q72:((aS (2,([(0,1)]:List Pt)) (([(0,0),(3,4)]:List Pt),[([(0,0),(3,4)]:List Pt)])).1)=0:=by rfl
 refine lv (vi ((aS (2,([(0,1)]:List Pt)) (([(0,0),(3,4)]:List Pt),[([(0,0),(3,4)]:List Pt)])).2)) (wy (dt q72)) (aw rfl) (lv (vb (decide (((aS (2,([(0,1)]:List Pt)) (([(0,0),(3,4)]:List Pt),[([(0,0),(3,4)]:List Pt)])).2)=0))) (wy (dt q72)) (cu (m:=(aS (2,([(0,1)]:List Pt)) (([(0,0),(3,4)]:List Pt),[([(0,0),(3,4)]:List Pt)])).2) (n:=0) rfl rfl) (lw (vb (decide (((aS (2,([(0,1)]:List Pt)) (([(0,0),(3,4)]:List Pt),[([(0,0),(3,4)]:List Pt)])).2)=0))) (aD rfl (dt q72) rfl) ?_))
 refine mv (vb (decide (((aS (2,([(0,1)]:List Pt)) (([(0,0),(3,4)]:List Pt),[([(0,0),(3,4)]:List Pt)])).2)=0))) ?_
 have q76:((aS (2,([(0,1)]:List Pt)) (([(0,0),(3,4)]:List Pt),[([(0,0),(3,4)]:List Pt)])).2)=0:=by rfl
 refine lv (Value.float .f64 ((aV (2,([(0,1)]:List Pt)) (([(0,0),(3,4)]:List Pt),[([(0,0),(3,4)]:List Pt)])).1)) (wy (dt q76)) (aw rfl) (lv (vb true) (wy (dt q76)) (pH (a:=((aV (2,([(0,1)]:List Pt)) (([(0,0),(3,4)]:List Pt),[([(0,0),(3,4)]:List Pt)])).1)) (b:=13830554455654793216) rfl rfl (by decide+kernel)) (lw (vb true) (aD rfl (dt q76) rfl) (mv (vb true) (lv (vi ((aV (2,([(0,1)]:List Pt)) (([(0,0),(3,4)]:List Pt),[([(0,0),(3,4)]:List Pt)])).2)) (wy rfl) (aw rfl) ?_))))
 refine lv (vb (decide (((aV (2,([(0,1)]:List Pt)) (([(0,0),(3,4)]:List Pt),[([(0,0),(3,4)]:List Pt)])).2)=0))) (wy rfl) (cu (m:=(aV (2,([(0,1)]:List Pt)) (([(0,0),(3,4)]:List Pt),[([(0,0),(3,4)]:List Pt)])).2) (n:=0) rfl rfl) (lw (vb (decide (((aV (2,([(0,1)]:List Pt)) (([(0,0),(3,4)]:List Pt),[([(0,0),(3,4)]:List Pt)])).2)=0))) (aD rfl rfl rfl) (ma (vb (decide (((aV (2,([(0,1)]:List Pt)) (([(0,0),(3,4)]:List Pt),[([(0,0),(3,4)]:List Pt)])).2)=0))) (a8 ?_)))
 refine av (vs:=[vb (decide (((aV (2,([(0,1)]:List Pt)) (([(0,0),(3,4)]:List Pt),[([(0,0),(3,4)]:List Pt)])).2)=0))]) Try.func6 (.tmp rfl .nil) ?_
 have e0:(decide (((aV (2,([(0,1)]:List Pt)) (([(0,0),(3,4)]:List Pt),[([(0,0),(3,4)]:List Pt)])).2)=0):Bool)=(true):=by
   rfl
 have C74:=cg [2,6,8] (ch4.n.seq (ch7.n.seq ((ch12.l rfl).seq (hb15.n.seq (hb17.n.seq (ch21.n.seq (hb24.n.seq (hb26.n.seq (ch30.n.seq (ch37.n.seq (ch41.n.seq ((ch46.l rfl).seq (ch56.n.seq (hb58.n.seq (ch60.n.seq ((ch65.l rfl).seq (hb69.n.seq hb71.n)))))))))))))))))
 replace bH:=bH.ca C74
 exact⟨(congrArg (a₁:=decide (((aV (2,([(0,1)]:List Pt)) (([(0,0),(3,4)]:List Pt),[([(0,0),(3,4)]:List Pt)])).2)=0)) (λ(z0:Bool)=>Ending.returned (vb z0)) e0),bH.below⟩
end TL
