import Derived.Test.YtmakonaaojadbaaTlP2
import Derived.Test.YtmakonaaojadbaaTlGmA
import Derived.Test.YtmakonaaojadbaaTlGenA
import Derived.Test.YtmakonaaojadbaaTlBkE
import Derived.Test.YtmakonaaojadbaaTlBkT
import Derived.Test.YtmakonaaojadbaaProg
import Derived.Test.YtmakonaaojadbaaTlAli
set_option linter.all false
set_option maxRecDepth 20000
namespace TL
open Go Go.Proofs
theorem jC:Try.f11.body.isNone=false:=rfl
theorem jw:(Try.f11.name== "runtime.NumGoroutine")=false:=by decide+kernel
theorem jO:Try.f12.body.isNone=false:=rfl
theorem jP:(Try.f12.name== "runtime.NumGoroutine")=false:=by decide+kernel
theorem lV:Try.f13.body.isNone=false:=rfl
theorem mG:(Try.f13.name== "runtime.NumGoroutine")=false:=by decide+kernel
theorem m4:Try.f14.body.isNone=false:=rfl
theorem mF:(Try.f14.name== "runtime.NumGoroutine")=false:=by decide+kernel
theorem k8:Try.f16.body.isNone=false:=rfl
theorem jR:(Try.f16.name== "runtime.NumGoroutine")=false:=by decide+kernel
theorem mJ:Try.f26.body.isNone=false:=rfl
theorem lU:(Try.f26.name== "runtime.NumGoroutine")=false:=by decide+kernel
theorem ie:Try.f35.body.isNone=false:=rfl
theorem ii:(Try.f35.name== "runtime.NumGoroutine")=false:=by decide+kernel
theorem eY(w0:World):
    Calls Try.prog 35 #[] w0 (λee w=>∃xx:av×Value,ee= .returned ((λ⟨δ,rv0⟩=>vg [vi aG.1,rv0]) xx)/\(λ(⟨δ,rv0⟩:av×Value) (w:World)=>fg w0 δ w/\Ow δ (is 1) (is 1) w rv0 aG.2) xx w):=by
 refine aq Try.func35 rfl nq ?_
 have bH:=bd.start w0
 refine a4 (a3 rfl (dG rfl (bg c0 (is 1) (1,0) rfl bi ?_)))
 intro g4 w1 b3 ch2 bx5
 replace bx5:Bx g4 (is 1) w1 b3 [vi 0,vn]:=bx5
 refine a8 (a4 (a3 rfl (lw (vg [vi 0,vi 1]) (b6 (vs:=[(0,vi 0),(1,vi 1)]) rfl (by kernel_rfl)) (lw (vg [vi 1,vi 2]) (b6 (vs:=[(0,vi 1),(1,vi 2)]) rfl (by kernel_rfl)) (lw (vg [vi 2,vi 0]) (b6 (vs:=[(0,vi 2),(1,vi 0)]) rfl (by kernel_rfl)) (lw (vg [vi 2,vi 3]) (b6 (vs:=[(0,vi 2),(1,vi 3)]) rfl (by kernel_rfl)) (lw (vg [vi 3,vi 3]) (b6 (vs:=[(0,vi 3),(1,vi 3)]) rfl (by kernel_rfl)) (lo ?_))))))))
 refine aL (α:=Pt) g4 (is 2) (is 2) (2,0) rfl [(0,1),(1,2),(2,0),(2,3),(3,3)] da az (by decide) (by decide) (vs:=[(0,vg [vi 0,vi 1]),(1,vg [vi 1,vi 2]),(2,vg [vi 2,vi 0]),(3,vg [vi 2,vi 3]),(4,vg [vi 3,vi 3])]) rfl rfl (.cons rfl (.cons rfl (.cons rfl (.cons rfl (.cons rfl .nil))))) ?_
 intro g6 w7 v8 ch9 o10
 refine lw (vg [vi 4,v8]) (b6 (vs:=[(0,vi 4),(1,v8)]) rfl (by rw[Sl.form o10.flat];kernel_rfl)) (lo ?_)
 replace bx5:=bx5.cn ch9
 refine au (cs':=[vi 4,v8]) bi rfl rfl bx5 rfl nq (AllOne.all (.cons rfl (.cons (bU o10.flat) .nil))) rfl ?_
 intro w11 ch12 bx13
 clear bx5
 refine a8 (aE (vs:=[vg [vi 4,v8]]) Try.func35 (.cell rfl (dz (ds:=[vi 4,v8]) bi bx13 rfl rfl) .nil) ?_)
 have C14:=cg [1] (ch2.n.seq (ch9.n.seq (ch12.l rfl)))
 replace bH:=bH.ca C14
 replace o10:=o10.ce ch12
 have e0:((4,[(0,1),(1,2),(2,0),(2,3),(3,3)]):(Int)×(List Pt))=(aG):=by
   rfl
 exact⟨(fin w0 g6 (λn=>if n=2 then 1 else 0),v8),(congrArg (a₁:=(4,[(0,1),(1,2),(2,0),(2,3),(3,3)])) (λ(z0:(Int)×(List Pt))=>Ending.returned (vg [vi z0.1,v8])) e0),bH.fresh _,((congrArg (λ(z:(Int)×(List Pt))=>z.2) e0)▸(o10.glue (γ:=c0) (ren:=(λn=>if n=2 then 1 else 0)) (k:=1) bH.col rfl rfl))⟩
set_option maxHeartbeats 4000000 in
theorem kG(w0:World):
    Calls Try.prog 8 #[] w0 (λee w=>ee= .returned (vb true)/\d6 w0.heap.size w0 w):=by
 refine aq Try.func8 rfl nq ?_
 have bH:=bd.start w0
 refine a4 (a3 rfl (ma (vb false) (a8 (a4 (a3 rfl (dG rfl (cC (aW (vals:=[]) Try.func35 ie ii rfl) (eY w0) ?_)))))))
 rintro⟨d2,v4⟩ w1 ⟨fr3,o5⟩
 obtain⟨g6,ch7,G6⟩:=jT c0 fr3 (λn=>if n=1 then 1 else 0)
 replace o5:=o5.gl G6 1
 refine lo (cC (aW (vals:=[vg [vi aG.1,v4]]) Try.func11 jC jw rfl) (gG w1 aG v4 (o5.flat).ro) ?_)
 rintro⟨d9,v11,v13⟩ w8 ⟨fr10,o12,o14⟩
 obtain⟨g15,ch16,G15⟩:=jT g6 fr10 (λn=>if n=1 then 2 else if n=2 then 3 else 0)
 replace o12:=o12.gl G15 2
 replace o14:=o14.gl G15 3
 refine mv (vt [vg [v11,v13,vi ((((aD aG).1).2).2)],vi ((aD aG).2)]) (lx (aB rfl rfl) (lx (aB rfl rfl) (lo (bg g15 (is 4) (4,0) rfl ch ?_))))
 intro g20 w17 b19 ch18 bx21
 replace bx21:Bx g20 (is 4) w17 b19 [vn,vn,vi 0]:=bx21
 refine lo ?_
 replace o14:=o14.cn ch18
 replace o12:=o12.cn ch18
 refine au (cs':=[v11,v13,vi ((((aD aG).1).2).2)]) ch rfl rfl bx21 rfl nq (AllOne.all (.cons (bU o12.flat) (.cons (bU o14.flat) (.cons rfl .nil)))) rfl ?_
 intro w22 ch23 bx24
 clear bx21
 refine ai ((aD aG).2) (a8 (a4 ?_))
 clear o5
 refine a3 rfl (dG rfl (cC (aW (vals:=[]) Try.func35 ie ii rfl) (eY w22) ?_))
 rintro⟨d26,v28⟩ w25 ⟨fr27,o29⟩
 obtain⟨g30,ch31,G30⟩:=jT g20 fr27 (λn=>if n=1 then 5 else 0)
 replace o29:=o29.gl G30 5
 refine lo (cC (aW (vals:=[vg [vi aG.1,v28]]) Try.func12 jO jP rfl) (gr w25 aG v28 (o29.flat).ro) ?_)
 rintro⟨d33,v35⟩ w32 ⟨fr34,o36⟩
 obtain⟨g37,ch38,G37⟩:=jT g30 fr34 (λn=>if n=1 then 6 else 0)
 replace o36:=o36.gl G37 6
 refine mv (vt [v35,vi ((aI aG).2)]) (lx (aB rfl rfl) (lx (aB rfl rfl) (ma v35 (ai ((aI aG).2) (a8 (a4 ?_))))))
 clear o29
 refine a3 rfl (dG rfl (cC (aW (vals:=[]) Try.func35 ie ii rfl) (eY w32) ?_))
 rintro⟨d40,v42⟩ w39 ⟨fr41,o43⟩
 obtain⟨g44,ch45,G44⟩:=jT g37 fr41 (λn=>if n=1 then 7 else 0)
 replace o43:=o43.gl G44 7
 refine lo (cC (aW (vals:=[vg [vi aG.1,v42]]) Try.func13 lV mG rfl) (mj w39 aG v42 (o43.flat).ro (by exact ln)) ?_)
 rintro⟨d47,v49⟩ w46 ⟨fr48,o50⟩
 obtain⟨g51,ch52,G51⟩:=jT g44 fr48 (λn=>if n=1 then 8 else 0)
 replace o50:=o50.gl G51 8
 refine mv (vt [vg [vi (((cf aG).1).1),v49],vi ((cf aG).2)]) (lx (aB rfl rfl) (lx (aB rfl rfl) (lo (bg g51 (is 9) (9,0) rfl bi ?_))))
 intro g56 w53 b55 ch54 bx57
 replace bx57:Bx g56 (is 9) w53 b55 [vi 0,vn]:=bx57
 refine lo ?_
 replace o50:=o50.cn ch54
 refine au (cs':=[vi (((cf aG).1).1),v49]) bi rfl rfl bx57 rfl nq (AllOne.all (.cons rfl (.cons (bU o50.flat) .nil))) rfl ?_
 intro w58 ch59 bx60
 clear bx57
 refine ai ((cf aG).2) (a8 (a4 ?_))
 clear o43
 refine a3 rfl (lw (vg [vi 0,vi 1]) (b6 (vs:=[(0,vi 0),(1,vi 1)]) rfl (by kernel_rfl)) (lo (aL (α:=Pt) g56 (is 10) (is 10) (10,0) rfl ([(0,1)]:List Pt) da az (by decide) (by decide) (vs:=[(0,vg [vi 0,vi 1])]) rfl rfl (.cons rfl .nil) ?_)))
 intro g61 w62 v63 ch64 o65
 refine lw (vg [vi 2,v63]) (b6 (vs:=[(0,vi 2),(1,v63)]) rfl (by rw[Sl.form o65.flat];kernel_rfl)) (lo (cL (v:=vt [vb ((bZ (2,([(0,1)]:List Pt))).1),vi ((bZ (2,([(0,1)]:List Pt))).2)]) (aW (vals:=[vg [vi 2,v63]]) Try.func14 m4 mF rfl) (l9 w62 (2,([(0,1)]:List Pt)) v63 (o65.flat).ro) ?_))
 intro w66 hb67
 replace hb67:=aQ hb67 g61
 refine mv (vt [vb ((bZ (2,([(0,1)]:List Pt))).1),vi ((bZ (2,([(0,1)]:List Pt))).2)]) (lx (aB rfl rfl) (lx (aB rfl rfl) (ma (vb ((bZ (2,([(0,1)]:List Pt))).1)) (ai ((bZ (2,([(0,1)]:List Pt))).2) (a8 (a4 ?_))))))
 clear o65
 refine a3 rfl (lw (vg [vi 0,vi 1]) (b6 (vs:=[(0,vi 0),(1,vi 1)]) rfl (by kernel_rfl)) (lw (vg [vi 0,vi 1]) (b6 (vs:=[(0,vi 0),(1,vi 1)]) rfl (by kernel_rfl)) (lo (aL (α:=Pt) g61 (is 11) (is 11) (11,0) rfl ([(0,1),(0,1)]:List Pt) da az (by decide) (by decide) (vs:=[(0,vg [vi 0,vi 1]),(1,vg [vi 0,vi 1])]) rfl rfl (.cons rfl (.cons rfl .nil)) ?_))))
 intro g68 w69 v70 ch71 o72
 refine lw (vg [vi 2,v70]) (b6 (vs:=[(0,vi 2),(1,v70)]) rfl (by rw[Sl.form o72.flat];kernel_rfl)) (lo (cC (aW (vals:=[vg [vi 2,v70]]) Try.func26 mJ lU rfl) (nh w69 (2,([(0,1),(0,1)]:List Pt)) v70 (o72.flat).ro (by exact m1)) ?_))
 rintro⟨d74,v76⟩ w73 ⟨fr75,o77⟩
 obtain⟨g78,ch79,G78⟩:=jT g68 fr75 (λn=>if n=1 then 12 else 0)
 replace o77:=o77.gl G78 12
 refine mv (vt [v76,vi ((cS (2,([(0,1),(0,1)]:List Pt))).2)]) (lx (aB rfl rfl) (lx (aB rfl rfl) (ma v76 (ai ((cS (2,([(0,1),(0,1)]:List Pt))).2) (a8 (a4 ?_))))))
 clear o72
 refine a3 rfl (lx (a5 ej rfl rfl rfl rfl) ?_)
 have C80:=cg [9] (ch31.n.seq (ch38.n.seq (ch45.n.seq (ch52.n.seq (ch54.n.seq ((ch59.l rfl).seq (ch64.n.seq (hb67.n.seq (ch71.n.seq ch79.n)))))))))
 replace bx24:=bx24.ca C80
 refine lx (a6 a9 rfl bx24 rfl) (lx (cr (m:=(((aD aG).1).2).2) (n:=3) rfl rfl) (mv (vb (decide (((((aD aG).1).2).2)=3))) ?_))
 have q44:((((aD aG).1).2).2)=3:=by rfl
 refine lv (vp b19 1) (wy (dt q44)) (a5 ej rfl rfl rfl rfl) (lv (v13) (wy (dt q44)) (a6 ag rfl bx24 rfl) ?_)
 have C81:=cg [4,9] ((ch23.l rfl).seq (ch31.n.seq (ch38.n.seq (ch45.n.seq (ch52.n.seq (ch54.n.seq ((ch59.l rfl).seq (ch64.n.seq (hb67.n.seq (ch71.n.seq ch79.n))))))))))
 replace o14:=o14.ca C81
 have len82:=(o14.flat).small
 refine lv (vi (List.length ((((aD aG).1).2).1):Int)) (wy (dt q44)) (bm aT rfl o14.flat) (lv (vb (decide ((List.length ((((aD aG).1).2).1):Int)=2))) (wy (dt q44)) (cr (m:=(List.length ((((aD aG).1).2).1):Int)) (n:=2) rfl rfl) (lw (vb (decide ((List.length ((((aD aG).1).2).1):Int)=2))) (aS rfl (dt q44) rfl) (mv (vb (decide ((List.length ((((aD aG).1).2).1):Int)=2))) ?_)))
 have q50:(List.length ((((aD aG).1).2).1):Int)=2:=by rfl
 refine lv (vi ((aD aG).2)) (wy (dt q50)) (ah rfl) (lv (vb (decide (((aD aG).2)=0))) (wy (dt q50)) (cr (m:=(aD aG).2) (n:=0) rfl rfl) (lw (vb (decide (((aD aG).2)=0))) (aS rfl (dt q50) rfl) (mv (vb (decide (((aD aG).2)=0))) ?_)))
 have q54:((aD aG).2)=0:=by rfl
 refine lv (v35) (wy (dt q54)) (ah rfl) ?_
 have C83:=cg [9] (ch45.n.seq (ch52.n.seq (ch54.n.seq ((ch59.l rfl).seq (ch64.n.seq (hb67.n.seq (ch71.n.seq ch79.n)))))))
 replace o36:=o36.ca C83
 have len84:=(o36.flat).small
 refine lv (vi (List.length ((aI aG).1):Int)) (wy (dt q54)) (bm aT rfl o36.flat) (lv (vb (decide ((List.length ((aI aG).1):Int)=1))) (wy (dt q54)) (cr (m:=(List.length ((aI aG).1):Int)) (n:=1) rfl rfl) (lw (vb (decide ((List.length ((aI aG).1):Int)=1))) (aS rfl (dt q54) rfl) (mv (vb (decide ((List.length ((aI aG).1):Int)=1))) ?_)))
 have q59:(List.length ((aI aG).1):Int)=1:=by rfl
 refine lv (v35) (wy (dt q59)) (ah rfl) (lv (Value.pointer (some (aK v35 1 (Int.toNat 0)))) (wy (dt q59)) (a7 (α:=Int) (xs:=(aI aG).1) (v:=v35) (i:=0) aT rfl rfl o36.flat rfl (by omega) (by omega)) (lv (vi (gI ((aI aG).1) 0)) (wy (dt q59)) (ae (α:=Int) (xs:=(aI aG).1) (v:=v35) (i:=0) a9 rfl o36.flat (by omega) (by omega) (by decide) rfl) (lv (vb (decide ((gI ((aI aG).1) 0)=3))) (wy (dt q59)) (cr (m:=(gI ((aI aG).1) 0)) (n:=3) rfl rfl) (lw (vb (decide ((gI ((aI aG).1) 0)=3))) (aS rfl (dt q59) rfl) (mv (vb (decide ((gI ((aI aG).1) 0)=3))) ?_)))))
 have q65:(gI ((aI aG).1) 0)=3:=by rfl
 refine lv (vi ((aI aG).2)) (wy (dt q65)) (ah rfl) (lv (vb (decide (((aI aG).2)=0))) (wy (dt q65)) (cr (m:=(aI aG).2) (n:=0) rfl rfl) (lw (vb (decide (((aI aG).2)=0))) (aS rfl (dt q65) rfl) (mv (vb (decide (((aI aG).2)=0))) ?_)))
 have q69:((aI aG).2)=0:=by rfl
 refine lv (vp b55 0) (wy (dt q69)) (a5 cQ rfl rfl rfl rfl) ?_
 have C85:=cg [] (ch64.n.seq (hb67.n.seq (ch71.n.seq ch79.n)))
 replace bx60:=bx60.ca C85
 refine lv (vi (((cf aG).1).1)) (wy (dt q69)) (a6 a9 rfl bx60 rfl) (lv (vb (decide ((((cf aG).1).1)=5))) (wy (dt q69)) (cr (m:=((cf aG).1).1) (n:=5) rfl rfl) (lw (vb (decide ((((cf aG).1).1)=5))) (aS rfl (dt q69) rfl) (mv (vb (decide ((((cf aG).1).1)=5))) ?_)))
 have q74:(((cf aG).1).1)=5:=by rfl
 refine lv (vi ((cf aG).2)) (wy (dt q74)) (ah rfl) (lv (vb (decide (((cf aG).2)=0))) (wy (dt q74)) (cr (m:=(cf aG).2) (n:=0) rfl rfl) (lw (vb (decide (((cf aG).2)=0))) (aS rfl (dt q74) rfl) (mv (vb (decide (((cf aG).2)=0))) ?_)))
 have q78:((cf aG).2)=0:=by rfl
 refine lv (vb ((bZ (2,([(0,1)]:List Pt))).1)) (wy (dt q78)) (ah rfl) (lw (vb ((bZ (2,([(0,1)]:List Pt))).1)) (aS rfl (dt q78) rfl) (mv (vb ((bZ (2,([(0,1)]:List Pt))).1)) ?_))
 have q81:((bZ (2,([(0,1)]:List Pt))).1)=true:=by rfl
 refine lv (vi ((bZ (2,([(0,1)]:List Pt))).2)) (wy q81) (ah rfl) (lv (vb (decide (((bZ (2,([(0,1)]:List Pt))).2)=0))) (wy q81) (cr (m:=(bZ (2,([(0,1)]:List Pt))).2) (n:=0) rfl rfl) (lw (vb (decide (((bZ (2,([(0,1)]:List Pt))).2)=0))) (aS rfl q81 rfl) (mv (vb (decide (((bZ (2,([(0,1)]:List Pt))).2)=0))) ?_)))
 have q85:((bZ (2,([(0,1)]:List Pt))).2)=0:=by rfl
 refine lv (v76) (wy (dt q85)) (ah rfl) ?_
 have len86:=(o77.sl).small
 refine lv (vi (List.length ((cS (2,([(0,1),(0,1)]:List Pt))).1):Int)) (wy (dt q85)) (bm f3 rfl o77.sl) (lv (vb (decide ((List.length ((cS (2,([(0,1),(0,1)]:List Pt))).1):Int)=1))) (wy (dt q85)) (cr (m:=(List.length ((cS (2,([(0,1),(0,1)]:List Pt))).1):Int)) (n:=1) rfl rfl) (lw (vb (decide ((List.length ((cS (2,([(0,1),(0,1)]:List Pt))).1):Int)=1))) (aS rfl (dt q85) rfl) (mv (vb (decide ((List.length ((cS (2,([(0,1),(0,1)]:List Pt))).1):Int)=1))) ?_)))
 have q90:(List.length ((cS (2,([(0,1),(0,1)]:List Pt))).1):Int)=1:=by rfl
 refine lv (vi ((cS (2,([(0,1),(0,1)]:List Pt))).2)) (wy (dt q90)) (ah rfl) (lv (vb (decide (((cS (2,([(0,1),(0,1)]:List Pt))).2)=0))) (wy (dt q90)) (cr (m:=(cS (2,([(0,1),(0,1)]:List Pt))).2) (n:=0) rfl rfl) (lw (vb (decide (((cS (2,([(0,1),(0,1)]:List Pt))).2)=0))) (aS rfl (dt q90) rfl) (ma (vb (decide (((cS (2,([(0,1),(0,1)]:List Pt))).2)=0))) (a8 (aE (vs:=[vb (decide (((cS (2,([(0,1),(0,1)]:List Pt))).2)=0))]) Try.func8 (.tmp rfl .nil) ?_)))))
 have e0:(decide (((cS (2,([(0,1),(0,1)]:List Pt))).2)=0):Bool)=(true):=by
   rfl
 have C87:=cg [4,9] (ch7.n.seq (ch16.n.seq (ch18.n.seq ((ch23.l rfl).seq (ch31.n.seq (ch38.n.seq (ch45.n.seq (ch52.n.seq (ch54.n.seq ((ch59.l rfl).seq (ch64.n.seq (hb67.n.seq (ch71.n.seq ch79.n)))))))))))))
 replace bH:=bH.ca C87
 exact⟨(congrArg (a₁:=decide (((cS (2,([(0,1),(0,1)]:List Pt))).2)=0)) (λ(z0:Bool)=>Ending.returned (vb z0)) e0),bH.below⟩
theorem kF(w0:World)(g:(Int)×(List Pt))(g_v:Value)(hg_v:Ro w0 g_v g.2):
    Calls Try.prog 9 #[vg [vi g.1,g_v]] w0 (λee w=>ee= .returned (vb (decide (¬bw g\/(g.1<=40/\g.2.length<=60))))/\d6 w0.heap.size w0 w):=by
 refine aq Try.func9 rfl nq ?_
 have bH:=bd.start w0
 have Rg:=hg_v.sl
 refine a4 (a3 rfl (dG rfl (d3 c0 (is 1) (1,0) rfl rfl ?_)))
 intro g4 w1 b3 ch2 bx5
 replace bx5:Bx g4 (is 1) w1 b3 [vi g.1,g_v]:=bx5
 refine ma (vb false) (a8 (a4 (a3 rfl (lx (aC (ds:=[vi g.1,g_v]) bi rfl bx5 rfl rfl) ?_))))
 replace Rg:=Rg.cn ch2
 refine lo (cL (v:=vb (c6 g)) (aW (vals:=[vg [vi g.1,g_v]]) Try.func16 k8 jR rfl) (jD w1 g g_v (Rg).ro) ?_)
 intro w6 hb7
 replace hb7:=aQ hb7 g4
 refine lx (dA (b:=(c6 g)) rfl) (mv (vb (!(c6 g))) ?_)
 by_cases q6:(c6 g)=true
 ·
  refine lv (vp b3 0) (wy (congrArg Bool.not q6)) (a5 cQ rfl rfl rfl rfl) ?_
  replace bx5:=bx5.cn hb7
  refine lv (vi g.1) (wy (congrArg Bool.not q6)) (a6 a9 rfl bx5 rfl) (lv (vb (decide (g.1<=40))) (wy (congrArg Bool.not q6)) (lp (m:=g.1) (n:=40) rfl rfl) (lv (vb (decide (g.1<=40))) (wy (congrArg Bool.not q6)) (ah rfl) ?_))
  by_cases q10:g.1<=40
  ·
   refine lv (vp b3 1) (wy (dt q10)) (a5 cQ rfl rfl rfl rfl) (lv (g_v) (wy (dt q10)) (a6 bt rfl bx5 rfl) ?_)
   replace Rg:=Rg.cn hb7
   have dL:=(Rg).small
   refine lv (vi (g.2.length:Int)) (wy (dt q10)) (bm da rfl Rg) (lv (vb (decide ((g.2.length:Int)<=60))) (wy (dt q10)) (lp (m:=(g.2.length:Int)) (n:=60) rfl rfl) (lv (vb (decide ((g.2.length:Int)<=60))) (wy (congrArg Bool.not q6)) (aS rfl (dt q10) rfl) (lw (vb (decide ((g.2.length:Int)<=60))) (ba rfl (congrArg Bool.not q6) rfl) (ma (vb (decide ((g.2.length:Int)<=60))) (a8 (aE (vs:=[vb (decide ((g.2.length:Int)<=60))]) Try.func9 (.tmp rfl .nil) ?_))))))
   have e0:(decide ((g.2.length:Int)<=60):Bool)=(decide (¬bw g\/(g.1<=40/\g.2.length<=60))):=by
     exact kZ ‹_› ‹_›
   replace bH:=bH.cn ch2
   replace bH:=bH.cn hb7
   exact⟨(congrArg (a₁:=decide ((g.2.length:Int)<=60)) (λ(z0:Bool)=>Ending.returned (vb z0)) e0),bH.below⟩
  refine aO (wn (df q10)) (aO (wn (df q10)) (aO (wn (df q10)) (aO (wn (df q10)) (lv (vb false) (wy (congrArg Bool.not q6)) (ba rfl (df q10) rfl) (lw (vb false) (ba rfl (congrArg Bool.not q6) rfl) (ma (vb false) (a8 (aE (vs:=[vb false]) Try.func9 (.tmp rfl .nil) ?_))))))))
  have e0:(false:Bool)=(decide (¬bw g\/(g.1<=40/\g.2.length<=60))):=by
    exact kU ‹_› ‹_›
  replace bH:=bH.cn ch2
  replace bH:=bH.cn hb7
  exact⟨rb e0,bH.below⟩
 refine aO (wn (congrArg Bool.not (Bool.eq_false_iff.2 q6))) (aO (wn (congrArg Bool.not (Bool.eq_false_iff.2 q6))) (aO (wn (congrArg Bool.not (Bool.eq_false_iff.2 q6))) (aO (wn (congrArg Bool.not (Bool.eq_false_iff.2 q6))) (aO (bh rfl rfl rfl) (aO (bh rfl rfl rfl) (aO (bh rfl rfl rfl) (aO (bh rfl rfl rfl) (aO (wn (congrArg Bool.not (Bool.eq_false_iff.2 q6))) (lw (vb true) (aS rfl (congrArg Bool.not (Bool.eq_false_iff.2 q6)) rfl) ?_)))))))))
 refine ma (vb true) (a8 (aE (vs:=[vb true]) Try.func9 (.tmp rfl .nil) ?_))
 have e0:(true:Bool)=(decide (¬bw g\/(g.1<=40/\g.2.length<=60))):=by
   exact lE ‹_›
 replace bH:=bH.cn ch2
 replace bH:=bH.cn hb7
 exact⟨rb e0,bH.below⟩
end TL
