import Derived.Test.YtmakonaaojadbaaBaTlP4
import Derived.Test.YtmakonaaojadbaaBaTlGmA
import Derived.Test.YtmakonaaojadbaaBaTlGenA
import Derived.Test.YtmakonaaojadbaaBaTlBkE
import Derived.Test.YtmakonaaojadbaaBaTlCtT
import Derived.Test.YtmakonaaojadbaaProg
import Derived.Test.YtmakonaaojadbaaBaTlAli
set_option linter.all false
set_option maxRecDepth 20000
namespace TL
open Go Go.Proofs
theorem pb:Try.f11.body.isNone=false:=rfl
theorem pD:(Try.f11.name== "runtime.NumGoroutine")=false:=by decide+kernel
theorem pF:Try.f12.body.isNone=false:=rfl
theorem oR:(Try.f12.name== "runtime.NumGoroutine")=false:=by decide+kernel
theorem oK:Try.f13.body.isNone=false:=rfl
theorem ou:(Try.f13.name== "runtime.NumGoroutine")=false:=by decide+kernel
theorem oW:Try.f14.body.isNone=false:=rfl
theorem py:(Try.f14.name== "runtime.NumGoroutine")=false:=by decide+kernel
theorem tq:Try.f16.body.isNone=false:=rfl
theorem sj:(Try.f16.name== "runtime.NumGoroutine")=false:=by decide+kernel
theorem sO:Try.f26.body.isNone=false:=rfl
theorem rX:(Try.f26.name== "runtime.NumGoroutine")=false:=by decide+kernel
theorem mo:Try.f35.body.isNone=false:=rfl
theorem mb:(Try.f35.name== "runtime.NumGoroutine")=false:=by decide+kernel
theorem iv(w0:World):
    Calls Try.prog 35 #[] w0 (λee w=>∃xx:aJ×Value,ee= .returned ((λ⟨δ,rv0⟩=>vg [vi bj.1,rv0]) xx)/\(λ(⟨δ,rv0⟩:aJ×Value) (w:World)=>fv w0 δ w/\Ow δ (is 1) (is 1) w rv0 bj.2) xx w):=by
 refine aC Try.func35 rfl nq ?_
 have bH:=bv.start w0
 refine ab (a8 rfl (db rfl (bI c0 (is 1) (1,0) rfl ch ?_)))
 intro g4 w1 b3 ch2 bx5
 replace bx5:Bx g4 (is 1) w1 b3 [vi 0,vn]:=bx5
 refine ag (ab (a8 rfl (lw (vg [vi 0,vi 1]) (bE (vs:=[(0,vi 0),(1,vi 1)]) rfl (by kernel_rfl)) (lw (vg [vi 1,vi 2]) (bE (vs:=[(0,vi 1),(1,vi 2)]) rfl (by kernel_rfl)) (lw (vg [vi 2,vi 0]) (bE (vs:=[(0,vi 2),(1,vi 0)]) rfl (by kernel_rfl)) (lw (vg [vi 2,vi 3]) (bE (vs:=[(0,vi 2),(1,vi 3)]) rfl (by kernel_rfl)) (lw (vg [vi 3,vi 3]) (bE (vs:=[(0,vi 3),(1,vi 3)]) rfl (by kernel_rfl)) (lo ?_))))))))
 refine aM (α:=Pt) g4 (is 2) (is 2) (2,0) rfl [(0,1),(1,2),(2,0),(2,3),(3,3)] dD aU (by decide) (by decide) (vs:=[(0,vg [vi 0,vi 1]),(1,vg [vi 1,vi 2]),(2,vg [vi 2,vi 0]),(3,vg [vi 2,vi 3]),(4,vg [vi 3,vi 3])]) rfl rfl (.cons rfl (.cons rfl (.cons rfl (.cons rfl (.cons rfl .nil))))) ?_
 intro g6 w7 v8 ch9 o10
 refine lw (vg [vi 4,v8]) (bE (vs:=[(0,vi 4),(1,v8)]) rfl (by rw[Sl.form o10.flat];kernel_rfl)) (lo ?_)
 replace bx5:=bx5.cn ch9
 refine aI (cs':=[vi 4,v8]) ch rfl rfl bx5 rfl nq (AllOne.all (.cons rfl (.cons (bQ o10.flat) .nil))) rfl ?_
 intro w11 ch12 bx13
 clear bx5
 refine ag (aQ (vs:=[vg [vi 4,v8]]) Try.func35 (.cell rfl (dR (ds:=[vi 4,v8]) ch bx13 rfl rfl) .nil) ?_)
 have C14:=cg [1] (ch2.n.seq (ch9.n.seq (ch12.l rfl)))
 replace bH:=bH.ca C14
 replace o10:=o10.ce ch12
 have e0:((4,[(0,1),(1,2),(2,0),(2,3),(3,3)]):(Int)×(List Pt))=(bj):=by
   rfl
 exact⟨(fin w0 g6 (λn=>if n=2 then 1 else 0),v8),(congrArg (a₁:=(4,[(0,1),(1,2),(2,0),(2,3),(3,3)])) (λ(z0:(Int)×(List Pt))=>Ending.returned (vg [vi z0.1,v8])) e0),bH.fresh _,((congrArg (λ(z:(Int)×(List Pt))=>z.2) e0)▸(o10.glue (γ:=c0) (ren:=(λn=>if n=2 then 1 else 0)) (k:=1) bH.col rfl rfl))⟩
set_option maxHeartbeats 4000000 in
theorem pT(w0:World):
    Calls Try.prog 8 #[] w0 (λee w=>ee= .returned (vb true)/\dT w0.heap.size w0 w):=by
 refine aC Try.func8 rfl nq ?_
 have bH:=bv.start w0
 refine ab (a8 rfl (ma (vb false) (ag (ab (a8 rfl (db rfl (ck (b9 (vals:=[]) Try.func35 mo mb rfl) (iv w0) ?_)))))))
 rintro⟨d2,v4⟩ w1 ⟨fr3,o5⟩
 obtain⟨g6,ch7,G6⟩:=jh c0 fr3 (λn=>if n=1 then 1 else 0)
 replace o5:=o5.gl G6 1
 refine lo (ck (b9 (vals:=[vg [vi bj.1,v4]]) Try.func11 pb pD rfl) (kI w1 bj v4 (o5.flat).ro) ?_)
 rintro⟨d9,v11,v13⟩ w8 ⟨fr10,o12,o14⟩
 obtain⟨g15,ch16,G15⟩:=jh g6 fr10 (λn=>if n=1 then 2 else if n=2 then 3 else 0)
 replace o12:=o12.gl G15 2
 replace o14:=o14.gl G15 3
 refine mv (vt [vg [v11,v13,vi ((((aA bj).1).2).2)],vi ((aA bj).2)]) (lx (aR rfl rfl) (lx (aR rfl rfl) (lo (bI g15 (is 4) (4,0) rfl dC ?_))))
 intro g20 w17 b19 ch18 bx21
 replace bx21:Bx g20 (is 4) w17 b19 [vn,vn,vi 0]:=bx21
 refine lo ?_
 replace o14:=o14.cn ch18
 replace o12:=o12.cn ch18
 refine aI (cs':=[v11,v13,vi ((((aA bj).1).2).2)]) dC rfl rfl bx21 rfl nq (AllOne.all (.cons (bQ o12.flat) (.cons (bQ o14.flat) (.cons rfl .nil)))) rfl ?_
 intro w22 ch23 bx24
 clear bx21
 refine ai ((aA bj).2) (ag (ab ?_))
 clear o5
 refine a8 rfl (db rfl (ck (b9 (vals:=[]) Try.func35 mo mb rfl) (iv w22) ?_))
 rintro⟨d26,v28⟩ w25 ⟨fr27,o29⟩
 obtain⟨g30,ch31,G30⟩:=jh g20 fr27 (λn=>if n=1 then 5 else 0)
 replace o29:=o29.gl G30 5
 refine lo (ck (b9 (vals:=[vg [vi bj.1,v28]]) Try.func12 pF oR rfl) (kq w25 bj v28 (o29.flat).ro) ?_)
 rintro⟨d33,v35⟩ w32 ⟨fr34,o36⟩
 obtain⟨g37,ch38,G37⟩:=jh g30 fr34 (λn=>if n=1 then 6 else 0)
 replace o36:=o36.gl G37 6
 refine mv (vt [v35,vi ((aH bj).2)]) (lx (aR rfl rfl) (lx (aR rfl rfl) (ma v35 (ai ((aH bj).2) (ag (ab ?_))))))
 clear o29
 refine a8 rfl (db rfl (ck (b9 (vals:=[]) Try.func35 mo mb rfl) (iv w32) ?_))
 rintro⟨d40,v42⟩ w39 ⟨fr41,o43⟩
 obtain⟨g44,ch45,G44⟩:=jh g37 fr41 (λn=>if n=1 then 7 else 0)
 replace o43:=o43.gl G44 7
 refine lo (ck (b9 (vals:=[vg [vi bj.1,v42]]) Try.func13 oK ou rfl) (n8 w39 bj v42 (o43.flat).ro) ?_)
 rintro⟨d47,v49⟩ w46 ⟨fr48,o50⟩
 obtain⟨g51,ch52,G51⟩:=jh g44 fr48 (λn=>if n=1 then 8 else 0)
 replace o50:=o50.gl G51 8
 refine mv (vt [vg [vi (((aO bj).1).1),v49],vi ((aO bj).2)]) (lx (aR rfl rfl) (lx (aR rfl rfl) (lo (bI g51 (is 9) (9,0) rfl ch ?_))))
 intro g56 w53 b55 ch54 bx57
 replace bx57:Bx g56 (is 9) w53 b55 [vi 0,vn]:=bx57
 refine lo ?_
 replace o50:=o50.cn ch54
 refine aI (cs':=[vi (((aO bj).1).1),v49]) ch rfl rfl bx57 rfl nq (AllOne.all (.cons rfl (.cons (bQ o50.flat) .nil))) rfl ?_
 intro w58 ch59 bx60
 clear bx57
 refine ai ((aO bj).2) (ag (ab ?_))
 clear o43
 refine a8 rfl (lw (vg [vi 0,vi 1]) (bE (vs:=[(0,vi 0),(1,vi 1)]) rfl (by kernel_rfl)) (lo (aM (α:=Pt) g56 (is 10) (is 10) (10,0) rfl ([(0,1)]:List Pt) dD aU (by decide) (by decide) (vs:=[(0,vg [vi 0,vi 1])]) rfl rfl (.cons rfl .nil) ?_)))
 intro g61 w62 v63 ch64 o65
 refine lw (vg [vi 2,v63]) (bE (vs:=[(0,vi 2),(1,v63)]) rfl (by rw[Sl.form o65.flat];kernel_rfl)) (lo (cC (v:=vt [vb ((bF (2,([(0,1)]:List Pt))).1),vi ((bF (2,([(0,1)]:List Pt))).2)]) (b9 (vals:=[vg [vi 2,v63]]) Try.func14 oW py rfl) (mV w62 (2,([(0,1)]:List Pt)) v63 (o65.flat).ro) ?_))
 intro w66 hb67
 replace hb67:=aS hb67 g61
 refine mv (vt [vb ((bF (2,([(0,1)]:List Pt))).1),vi ((bF (2,([(0,1)]:List Pt))).2)]) (lx (aR rfl rfl) (lx (aR rfl rfl) (ma (vb ((bF (2,([(0,1)]:List Pt))).1)) (ai ((bF (2,([(0,1)]:List Pt))).2) (ag (ab ?_))))))
 clear o65
 refine a8 rfl (lw (vg [vi 0,vi 1]) (bE (vs:=[(0,vi 0),(1,vi 1)]) rfl (by kernel_rfl)) (lw (vg [vi 0,vi 1]) (bE (vs:=[(0,vi 0),(1,vi 1)]) rfl (by kernel_rfl)) (lo (aM (α:=Pt) g61 (is 11) (is 11) (11,0) rfl ([(0,1),(0,1)]:List Pt) dD aU (by decide) (by decide) (vs:=[(0,vg [vi 0,vi 1]),(1,vg [vi 0,vi 1])]) rfl rfl (.cons rfl (.cons rfl .nil)) ?_))))
 intro g68 w69 v70 ch71 o72
 refine lw (vg [vi 2,v70]) (bE (vs:=[(0,vi 2),(1,v70)]) rfl (by rw[Sl.form o72.flat];kernel_rfl)) (lo (ck (b9 (vals:=[vg [vi 2,v70]]) Try.func26 sO rX rfl) (tW w69 (2,([(0,1),(0,1)]:List Pt)) v70 (o72.flat).ro (by exact sm)) ?_))
 rintro⟨d74,v76⟩ w73 ⟨fr75,o77⟩
 obtain⟨g78,ch79,G78⟩:=jh g68 fr75 (λn=>if n=1 then 12 else 0)
 replace o77:=o77.gl G78 12
 refine mv (vt [v76,vi ((dV (2,([(0,1),(0,1)]:List Pt))).2)]) (lx (aR rfl rfl) (lx (aR rfl rfl) (ma v76 (ai ((dV (2,([(0,1),(0,1)]:List Pt))).2) (ag (ab ?_))))))
 clear o72
 refine a8 rfl (lx (ad eD rfl rfl rfl rfl) ?_)
 have C80:=cg [9] (ch31.n.seq (ch38.n.seq (ch45.n.seq (ch52.n.seq (ch54.n.seq ((ch59.l rfl).seq (ch64.n.seq (hb67.n.seq (ch71.n.seq ch79.n)))))))))
 replace bx24:=bx24.ca C80
 refine lx (af ah rfl bx24 rfl) (lx (cH (m:=(((aA bj).1).2).2) (n:=3) rfl rfl) (mv (vb (decide (((((aA bj).1).2).2)=3))) ?_))
 have q44:((((aA bj).1).2).2)=3:=by rfl
 refine lv (vp b19 1) (wy (dt q44)) (ad eD rfl rfl rfl rfl) (lv (v13) (wy (dt q44)) (af ay rfl bx24 rfl) ?_)
 have C81:=cg [4,9] ((ch23.l rfl).seq (ch31.n.seq (ch38.n.seq (ch45.n.seq (ch52.n.seq (ch54.n.seq ((ch59.l rfl).seq (ch64.n.seq (hb67.n.seq (ch71.n.seq ch79.n))))))))))
 replace o14:=o14.ca C81
 have len82:=(o14.flat).small
 refine lv (vi (List.length ((((aA bj).1).2).1):Int)) (wy (dt q44)) (bu bf rfl o14.flat) (lv (vb (decide ((List.length ((((aA bj).1).2).1):Int)=2))) (wy (dt q44)) (cH (m:=(List.length ((((aA bj).1).2).1):Int)) (n:=2) rfl rfl) (lw (vb (decide ((List.length ((((aA bj).1).2).1):Int)=2))) (b5 rfl (dt q44) rfl) (mv (vb (decide ((List.length ((((aA bj).1).2).1):Int)=2))) ?_)))
 have q50:(List.length ((((aA bj).1).2).1):Int)=2:=by rfl
 refine lv (vi ((aA bj).2)) (wy (dt q50)) (au rfl) (lv (vb (decide (((aA bj).2)=0))) (wy (dt q50)) (cH (m:=(aA bj).2) (n:=0) rfl rfl) (lw (vb (decide (((aA bj).2)=0))) (b5 rfl (dt q50) rfl) (mv (vb (decide (((aA bj).2)=0))) ?_)))
 have q54:((aA bj).2)=0:=by rfl
 refine lv (v35) (wy (dt q54)) (au rfl) ?_
 have C83:=cg [9] (ch45.n.seq (ch52.n.seq (ch54.n.seq ((ch59.l rfl).seq (ch64.n.seq (hb67.n.seq (ch71.n.seq ch79.n)))))))
 replace o36:=o36.ca C83
 have len84:=(o36.flat).small
 refine lv (vi (List.length ((aH bj).1):Int)) (wy (dt q54)) (bu bf rfl o36.flat) (lv (vb (decide ((List.length ((aH bj).1):Int)=1))) (wy (dt q54)) (cH (m:=(List.length ((aH bj).1):Int)) (n:=1) rfl rfl) (lw (vb (decide ((List.length ((aH bj).1):Int)=1))) (b5 rfl (dt q54) rfl) (mv (vb (decide ((List.length ((aH bj).1):Int)=1))) ?_)))
 have q59:(List.length ((aH bj).1):Int)=1:=by rfl
 refine lv (v35) (wy (dt q59)) (au rfl) (lv (Value.pointer (some (aZ v35 1 (Int.toNat 0)))) (wy (dt q59)) (ae (α:=Int) (xs:=(aH bj).1) (v:=v35) (i:=0) bf rfl rfl o36.flat rfl (by omega) (by omega)) (lv (vi (gI ((aH bj).1) 0)) (wy (dt q59)) (aq (α:=Int) (xs:=(aH bj).1) (v:=v35) (i:=0) ah rfl o36.flat (by omega) (by omega) (by decide) rfl) (lv (vb (decide ((gI ((aH bj).1) 0)=3))) (wy (dt q59)) (cH (m:=(gI ((aH bj).1) 0)) (n:=3) rfl rfl) (lw (vb (decide ((gI ((aH bj).1) 0)=3))) (b5 rfl (dt q59) rfl) (mv (vb (decide ((gI ((aH bj).1) 0)=3))) ?_)))))
 have q65:(gI ((aH bj).1) 0)=3:=by rfl
 refine lv (vi ((aH bj).2)) (wy (dt q65)) (au rfl) (lv (vb (decide (((aH bj).2)=0))) (wy (dt q65)) (cH (m:=(aH bj).2) (n:=0) rfl rfl) (lw (vb (decide (((aH bj).2)=0))) (b5 rfl (dt q65) rfl) (mv (vb (decide (((aH bj).2)=0))) ?_)))
 have q69:((aH bj).2)=0:=by rfl
 refine lv (vp b55 0) (wy (dt q69)) (ad cZ rfl rfl rfl rfl) ?_
 have C85:=cg [] (ch64.n.seq (hb67.n.seq (ch71.n.seq ch79.n)))
 replace bx60:=bx60.ca C85
 refine lv (vi (((aO bj).1).1)) (wy (dt q69)) (af ah rfl bx60 rfl) (lv (vb (decide ((((aO bj).1).1)=5))) (wy (dt q69)) (cH (m:=((aO bj).1).1) (n:=5) rfl rfl) (lw (vb (decide ((((aO bj).1).1)=5))) (b5 rfl (dt q69) rfl) (mv (vb (decide ((((aO bj).1).1)=5))) ?_)))
 have q74:(((aO bj).1).1)=5:=by rfl
 refine lv (vi ((aO bj).2)) (wy (dt q74)) (au rfl) (lv (vb (decide (((aO bj).2)=0))) (wy (dt q74)) (cH (m:=(aO bj).2) (n:=0) rfl rfl) (lw (vb (decide (((aO bj).2)=0))) (b5 rfl (dt q74) rfl) (mv (vb (decide (((aO bj).2)=0))) ?_)))
 have q78:((aO bj).2)=0:=by rfl
 refine lv (vb ((bF (2,([(0,1)]:List Pt))).1)) (wy (dt q78)) (au rfl) (lw (vb ((bF (2,([(0,1)]:List Pt))).1)) (b5 rfl (dt q78) rfl) (mv (vb ((bF (2,([(0,1)]:List Pt))).1)) ?_))
 have q81:((bF (2,([(0,1)]:List Pt))).1)=true:=by rfl
 refine lv (vi ((bF (2,([(0,1)]:List Pt))).2)) (wy q81) (au rfl) (lv (vb (decide (((bF (2,([(0,1)]:List Pt))).2)=0))) (wy q81) (cH (m:=(bF (2,([(0,1)]:List Pt))).2) (n:=0) rfl rfl) (lw (vb (decide (((bF (2,([(0,1)]:List Pt))).2)=0))) (b5 rfl q81 rfl) (mv (vb (decide (((bF (2,([(0,1)]:List Pt))).2)=0))) ?_)))
 have q85:((bF (2,([(0,1)]:List Pt))).2)=0:=by rfl
 refine lv (v76) (wy (dt q85)) (au rfl) ?_
 have len86:=(o77.sl).small
 refine lv (vi (List.length ((dV (2,([(0,1),(0,1)]:List Pt))).1):Int)) (wy (dt q85)) (bu dB rfl o77.sl) (lv (vb (decide ((List.length ((dV (2,([(0,1),(0,1)]:List Pt))).1):Int)=1))) (wy (dt q85)) (cH (m:=(List.length ((dV (2,([(0,1),(0,1)]:List Pt))).1):Int)) (n:=1) rfl rfl) (lw (vb (decide ((List.length ((dV (2,([(0,1),(0,1)]:List Pt))).1):Int)=1))) (b5 rfl (dt q85) rfl) (mv (vb (decide ((List.length ((dV (2,([(0,1),(0,1)]:List Pt))).1):Int)=1))) ?_)))
 have q90:(List.length ((dV (2,([(0,1),(0,1)]:List Pt))).1):Int)=1:=by rfl
 refine lv (vi ((dV (2,([(0,1),(0,1)]:List Pt))).2)) (wy (dt q90)) (au rfl) (lv (vb (decide (((dV (2,([(0,1),(0,1)]:List Pt))).2)=0))) (wy (dt q90)) (cH (m:=(dV (2,([(0,1),(0,1)]:List Pt))).2) (n:=0) rfl rfl) (lw (vb (decide (((dV (2,([(0,1),(0,1)]:List Pt))).2)=0))) (b5 rfl (dt q90) rfl) (ma (vb (decide (((dV (2,([(0,1),(0,1)]:List Pt))).2)=0))) (ag (aQ (vs:=[vb (decide (((dV (2,([(0,1),(0,1)]:List Pt))).2)=0))]) Try.func8 (.tmp rfl .nil) ?_)))))
 have e0:(decide (((dV (2,([(0,1),(0,1)]:List Pt))).2)=0):Bool)=(true):=by
   rfl
 have C87:=cg [4,9] (ch7.n.seq (ch16.n.seq (ch18.n.seq ((ch23.l rfl).seq (ch31.n.seq (ch38.n.seq (ch45.n.seq (ch52.n.seq (ch54.n.seq ((ch59.l rfl).seq (ch64.n.seq (hb67.n.seq (ch71.n.seq ch79.n)))))))))))))
 replace bH:=bH.ca C87
 exact⟨(congrArg (a₁:=decide (((dV (2,([(0,1),(0,1)]:List Pt))).2)=0)) (λ(z0:Bool)=>Ending.returned (vb z0)) e0),bH.below⟩
theorem ql(w0:World)(g:(Int)×(List Pt))(g_v:Value)(hg_v:Ro w0 g_v g.2):
    Calls Try.prog 9 #[vg [vi g.1,g_v]] w0 (λee w=>ee= .returned (vb (decide (¬bg g\/(g.1<=40/\g.2.length<=60))))/\dT w0.heap.size w0 w):=by
 refine aC Try.func9 rfl nq ?_
 have bH:=bv.start w0
 have Rg:=hg_v.sl
 refine ab (a8 rfl (db rfl (d4 c0 (is 1) (1,0) rfl rfl ?_)))
 intro g4 w1 b3 ch2 bx5
 replace bx5:Bx g4 (is 1) w1 b3 [vi g.1,g_v]:=bx5
 refine ma (vb false) (ag (ab (a8 rfl (lx (aB (ds:=[vi g.1,g_v]) ch rfl bx5 rfl rfl) ?_))))
 replace Rg:=Rg.cn ch2
 refine lo (cC (v:=vb (d5 g)) (b9 (vals:=[vg [vi g.1,g_v]]) Try.func16 tq sj rfl) (lQ w1 g g_v (Rg).ro) ?_)
 intro w6 hb7
 replace hb7:=aS hb7 g4
 refine lx (ek (b:=(d5 g)) rfl) (mv (vb (!(d5 g))) ?_)
 by_cases q6:(d5 g)=true
 ·
  refine lv (vp b3 0) (wy (congrArg Bool.not q6)) (ad cZ rfl rfl rfl rfl) ?_
  replace bx5:=bx5.cn hb7
  refine lv (vi g.1) (wy (congrArg Bool.not q6)) (af ah rfl bx5 rfl) (lv (vb (decide (g.1<=40))) (wy (congrArg Bool.not q6)) (n4 (m:=g.1) (n:=40) rfl rfl) (lv (vb (decide (g.1<=40))) (wy (congrArg Bool.not q6)) (au rfl) ?_))
  by_cases q10:g.1<=40
  ·
   refine lv (vp b3 1) (wy (dt q10)) (ad cZ rfl rfl rfl rfl) (lv (g_v) (wy (dt q10)) (af bC rfl bx5 rfl) ?_)
   replace Rg:=Rg.cn hb7
   have uT:=(Rg).small
   refine lv (vi (g.2.length:Int)) (wy (dt q10)) (bu dD rfl Rg) (lv (vb (decide ((g.2.length:Int)<=60))) (wy (dt q10)) (n4 (m:=(g.2.length:Int)) (n:=60) rfl rfl) (lv (vb (decide ((g.2.length:Int)<=60))) (wy (congrArg Bool.not q6)) (b5 rfl (dt q10) rfl) (lw (vb (decide ((g.2.length:Int)<=60))) (aY rfl (congrArg Bool.not q6) rfl) (ma (vb (decide ((g.2.length:Int)<=60))) (ag (aQ (vs:=[vb (decide ((g.2.length:Int)<=60))]) Try.func9 (.tmp rfl .nil) ?_))))))
   have e0:(decide ((g.2.length:Int)<=60):Bool)=(decide (¬bg g\/(g.1<=40/\g.2.length<=60))):=by
     exact rG ‹_› ‹_›
   replace bH:=bH.cn ch2
   replace bH:=bH.cn hb7
   exact⟨(congrArg (a₁:=decide ((g.2.length:Int)<=60)) (λ(z0:Bool)=>Ending.returned (vb z0)) e0),bH.below⟩
  refine ax (wn (df q10)) (ax (wn (df q10)) (ax (wn (df q10)) (ax (wn (df q10)) (lv (vb false) (wy (congrArg Bool.not q6)) (aY rfl (df q10) rfl) (lw (vb false) (aY rfl (congrArg Bool.not q6) rfl) (ma (vb false) (ag (aQ (vs:=[vb false]) Try.func9 (.tmp rfl .nil) ?_))))))))
  have e0:(false:Bool)=(decide (¬bg g\/(g.1<=40/\g.2.length<=60))):=by
    exact qw ‹_› ‹_›
  replace bH:=bH.cn ch2
  replace bH:=bH.cn hb7
  exact⟨rb e0,bH.below⟩
 refine ax (wn (congrArg Bool.not (Bool.eq_false_iff.2 q6))) (ax (wn (congrArg Bool.not (Bool.eq_false_iff.2 q6))) (ax (wn (congrArg Bool.not (Bool.eq_false_iff.2 q6))) (ax (wn (congrArg Bool.not (Bool.eq_false_iff.2 q6))) (ax (aN rfl rfl rfl) (ax (aN rfl rfl rfl) (ax (aN rfl rfl rfl) (ax (aN rfl rfl rfl) (ax (wn (congrArg Bool.not (Bool.eq_false_iff.2 q6))) (lw (vb true) (b5 rfl (congrArg Bool.not (Bool.eq_false_iff.2 q6)) rfl) ?_)))))))))
 refine ma (vb true) (ag (aQ (vs:=[vb true]) Try.func9 (.tmp rfl .nil) ?_))
 have e0:(true:Bool)=(decide (¬bg g\/(g.1<=40/\g.2.length<=60))):=by
   exact qR ‹_›
 replace bH:=bH.cn ch2
 replace bH:=bH.cn hb7
 exact⟨rb e0,bH.below⟩
end TL
