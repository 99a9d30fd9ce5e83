import Derived.Test.YtbadiajeohbpcaaGTlP2
import Derived.Test.YtbadiajeohbpcaaGTlGjA
import Derived.Test.YtbadiajeohbpcaaGTlGjB
import Derived.Test.YtbadiajeohbpcaaGTlGjC
import Derived.Test.YtbadiajeohbpcaaGTlGjD
import Derived.Test.YtbadiajeohbpcaaProg
set_option linter.all false
set_option maxRecDepth 20000
namespace TL
open Go Go.Proofs
theorem nR : Try.prog.follows .mixedOrders = true := by kernel_rfl
theorem pN : Try.f10.body.isNone = false := rfl
theorem oL : (Try.f10.name == "runtime.NumGoroutine") = false := by decide +kernel
theorem ip : Try.f11.body.isNone = false := rfl
theorem ib : (Try.f11.name == "runtime.NumGoroutine") = false := by decide +kernel
theorem dw : Try.f18.body.isNone = false := rfl
theorem dv : (Try.f18.name == "runtime.NumGoroutine") = false := by decide +kernel
theorem lM : Try.f19.body.isNone = false := rfl
theorem lb : (Try.f19.name == "runtime.NumGoroutine") = false := by decide +kernel
theorem qO : Try.f25.body.isNone = false := rfl
theorem pe : (Try.f25.name == "runtime.NumGoroutine") = false := by decide +kernel
theorem dz (w0 : World) (x : Int) (y : Int) :
    Calls Try.prog 18 #[vi x, vi y] w0 (fun ee w => ee = .returned (vg [vi x, vi y]) ∧ cQ w0.heap.size w0 w) := by
 refine aC Try.func18 rfl (Nat.le_of_ble_eq_true rfl) ?_
 have bH := bf.start w0
 refine a7 (a6 rfl (bY rfl (aQ c0 (is 1) (1, 0) rfl ab ?_)))
 intro g4 w1 b3 ch2 bx5
 replace bx5 : Bx g4 (is 1) w1 b3 [vi 0, vi 0] := bx5
 refine aa (a7 (a6 rfl (mi x (mi y (lw (vg [vi x, vi y]) (bz (vs := [(0, vi x), (1, vi y)]) rfl (by kernel_rfl)) (lo (ag (cs' := [vi x, vi y]) ab rfl rfl bx5 rfl (Nat.le_of_ble_eq_true rfl) (AllOne.all (.cons rfl (.cons rfl .nil))) rfl ?_)))))))
 intro w6 ch7 bx8
 clear bx5
 refine aa (al (vs := [vg [vi x, vi y]]) Try.func18 (.cell rfl (d7 (ds := [vi x, vi y]) ab bx8 rfl rfl) .nil) ?_)
 have e0 : ((x, y) : (Int) × (Int)) = ((x, y)) := by
   rfl
 replace bH := bH.cn ch2
 replace bH := bH.ce ch7
 exact ⟨(congrArg (a₁ := (x, y)) (fun (z0 : (Int) × (Int)) => Ending.returned (vg [vi z0.1, vi z0.2])) e0), bH.below⟩
set_option maxHeartbeats 4000000 in
theorem l9 (w0 : World)  :
    Calls Try.prog 8 #[] w0 (fun ee w => ee = .returned (Value.bool true) ∧ cQ w0.heap.size w0 w) := by
 refine aC Try.func8 rfl (Nat.le_of_ble_eq_true rfl) ?_
 have bH := bf.start w0
 refine a7 (a6 rfl (ma (Value.bool false) (aa (a7 (a6 rfl (bY rfl (bJ (aw (vals := []) Try.func25 qO pe rfl) (aC Try.func25 rfl (Nat.le_of_ble_eq_true rfl) (a7 (a6 rfl (bY rfl (aQ c0 (is 1) (1, 0) rfl cj ?_))))))))))))
 intro g4 w1 b3 ch2 bx5
 replace bx5 : Bx g4 (is 1) w1 b3 [vi 0, vn] := bx5
 refine lo (aQ g4 (is 2) (2, 0) rfl co ?_)
 intro g9 w6 b8 ch7 bx10
 replace bx10 : Bx g9 (is 2) w6 b8 [vn, vn] := bx10
 refine aa (a7 (a6 rfl (lw (vg [vi 0, vi 1]) (bz (vs := [(0, vi 0), (1, vi 1)]) rfl (by kernel_rfl)) (lw (vg [vi 1, vi 2]) (bz (vs := [(0, vi 1), (1, vi 2)]) rfl (by kernel_rfl)) (lo (aJ (α := (Int) × (Int)) g9 (is 3) (is 3) (3, 0) rfl ([(0, 1), (1, 2)] : List ((Int) × (Int))) Try.underlying22 cF (by decide) (by decide) (vs := [(0, vg [vi 0, vi 1]), (1, vg [vi 1, vi 2])]) rfl rfl (.cons rfl (.cons rfl .nil)) ?_))))))
 intro g11 w12 v13 ch14 o15
 refine lw (vg [vi 3, v13]) (bz (vs := [(0, vi 3), (1, v13)]) rfl (by rw [Sl.form o15.flat]; kernel_rfl)) (lo (aF (v := vg [vi 0, vi 0]) (aw (vals := [vi 0, vi 0]) Try.func18 dw dv rfl) (dz w12 0 0) ?_))
 intro w16 hb17
 replace hb17 := ak hb17 g11
 refine lo (aF (v := vg [vi 2, vi 0]) (aw (vals := [vi 2, vi 0]) Try.func18 dw dv rfl) (dz w16 2 0) ?_)
 intro w18 hb19
 replace hb19 := ak hb19 g11
 refine lo (aF (v := vg [vi 1, vi 0]) (aw (vals := [vi 1, vi 0]) Try.func18 dw dv rfl) (dz w18 1 0) ?_)
 intro w20 hb21
 replace hb21 := ak hb21 g11
 refine lo (aJ (α := (Int) × (Int)) g11 (is 4) (is 4) (4, 0) rfl ([(0, 0), (2, 0), (1, 0)] : List ((Int) × (Int))) Try.underlying25 ab (by decide) (by decide) (vs := [(0, vg [vi 0, vi 0]), (1, vg [vi 2, vi 0]), (2, vg [vi 1, vi 0])]) rfl rfl (.cons rfl (.cons rfl (.cons rfl .nil))) ?_)
 intro g22 w23 v24 ch25 o26
 refine lo (aF (v := vg [vi 0, vi 0]) (aw (vals := [vi 0, vi 0]) Try.func18 dw dv rfl) (dz w23 0 0) ?_)
 intro w27 hb28
 replace hb28 := ak hb28 g22
 refine lo (aF (v := vg [vi 1, vi 1]) (aw (vals := [vi 1, vi 1]) Try.func18 dw dv rfl) (dz w27 1 1) ?_)
 intro w29 hb30
 replace hb30 := ak hb30 g22
 refine lo (aF (v := vg [vi 2, vi 0]) (aw (vals := [vi 2, vi 0]) Try.func18 dw dv rfl) (dz w29 2 0) ?_)
 intro w31 hb32
 replace hb32 := ak hb32 g22
 refine lo (aJ (α := (Int) × (Int)) g22 (is 5) (is 5) (5, 0) rfl ([(0, 0), (1, 1), (2, 0)] : List ((Int) × (Int))) Try.underlying25 ab (by decide) (by decide) (vs := [(0, vg [vi 0, vi 0]), (1, vg [vi 1, vi 1]), (2, vg [vi 2, vi 0])]) rfl rfl (.cons rfl (.cons rfl (.cons rfl .nil))) ?_)
 intro g33 w34 v35 ch36 o37
 refine lo (aF (v := vg [vi 2, vi 0]) (aw (vals := [vi 2, vi 0]) Try.func18 dw dv rfl) (dz w34 2 0) ?_)
 intro w38 hb39
 replace hb39 := ak hb39 g33
 refine lo (aF (v := vg [vi 1, vi 0]) (aw (vals := [vi 1, vi 0]) Try.func18 dw dv rfl) (dz w38 1 0) ?_)
 intro w40 hb41
 replace hb41 := ak hb41 g33
 refine lo (aJ (α := (Int) × (Int)) g33 (is 6) (is 6) (6, 0) rfl ([(2, 0), (1, 0)] : List ((Int) × (Int))) Try.underlying25 ab (by decide) (by decide) (vs := [(0, vg [vi 2, vi 0]), (1, vg [vi 1, vi 0])]) rfl rfl (.cons rfl (.cons rfl .nil)) ?_)
 intro g42 w43 v44 ch45 o46
 refine lo ?_
 have C49 := cg [] (hb39.n.seq (hb41.n.seq ch45.n))
 replace o37 := o37.ca C49
 obtain ⟨c47, hv48⟩ := lk (u := v35) (bM o37.flat)
 obtain ⟨c50, hv51⟩ := lk (u := v44) (bM o46.flat)
 refine aJ (α := Vc) g42 (is 7) (is 7) (7, 0) rfl [c47, c50] Try.underlying26 bk (by decide) (by decide) (vs := [(0, v35), (1, v44)]) rfl rfl (.cons (ju hv48 (bj o37.flat)) (.cons (ju hv51 (bj o46.flat)) .nil)) ?_
 intro g52 w53 v54 ch55 o56
 have C57 := cg [] (hb28.n.seq (hb30.n.seq (hb32.n.seq (ch36.n.seq (hb39.n.seq (hb41.n.seq (ch45.n.seq ch55.n)))))))
 replace o26 := o26.ca C57
 replace o46 := o46.cn ch55
 replace o37 := o37.cn ch55
 refine lw (vg [v24, v54]) (bz (vs := [(0, v24), (1, v54)]) rfl (by rw [Sl.form o26.flat, Sl.form (i3 o56 (VcR.consv hv48 (o37.flat).ro (VcR.consv hv51 (o46.flat).ro VcR.nil)))]; kernel_rfl)) (lo ?_)
 have C62 := cg [] (hb17.n.seq (hb19.n.seq (hb21.n.seq (ch25.n.seq (hb28.n.seq (hb30.n.seq (hb32.n.seq (ch36.n.seq (hb39.n.seq (hb41.n.seq (ch45.n.seq ch55.n)))))))))))
 have C61 := ch7.n.seq (ch14.n.seq C62)
 replace bx5 := bx5.ca C61
 replace o15 := o15.ca C62
 refine ag (cs' := [vi 3, v13]) cj rfl rfl bx5 rfl (Nat.le_of_ble_eq_true rfl) (AllOne.all (.cons rfl (.cons (bM o15.flat) .nil))) rfl ?_
 intro w58 ch59 bx60
 clear bx5
 refine lo ?_
 have C66 := cg [1] (ch14.n.seq (hb17.n.seq (hb19.n.seq (hb21.n.seq (ch25.n.seq (hb28.n.seq (hb30.n.seq (hb32.n.seq (ch36.n.seq (hb39.n.seq (hb41.n.seq (ch45.n.seq (ch55.n.seq (ch59.l rfl))))))))))))))
 replace bx10 := bx10.ca C66
 replace o46 := o46.ce ch59
 replace o37 := o37.ce ch59
 replace o56 := o56.ce ch59
 replace o26 := o26.ce ch59
 refine ag (cs' := [v24, v54]) co rfl rfl bx10 rfl (Nat.le_of_ble_eq_true rfl) (AllOne.all (.cons (bM o26.flat) (.cons (bM (i3 o56 (VcR.consv hv48 (o37.flat).ro (VcR.consv hv51 (o46.flat).ro VcR.nil)))) .nil))) rfl ?_
 intro w63 ch64 bx65
 clear bx10
 refine aa ?_
 replace bx60 := bx60.ce ch64
 refine al (vs := [vg [vi 3, v13], vg [v24, v54]]) Try.func25 (.cell rfl (d7 (ds := [vi 3, v13]) cj bx60 rfl rfl) (.cell rfl (d7 (ds := [v24, v54]) co bx65 rfl rfl) .nil)) ?_
 refine ⟨vt [vg [vi 3, v13], vg [v24, v54]], rfl, ?_⟩
 refine mv (vt [vg [vi 3, v13], vg [v24, v54]]) (lx (aW rfl rfl) (lx (aW rfl rfl) (lo (aQ g52 (is 8) (8, 0) rfl cj ?_))))
 intro g70 w67 b69 ch68 bx71
 replace bx71 : Bx g70 (is 8) w67 b69 [vi 0, vn] := bx71
 refine lo (aQ g70 (is 9) (9, 0) rfl co ?_)
 intro g75 w72 b74 ch73 bx76
 replace bx76 : Bx g75 (is 9) w72 b74 [vn, vn] := bx76
 refine lo ?_
 replace bx71 := bx71.cn ch73
 have C80 := cg [1, 2] ((ch59.l rfl).seq ((ch64.l rfl).seq (ch68.n.seq ch73.n)))
 replace o15 := o15.ca C80
 refine ag (cs' := [vi 3, v13]) cj rfl rfl bx71 rfl (Nat.le_of_ble_eq_true rfl) (AllOne.all (.cons rfl (.cons (bM o15.flat) .nil))) rfl ?_
 intro w77 ch78 bx79
 clear bx71
 refine lo ?_
 replace bx76 := bx76.ce ch78
 have C84 := cg [2, 8] ((ch64.l rfl).seq (ch68.n.seq (ch73.n.seq (ch78.l rfl))))
 replace o46 := o46.ca C84
 replace o37 := o37.ca C84
 replace o56 := o56.ca C84
 replace o26 := o26.ca C84
 refine ag (cs' := [v24, v54]) co rfl rfl bx76 rfl (Nat.le_of_ble_eq_true rfl) (AllOne.all (.cons (bM o26.flat) (.cons (bM (i3 o56 (VcR.consv hv48 (o37.flat).ro (VcR.consv hv51 (o46.flat).ro VcR.nil)))) .nil))) rfl ?_
 intro w81 ch82 bx83
 clear bx76
 refine aa (a7 ?_)
 clear bx60 bx65
 refine a6 rfl ?_
 replace bx79 := bx79.ce ch82
 refine lx (ad (ds := [vi 3, v13]) cj rfl bx79 rfl rfl) (lx (ad (ds := [v24, v54]) co rfl bx83 rfl rfl) ?_)
 replace o15 := (o15.ce ch78).ce ch82
 replace o26 := o26.ce ch82
 replace o46 := o46.ce ch82
 replace o37 := o37.ce ch82
 replace o56 := o56.ce ch82
 refine lo (cy (aw (vals := [vg [vi 3, v13], vg [v24, v54]]) Try.func11 ip ib rfl) (gS w81 (3, ([(0, 1), (1, 2)] : List ((Int) × (Int)))) v13 (o15.flat).ro (([(0, 0), (2, 0), (1, 0)] : List ((Int) × (Int))), [([(0, 0), (1, 1), (2, 0)] : List ((Int) × (Int))), ([(2, 0), (1, 0)] : List ((Int) × (Int)))]) v24 v54 (o26.flat).ro ((i3 o56 (VcR.consv hv48 (o37.flat).ro (VcR.consv hv51 (o46.flat).ro VcR.nil)))).ro) ?_)
 rintro ⟨d86, v88⟩ w85 ⟨fr87, o89⟩
 obtain ⟨g90, ch91, G90⟩ := m6 g75 fr87 (fun n => if n = 1 then 10 else 0)
 replace o89 := o89.gl G90 10
 refine mv (vt [v88, vi ((aK (3, ([(0, 1), (1, 2)] : List ((Int) × (Int)))) (([(0, 0), (2, 0), (1, 0)] : List ((Int) × (Int))), [([(0, 0), (1, 1), (2, 0)] : List ((Int) × (Int))), ([(2, 0), (1, 0)] : List ((Int) × (Int)))])).2)]) (lx (aW rfl rfl) (lx (aW rfl rfl) (ma v88 (ai ((aK (3, ([(0, 1), (1, 2)] : List ((Int) × (Int)))) (([(0, 0), (2, 0), (1, 0)] : List ((Int) × (Int))), [([(0, 0), (1, 1), (2, 0)] : List ((Int) × (Int))), ([(2, 0), (1, 0)] : List ((Int) × (Int)))])).2) (aa (a7 (a6 rfl ?_)))))))
 replace bx79 := bx79.cn ch91
 refine lx (ad (ds := [vi 3, v13]) cj rfl bx79 rfl rfl) ?_
 replace bx83 := bx83.cn ch91
 refine lx (ad (ds := [v24, v54]) co rfl bx83 rfl rfl) ?_
 replace o15 := o15.cn ch91
 replace o26 := o26.cn ch91
 replace o46 := o46.cn ch91
 replace o37 := o37.cn ch91
 replace o56 := o56.cn ch91
 refine lo ?_
 refine aF (v := vt [vg [vi (((aL (3, ([(0, 1), (1, 2)] : List ((Int) × (Int)))) (([(0, 0), (2, 0), (1, 0)] : List ((Int) × (Int))), [([(0, 0), (1, 1), (2, 0)] : List ((Int) × (Int))), ([(2, 0), (1, 0)] : List ((Int) × (Int)))])).1).1), vi ((((aL (3, ([(0, 1), (1, 2)] : List ((Int) × (Int)))) (([(0, 0), (2, 0), (1, 0)] : List ((Int) × (Int))), [([(0, 0), (1, 1), (2, 0)] : List ((Int) × (Int))), ([(2, 0), (1, 0)] : List ((Int) × (Int)))])).1).2).1), vi (((((aL (3, ([(0, 1), (1, 2)] : List ((Int) × (Int)))) (([(0, 0), (2, 0), (1, 0)] : List ((Int) × (Int))), [([(0, 0), (1, 1), (2, 0)] : List ((Int) × (Int))), ([(2, 0), (1, 0)] : List ((Int) × (Int)))])).1).2).2).1), Value.bool ((((((aL (3, ([(0, 1), (1, 2)] : List ((Int) × (Int)))) (([(0, 0), (2, 0), (1, 0)] : List ((Int) × (Int))), [([(0, 0), (1, 1), (2, 0)] : List ((Int) × (Int))), ([(2, 0), (1, 0)] : List ((Int) × (Int)))])).1).2).2).2).1), Value.bool ((((((aL (3, ([(0, 1), (1, 2)] : List ((Int) × (Int)))) (([(0, 0), (2, 0), (1, 0)] : List ((Int) × (Int))), [([(0, 0), (1, 1), (2, 0)] : List ((Int) × (Int))), ([(2, 0), (1, 0)] : List ((Int) × (Int)))])).1).2).2).2).2)], vi ((aL (3, ([(0, 1), (1, 2)] : List ((Int) × (Int)))) (([(0, 0), (2, 0), (1, 0)] : List ((Int) × (Int))), [([(0, 0), (1, 1), (2, 0)] : List ((Int) × (Int))), ([(2, 0), (1, 0)] : List ((Int) × (Int)))])).2)]) (aw (vals := [vg [vi 3, v13], vg [v24, v54]]) Try.func19 lM lb rfl) (jV w85 (3, ([(0, 1), (1, 2)] : List ((Int) × (Int)))) v13 (o15.flat).ro (([(0, 0), (2, 0), (1, 0)] : List ((Int) × (Int))), [([(0, 0), (1, 1), (2, 0)] : List ((Int) × (Int))), ([(2, 0), (1, 0)] : List ((Int) × (Int)))]) v24 v54 (o26.flat).ro ((i3 o56 (VcR.consv hv48 (o37.flat).ro (VcR.consv hv51 (o46.flat).ro VcR.nil)))).ro) ?_
 intro w92 hb93
 replace hb93 := ak hb93 g90
 refine mv (vt [vg [vi (((aL (3, ([(0, 1), (1, 2)] : List ((Int) × (Int)))) (([(0, 0), (2, 0), (1, 0)] : List ((Int) × (Int))), [([(0, 0), (1, 1), (2, 0)] : List ((Int) × (Int))), ([(2, 0), (1, 0)] : List ((Int) × (Int)))])).1).1), vi ((((aL (3, ([(0, 1), (1, 2)] : List ((Int) × (Int)))) (([(0, 0), (2, 0), (1, 0)] : List ((Int) × (Int))), [([(0, 0), (1, 1), (2, 0)] : List ((Int) × (Int))), ([(2, 0), (1, 0)] : List ((Int) × (Int)))])).1).2).1), vi (((((aL (3, ([(0, 1), (1, 2)] : List ((Int) × (Int)))) (([(0, 0), (2, 0), (1, 0)] : List ((Int) × (Int))), [([(0, 0), (1, 1), (2, 0)] : List ((Int) × (Int))), ([(2, 0), (1, 0)] : List ((Int) × (Int)))])).1).2).2).1), Value.bool ((((((aL (3, ([(0, 1), (1, 2)] : List ((Int) × (Int)))) (([(0, 0), (2, 0), (1, 0)] : List ((Int) × (Int))), [([(0, 0), (1, 1), (2, 0)] : List ((Int) × (Int))), ([(2, 0), (1, 0)] : List ((Int) × (Int)))])).1).2).2).2).1), Value.bool ((((((aL (3, ([(0, 1), (1, 2)] : List ((Int) × (Int)))) (([(0, 0), (2, 0), (1, 0)] : List ((Int) × (Int))), [([(0, 0), (1, 1), (2, 0)] : List ((Int) × (Int))), ([(2, 0), (1, 0)] : List ((Int) × (Int)))])).1).2).2).2).2)], vi ((aL (3, ([(0, 1), (1, 2)] : List ((Int) × (Int)))) (([(0, 0), (2, 0), (1, 0)] : List ((Int) × (Int))), [([(0, 0), (1, 1), (2, 0)] : List ((Int) × (Int))), ([(2, 0), (1, 0)] : List ((Int) × (Int)))])).2)]) ?_
 refine lx (aW rfl rfl) (lx (aW rfl rfl) (lo (aQ g90 (is 11) (11, 0) rfl cz ?_)))
 intro g97 w94 b96 ch95 bx98
 replace bx98 : Bx g97 (is 11) w94 b96 [vi 0, vi 0, vi 0, Value.bool false, Value.bool false] := bx98
 refine lo ?_
 refine ag (cs' := [vi (((aL (3, ([(0, 1), (1, 2)] : List ((Int) × (Int)))) (([(0, 0), (2, 0), (1, 0)] : List ((Int) × (Int))), [([(0, 0), (1, 1), (2, 0)] : List ((Int) × (Int))), ([(2, 0), (1, 0)] : List ((Int) × (Int)))])).1).1), vi ((((aL (3, ([(0, 1), (1, 2)] : List ((Int) × (Int)))) (([(0, 0), (2, 0), (1, 0)] : List ((Int) × (Int))), [([(0, 0), (1, 1), (2, 0)] : List ((Int) × (Int))), ([(2, 0), (1, 0)] : List ((Int) × (Int)))])).1).2).1), vi (((((aL (3, ([(0, 1), (1, 2)] : List ((Int) × (Int)))) (([(0, 0), (2, 0), (1, 0)] : List ((Int) × (Int))), [([(0, 0), (1, 1), (2, 0)] : List ((Int) × (Int))), ([(2, 0), (1, 0)] : List ((Int) × (Int)))])).1).2).2).1), Value.bool ((((((aL (3, ([(0, 1), (1, 2)] : List ((Int) × (Int)))) (([(0, 0), (2, 0), (1, 0)] : List ((Int) × (Int))), [([(0, 0), (1, 1), (2, 0)] : List ((Int) × (Int))), ([(2, 0), (1, 0)] : List ((Int) × (Int)))])).1).2).2).2).1), Value.bool ((((((aL (3, ([(0, 1), (1, 2)] : List ((Int) × (Int)))) (([(0, 0), (2, 0), (1, 0)] : List ((Int) × (Int))), [([(0, 0), (1, 1), (2, 0)] : List ((Int) × (Int))), ([(2, 0), (1, 0)] : List ((Int) × (Int)))])).1).2).2).2).2)]) cz rfl rfl bx98 rfl (Nat.le_of_ble_eq_true rfl) (AllOne.all (.cons rfl (.cons rfl (.cons rfl (.cons rfl (.cons rfl .nil)))))) rfl ?_
 intro w99 ch100 bx101
 clear bx98
 refine ai ((aL (3, ([(0, 1), (1, 2)] : List ((Int) × (Int)))) (([(0, 0), (2, 0), (1, 0)] : List ((Int) × (Int))), [([(0, 0), (1, 1), (2, 0)] : List ((Int) × (Int))), ([(2, 0), (1, 0)] : List ((Int) × (Int)))])).2) (aa (a7 (a6 rfl ?_)))
 have C102 := cg [11] (hb93.n.seq (ch95.n.seq (ch100.l rfl)))
 replace bx79 := bx79.ca C102
 refine lx (ad (ds := [vi 3, v13]) cj rfl bx79 rfl rfl) ?_
 replace bx83 := bx83.ca C102
 refine lx (ad (ds := [v24, v54]) co rfl bx83 rfl rfl) ?_
 replace o15 := o15.ca C102
 replace o26 := o26.ca C102
 replace o46 := o46.ca C102
 replace o37 := o37.ca C102
 replace o56 := o56.ca C102
 refine lo (cy (aw (vals := [vg [vi 3, v13], vg [v24, v54]]) Try.func10 pN oL rfl) (nf w99 (3, ([(0, 1), (1, 2)] : List ((Int) × (Int)))) v13 (o15.flat).ro (([(0, 0), (2, 0), (1, 0)] : List ((Int) × (Int))), [([(0, 0), (1, 1), (2, 0)] : List ((Int) × (Int))), ([(2, 0), (1, 0)] : List ((Int) × (Int)))]) v24 v54 (o26.flat).ro ((i3 o56 (VcR.consv hv48 (o37.flat).ro (VcR.consv hv51 (o46.flat).ro VcR.nil)))).ro (by exact fun _ => by decide)) ?_)
 rintro ⟨d104, v106⟩ w103 ⟨fr105, o107⟩
 obtain ⟨g108, ch109, G108⟩ := m6 g97 fr105 (fun n => if n = 1 then 12 else 0)
 replace o107 := o107.gl G108 12
 refine mv (vt [v106, vi ((turnsR (3, ([(0, 1), (1, 2)] : List ((Int) × (Int)))) (([(0, 0), (2, 0), (1, 0)] : List ((Int) × (Int))), [([(0, 0), (1, 1), (2, 0)] : List ((Int) × (Int))), ([(2, 0), (1, 0)] : List ((Int) × (Int)))])).2)]) (lx (aW rfl rfl) (lx (aW rfl rfl) (ma v106 (ai ((turnsR (3, ([(0, 1), (1, 2)] : List ((Int) × (Int)))) (([(0, 0), (2, 0), (1, 0)] : List ((Int) × (Int))), [([(0, 0), (1, 1), (2, 0)] : List ((Int) × (Int))), ([(2, 0), (1, 0)] : List ((Int) × (Int)))])).2) (aa (a7 (dH g108 (bR [7]) nR ?_)))))))
 intro w111 ch110
 refine ht 0 rfl (aO.refl _ _ _) (fun w' hw' => a8 Try.underlying28 rfl rfl rfl rfl) ?_
 replace bx83 := (bx83.cn ch109).cn ch110
 refine ht 1 rfl (aO.refl _ _ _) (fun w' hw' => af cH rfl (bx83.chg hw' (bB rfl)) rfl) (aB 2 rfl (by kernel_rfl) rfl (aF (v := vg [vi 0, vi 0]) (aw (vals := [vi 0, vi 0]) Try.func18 dw dv rfl) (dz w111 0 0) ?_))
 intro w112 hb113
 replace hb113 := ak hb113 g108
 have hs114 : aO (bR [7]) _ _ _ _ := hb113.n
 refine ⟨hs114.same, ?_⟩
 refine aB 3 rfl (by kernel_rfl) rfl (aF (v := vg [vi 2, vi 0]) (aw (vals := [vi 2, vi 0]) Try.func18 dw dv rfl) (dz w112 2 0) ?_)
 intro w115 hb116
 replace hb116 := ak hb116 g108
 have hs117 := hs114.seq (hb116.n)
 refine ⟨hs117.same, ?_⟩
 refine aB 4 rfl (by kernel_rfl) rfl (aJ (α := (Int) × (Int)) g108 (is 13) (is 13) (13, 0) rfl ([(0, 0), (2, 0)] : List ((Int) × (Int))) Try.underlying25 ab (by decide) (by decide) (vs := [(0, vg [vi 0, vi 0]), (1, vg [vi 2, vi 0])]) rfl rfl (.cons rfl (.cons rfl .nil)) ?_)
 intro g118 w119 v120 ch121 o122
 have hs123 := hs117.seq (ch121.n)
 refine ⟨hs123.same, ?_⟩
 refine aB 5 rfl (by kernel_rfl) rfl ?_
 replace o46 := (o46.cn ch109).cn ch110
 replace o37 := (o37.cn ch109).cn ch110
 have C124 := cg [] (ch109.n.seq (ch110.n.seq (hb113.n.seq (hb116.n.seq ch121.n))))
 replace o56 := o56.ca C124
 refine aG (v := Value.pointer (some (bF v54 1 (Int.toNat 0)))) (ar (α := List ((Int) × (Int))) (xs := [([(0, 0), (1, 1), (2, 0)] : List ((Int) × (Int))), ([(2, 0), (1, 0)] : List ((Int) × (Int)))]) (v := v54) (i := 0) Try.underlying26 rfl rfl (i3 o56 (VcR.consv hv48 ((o37.ca hs123).flat).ro (VcR.consv hv51 ((o46.ca hs123).flat).ro VcR.nil))) rfl (by omega) (by (simp only [List.length_set, List.length_append, List.length_cons, List.length_nil, List.length_replicate, List.length_map, List.length_take, List.length_drop]; omega))) ?_
 refine ⟨hs123.same, ?_⟩
 refine aB 6 rfl (by kernel_rfl) rfl ?_
 obtain ⟨c128, hv129⟩ := lk (u := v120) (bM o122.flat)
 refine gi (α := Vc) (i := 0) c128 bk rfl rfl o56 (by decide) (by simp) (ju hv129 (bj o122.flat)) ?_
 intro w125 ch126 bx127
 clear o56
 replace bx127 : Ow g118 (is 7) (is 7) w125 v54 [c128, c50] := bx127
 have hs130 := hs123.seq (ch126.l rfl)
 refine ⟨hs130.same, ?_⟩
 refine bm (by kernel_rfl) (a7 ?_)
 clear o37
 refine a6 rfl ?_
 have C131 := cg [7] (ch109.n.seq (ch110.n.seq (hb113.n.seq (hb116.n.seq (ch121.n.seq (ch126.l rfl))))))
 replace bx79 := bx79.ca C131
 refine lx (ad (ds := [vi 3, v13]) cj rfl bx79 rfl rfl) ?_
 have C132 := cg [7] (hb113.n.seq (hb116.n.seq (ch121.n.seq (ch126.l rfl))))
 replace bx83 := bx83.ca C132
 refine lx (ad (ds := [v24, v54]) co rfl bx83 rfl rfl) ?_
 replace o15 := o15.ca C131
 replace o26 := o26.ca C131
 replace o46 := o46.ca C132
 replace o122 := o122.ce ch126
 refine lo (cy (aw (vals := [vg [vi 3, v13], vg [v24, v54]]) Try.func11 ip ib rfl) (gS w125 (3, ([(0, 1), (1, 2)] : List ((Int) × (Int)))) v13 (o15.flat).ro (([(0, 0), (2, 0), (1, 0)] : List ((Int) × (Int))), [([(0, 0), (2, 0)] : List ((Int) × (Int))), ([(2, 0), (1, 0)] : List ((Int) × (Int)))]) v24 v54 (o26.flat).ro ((i3 bx127 (VcR.consv hv129 (o122.flat).ro (VcR.consv hv51 (o46.flat).ro VcR.nil)))).ro) ?_)
 rintro ⟨d134, v136⟩ w133 ⟨fr135, o137⟩
 obtain ⟨g138, ch139, G138⟩ := m6 g118 fr135 (fun n => if n = 1 then 14 else 0)
 replace o137 := o137.gl G138 14
 refine mv (vt [v136, vi ((aK (3, ([(0, 1), (1, 2)] : List ((Int) × (Int)))) (([(0, 0), (2, 0), (1, 0)] : List ((Int) × (Int))), [([(0, 0), (2, 0)] : List ((Int) × (Int))), ([(2, 0), (1, 0)] : List ((Int) × (Int)))])).2)]) (lx (aW rfl rfl) (lx (aW rfl rfl) (ma v136 (ai ((aK (3, ([(0, 1), (1, 2)] : List ((Int) × (Int)))) (([(0, 0), (2, 0), (1, 0)] : List ((Int) × (Int))), [([(0, 0), (2, 0)] : List ((Int) × (Int))), ([(2, 0), (1, 0)] : List ((Int) × (Int)))])).2) (aa (a7 ?_))))))
 clear o15 o26 o46 bx79 bx83 o122 bx127
 refine a6 rfl (mv v88 ?_)
 have C140 := cg [7, 11] (hb93.n.seq (ch95.n.seq ((ch100.l rfl).seq (ch109.n.seq (ch110.n.seq (hb113.n.seq (hb116.n.seq (ch121.n.seq ((ch126.l rfl).seq ch139.n)))))))))
 replace o89 := o89.ca C140
 have len141 := (o89.flat).small
 refine lx (bh Try.underlying36 rfl o89.flat) (lx (bO (m := (List.length ((aK (3, ([(0, 1), (1, 2)] : List ((Int) × (Int)))) (([(0, 0), (2, 0), (1, 0)] : List ((Int) × (Int))), [([(0, 0), (1, 1), (2, 0)] : List ((Int) × (Int))), ([(2, 0), (1, 0)] : List ((Int) × (Int)))])).1) : Int)) (n := 0) rfl rfl) (mv (Value.bool (decide ((List.length ((aK (3, ([(0, 1), (1, 2)] : List ((Int) × (Int)))) (([(0, 0), (2, 0), (1, 0)] : List ((Int) × (Int))), [([(0, 0), (1, 1), (2, 0)] : List ((Int) × (Int))), ([(2, 0), (1, 0)] : List ((Int) × (Int)))])).1) : Int) = 0))) ?_))
 have q48 : (List.length ((aK (3, ([(0, 1), (1, 2)] : List ((Int) × (Int)))) (([(0, 0), (2, 0), (1, 0)] : List ((Int) × (Int))), [([(0, 0), (1, 1), (2, 0)] : List ((Int) × (Int))), ([(2, 0), (1, 0)] : List ((Int) × (Int)))])).1) : Int) = 0 := by rfl
 refine lv (vi ((aK (3, ([(0, 1), (1, 2)] : List ((Int) × (Int)))) (([(0, 0), (2, 0), (1, 0)] : List ((Int) × (Int))), [([(0, 0), (1, 1), (2, 0)] : List ((Int) × (Int))), ([(2, 0), (1, 0)] : List ((Int) × (Int)))])).2)) (wy (dt q48)) (aI rfl) (lv (Value.bool (decide (((aK (3, ([(0, 1), (1, 2)] : List ((Int) × (Int)))) (([(0, 0), (2, 0), (1, 0)] : List ((Int) × (Int))), [([(0, 0), (1, 1), (2, 0)] : List ((Int) × (Int))), ([(2, 0), (1, 0)] : List ((Int) × (Int)))])).2) = 0))) (wy (dt q48)) (bO (m := (aK (3, ([(0, 1), (1, 2)] : List ((Int) × (Int)))) (([(0, 0), (2, 0), (1, 0)] : List ((Int) × (Int))), [([(0, 0), (1, 1), (2, 0)] : List ((Int) × (Int))), ([(2, 0), (1, 0)] : List ((Int) × (Int)))])).2) (n := 0) rfl rfl) ?_)
 refine lw (Value.bool (decide (((aK (3, ([(0, 1), (1, 2)] : List ((Int) × (Int)))) (([(0, 0), (2, 0), (1, 0)] : List ((Int) × (Int))), [([(0, 0), (1, 1), (2, 0)] : List ((Int) × (Int))), ([(2, 0), (1, 0)] : List ((Int) × (Int)))])).2) = 0))) (au rfl (dt q48) rfl) (mv (Value.bool (decide (((aK (3, ([(0, 1), (1, 2)] : List ((Int) × (Int)))) (([(0, 0), (2, 0), (1, 0)] : List ((Int) × (Int))), [([(0, 0), (1, 1), (2, 0)] : List ((Int) × (Int))), ([(2, 0), (1, 0)] : List ((Int) × (Int)))])).2) = 0))) ?_)
 have q52 : ((aK (3, ([(0, 1), (1, 2)] : List ((Int) × (Int)))) (([(0, 0), (2, 0), (1, 0)] : List ((Int) × (Int))), [([(0, 0), (1, 1), (2, 0)] : List ((Int) × (Int))), ([(2, 0), (1, 0)] : List ((Int) × (Int)))])).2) = 0 := by rfl
 refine lv (vp b96 0) (wy (dt q52)) (a8 Try.underlying52 rfl rfl rfl rfl) ?_
 have C142 := cg [7] (ch109.n.seq (ch110.n.seq (hb113.n.seq (hb116.n.seq (ch121.n.seq ((ch126.l rfl).seq ch139.n))))))
 replace bx101 := bx101.ca C142
 refine lv (vi (((aL (3, ([(0, 1), (1, 2)] : List ((Int) × (Int)))) (([(0, 0), (2, 0), (1, 0)] : List ((Int) × (Int))), [([(0, 0), (1, 1), (2, 0)] : List ((Int) × (Int))), ([(2, 0), (1, 0)] : List ((Int) × (Int)))])).1).1)) (wy (dt q52)) (af aq rfl bx101 rfl) (lv (Value.bool (decide ((((aL (3, ([(0, 1), (1, 2)] : List ((Int) × (Int)))) (([(0, 0), (2, 0), (1, 0)] : List ((Int) × (Int))), [([(0, 0), (1, 1), (2, 0)] : List ((Int) × (Int))), ([(2, 0), (1, 0)] : List ((Int) × (Int)))])).1).1) = 1))) (wy (dt q52)) (bO (m := ((aL (3, ([(0, 1), (1, 2)] : List ((Int) × (Int)))) (([(0, 0), (2, 0), (1, 0)] : List ((Int) × (Int))), [([(0, 0), (1, 1), (2, 0)] : List ((Int) × (Int))), ([(2, 0), (1, 0)] : List ((Int) × (Int)))])).1).1) (n := 1) rfl rfl) ?_)
 refine lw (Value.bool (decide ((((aL (3, ([(0, 1), (1, 2)] : List ((Int) × (Int)))) (([(0, 0), (2, 0), (1, 0)] : List ((Int) × (Int))), [([(0, 0), (1, 1), (2, 0)] : List ((Int) × (Int))), ([(2, 0), (1, 0)] : List ((Int) × (Int)))])).1).1) = 1))) (au rfl (dt q52) rfl) (mv (Value.bool (decide ((((aL (3, ([(0, 1), (1, 2)] : List ((Int) × (Int)))) (([(0, 0), (2, 0), (1, 0)] : List ((Int) × (Int))), [([(0, 0), (1, 1), (2, 0)] : List ((Int) × (Int))), ([(2, 0), (1, 0)] : List ((Int) × (Int)))])).1).1) = 1))) ?_)
 have q57 : (((aL (3, ([(0, 1), (1, 2)] : List ((Int) × (Int)))) (([(0, 0), (2, 0), (1, 0)] : List ((Int) × (Int))), [([(0, 0), (1, 1), (2, 0)] : List ((Int) × (Int))), ([(2, 0), (1, 0)] : List ((Int) × (Int)))])).1).1) = 1 := by rfl
 refine lv (vp b96 1) (wy (dt q57)) (a8 Try.underlying52 rfl rfl rfl rfl) (lv (vi ((((aL (3, ([(0, 1), (1, 2)] : List ((Int) × (Int)))) (([(0, 0), (2, 0), (1, 0)] : List ((Int) × (Int))), [([(0, 0), (1, 1), (2, 0)] : List ((Int) × (Int))), ([(2, 0), (1, 0)] : List ((Int) × (Int)))])).1).2).1)) (wy (dt q57)) (af aq rfl bx101 rfl) ?_)
 refine lv (Value.bool (decide (((((aL (3, ([(0, 1), (1, 2)] : List ((Int) × (Int)))) (([(0, 0), (2, 0), (1, 0)] : List ((Int) × (Int))), [([(0, 0), (1, 1), (2, 0)] : List ((Int) × (Int))), ([(2, 0), (1, 0)] : List ((Int) × (Int)))])).1).2).1) = 2))) (wy (dt q57)) (bO (m := (((aL (3, ([(0, 1), (1, 2)] : List ((Int) × (Int)))) (([(0, 0), (2, 0), (1, 0)] : List ((Int) × (Int))), [([(0, 0), (1, 1), (2, 0)] : List ((Int) × (Int))), ([(2, 0), (1, 0)] : List ((Int) × (Int)))])).1).2).1) (n := 2) rfl rfl) (lw (Value.bool (decide (((((aL (3, ([(0, 1), (1, 2)] : List ((Int) × (Int)))) (([(0, 0), (2, 0), (1, 0)] : List ((Int) × (Int))), [([(0, 0), (1, 1), (2, 0)] : List ((Int) × (Int))), ([(2, 0), (1, 0)] : List ((Int) × (Int)))])).1).2).1) = 2))) (au rfl (dt q57) rfl) ?_)
 refine mv (Value.bool (decide (((((aL (3, ([(0, 1), (1, 2)] : List ((Int) × (Int)))) (([(0, 0), (2, 0), (1, 0)] : List ((Int) × (Int))), [([(0, 0), (1, 1), (2, 0)] : List ((Int) × (Int))), ([(2, 0), (1, 0)] : List ((Int) × (Int)))])).1).2).1) = 2))) ?_
 have q62 : ((((aL (3, ([(0, 1), (1, 2)] : List ((Int) × (Int)))) (([(0, 0), (2, 0), (1, 0)] : List ((Int) × (Int))), [([(0, 0), (1, 1), (2, 0)] : List ((Int) × (Int))), ([(2, 0), (1, 0)] : List ((Int) × (Int)))])).1).2).1) = 2 := by rfl
 refine lv (vi ((aL (3, ([(0, 1), (1, 2)] : List ((Int) × (Int)))) (([(0, 0), (2, 0), (1, 0)] : List ((Int) × (Int))), [([(0, 0), (1, 1), (2, 0)] : List ((Int) × (Int))), ([(2, 0), (1, 0)] : List ((Int) × (Int)))])).2)) (wy (dt q62)) (aI rfl) (lv (Value.bool (decide (((aL (3, ([(0, 1), (1, 2)] : List ((Int) × (Int)))) (([(0, 0), (2, 0), (1, 0)] : List ((Int) × (Int))), [([(0, 0), (1, 1), (2, 0)] : List ((Int) × (Int))), ([(2, 0), (1, 0)] : List ((Int) × (Int)))])).2) = 0))) (wy (dt q62)) (bO (m := (aL (3, ([(0, 1), (1, 2)] : List ((Int) × (Int)))) (([(0, 0), (2, 0), (1, 0)] : List ((Int) × (Int))), [([(0, 0), (1, 1), (2, 0)] : List ((Int) × (Int))), ([(2, 0), (1, 0)] : List ((Int) × (Int)))])).2) (n := 0) rfl rfl) ?_)
 refine lw (Value.bool (decide (((aL (3, ([(0, 1), (1, 2)] : List ((Int) × (Int)))) (([(0, 0), (2, 0), (1, 0)] : List ((Int) × (Int))), [([(0, 0), (1, 1), (2, 0)] : List ((Int) × (Int))), ([(2, 0), (1, 0)] : List ((Int) × (Int)))])).2) = 0))) (au rfl (dt q62) rfl) (mv (Value.bool (decide (((aL (3, ([(0, 1), (1, 2)] : List ((Int) × (Int)))) (([(0, 0), (2, 0), (1, 0)] : List ((Int) × (Int))), [([(0, 0), (1, 1), (2, 0)] : List ((Int) × (Int))), ([(2, 0), (1, 0)] : List ((Int) × (Int)))])).2) = 0))) ?_)
 have q66 : ((aL (3, ([(0, 1), (1, 2)] : List ((Int) × (Int)))) (([(0, 0), (2, 0), (1, 0)] : List ((Int) × (Int))), [([(0, 0), (1, 1), (2, 0)] : List ((Int) × (Int))), ([(2, 0), (1, 0)] : List ((Int) × (Int)))])).2) = 0 := by rfl
 refine lv (v106) (wy (dt q66)) (aI rfl) ?_
 have C143 := cg [7] (ch110.n.seq (hb113.n.seq (hb116.n.seq (ch121.n.seq ((ch126.l rfl).seq ch139.n)))))
 replace o107 := o107.ca C143
 have len144 := (o107.sl).small
 refine lv (vi (List.length ((turnsR (3, ([(0, 1), (1, 2)] : List ((Int) × (Int)))) (([(0, 0), (2, 0), (1, 0)] : List ((Int) × (Int))), [([(0, 0), (1, 1), (2, 0)] : List ((Int) × (Int))), ([(2, 0), (1, 0)] : List ((Int) × (Int)))])).1) : Int)) (wy (dt q66)) (bh Try.underlying32 rfl o107.sl) (lv (Value.bool (decide ((List.length ((turnsR (3, ([(0, 1), (1, 2)] : List ((Int) × (Int)))) (([(0, 0), (2, 0), (1, 0)] : List ((Int) × (Int))), [([(0, 0), (1, 1), (2, 0)] : List ((Int) × (Int))), ([(2, 0), (1, 0)] : List ((Int) × (Int)))])).1) : Int) = 3))) (wy (dt q66)) (bO (m := (List.length ((turnsR (3, ([(0, 1), (1, 2)] : List ((Int) × (Int)))) (([(0, 0), (2, 0), (1, 0)] : List ((Int) × (Int))), [([(0, 0), (1, 1), (2, 0)] : List ((Int) × (Int))), ([(2, 0), (1, 0)] : List ((Int) × (Int)))])).1) : Int)) (n := 3) rfl rfl) ?_)
 refine lw (Value.bool (decide ((List.length ((turnsR (3, ([(0, 1), (1, 2)] : List ((Int) × (Int)))) (([(0, 0), (2, 0), (1, 0)] : List ((Int) × (Int))), [([(0, 0), (1, 1), (2, 0)] : List ((Int) × (Int))), ([(2, 0), (1, 0)] : List ((Int) × (Int)))])).1) : Int) = 3))) (au rfl (dt q66) rfl) (mv (Value.bool (decide ((List.length ((turnsR (3, ([(0, 1), (1, 2)] : List ((Int) × (Int)))) (([(0, 0), (2, 0), (1, 0)] : List ((Int) × (Int))), [([(0, 0), (1, 1), (2, 0)] : List ((Int) × (Int))), ([(2, 0), (1, 0)] : List ((Int) × (Int)))])).1) : Int) = 3))) ?_)
 have q71 : (List.length ((turnsR (3, ([(0, 1), (1, 2)] : List ((Int) × (Int)))) (([(0, 0), (2, 0), (1, 0)] : List ((Int) × (Int))), [([(0, 0), (1, 1), (2, 0)] : List ((Int) × (Int))), ([(2, 0), (1, 0)] : List ((Int) × (Int)))])).1) : Int) = 3 := by exact oI
 refine lv (vi ((turnsR (3, ([(0, 1), (1, 2)] : List ((Int) × (Int)))) (([(0, 0), (2, 0), (1, 0)] : List ((Int) × (Int))), [([(0, 0), (1, 1), (2, 0)] : List ((Int) × (Int))), ([(2, 0), (1, 0)] : List ((Int) × (Int)))])).2)) (wy (dt q71)) (aI rfl) (lv (Value.bool (decide (((turnsR (3, ([(0, 1), (1, 2)] : List ((Int) × (Int)))) (([(0, 0), (2, 0), (1, 0)] : List ((Int) × (Int))), [([(0, 0), (1, 1), (2, 0)] : List ((Int) × (Int))), ([(2, 0), (1, 0)] : List ((Int) × (Int)))])).2) = 0))) (wy (dt q71)) (bO (m := (turnsR (3, ([(0, 1), (1, 2)] : List ((Int) × (Int)))) (([(0, 0), (2, 0), (1, 0)] : List ((Int) × (Int))), [([(0, 0), (1, 1), (2, 0)] : List ((Int) × (Int))), ([(2, 0), (1, 0)] : List ((Int) × (Int)))])).2) (n := 0) rfl rfl) ?_)
 refine lw (Value.bool (decide (((turnsR (3, ([(0, 1), (1, 2)] : List ((Int) × (Int)))) (([(0, 0), (2, 0), (1, 0)] : List ((Int) × (Int))), [([(0, 0), (1, 1), (2, 0)] : List ((Int) × (Int))), ([(2, 0), (1, 0)] : List ((Int) × (Int)))])).2) = 0))) (au rfl (dt q71) rfl) (mv (Value.bool (decide (((turnsR (3, ([(0, 1), (1, 2)] : List ((Int) × (Int)))) (([(0, 0), (2, 0), (1, 0)] : List ((Int) × (Int))), [([(0, 0), (1, 1), (2, 0)] : List ((Int) × (Int))), ([(2, 0), (1, 0)] : List ((Int) × (Int)))])).2) = 0))) ?_)
 have q75 : ((turnsR (3, ([(0, 1), (1, 2)] : List ((Int) × (Int)))) (([(0, 0), (2, 0), (1, 0)] : List ((Int) × (Int))), [([(0, 0), (1, 1), (2, 0)] : List ((Int) × (Int))), ([(2, 0), (1, 0)] : List ((Int) × (Int)))])).2) = 0 := by exact mT
 refine lv (v136) (wy (dt q75)) (aI rfl) ?_
 have len145 := (o137.flat).small
 refine lv (vi (List.length ((aK (3, ([(0, 1), (1, 2)] : List ((Int) × (Int)))) (([(0, 0), (2, 0), (1, 0)] : List ((Int) × (Int))), [([(0, 0), (2, 0)] : List ((Int) × (Int))), ([(2, 0), (1, 0)] : List ((Int) × (Int)))])).1) : Int)) (wy (dt q75)) (bh Try.underlying36 rfl o137.flat) (lv (Value.bool (decide ((List.length ((aK (3, ([(0, 1), (1, 2)] : List ((Int) × (Int)))) (([(0, 0), (2, 0), (1, 0)] : List ((Int) × (Int))), [([(0, 0), (2, 0)] : List ((Int) × (Int))), ([(2, 0), (1, 0)] : List ((Int) × (Int)))])).1) : Int) = 2))) (wy (dt q75)) (bO (m := (List.length ((aK (3, ([(0, 1), (1, 2)] : List ((Int) × (Int)))) (([(0, 0), (2, 0), (1, 0)] : List ((Int) × (Int))), [([(0, 0), (2, 0)] : List ((Int) × (Int))), ([(2, 0), (1, 0)] : List ((Int) × (Int)))])).1) : Int)) (n := 2) rfl rfl) ?_)
 refine lw (Value.bool (decide ((List.length ((aK (3, ([(0, 1), (1, 2)] : List ((Int) × (Int)))) (([(0, 0), (2, 0), (1, 0)] : List ((Int) × (Int))), [([(0, 0), (2, 0)] : List ((Int) × (Int))), ([(2, 0), (1, 0)] : List ((Int) × (Int)))])).1) : Int) = 2))) (au rfl (dt q75) rfl) (mv (Value.bool (decide ((List.length ((aK (3, ([(0, 1), (1, 2)] : List ((Int) × (Int)))) (([(0, 0), (2, 0), (1, 0)] : List ((Int) × (Int))), [([(0, 0), (2, 0)] : List ((Int) × (Int))), ([(2, 0), (1, 0)] : List ((Int) × (Int)))])).1) : Int) = 2))) ?_)
 have q80 : (List.length ((aK (3, ([(0, 1), (1, 2)] : List ((Int) × (Int)))) (([(0, 0), (2, 0), (1, 0)] : List ((Int) × (Int))), [([(0, 0), (2, 0)] : List ((Int) × (Int))), ([(2, 0), (1, 0)] : List ((Int) × (Int)))])).1) : Int) = 2 := by rfl
 refine lv (v136) (wy (dt q80)) (aI rfl) (lv (Value.pointer (some (bF v136 3 (Int.toNat 0)))) (wy (dt q80)) (ar (α := (Int) × (Int) × (Int)) (xs := (aK (3, ([(0, 1), (1, 2)] : List ((Int) × (Int)))) (([(0, 0), (2, 0), (1, 0)] : List ((Int) × (Int))), [([(0, 0), (2, 0)] : List ((Int) × (Int))), ([(2, 0), (1, 0)] : List ((Int) × (Int)))])).1) (v := v136) (i := 0) Try.underlying36 rfl rfl o137.flat rfl (by omega) (by omega)) ?_)
 refine lv (vg [vi ((gI ((aK (3, ([(0, 1), (1, 2)] : List ((Int) × (Int)))) (([(0, 0), (2, 0), (1, 0)] : List ((Int) × (Int))), [([(0, 0), (2, 0)] : List ((Int) × (Int))), ([(2, 0), (1, 0)] : List ((Int) × (Int)))])).1) 0).1), vi (((gI ((aK (3, ([(0, 1), (1, 2)] : List ((Int) × (Int)))) (([(0, 0), (2, 0), (1, 0)] : List ((Int) × (Int))), [([(0, 0), (2, 0)] : List ((Int) × (Int))), ([(2, 0), (1, 0)] : List ((Int) × (Int)))])).1) 0).2).1), vi (((gI ((aK (3, ([(0, 1), (1, 2)] : List ((Int) × (Int)))) (([(0, 0), (2, 0), (1, 0)] : List ((Int) × (Int))), [([(0, 0), (2, 0)] : List ((Int) × (Int))), ([(2, 0), (1, 0)] : List ((Int) × (Int)))])).1) 0).2).2)]) (wy (dt q80)) (aN (α := (Int) × (Int) × (Int)) (xs := (aK (3, ([(0, 1), (1, 2)] : List ((Int) × (Int)))) (([(0, 0), (2, 0), (1, 0)] : List ((Int) × (Int))), [([(0, 0), (2, 0)] : List ((Int) × (Int))), ([(2, 0), (1, 0)] : List ((Int) × (Int)))])).1) (v := v136) (i := 0) bC rfl o137.flat (by omega) (by omega) rfl) ?_
 refine lv (vg [vi 7, vi 0, vi 2]) (wy (dt q80)) (bz (vs := [(0, vi 7), (1, vi 0), (2, vi 2)]) rfl (by kernel_rfl)) ?_
 refine lv (Value.bool (decide (((gI ((aK (3, ([(0, 1), (1, 2)] : List ((Int) × (Int)))) (([(0, 0), (2, 0), (1, 0)] : List ((Int) × (Int))), [([(0, 0), (2, 0)] : List ((Int) × (Int))), ([(2, 0), (1, 0)] : List ((Int) × (Int)))])).1) 0).1, ((gI ((aK (3, ([(0, 1), (1, 2)] : List ((Int) × (Int)))) (([(0, 0), (2, 0), (1, 0)] : List ((Int) × (Int))), [([(0, 0), (2, 0)] : List ((Int) × (Int))), ([(2, 0), (1, 0)] : List ((Int) × (Int)))])).1) 0).2).1, ((gI ((aK (3, ([(0, 1), (1, 2)] : List ((Int) × (Int)))) (([(0, 0), (2, 0), (1, 0)] : List ((Int) × (Int))), [([(0, 0), (2, 0)] : List ((Int) × (Int))), ([(2, 0), (1, 0)] : List ((Int) × (Int)))])).1) 0).2).2) = (7, 0, 2)))) (wy (dt q80)) (dI (bs := [decide (((gI ((aK (3, ([(0, 1), (1, 2)] : List ((Int) × (Int)))) (([(0, 0), (2, 0), (1, 0)] : List ((Int) × (Int))), [([(0, 0), (2, 0)] : List ((Int) × (Int))), ([(2, 0), (1, 0)] : List ((Int) × (Int)))])).1) 0).1) = 7), decide ((((gI ((aK (3, ([(0, 1), (1, 2)] : List ((Int) × (Int)))) (([(0, 0), (2, 0), (1, 0)] : List ((Int) × (Int))), [([(0, 0), (2, 0)] : List ((Int) × (Int))), ([(2, 0), (1, 0)] : List ((Int) × (Int)))])).1) 0).2).1) = 0), decide ((((gI ((aK (3, ([(0, 1), (1, 2)] : List ((Int) × (Int)))) (([(0, 0), (2, 0), (1, 0)] : List ((Int) × (Int))), [([(0, 0), (2, 0)] : List ((Int) × (Int))), ([(2, 0), (1, 0)] : List ((Int) × (Int)))])).1) 0).2).2) = 2)]) Try.underlying56 (by kernel_rfl) (by kernel_rfl) rfl rfl (.cons (by decide +kernel) aq rfl rfl (.int Try.underlying3) (.cons (by decide +kernel) aq rfl rfl (.int Try.underlying3) (.cons (by decide +kernel) aq rfl rfl (.int Try.underlying3) .nil))) (by simp [Prod.ext_iff, Bool.decide_and, Bool.and_assoc])) ?_
 refine lw (Value.bool (decide (((gI ((aK (3, ([(0, 1), (1, 2)] : List ((Int) × (Int)))) (([(0, 0), (2, 0), (1, 0)] : List ((Int) × (Int))), [([(0, 0), (2, 0)] : List ((Int) × (Int))), ([(2, 0), (1, 0)] : List ((Int) × (Int)))])).1) 0).1, ((gI ((aK (3, ([(0, 1), (1, 2)] : List ((Int) × (Int)))) (([(0, 0), (2, 0), (1, 0)] : List ((Int) × (Int))), [([(0, 0), (2, 0)] : List ((Int) × (Int))), ([(2, 0), (1, 0)] : List ((Int) × (Int)))])).1) 0).2).1, ((gI ((aK (3, ([(0, 1), (1, 2)] : List ((Int) × (Int)))) (([(0, 0), (2, 0), (1, 0)] : List ((Int) × (Int))), [([(0, 0), (2, 0)] : List ((Int) × (Int))), ([(2, 0), (1, 0)] : List ((Int) × (Int)))])).1) 0).2).2) = (7, 0, 2)))) (au rfl (dt q80) rfl) ?_
 refine mv (Value.bool (decide (((gI ((aK (3, ([(0, 1), (1, 2)] : List ((Int) × (Int)))) (([(0, 0), (2, 0), (1, 0)] : List ((Int) × (Int))), [([(0, 0), (2, 0)] : List ((Int) × (Int))), ([(2, 0), (1, 0)] : List ((Int) × (Int)))])).1) 0).1, ((gI ((aK (3, ([(0, 1), (1, 2)] : List ((Int) × (Int)))) (([(0, 0), (2, 0), (1, 0)] : List ((Int) × (Int))), [([(0, 0), (2, 0)] : List ((Int) × (Int))), ([(2, 0), (1, 0)] : List ((Int) × (Int)))])).1) 0).2).1, ((gI ((aK (3, ([(0, 1), (1, 2)] : List ((Int) × (Int)))) (([(0, 0), (2, 0), (1, 0)] : List ((Int) × (Int))), [([(0, 0), (2, 0)] : List ((Int) × (Int))), ([(2, 0), (1, 0)] : List ((Int) × (Int)))])).1) 0).2).2) = (7, 0, 2)))) ?_
 have q87 : ((gI ((aK (3, ([(0, 1), (1, 2)] : List ((Int) × (Int)))) (([(0, 0), (2, 0), (1, 0)] : List ((Int) × (Int))), [([(0, 0), (2, 0)] : List ((Int) × (Int))), ([(2, 0), (1, 0)] : List ((Int) × (Int)))])).1) 0).1, ((gI ((aK (3, ([(0, 1), (1, 2)] : List ((Int) × (Int)))) (([(0, 0), (2, 0), (1, 0)] : List ((Int) × (Int))), [([(0, 0), (2, 0)] : List ((Int) × (Int))), ([(2, 0), (1, 0)] : List ((Int) × (Int)))])).1) 0).2).1, ((gI ((aK (3, ([(0, 1), (1, 2)] : List ((Int) × (Int)))) (([(0, 0), (2, 0), (1, 0)] : List ((Int) × (Int))), [([(0, 0), (2, 0)] : List ((Int) × (Int))), ([(2, 0), (1, 0)] : List ((Int) × (Int)))])).1) 0).2).2) = (7, 0, 2) := by rfl
 refine lv (vi ((aK (3, ([(0, 1), (1, 2)] : List ((Int) × (Int)))) (([(0, 0), (2, 0), (1, 0)] : List ((Int) × (Int))), [([(0, 0), (2, 0)] : List ((Int) × (Int))), ([(2, 0), (1, 0)] : List ((Int) × (Int)))])).2)) (wy (dt q87)) (aI rfl) (lv (Value.bool (decide (((aK (3, ([(0, 1), (1, 2)] : List ((Int) × (Int)))) (([(0, 0), (2, 0), (1, 0)] : List ((Int) × (Int))), [([(0, 0), (2, 0)] : List ((Int) × (Int))), ([(2, 0), (1, 0)] : List ((Int) × (Int)))])).2) = 0))) (wy (dt q87)) (bO (m := (aK (3, ([(0, 1), (1, 2)] : List ((Int) × (Int)))) (([(0, 0), (2, 0), (1, 0)] : List ((Int) × (Int))), [([(0, 0), (2, 0)] : List ((Int) × (Int))), ([(2, 0), (1, 0)] : List ((Int) × (Int)))])).2) (n := 0) rfl rfl) ?_)
 refine lw (Value.bool (decide (((aK (3, ([(0, 1), (1, 2)] : List ((Int) × (Int)))) (([(0, 0), (2, 0), (1, 0)] : List ((Int) × (Int))), [([(0, 0), (2, 0)] : List ((Int) × (Int))), ([(2, 0), (1, 0)] : List ((Int) × (Int)))])).2) = 0))) (au rfl (dt q87) rfl) (ma (Value.bool (decide (((aK (3, ([(0, 1), (1, 2)] : List ((Int) × (Int)))) (([(0, 0), (2, 0), (1, 0)] : List ((Int) × (Int))), [([(0, 0), (2, 0)] : List ((Int) × (Int))), ([(2, 0), (1, 0)] : List ((Int) × (Int)))])).2) = 0))) (aa (al (vs := [Value.bool (decide (((aK (3, ([(0, 1), (1, 2)] : List ((Int) × (Int)))) (([(0, 0), (2, 0), (1, 0)] : List ((Int) × (Int))), [([(0, 0), (2, 0)] : List ((Int) × (Int))), ([(2, 0), (1, 0)] : List ((Int) × (Int)))])).2) = 0))]) Try.func8 (.tmp rfl .nil) ?_)))
 have e0 : (decide (((aK (3, ([(0, 1), (1, 2)] : List ((Int) × (Int)))) (([(0, 0), (2, 0), (1, 0)] : List ((Int) × (Int))), [([(0, 0), (2, 0)] : List ((Int) × (Int))), ([(2, 0), (1, 0)] : List ((Int) × (Int)))])).2) = 0) : Bool) = (true) := by
   rfl
 have C146 := cg [1, 2, 7, 8, 9, 11] (ch2.n.seq (ch7.n.seq (ch14.n.seq (hb17.n.seq (hb19.n.seq (hb21.n.seq (ch25.n.seq (hb28.n.seq (hb30.n.seq (hb32.n.seq (ch36.n.seq (hb39.n.seq (hb41.n.seq (ch45.n.seq (ch55.n.seq ((ch59.l rfl).seq ((ch64.l rfl).seq (ch68.n.seq (ch73.n.seq ((ch78.l rfl).seq ((ch82.l rfl).seq (ch91.n.seq (hb93.n.seq (ch95.n.seq ((ch100.l rfl).seq (ch109.n.seq (ch110.n.seq (hb113.n.seq (hb116.n.seq (ch121.n.seq ((ch126.l rfl).seq ch139.n)))))))))))))))))))))))))))))))
 replace bH := bH.ca C146
 exact ⟨(congrArg (a₁ := decide (((aK (3, ([(0, 1), (1, 2)] : List ((Int) × (Int)))) (([(0, 0), (2, 0), (1, 0)] : List ((Int) × (Int))), [([(0, 0), (2, 0)] : List ((Int) × (Int))), ([(2, 0), (1, 0)] : List ((Int) × (Int)))])).2) = 0)) (fun (z0 : Bool) => Ending.returned (Value.bool z0)) e0), bH.below⟩
end TL
