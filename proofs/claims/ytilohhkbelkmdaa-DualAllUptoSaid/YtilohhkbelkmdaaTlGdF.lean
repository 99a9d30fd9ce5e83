import Derived.Test.YtilohhkbelkmdaaTlP3
import Derived.Test.YtilohhkbelkmdaaTlGdA
import Derived.Test.YtilohhkbelkmdaaTlGdD
import Derived.Test.YtilohhkbelkmdaaTlGdE
import Derived.Test.YtilohhkbelkmdaaTlGenX
import Derived.Test.YtilohhkbelkmdaaProg
set_option linter.all false
set_option maxRecDepth 20000
namespace TL
open Go Go.Proofs
theorem pA : Try.f22.body.isNone = false := rfl
theorem pu : (Try.f22.name == "runtime.NumGoroutine") = false := by decide +kernel
theorem pr : Try.f25.body.isNone = false := rfl
theorem pS : (Try.f25.name == "runtime.NumGoroutine") = false := by decide +kernel
theorem qg : Try.f30.body.isNone = false := rfl
theorem qd : (Try.f30.name == "runtime.NumGoroutine") = false := by decide +kernel
theorem tx : Try.f66.body.isNone = false := rfl
theorem uZ : (Try.f66.name == "runtime.NumGoroutine") = false := by decide +kernel
theorem qK (w0 : World)  :
    Calls Try.prog 21 #[] w0 (fun ee w => ee = .returned (Value.bool true) ∧ dH w0.heap.size w0 w) := by
 refine az Try.func21 rfl (Nat.le_of_ble_eq_true rfl) ?_
 have bH := b9.start w0
 refine a9 (a8 rfl ?_)
 refine ma (Value.bool false) ?_
 refine aa (a9 (a8 rfl (cr rfl ?_)))
 refine dv (aD (vals := []) Try.func66 tx uZ rfl) ?_
 refine az Try.func66 rfl (Nat.le_of_ble_eq_true rfl) ?_
 refine a9 (a8 rfl (cr rfl ?_))
 refine bw c0 (is 1) (1, 0) rfl ak ?_
 intro g4 w1 b3 ch2 bx5
 replace bx5 : Bx g4 (is 1) w1 b3 [vi 0, vn] := bx5
 refine ma vn ?_
 refine aa (a9 (a8 rfl ?_))
 refine lw (vg [vi 0, vi 1]) (bn (vs := [(0, vi 0), (1, vi 1)]) rfl (by kernel_rfl)) ?_
 refine lw (vg [vi 1, vi 2]) (bn (vs := [(0, vi 1), (1, vi 2)]) rfl (by kernel_rfl)) ?_
 refine lw (vg [vi 2, vi 0]) (bn (vs := [(0, vi 2), (1, vi 0)]) rfl (by kernel_rfl)) ?_
 refine lo ?_
 refine aA (α := (Int) × (Int)) g4 (is 2) (is 2) (2, 0) rfl [(0, 1), (1, 2), (2, 0)] Try.underlying22 bD (by decide) (by decide) (vs := [(0, vg [vi 0, vi 1]), (1, vg [vi 1, vi 2]), (2, vg [vi 2, vi 0])]) rfl rfl (.cons rfl (.cons rfl (.cons rfl .nil))) ?_
 intro g6 w7 v8 ch9 o10
 refine lw (vg [vi 3, v8]) (bn (vs := [(0, vi 3), (1, v8)]) rfl (by rw [Sl.form o10.flat]; kernel_rfl)) ?_
 refine lo ?_
 refine aA (α := Int) g6 (is 3) (is 3) (3, 0) rfl [0, 5] Try.underlying27 am (by decide) (by decide) (vs := [(0, vi 0), (1, vi 5)]) rfl rfl (.cons rfl (.cons rfl .nil)) ?_
 intro g11 w12 v13 ch14 o15
 refine lo ?_
 refine aA (α := Int) g11 (is 4) (is 4) (4, 0) rfl [1, 2] Try.underlying27 am (by decide) (by decide) (vs := [(0, vi 1), (1, vi 2)]) rfl rfl (.cons rfl (.cons rfl .nil)) ?_
 intro g16 w17 v18 ch19 o20
 refine lo ?_
 refine aA (α := Int) g16 (is 5) (is 5) (5, 0) rfl [3, 4] Try.underlying27 am (by decide) (by decide) (vs := [(0, vi 3), (1, vi 4)]) rfl rfl (.cons rfl (.cons rfl .nil)) ?_
 intro g21 w22 v23 ch24 o25
 refine lo ?_
 replace o15 := (o15.cn ch19).cn ch24
 obtain ⟨c26, hv27⟩ := gx (u := v13) (bm o15.flat)
 replace o20 := o20.cn ch24
 obtain ⟨c28, hv29⟩ := gx (u := v18) (bm o20.flat)
 obtain ⟨c30, hv31⟩ := gx (u := v23) (bm o25.flat)
 refine aA (α := Vc) g21 (is 6) (is 6) (6, 0) rfl [c26, c28, c30] Try.underlying26 aL (by decide) (by decide) (vs := [(0, v13), (1, v18), (2, v23)]) rfl rfl (.cons (em hv27 (c6 o15.flat)) (.cons (em hv29 (c6 o20.flat)) (.cons (em hv31 (c6 o25.flat)) .nil))) ?_
 intro g32 w33 v34 ch35 o36
 refine lo ?_
 have C41 := cg [] (ch14.n.seq (ch19.n.seq (ch24.n.seq ch35.n)))
 have C40 := ch9.n.seq C41
 replace bx5 := bx5.ca C40
 replace o10 := o10.ca C41
 refine aC (cs' := [vi 3, v8]) ak rfl rfl bx5 rfl (Nat.le_of_ble_eq_true rfl) (AllOne.all (.cons rfl (.cons (bm o10.flat) .nil))) rfl ?_
 intro w37 ch38 bx39
 clear bx5
 refine ma v34 ?_
 refine aa ?_
 refine av (vs := [vg [vi 3, v8], v34]) Try.func66 (.cell rfl (bk (ds := [vi 3, v8]) ak bx39 rfl rfl) (.tmp rfl .nil)) ?_
 refine ⟨vt [vg [vi 3, v8], v34], rfl, ?_⟩
 refine mv (vt [vg [vi 3, v8], v34]) ?_
 refine lx (aH rfl rfl) ?_
 refine lx (aH rfl rfl) ?_
 refine lo ?_
 refine bw g32 (is 7) (7, 0) rfl ak ?_
 intro g45 w42 b44 ch43 bx46
 replace bx46 : Bx g45 (is 7) w42 b44 [vi 0, vn] := bx46
 refine lo ?_
 replace o10 := (o10.ce ch38).cn ch43
 refine aC (cs' := [vi 3, v8]) ak rfl rfl bx46 rfl (Nat.le_of_ble_eq_true rfl) (AllOne.all (.cons rfl (.cons (bm o10.flat) .nil))) rfl ?_
 intro w47 ch48 bx49
 clear bx46
 refine ma v34 ?_
 refine aa (a9 ?_)
 clear bx39
 refine a8 rfl ?_
 refine lx (aq (ds := [vi 3, v8]) ak rfl bx49 rfl rfl) ?_
 refine mv v34 ?_
 replace o10 := o10.ce ch48
 have C51 := cg [1, 7] ((ch38.l rfl).seq (ch43.n.seq (ch48.l rfl)))
 have C50 := ch35.n.seq C51
 replace o25 := o25.ca C50
 replace o20 := o20.ca C50
 replace o15 := o15.ca C50
 replace o36 := o36.ca C51
 refine lo ?_
 refine aV (aD (vals := [vg [vi 3, v8], v34]) Try.func22 pA pu rfl) (rX w47 (3, [(0, 1), (1, 2), (2, 0)]) v8 (o10.flat).ro ([[0, 5], [1, 2], [3, 4]]) v34 ((jl o36 (VcR.consv hv27 (o15.flat).ro (VcR.consv hv29 (o20.flat).ro (VcR.consv hv31 (o25.flat).ro VcR.nil))))).ro) ?_
 rintro ⟨d53, v55, v57⟩ w52 ⟨fr54, o56, o58⟩
 obtain ⟨g59, ch60, G59⟩ := dw g45 fr54 (fun n => if n = 1 then 8 else if n = 2 then 9 else 0)
 replace o56 := o56.gl G59 8
 replace o58 := o58.gl G59 9
 refine mv (vt [vg [vi (((aT (3, [(0, 1), (1, 2), (2, 0)]) ([[0, 5], [1, 2], [3, 4]])).1).1), v55], v57, vi ((aT (3, [(0, 1), (1, 2), (2, 0)]) ([[0, 5], [1, 2], [3, 4]])).2.2)]) ?_
 refine lx (aH rfl rfl) ?_
 refine lx (aH rfl rfl) ?_
 refine lx (aH rfl rfl) ?_
 refine lo ?_
 refine bw g59 (is 10) (10, 0) rfl ak ?_
 intro g64 w61 b63 ch62 bx65
 replace bx65 : Bx g64 (is 10) w61 b63 [vi 0, vn] := bx65
 refine lo ?_
 replace o56 := o56.cn ch62
 refine aC (cs' := [vi (((aT (3, [(0, 1), (1, 2), (2, 0)]) ([[0, 5], [1, 2], [3, 4]])).1).1), v55]) ak rfl rfl bx65 rfl (Nat.le_of_ble_eq_true rfl) (AllOne.all (.cons rfl (.cons (bm o56.flat) .nil))) rfl ?_
 intro w66 ch67 bx68
 clear bx65
 refine ma v57 ?_
 refine ai ((aT (3, [(0, 1), (1, 2), (2, 0)]) ([[0, 5], [1, 2], [3, 4]])).2.2) ?_
 refine aa (a9 (a8 rfl ?_))
 have C69 := cg [10] (ch60.n.seq (ch62.n.seq (ch67.l rfl)))
 replace bx49 := bx49.ca C69
 refine lx (aq (ds := [vi 3, v8]) ak rfl bx49 rfl rfl) ?_
 refine mv v34 ?_
 refine lw (vg [vi 0, vi 0]) (bn (vs := [(0, vi 0), (1, vi 0)]) rfl (by kernel_rfl)) ?_
 refine lw (vg [vi 1, vi 2]) (bn (vs := [(0, vi 1), (1, vi 2)]) rfl (by kernel_rfl)) ?_
 replace o10 := o10.ca C69
 replace o25 := o25.ca C69
 replace o20 := o20.ca C69
 replace o15 := o15.ca C69
 replace o36 := o36.ca C69
 refine lo ?_
 refine aV (aD (vals := [vg [vi 3, v8], v34, vg [vi 0, vi 0], vg [vi 1, vi 2]]) Try.func30 qg qd rfl) (sA w66 (3, [(0, 1), (1, 2), (2, 0)]) v8 (o10.flat).ro ([[0, 5], [1, 2], [3, 4]]) v34 ((jl o36 (VcR.consv hv27 (o15.flat).ro (VcR.consv hv29 (o20.flat).ro (VcR.consv hv31 (o25.flat).ro VcR.nil))))).ro (0, 0) (1, 2)) ?_
 rintro ⟨d71, v73, v75⟩ w70 ⟨fr72, o74, o76⟩
 obtain ⟨g77, ch78, G77⟩ := dw g64 fr72 (fun n => if n = 1 then 11 else if n = 2 then 12 else 0)
 replace o74 := o74.gl G77 11
 replace o76 := o76.gl G77 12
 refine mv (vt [vg [vi (((bg (3, [(0, 1), (1, 2), (2, 0)]) ([[0, 5], [1, 2], [3, 4]]) (0, 0) (1, 2)).1).1), v73], v75, vi ((bg (3, [(0, 1), (1, 2), (2, 0)]) ([[0, 5], [1, 2], [3, 4]]) (0, 0) (1, 2)).2.2)]) ?_
 refine lx (aH rfl rfl) ?_
 refine lx (aH rfl rfl) ?_
 refine lx (aH rfl rfl) ?_
 refine lo ?_
 refine bw g77 (is 13) (13, 0) rfl ak ?_
 intro g82 w79 b81 ch80 bx83
 replace bx83 : Bx g82 (is 13) w79 b81 [vi 0, vn] := bx83
 refine lo ?_
 replace o74 := o74.cn ch80
 refine aC (cs' := [vi (((bg (3, [(0, 1), (1, 2), (2, 0)]) ([[0, 5], [1, 2], [3, 4]]) (0, 0) (1, 2)).1).1), v73]) ak rfl rfl bx83 rfl (Nat.le_of_ble_eq_true rfl) (AllOne.all (.cons rfl (.cons (bm o74.flat) .nil))) rfl ?_
 intro w84 ch85 bx86
 clear bx83
 refine ma v75 ?_
 refine ai ((bg (3, [(0, 1), (1, 2), (2, 0)]) ([[0, 5], [1, 2], [3, 4]]) (0, 0) (1, 2)).2.2) ?_
 refine aa (a9 ?_)
 clear o76
 refine a8 rfl ?_
 have C87 := cg [13] (ch78.n.seq (ch80.n.seq (ch85.l rfl)))
 replace bx49 := bx49.ca C87
 refine lx (aq (ds := [vi 3, v8]) ak rfl bx49 rfl rfl) ?_
 refine mv v34 ?_
 replace o10 := o10.ca C87
 replace o25 := o25.ca C87
 replace o20 := o20.ca C87
 replace o15 := o15.ca C87
 replace o36 := o36.ca C87
 refine lo ?_
 refine aV (aD (vals := [vg [vi 3, v8], v34, vi 0, vi 1]) Try.func25 pr pS rfl) (ri w84 (3, [(0, 1), (1, 2), (2, 0)]) v8 (o10.flat).ro ([[0, 5], [1, 2], [3, 4]]) v34 ((jl o36 (VcR.consv hv27 (o15.flat).ro (VcR.consv hv29 (o20.flat).ro (VcR.consv hv31 (o25.flat).ro VcR.nil))))).ro 0 1) ?_
 rintro ⟨d89, v91⟩ w88 ⟨fr90, o92⟩
 obtain ⟨g93, ch94, G93⟩ := dw g82 fr90 (fun n => if n = 1 then 14 else 0)
 replace o92 := o92.gl G93 14
 refine mv (vt [v91, vi ((bB (3, [(0, 1), (1, 2), (2, 0)]) ([[0, 5], [1, 2], [3, 4]]) 0 1).2)]) ?_
 refine lx (aH rfl rfl) ?_
 refine lx (aH rfl rfl) ?_
 refine ma v91 ?_
 refine ai ((bB (3, [(0, 1), (1, 2), (2, 0)]) ([[0, 5], [1, 2], [3, 4]]) 0 1).2) ?_
 refine aa (a9 ?_)
 clear o10 o15 o20 o25 o36 bx49
 refine a8 rfl ?_
 refine lx (ad Try.underlying24 rfl rfl rfl rfl) ?_
 have C95 := cg [13] (ch78.n.seq (ch80.n.seq ((ch85.l rfl).seq ch94.n)))
 replace bx68 := bx68.ca C95
 refine lx (af am rfl bx68 rfl) ?_
 refine lx (cR (m := ((aT (3, [(0, 1), (1, 2), (2, 0)]) ([[0, 5], [1, 2], [3, 4]])).1).1) (n := 2) rfl rfl) ?_
 refine mv (Value.bool (decide ((((aT (3, [(0, 1), (1, 2), (2, 0)]) ([[0, 5], [1, 2], [3, 4]])).1).1) = 2))) ?_
 have q40 : (((aT (3, [(0, 1), (1, 2), (2, 0)]) ([[0, 5], [1, 2], [3, 4]])).1).1) = 2 := by rfl
 refine lv (v57) (wy (dt q40)) (au rfl) ?_
 have C96 := cg [10, 13] (ch62.n.seq ((ch67.l rfl).seq (ch78.n.seq (ch80.n.seq ((ch85.l rfl).seq ch94.n)))))
 replace o58 := o58.ca C96
 have len97 := (o58.sl).small
 refine lv (vi (List.length ((aT (3, [(0, 1), (1, 2), (2, 0)]) ([[0, 5], [1, 2], [3, 4]])).2.1) : Int)) (wy (dt q40)) (aO Try.underlying26 rfl o58.sl) ?_
 refine lv (Value.bool (decide ((List.length ((aT (3, [(0, 1), (1, 2), (2, 0)]) ([[0, 5], [1, 2], [3, 4]])).2.1) : Int) = 2))) (wy (dt q40)) (cR (m := (List.length ((aT (3, [(0, 1), (1, 2), (2, 0)]) ([[0, 5], [1, 2], [3, 4]])).2.1) : Int)) (n := 2) rfl rfl) ?_
 refine lw (Value.bool (decide ((List.length ((aT (3, [(0, 1), (1, 2), (2, 0)]) ([[0, 5], [1, 2], [3, 4]])).2.1) : Int) = 2))) (aY rfl (dt q40) rfl) ?_
 refine mv (Value.bool (decide ((List.length ((aT (3, [(0, 1), (1, 2), (2, 0)]) ([[0, 5], [1, 2], [3, 4]])).2.1) : Int) = 2))) ?_
 have q45 : (List.length ((aT (3, [(0, 1), (1, 2), (2, 0)]) ([[0, 5], [1, 2], [3, 4]])).2.1) : Int) = 2 := by rfl
 refine lv (vi ((aT (3, [(0, 1), (1, 2), (2, 0)]) ([[0, 5], [1, 2], [3, 4]])).2.2)) (wy (dt q45)) (au rfl) ?_
 refine lv (Value.bool (decide (((aT (3, [(0, 1), (1, 2), (2, 0)]) ([[0, 5], [1, 2], [3, 4]])).2.2) = 0))) (wy (dt q45)) (cR (m := (aT (3, [(0, 1), (1, 2), (2, 0)]) ([[0, 5], [1, 2], [3, 4]])).2.2) (n := 0) rfl rfl) ?_
 refine lw (Value.bool (decide (((aT (3, [(0, 1), (1, 2), (2, 0)]) ([[0, 5], [1, 2], [3, 4]])).2.2) = 0))) (aY rfl (dt q45) rfl) ?_
 refine mv (Value.bool (decide (((aT (3, [(0, 1), (1, 2), (2, 0)]) ([[0, 5], [1, 2], [3, 4]])).2.2) = 0))) ?_
 have q49 : ((aT (3, [(0, 1), (1, 2), (2, 0)]) ([[0, 5], [1, 2], [3, 4]])).2.2) = 0 := by rfl
 refine lv (vp b81 1) (wy (dt q49)) (ad Try.underlying24 rfl rfl rfl rfl) ?_
 replace bx86 := bx86.cn ch94
 refine lv (v73) (wy (dt q49)) (af bo rfl bx86 rfl) ?_
 replace o74 := (o74.ce ch85).cn ch94
 have len98 := (o74.flat).small
 refine lv (vi (List.length (((bg (3, [(0, 1), (1, 2), (2, 0)]) ([[0, 5], [1, 2], [3, 4]]) (0, 0) (1, 2)).1).2) : Int)) (wy (dt q49)) (aO Try.underlying22 rfl o74.flat) ?_
 refine lv (Value.bool (decide ((List.length (((bg (3, [(0, 1), (1, 2), (2, 0)]) ([[0, 5], [1, 2], [3, 4]]) (0, 0) (1, 2)).1).2) : Int) = 4))) (wy (dt q49)) (cR (m := (List.length (((bg (3, [(0, 1), (1, 2), (2, 0)]) ([[0, 5], [1, 2], [3, 4]]) (0, 0) (1, 2)).1).2) : Int)) (n := 4) rfl rfl) ?_
 refine lw (Value.bool (decide ((List.length (((bg (3, [(0, 1), (1, 2), (2, 0)]) ([[0, 5], [1, 2], [3, 4]]) (0, 0) (1, 2)).1).2) : Int) = 4))) (aY rfl (dt q49) rfl) ?_
 refine mv (Value.bool (decide ((List.length (((bg (3, [(0, 1), (1, 2), (2, 0)]) ([[0, 5], [1, 2], [3, 4]]) (0, 0) (1, 2)).1).2) : Int) = 4))) ?_
 have q55 : (List.length (((bg (3, [(0, 1), (1, 2), (2, 0)]) ([[0, 5], [1, 2], [3, 4]]) (0, 0) (1, 2)).1).2) : Int) = 4 := by rfl
 refine lv (vi ((bg (3, [(0, 1), (1, 2), (2, 0)]) ([[0, 5], [1, 2], [3, 4]]) (0, 0) (1, 2)).2.2)) (wy (dt q55)) (au rfl) ?_
 refine lv (Value.bool (decide (((bg (3, [(0, 1), (1, 2), (2, 0)]) ([[0, 5], [1, 2], [3, 4]]) (0, 0) (1, 2)).2.2) = 0))) (wy (dt q55)) (cR (m := (bg (3, [(0, 1), (1, 2), (2, 0)]) ([[0, 5], [1, 2], [3, 4]]) (0, 0) (1, 2)).2.2) (n := 0) rfl rfl) ?_
 refine lw (Value.bool (decide (((bg (3, [(0, 1), (1, 2), (2, 0)]) ([[0, 5], [1, 2], [3, 4]]) (0, 0) (1, 2)).2.2) = 0))) (aY rfl (dt q55) rfl) ?_
 refine mv (Value.bool (decide (((bg (3, [(0, 1), (1, 2), (2, 0)]) ([[0, 5], [1, 2], [3, 4]]) (0, 0) (1, 2)).2.2) = 0))) ?_
 have q59 : ((bg (3, [(0, 1), (1, 2), (2, 0)]) ([[0, 5], [1, 2], [3, 4]]) (0, 0) (1, 2)).2.2) = 0 := by rfl
 refine lv (v91) (wy (dt q59)) (au rfl) ?_
 have len99 := (o92.flat).small
 refine lv (vi (List.length ((bB (3, [(0, 1), (1, 2), (2, 0)]) ([[0, 5], [1, 2], [3, 4]]) 0 1).1) : Int)) (wy (dt q59)) (aO Try.underlying27 rfl o92.flat) ?_
 refine lv (Value.bool (decide ((List.length ((bB (3, [(0, 1), (1, 2), (2, 0)]) ([[0, 5], [1, 2], [3, 4]]) 0 1).1) : Int) = 1))) (wy (dt q59)) (cR (m := (List.length ((bB (3, [(0, 1), (1, 2), (2, 0)]) ([[0, 5], [1, 2], [3, 4]]) 0 1).1) : Int)) (n := 1) rfl rfl) ?_
 refine lw (Value.bool (decide ((List.length ((bB (3, [(0, 1), (1, 2), (2, 0)]) ([[0, 5], [1, 2], [3, 4]]) 0 1).1) : Int) = 1))) (aY rfl (dt q59) rfl) ?_
 refine mv (Value.bool (decide ((List.length ((bB (3, [(0, 1), (1, 2), (2, 0)]) ([[0, 5], [1, 2], [3, 4]]) 0 1).1) : Int) = 1))) ?_
 have q64 : (List.length ((bB (3, [(0, 1), (1, 2), (2, 0)]) ([[0, 5], [1, 2], [3, 4]]) 0 1).1) : Int) = 1 := by rfl
 refine lv (v91) (wy (dt q64)) (au rfl) ?_
 refine lv (Value.pointer (some (ba v91 1 (Int.toNat 0)))) (wy (dt q64)) (ab (α := Int) (xs := (bB (3, [(0, 1), (1, 2), (2, 0)]) ([[0, 5], [1, 2], [3, 4]]) 0 1).1) (v := v91) (i := 0) Try.underlying27 rfl rfl o92.flat rfl (by omega) (by omega)) ?_
 refine lv (vi (gI ((bB (3, [(0, 1), (1, 2), (2, 0)]) ([[0, 5], [1, 2], [3, 4]]) 0 1).1) 0)) (wy (dt q64)) (ay (α := Int) (xs := (bB (3, [(0, 1), (1, 2), (2, 0)]) ([[0, 5], [1, 2], [3, 4]]) 0 1).1) (v := v91) (i := 0) am rfl o92.flat (by omega) (by omega) (by decide) rfl) ?_
 refine lv (Value.bool (decide ((gI ((bB (3, [(0, 1), (1, 2), (2, 0)]) ([[0, 5], [1, 2], [3, 4]]) 0 1).1) 0) = 0))) (wy (dt q64)) (cR (m := (gI ((bB (3, [(0, 1), (1, 2), (2, 0)]) ([[0, 5], [1, 2], [3, 4]]) 0 1).1) 0)) (n := 0) rfl rfl) ?_
 refine lw (Value.bool (decide ((gI ((bB (3, [(0, 1), (1, 2), (2, 0)]) ([[0, 5], [1, 2], [3, 4]]) 0 1).1) 0) = 0))) (aY rfl (dt q64) rfl) ?_
 refine mv (Value.bool (decide ((gI ((bB (3, [(0, 1), (1, 2), (2, 0)]) ([[0, 5], [1, 2], [3, 4]]) 0 1).1) 0) = 0))) ?_
 have q70 : (gI ((bB (3, [(0, 1), (1, 2), (2, 0)]) ([[0, 5], [1, 2], [3, 4]]) 0 1).1) 0) = 0 := by rfl
 refine lv (vi ((bB (3, [(0, 1), (1, 2), (2, 0)]) ([[0, 5], [1, 2], [3, 4]]) 0 1).2)) (wy (dt q70)) (au rfl) ?_
 refine lv (Value.bool (decide (((bB (3, [(0, 1), (1, 2), (2, 0)]) ([[0, 5], [1, 2], [3, 4]]) 0 1).2) = 0))) (wy (dt q70)) (cR (m := (bB (3, [(0, 1), (1, 2), (2, 0)]) ([[0, 5], [1, 2], [3, 4]]) 0 1).2) (n := 0) rfl rfl) ?_
 refine lw (Value.bool (decide (((bB (3, [(0, 1), (1, 2), (2, 0)]) ([[0, 5], [1, 2], [3, 4]]) 0 1).2) = 0))) (aY rfl (dt q70) rfl) ?_
 refine ma (Value.bool (decide (((bB (3, [(0, 1), (1, 2), (2, 0)]) ([[0, 5], [1, 2], [3, 4]]) 0 1).2) = 0))) ?_
 refine aa ?_
 refine av (vs := [Value.bool (decide (((bB (3, [(0, 1), (1, 2), (2, 0)]) ([[0, 5], [1, 2], [3, 4]]) 0 1).2) = 0))]) Try.func21 (.tmp rfl .nil) ?_
 have e0 : (decide (((bB (3, [(0, 1), (1, 2), (2, 0)]) ([[0, 5], [1, 2], [3, 4]]) 0 1).2) = 0) : Bool) = (true) := by
   rfl
 have C100 := cg [1, 7, 10, 13] (ch2.n.seq (ch9.n.seq (ch14.n.seq (ch19.n.seq (ch24.n.seq (ch35.n.seq ((ch38.l rfl).seq (ch43.n.seq ((ch48.l rfl).seq (ch60.n.seq (ch62.n.seq ((ch67.l rfl).seq (ch78.n.seq (ch80.n.seq ((ch85.l rfl).seq ch94.n)))))))))))))))
 replace bH := bH.ca C100
 exact ⟨(congrArg (a₁ := decide (((bB (3, [(0, 1), (1, 2), (2, 0)]) ([[0, 5], [1, 2], [3, 4]]) 0 1).2) = 0)) (fun (z0 : Bool) => Ending.returned (Value.bool z0)) e0), bH.below⟩
end TL
