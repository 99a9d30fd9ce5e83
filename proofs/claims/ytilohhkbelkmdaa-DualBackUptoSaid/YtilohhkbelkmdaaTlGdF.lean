import Derived.Test.YtilohhkbelkmdaaTlGdA
import Derived.Test.YtilohhkbelkmdaaTlGdD
import Derived.Test.YtilohhkbelkmdaaTlGdE
import Derived.Test.YtilohhkbelkmdaaTlGenX
import Derived.Test.YtilohhkbelkmdaaTlP3
import Derived.Test.YtilohhkbelkmdaaProg
set_option linter.all false
set_option maxRecDepth 20000
namespace TL
open Go Go.Proofs
theorem tp3_df : Tp Try.prog 3 false 1 8 (.int .i64 0) := Tp.of (by kernel_rfl)
theorem tp22_df : Tp Try.prog 22 false 1 24 (.slice none 0 0) := Tp.of (by kernel_rfl)
theorem tp24_df : Tp Try.prog 24 true 2 32 (.agg #[.int .i64 0, .slice none 0 0]) := Tp.of (by kernel_rfl)
theorem tp27_df : Tp Try.prog 27 false 1 24 (.slice none 0 0) := Tp.of (by kernel_rfl)
theorem tp60_df : Tp Try.prog 60 true 2 16 (.agg #[.int .i64 0, .int .i64 0]) := Tp.of (by kernel_rfl)
theorem bd22_df : Try.f22.body.isNone = false := rfl
theorem nm22_df : (Try.f22.name == "runtime.NumGoroutine") = false := by decide +kernel
theorem bd25_df : Try.f25.body.isNone = false := rfl
theorem nm25_df : (Try.f25.name == "runtime.NumGoroutine") = false := by decide +kernel
theorem bd30_df : Try.f30.body.isNone = false := rfl
theorem nm30_df : (Try.f30.name == "runtime.NumGoroutine") = false := by decide +kernel
theorem bd66_df : Try.f66.body.isNone = false := rfl
theorem nm66_df : (Try.f66.name == "runtime.NumGoroutine") = false := by decide +kernel
theorem begunD_ok (w0 : World)  :
    Calls Try.prog 21 #[] w0 (fun ee w => ee = .returned (Value.bool true) ∧ Bel w0.heap.size w0 w) := by
 refine calls_of_run Try.func21 rfl (Nat.le_of_ble_eq_true rfl) ?_
 have hbase := Base.start w0
 refine run_seq (run_region rfl ?_)
 refine l_val (v := Value.bool false) rfl (e_assign rfl) ?_
 refine l_nil (run_seq (run_region rfl (l_op rfl ?_)))
 refine o_inline (e_call (vals := []) Try.func66 bd66_df nm66_df rfl) ?_
 refine calls_of_run Try.func66 rfl (Nat.le_of_ble_eq_true rfl) ?_
 refine run_seq (run_region rfl (l_op rfl ?_))
 refine o_alloc c0 (is 1) (1, 0) rfl tp24_df ?_
 intro g4 w1 b3 ch2 bx5
 replace bx5 : Bx g4 (is 1) w1 b3 [Value.int .i64 0, Value.slice none 0 0] := bx5
 refine l_val (v := Value.slice none 0 0) rfl (e_assign rfl) ?_
 refine l_nil (run_seq (run_region rfl ?_))
 refine l_val (v := Value.agg (List.toArray [Value.int .i64 0, Value.int .i64 1])) rfl (e_build (vs := [(0, Value.int .i64 0), (1, Value.int .i64 1)]) rfl (by kernel_rfl)) ?_
 refine l_val (v := Value.agg (List.toArray [Value.int .i64 1, Value.int .i64 2])) rfl (e_build (vs := [(0, Value.int .i64 1), (1, Value.int .i64 2)]) rfl (by kernel_rfl)) ?_
 refine l_val (v := Value.agg (List.toArray [Value.int .i64 2, Value.int .i64 0])) rfl (e_build (vs := [(0, Value.int .i64 2), (1, Value.int .i64 0)]) rfl (by kernel_rfl)) ?_
 refine l_op rfl ?_
 refine o_buildSlice (α := (Int) × (Int)) g4 (is 2) (is 2) (2, 0) rfl [(0, 1), (1, 2), (2, 0)] Try.underlying22 tp60_df (by decide) (by decide) (vs := [(0, Value.agg (List.toArray [Value.int .i64 0, Value.int .i64 1])), (1, Value.agg (List.toArray [Value.int .i64 1, Value.int .i64 2])), (2, Value.agg (List.toArray [Value.int .i64 2, Value.int .i64 0]))]) rfl rfl (.cons rfl (.cons rfl (.cons rfl .nil))) ?_
 intro g6 w7 v8 ch9 o10
 refine l_val (v := Value.agg (List.toArray [Value.int .i64 3, v8])) rfl (e_build (vs := [(0, Value.int .i64 3), (1, v8)]) rfl (by rw [Sl.form o10.flat]; kernel_rfl)) ?_
 refine l_op rfl ?_
 refine o_buildSlice (α := Int) g6 (is 3) (is 3) (3, 0) rfl [0, 5] Try.underlying27 tp3_df (by decide) (by decide) (vs := [(0, Value.int .i64 0), (1, Value.int .i64 5)]) rfl rfl (.cons rfl (.cons rfl .nil)) ?_
 intro g11 w12 v13 ch14 o15
 refine l_op rfl ?_
 refine o_buildSlice (α := Int) g11 (is 4) (is 4) (4, 0) rfl [1, 2] Try.underlying27 tp3_df (by decide) (by decide) (vs := [(0, Value.int .i64 1), (1, Value.int .i64 2)]) rfl rfl (.cons rfl (.cons rfl .nil)) ?_
 intro g16 w17 v18 ch19 o20
 refine l_op rfl ?_
 refine o_buildSlice (α := Int) g16 (is 5) (is 5) (5, 0) rfl [3, 4] Try.underlying27 tp3_df (by decide) (by decide) (vs := [(0, Value.int .i64 3), (1, Value.int .i64 4)]) rfl rfl (.cons rfl (.cons rfl .nil)) ?_
 intro g21 w22 v23 ch24 o25
 refine l_op rfl ?_
 replace o15 := (o15.chg ch19 (not_no _) (not_no _)).chg ch24 (not_no _) (not_no _)
 obtain ⟨c26, hv27⟩ := vc_of (u := v13) (sl_one o15.flat)
 replace o20 := o20.chg ch24 (not_no _) (not_no _)
 obtain ⟨c28, hv29⟩ := vc_of (u := v18) (sl_one o20.flat)
 obtain ⟨c30, hv31⟩ := vc_of (u := v23) (sl_one o25.flat)
 refine o_buildSlice (α := Vc) g21 (is 6) (is 6) (6, 0) rfl [c26, c28, c30] Try.underlying26 tp27_df (by decide) (by decide) (vs := [(0, v13), (1, v18), (2, v23)]) rfl rfl (.cons (vc_els hv27 (sl_cells1 o15.flat)) (.cons (vc_els hv29 (sl_cells1 o20.flat)) (.cons (vc_els hv31 (sl_cells1 o25.flat)) .nil))) ?_
 intro g32 w33 v34 ch35 o36
 refine l_op rfl ?_
 have C40 : Chg (inl []) _ _ _ _ := (ch9.n).seq ((ch14.n).seq ((ch19.n).seq ((ch24.n).seq (ch35.n))))
 replace bx5 := bx5.chg C40 (is_nl rfl)
 have C41 : Chg (inl []) _ _ _ _ := (ch14.n).seq ((ch19.n).seq ((ch24.n).seq (ch35.n)))
 replace o10 := o10.chg C41 (is_nl rfl) (is_nl rfl)
 refine o_store_bx (cs' := [Value.int .i64 3, v8]) tp24_df rfl rfl bx5 rfl (Nat.le_of_ble_eq_true rfl) (AllOne.all (.cons rfl (.cons (sl_one o10.flat) .nil))) rfl ?_
 intro w37 ch38 bx39
 clear bx5
 refine l_val (v := v34) rfl (e_assign rfl) ?_
 refine l_nil ?_
 refine run_ret (vs := [Value.agg (List.toArray [Value.int .i64 3, v8]), v34]) Try.func66 (.cell rfl (load_bxN (ds := [Value.int .i64 3, v8]) tp24_df bx39 rfl rfl) (.tmp rfl .nil)) ?_
 refine ⟨Value.tuple (List.toArray [Value.agg (List.toArray [Value.int .i64 3, v8]), v34]), rfl, ?_⟩
 refine l_val (v := Value.tuple (List.toArray [Value.agg (List.toArray [Value.int .i64 3, v8]), v34])) rfl (e_move rfl) ?_
 refine l_val (v := Value.agg (List.toArray [Value.int .i64 3, v8])) rfl (e_extract rfl rfl) ?_
 refine l_val (v := v34) rfl (e_extract rfl rfl) ?_
 refine l_op rfl ?_
 refine o_alloc g32 (is 7) (7, 0) rfl tp24_df ?_
 intro g45 w42 b44 ch43 bx46
 replace bx46 : Bx g45 (is 7) w42 b44 [Value.int .i64 0, Value.slice none 0 0] := bx46
 refine l_op rfl ?_
 replace o10 := (o10.chg ch38 (is_ne rfl) (is_ne rfl)).chg ch43 (not_no _) (not_no _)
 refine o_store_bx (cs' := [Value.int .i64 3, v8]) tp24_df rfl rfl bx46 rfl (Nat.le_of_ble_eq_true rfl) (AllOne.all (.cons rfl (.cons (sl_one o10.flat) .nil))) rfl ?_
 intro w47 ch48 bx49
 clear bx46
 refine l_val (v := v34) rfl (e_assign rfl) ?_
 refine l_nil (run_seq ?_)
 clear bx39
 refine run_region rfl ?_
 refine l_val (v := Value.agg (List.toArray [Value.int .i64 3, v8])) rfl (e_load_bxN (ds := [Value.int .i64 3, v8]) tp24_df rfl bx49 rfl rfl) ?_
 refine l_val (v := v34) rfl (e_move rfl) ?_
 replace o10 := o10.chg ch48 (is_ne rfl) (is_ne rfl)
 have C50 : Chg (inl [1, 7]) _ _ _ _ := (ch35.n).seq ((ch38.l rfl).seq ((ch43.n).seq (ch48.l rfl)))
 replace o25 := o25.chg C50 (is_nl rfl) (is_nl rfl)
 replace o20 := o20.chg C50 (is_nl rfl) (is_nl rfl)
 replace o15 := o15.chg C50 (is_nl rfl) (is_nl rfl)
 have C51 : Chg (inl [1, 7]) _ _ _ _ := (ch38.l rfl).seq ((ch43.n).seq (ch48.l rfl))
 replace o36 := o36.chg C51 (is_nl rfl) (is_nl rfl)
 refine l_op rfl ?_
 refine o_callx (e_call (vals := [Value.agg (List.toArray [Value.int .i64 3, v8]), v34]) Try.func22 bd22_df nm22_df rfl) (dOf_ok w47 (3, [(0, 1), (1, 2), (2, 0)]) v8 (o10.flat).ro ([[0, 5], [1, 2], [3, 4]]) v34 ((vc_sl o36 (VcR.consv hv27 (o15.flat).ro (VcR.consv hv29 (o20.flat).ro (VcR.consv hv31 (o25.flat).ro VcR.nil))))).ro) ?_
 rintro ⟨d53, v55, v57⟩ w52 ⟨fr54, o56, o58⟩
 obtain ⟨g59, hg59⟩ : ∃ q, q = glue w47.heap.size g45 d53 (fun n => if n = 1 then 8 else if n = 2 then 9 else 0) := ⟨_, rfl⟩
 have ch60 := chg_glue fr54.below g45 d53 (fun n => if n = 1 then 8 else if n = 2 then 9 else 0)
 rw [← hg59] at ch60
 replace o56 := o56.glue (γ := g45) (ren := (fun n => if n = 1 then 8 else if n = 2 then 9 else 0)) (k := 8) fr54.col rfl rfl
 rw [← hg59] at o56
 replace o58 := o58.glue (γ := g45) (ren := (fun n => if n = 1 then 8 else if n = 2 then 9 else 0)) (k := 9) fr54.col rfl rfl
 rw [← hg59] at o58
 clear hg59
 refine l_val (v := Value.tuple (List.toArray [Value.agg (List.toArray [Value.int .i64 (((dualR (3, [(0, 1), (1, 2), (2, 0)]) ([[0, 5], [1, 2], [3, 4]])).1).1), v55]), v57, Value.int .i64 ((dualR (3, [(0, 1), (1, 2), (2, 0)]) ([[0, 5], [1, 2], [3, 4]])).2.2)])) rfl (e_move rfl) ?_
 refine l_val (v := Value.agg (List.toArray [Value.int .i64 (((dualR (3, [(0, 1), (1, 2), (2, 0)]) ([[0, 5], [1, 2], [3, 4]])).1).1), v55])) rfl (e_extract rfl rfl) ?_
 refine l_val (v := v57) rfl (e_extract rfl rfl) ?_
 refine l_val (v := Value.int .i64 ((dualR (3, [(0, 1), (1, 2), (2, 0)]) ([[0, 5], [1, 2], [3, 4]])).2.2)) rfl (e_extract rfl rfl) ?_
 refine l_op rfl ?_
 refine o_alloc g59 (is 10) (10, 0) rfl tp24_df ?_
 intro g64 w61 b63 ch62 bx65
 replace bx65 : Bx g64 (is 10) w61 b63 [Value.int .i64 0, Value.slice none 0 0] := bx65
 refine l_op rfl ?_
 replace o56 := o56.chg ch62 (not_no _) (not_no _)
 refine o_store_bx (cs' := [Value.int .i64 (((dualR (3, [(0, 1), (1, 2), (2, 0)]) ([[0, 5], [1, 2], [3, 4]])).1).1), v55]) tp24_df rfl rfl bx65 rfl (Nat.le_of_ble_eq_true rfl) (AllOne.all (.cons rfl (.cons (sl_one o56.flat) .nil))) rfl ?_
 intro w66 ch67 bx68
 clear bx65
 refine l_val (v := v57) rfl (e_assign rfl) ?_
 refine l_val (v := Value.int .i64 ((dualR (3, [(0, 1), (1, 2), (2, 0)]) ([[0, 5], [1, 2], [3, 4]])).2.2)) rfl (e_assign rfl) ?_
 refine l_nil (run_seq (run_region rfl ?_))
 have C69 : Chg (inl [10]) _ _ _ _ := (ch60.n).seq ((ch62.n).seq (ch67.l rfl))
 replace bx49 := bx49.chg C69 (is_nl rfl)
 refine l_val (v := Value.agg (List.toArray [Value.int .i64 3, v8])) rfl (e_load_bxN (ds := [Value.int .i64 3, v8]) tp24_df rfl bx49 rfl rfl) ?_
 refine l_val (v := v34) rfl (e_move rfl) ?_
 refine l_val (v := Value.agg (List.toArray [Value.int .i64 0, Value.int .i64 0])) rfl (e_build (vs := [(0, Value.int .i64 0), (1, Value.int .i64 0)]) rfl (by kernel_rfl)) ?_
 refine l_val (v := Value.agg (List.toArray [Value.int .i64 1, Value.int .i64 2])) rfl (e_build (vs := [(0, Value.int .i64 1), (1, Value.int .i64 2)]) rfl (by kernel_rfl)) ?_
 replace o10 := o10.chg C69 (is_nl rfl) (is_nl rfl)
 replace o25 := o25.chg C69 (is_nl rfl) (is_nl rfl)
 replace o20 := o20.chg C69 (is_nl rfl) (is_nl rfl)
 replace o15 := o15.chg C69 (is_nl rfl) (is_nl rfl)
 replace o36 := o36.chg C69 (is_nl rfl) (is_nl rfl)
 refine l_op rfl ?_
 refine o_callx (e_call (vals := [Value.agg (List.toArray [Value.int .i64 3, v8]), v34, Value.agg (List.toArray [Value.int .i64 0, Value.int .i64 0]), Value.agg (List.toArray [Value.int .i64 1, Value.int .i64 2])]) Try.func30 bd30_df nm30_df rfl) (Lay_ok w66 (3, [(0, 1), (1, 2), (2, 0)]) v8 (o10.flat).ro ([[0, 5], [1, 2], [3, 4]]) v34 ((vc_sl o36 (VcR.consv hv27 (o15.flat).ro (VcR.consv hv29 (o20.flat).ro (VcR.consv hv31 (o25.flat).ro VcR.nil))))).ro (0, 0) (1, 2)) ?_
 rintro ⟨d71, v73, v75⟩ w70 ⟨fr72, o74, o76⟩
 obtain ⟨g77, hg77⟩ : ∃ q, q = glue w66.heap.size g64 d71 (fun n => if n = 1 then 11 else if n = 2 then 12 else 0) := ⟨_, rfl⟩
 have ch78 := chg_glue fr72.below g64 d71 (fun n => if n = 1 then 11 else if n = 2 then 12 else 0)
 rw [← hg77] at ch78
 replace o74 := o74.glue (γ := g64) (ren := (fun n => if n = 1 then 11 else if n = 2 then 12 else 0)) (k := 11) fr72.col rfl rfl
 rw [← hg77] at o74
 replace o76 := o76.glue (γ := g64) (ren := (fun n => if n = 1 then 11 else if n = 2 then 12 else 0)) (k := 12) fr72.col rfl rfl
 rw [← hg77] at o76
 clear hg77
 refine l_val (v := Value.tuple (List.toArray [Value.agg (List.toArray [Value.int .i64 (((layR (3, [(0, 1), (1, 2), (2, 0)]) ([[0, 5], [1, 2], [3, 4]]) (0, 0) (1, 2)).1).1), v73]), v75, Value.int .i64 ((layR (3, [(0, 1), (1, 2), (2, 0)]) ([[0, 5], [1, 2], [3, 4]]) (0, 0) (1, 2)).2.2)])) rfl (e_move rfl) ?_
 refine l_val (v := Value.agg (List.toArray [Value.int .i64 (((layR (3, [(0, 1), (1, 2), (2, 0)]) ([[0, 5], [1, 2], [3, 4]]) (0, 0) (1, 2)).1).1), v73])) rfl (e_extract rfl rfl) ?_
 refine l_val (v := v75) rfl (e_extract rfl rfl) ?_
 refine l_val (v := Value.int .i64 ((layR (3, [(0, 1), (1, 2), (2, 0)]) ([[0, 5], [1, 2], [3, 4]]) (0, 0) (1, 2)).2.2)) rfl (e_extract rfl rfl) ?_
 refine l_op rfl ?_
 refine o_alloc g77 (is 13) (13, 0) rfl tp24_df ?_
 intro g82 w79 b81 ch80 bx83
 replace bx83 : Bx g82 (is 13) w79 b81 [Value.int .i64 0, Value.slice none 0 0] := bx83
 refine l_op rfl ?_
 replace o74 := o74.chg ch80 (not_no _) (not_no _)
 refine o_store_bx (cs' := [Value.int .i64 (((layR (3, [(0, 1), (1, 2), (2, 0)]) ([[0, 5], [1, 2], [3, 4]]) (0, 0) (1, 2)).1).1), v73]) tp24_df rfl rfl bx83 rfl (Nat.le_of_ble_eq_true rfl) (AllOne.all (.cons rfl (.cons (sl_one o74.flat) .nil))) rfl ?_
 intro w84 ch85 bx86
 clear bx83
 refine l_val (v := v75) rfl (e_assign rfl) ?_
 refine l_val (v := Value.int .i64 ((layR (3, [(0, 1), (1, 2), (2, 0)]) ([[0, 5], [1, 2], [3, 4]]) (0, 0) (1, 2)).2.2)) rfl (e_assign rfl) ?_
 refine l_nil (run_seq ?_)
 clear o76
 refine run_region rfl ?_
 have C87 : Chg (inl [13]) _ _ _ _ := (ch78.n).seq ((ch80.n).seq (ch85.l rfl))
 replace bx49 := bx49.chg C87 (is_nl rfl)
 refine l_val (v := Value.agg (List.toArray [Value.int .i64 3, v8])) rfl (e_load_bxN (ds := [Value.int .i64 3, v8]) tp24_df rfl bx49 rfl rfl) ?_
 refine l_val (v := v34) rfl (e_move rfl) ?_
 replace o10 := o10.chg C87 (is_nl rfl) (is_nl rfl)
 replace o25 := o25.chg C87 (is_nl rfl) (is_nl rfl)
 replace o20 := o20.chg C87 (is_nl rfl) (is_nl rfl)
 replace o15 := o15.chg C87 (is_nl rfl) (is_nl rfl)
 replace o36 := o36.chg C87 (is_nl rfl) (is_nl rfl)
 refine l_op rfl ?_
 refine o_callx (e_call (vals := [Value.agg (List.toArray [Value.int .i64 3, v8]), v34, Value.int .i64 0, Value.int .i64 1]) Try.func25 bd25_df nm25_df rfl) (Hop_ok w84 (3, [(0, 1), (1, 2), (2, 0)]) v8 (o10.flat).ro ([[0, 5], [1, 2], [3, 4]]) v34 ((vc_sl o36 (VcR.consv hv27 (o15.flat).ro (VcR.consv hv29 (o20.flat).ro (VcR.consv hv31 (o25.flat).ro VcR.nil))))).ro 0 1) ?_
 rintro ⟨d89, v91⟩ w88 ⟨fr90, o92⟩
 obtain ⟨g93, hg93⟩ : ∃ q, q = glue w84.heap.size g82 d89 (fun n => if n = 1 then 14 else 0) := ⟨_, rfl⟩
 have ch94 := chg_glue fr90.below g82 d89 (fun n => if n = 1 then 14 else 0)
 rw [← hg93] at ch94
 replace o92 := o92.glue (γ := g82) (ren := (fun n => if n = 1 then 14 else 0)) (k := 14) fr90.col rfl rfl
 rw [← hg93] at o92
 clear hg93
 refine l_val (v := Value.tuple (List.toArray [v91, Value.int .i64 ((hopR (3, [(0, 1), (1, 2), (2, 0)]) ([[0, 5], [1, 2], [3, 4]]) 0 1).2)])) rfl (e_move rfl) ?_
 refine l_val (v := v91) rfl (e_extract rfl rfl) ?_
 refine l_val (v := Value.int .i64 ((hopR (3, [(0, 1), (1, 2), (2, 0)]) ([[0, 5], [1, 2], [3, 4]]) 0 1).2)) rfl (e_extract rfl rfl) ?_
 refine l_val (v := v91) rfl (e_assign rfl) ?_
 refine l_val (v := Value.int .i64 ((hopR (3, [(0, 1), (1, 2), (2, 0)]) ([[0, 5], [1, 2], [3, 4]]) 0 1).2)) rfl (e_assign rfl) ?_
 refine l_nil (run_seq ?_)
 clear o10
 clear o15
 clear o20
 clear o25
 clear o36
 clear bx49
 refine run_region rfl ?_
 refine l_val (v := Value.pointer (some ⟨b63, 0, none⟩)) rfl (e_fieldAddr Try.underlying24 rfl rfl rfl rfl) ?_
 have C95 : Chg (inl [13]) _ _ _ _ := (ch78.n).seq ((ch80.n).seq ((ch85.l rfl).seq (ch94.n)))
 replace bx68 := bx68.chg C95 (is_nl rfl)
 refine l_val (v := Value.int .i64 (((dualR (3, [(0, 1), (1, 2), (2, 0)]) ([[0, 5], [1, 2], [3, 4]])).1).1)) rfl (e_load_bx1 tp3_df rfl bx68 rfl) ?_
 refine l_val (v := Value.bool (decide ((((dualR (3, [(0, 1), (1, 2), (2, 0)]) ([[0, 5], [1, 2], [3, 4]])).1).1) = 2))) rfl (e_eql (m := ((dualR (3, [(0, 1), (1, 2), (2, 0)]) ([[0, 5], [1, 2], [3, 4]])).1).1) (n := 2) rfl rfl) ?_
 refine l_val (v := Value.bool (decide ((((dualR (3, [(0, 1), (1, 2), (2, 0)]) ([[0, 5], [1, 2], [3, 4]])).1).1) = 2))) rfl (e_move rfl) ?_
 have q40 : (((dualR (3, [(0, 1), (1, 2), (2, 0)]) ([[0, 5], [1, 2], [3, 4]])).1).1) = 2 := by first | rfl | decide +kernel
 refine l_val (v := v57) (want_y rfl rfl rfl (decide_eq_true q40)) (e_move rfl) ?_
 have C96 : Chg (inl [10, 13]) _ _ _ _ := (ch62.n).seq ((ch67.l rfl).seq ((ch78.n).seq ((ch80.n).seq ((ch85.l rfl).seq (ch94.n)))))
 replace o58 := o58.chg C96 (is_nl rfl)
 have len97 := (o58.sl).small
 refine l_val (v := Value.int .i64 (List.length ((dualR (3, [(0, 1), (1, 2), (2, 0)]) ([[0, 5], [1, 2], [3, 4]])).2.1) : Int)) (want_y rfl rfl rfl (decide_eq_true q40)) (e_len Try.underlying26 rfl o58.sl) ?_
 refine l_val (v := Value.bool (decide ((List.length ((dualR (3, [(0, 1), (1, 2), (2, 0)]) ([[0, 5], [1, 2], [3, 4]])).2.1) : Int) = 2))) (want_y rfl rfl rfl (decide_eq_true q40)) (e_eql (m := (List.length ((dualR (3, [(0, 1), (1, 2), (2, 0)]) ([[0, 5], [1, 2], [3, 4]])).2.1) : Int)) (n := 2) rfl rfl) ?_
 refine l_val (v := Value.bool (decide ((List.length ((dualR (3, [(0, 1), (1, 2), (2, 0)]) ([[0, 5], [1, 2], [3, 4]])).2.1) : Int) = 2))) rfl (e_pick_t rfl (decide_eq_true q40) rfl) ?_
 refine l_val (v := Value.bool (decide ((List.length ((dualR (3, [(0, 1), (1, 2), (2, 0)]) ([[0, 5], [1, 2], [3, 4]])).2.1) : Int) = 2))) rfl (e_move rfl) ?_
 have q45 : (List.length ((dualR (3, [(0, 1), (1, 2), (2, 0)]) ([[0, 5], [1, 2], [3, 4]])).2.1) : Int) = 2 := by first | rfl | decide +kernel
 refine l_val (v := Value.int .i64 ((dualR (3, [(0, 1), (1, 2), (2, 0)]) ([[0, 5], [1, 2], [3, 4]])).2.2)) (want_y rfl rfl rfl (decide_eq_true q45)) (e_move rfl) ?_
 refine l_val (v := Value.bool (decide (((dualR (3, [(0, 1), (1, 2), (2, 0)]) ([[0, 5], [1, 2], [3, 4]])).2.2) = 0))) (want_y rfl rfl rfl (decide_eq_true q45)) (e_eql (m := (dualR (3, [(0, 1), (1, 2), (2, 0)]) ([[0, 5], [1, 2], [3, 4]])).2.2) (n := 0) rfl rfl) ?_
 refine l_val (v := Value.bool (decide (((dualR (3, [(0, 1), (1, 2), (2, 0)]) ([[0, 5], [1, 2], [3, 4]])).2.2) = 0))) rfl (e_pick_t rfl (decide_eq_true q45) rfl) ?_
 refine l_val (v := Value.bool (decide (((dualR (3, [(0, 1), (1, 2), (2, 0)]) ([[0, 5], [1, 2], [3, 4]])).2.2) = 0))) rfl (e_move rfl) ?_
 have q49 : ((dualR (3, [(0, 1), (1, 2), (2, 0)]) ([[0, 5], [1, 2], [3, 4]])).2.2) = 0 := by first | rfl | decide +kernel
 refine l_val (v := Value.pointer (some ⟨b81, 1, none⟩)) (want_y rfl rfl rfl (decide_eq_true q49)) (e_fieldAddr Try.underlying24 rfl rfl rfl rfl) ?_
 replace bx86 := bx86.chg ch94 (not_no _)
 refine l_val (v := v73) (want_y rfl rfl rfl (decide_eq_true q49)) (e_load_bx1 tp22_df rfl bx86 rfl) ?_
 replace o74 := (o74.chg ch85 (is_ne rfl) (is_ne rfl)).chg ch94 (not_no _) (not_no _)
 have len98 := (o74.flat).small
 refine l_val (v := Value.int .i64 (List.length (((layR (3, [(0, 1), (1, 2), (2, 0)]) ([[0, 5], [1, 2], [3, 4]]) (0, 0) (1, 2)).1).2) : Int)) (want_y rfl rfl rfl (decide_eq_true q49)) (e_len Try.underlying22 rfl o74.flat) ?_
 refine l_val (v := Value.bool (decide ((List.length (((layR (3, [(0, 1), (1, 2), (2, 0)]) ([[0, 5], [1, 2], [3, 4]]) (0, 0) (1, 2)).1).2) : Int) = 4))) (want_y rfl rfl rfl (decide_eq_true q49)) (e_eql (m := (List.length (((layR (3, [(0, 1), (1, 2), (2, 0)]) ([[0, 5], [1, 2], [3, 4]]) (0, 0) (1, 2)).1).2) : Int)) (n := 4) rfl rfl) ?_
 refine l_val (v := Value.bool (decide ((List.length (((layR (3, [(0, 1), (1, 2), (2, 0)]) ([[0, 5], [1, 2], [3, 4]]) (0, 0) (1, 2)).1).2) : Int) = 4))) rfl (e_pick_t rfl (decide_eq_true q49) rfl) ?_
 refine l_val (v := Value.bool (decide ((List.length (((layR (3, [(0, 1), (1, 2), (2, 0)]) ([[0, 5], [1, 2], [3, 4]]) (0, 0) (1, 2)).1).2) : Int) = 4))) rfl (e_move rfl) ?_
 have q55 : (List.length (((layR (3, [(0, 1), (1, 2), (2, 0)]) ([[0, 5], [1, 2], [3, 4]]) (0, 0) (1, 2)).1).2) : Int) = 4 := by first | rfl | decide +kernel
 refine l_val (v := Value.int .i64 ((layR (3, [(0, 1), (1, 2), (2, 0)]) ([[0, 5], [1, 2], [3, 4]]) (0, 0) (1, 2)).2.2)) (want_y rfl rfl rfl (decide_eq_true q55)) (e_move rfl) ?_
 refine l_val (v := Value.bool (decide (((layR (3, [(0, 1), (1, 2), (2, 0)]) ([[0, 5], [1, 2], [3, 4]]) (0, 0) (1, 2)).2.2) = 0))) (want_y rfl rfl rfl (decide_eq_true q55)) (e_eql (m := (layR (3, [(0, 1), (1, 2), (2, 0)]) ([[0, 5], [1, 2], [3, 4]]) (0, 0) (1, 2)).2.2) (n := 0) rfl rfl) ?_
 refine l_val (v := Value.bool (decide (((layR (3, [(0, 1), (1, 2), (2, 0)]) ([[0, 5], [1, 2], [3, 4]]) (0, 0) (1, 2)).2.2) = 0))) rfl (e_pick_t rfl (decide_eq_true q55) rfl) ?_
 refine l_val (v := Value.bool (decide (((layR (3, [(0, 1), (1, 2), (2, 0)]) ([[0, 5], [1, 2], [3, 4]]) (0, 0) (1, 2)).2.2) = 0))) rfl (e_move rfl) ?_
 have q59 : ((layR (3, [(0, 1), (1, 2), (2, 0)]) ([[0, 5], [1, 2], [3, 4]]) (0, 0) (1, 2)).2.2) = 0 := by first | rfl | decide +kernel
 refine l_val (v := v91) (want_y rfl rfl rfl (decide_eq_true q59)) (e_move rfl) ?_
 have len99 := (o92.flat).small
 refine l_val (v := Value.int .i64 (List.length ((hopR (3, [(0, 1), (1, 2), (2, 0)]) ([[0, 5], [1, 2], [3, 4]]) 0 1).1) : Int)) (want_y rfl rfl rfl (decide_eq_true q59)) (e_len Try.underlying27 rfl o92.flat) ?_
 refine l_val (v := Value.bool (decide ((List.length ((hopR (3, [(0, 1), (1, 2), (2, 0)]) ([[0, 5], [1, 2], [3, 4]]) 0 1).1) : Int) = 1))) (want_y rfl rfl rfl (decide_eq_true q59)) (e_eql (m := (List.length ((hopR (3, [(0, 1), (1, 2), (2, 0)]) ([[0, 5], [1, 2], [3, 4]]) 0 1).1) : Int)) (n := 1) rfl rfl) ?_
 refine l_val (v := Value.bool (decide ((List.length ((hopR (3, [(0, 1), (1, 2), (2, 0)]) ([[0, 5], [1, 2], [3, 4]]) 0 1).1) : Int) = 1))) rfl (e_pick_t rfl (decide_eq_true q59) rfl) ?_
 refine l_val (v := Value.bool (decide ((List.length ((hopR (3, [(0, 1), (1, 2), (2, 0)]) ([[0, 5], [1, 2], [3, 4]]) 0 1).1) : Int) = 1))) rfl (e_move rfl) ?_
 have q64 : (List.length ((hopR (3, [(0, 1), (1, 2), (2, 0)]) ([[0, 5], [1, 2], [3, 4]]) 0 1).1) : Int) = 1 := by first | rfl | decide +kernel
 refine l_val (v := v91) (want_y rfl rfl rfl (decide_eq_true q64)) (e_move rfl) ?_
 refine l_val (v := Value.pointer (some (eAddr v91 1 (Int.toNat 0)))) (want_y rfl rfl rfl (decide_eq_true q64)) (e_indexAddr (α := Int) (xs := (hopR (3, [(0, 1), (1, 2), (2, 0)]) ([[0, 5], [1, 2], [3, 4]]) 0 1).1) (v := v91) (i := 0) Try.underlying27 rfl rfl o92.flat rfl (by omega) (by first | omega | (simp only [List.length_set, List.length_append, List.length_cons, List.length_nil, List.length_replicate, List.length_map, List.length_take, List.length_drop]; omega) | (simp; done) | (simp; omega))) ?_
 refine l_val (v := Value.int .i64 (gI ((hopR (3, [(0, 1), (1, 2), (2, 0)]) ([[0, 5], [1, 2], [3, 4]]) 0 1).1) 0)) (want_y rfl rfl rfl (decide_eq_true q64)) (e_load_el1 (α := Int) (xs := (hopR (3, [(0, 1), (1, 2), (2, 0)]) ([[0, 5], [1, 2], [3, 4]]) 0 1).1) (v := v91) (i := 0) tp3_df rfl o92.flat (by omega) (by first | omega | (simp only [List.length_set, List.length_append, List.length_cons, List.length_nil, List.length_replicate, List.length_map, List.length_take, List.length_drop]; omega) | (simp; done) | (simp; omega)) (by decide) rfl) ?_
 refine l_val (v := Value.bool (decide ((gI ((hopR (3, [(0, 1), (1, 2), (2, 0)]) ([[0, 5], [1, 2], [3, 4]]) 0 1).1) 0) = 0))) (want_y rfl rfl rfl (decide_eq_true q64)) (e_eql (m := (gI ((hopR (3, [(0, 1), (1, 2), (2, 0)]) ([[0, 5], [1, 2], [3, 4]]) 0 1).1) 0)) (n := 0) rfl rfl) ?_
 refine l_val (v := Value.bool (decide ((gI ((hopR (3, [(0, 1), (1, 2), (2, 0)]) ([[0, 5], [1, 2], [3, 4]]) 0 1).1) 0) = 0))) rfl (e_pick_t rfl (decide_eq_true q64) rfl) ?_
 refine l_val (v := Value.bool (decide ((gI ((hopR (3, [(0, 1), (1, 2), (2, 0)]) ([[0, 5], [1, 2], [3, 4]]) 0 1).1) 0) = 0))) rfl (e_move rfl) ?_
 have q70 : (gI ((hopR (3, [(0, 1), (1, 2), (2, 0)]) ([[0, 5], [1, 2], [3, 4]]) 0 1).1) 0) = 0 := by first | rfl | decide +kernel
 refine l_val (v := Value.int .i64 ((hopR (3, [(0, 1), (1, 2), (2, 0)]) ([[0, 5], [1, 2], [3, 4]]) 0 1).2)) (want_y rfl rfl rfl (decide_eq_true q70)) (e_move rfl) ?_
 refine l_val (v := Value.bool (decide (((hopR (3, [(0, 1), (1, 2), (2, 0)]) ([[0, 5], [1, 2], [3, 4]]) 0 1).2) = 0))) (want_y rfl rfl rfl (decide_eq_true q70)) (e_eql (m := (hopR (3, [(0, 1), (1, 2), (2, 0)]) ([[0, 5], [1, 2], [3, 4]]) 0 1).2) (n := 0) rfl rfl) ?_
 refine l_val (v := Value.bool (decide (((hopR (3, [(0, 1), (1, 2), (2, 0)]) ([[0, 5], [1, 2], [3, 4]]) 0 1).2) = 0))) rfl (e_pick_t rfl (decide_eq_true q70) rfl) ?_
 refine l_val (v := Value.bool (decide (((hopR (3, [(0, 1), (1, 2), (2, 0)]) ([[0, 5], [1, 2], [3, 4]]) 0 1).2) = 0))) rfl (e_assign rfl) ?_
 refine l_nil ?_
 refine run_ret (vs := [Value.bool (decide (((hopR (3, [(0, 1), (1, 2), (2, 0)]) ([[0, 5], [1, 2], [3, 4]]) 0 1).2) = 0))]) Try.func21 (.tmp rfl .nil) ?_
 -- return 0
 have e0 : (decide (((hopR (3, [(0, 1), (1, 2), (2, 0)]) ([[0, 5], [1, 2], [3, 4]]) 0 1).2) = 0) : Bool) = (true) := by
   rfl
 have C100 : Chg (inl [1, 7, 10, 13]) _ _ _ _ := (ch2.n).seq ((ch9.n).seq ((ch14.n).seq ((ch19.n).seq ((ch24.n).seq ((ch35.n).seq ((ch38.l rfl).seq ((ch43.n).seq ((ch48.l rfl).seq ((ch60.n).seq ((ch62.n).seq ((ch67.l rfl).seq ((ch78.n).seq ((ch80.n).seq ((ch85.l rfl).seq (ch94.n)))))))))))))))
 replace hbase := hbase.chg C100 (is_nl rfl)
 exact ⟨(congrArg (a₁ := decide (((hopR (3, [(0, 1), (1, 2), (2, 0)]) ([[0, 5], [1, 2], [3, 4]]) 0 1).2) = 0)) (fun (z0 : Bool) => Ending.returned (Value.bool z0)) e0), hbase.below⟩
end TL
