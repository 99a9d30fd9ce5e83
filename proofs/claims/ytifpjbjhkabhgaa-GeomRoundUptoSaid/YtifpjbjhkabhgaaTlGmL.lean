import Derived.Test.YtifpjbjhkabhgaaTlGmA
import Derived.Test.YtifpjbjhkabhgaaProg
import Derived.Test.YtifpjbjhkabhgaaTlNet2
import Derived.Test.YtifpjbjhkabhgaaTlEq
import Derived.Test.YtifpjbjhkabhgaaTlHold
import Derived.Test.YtifpjbjhkabhgaaTlDraw
import Derived.Test.YtifpjbjhkabhgaaTlMap
set_option linter.all false
set_option maxRecDepth 20000
namespace TL
open Go Go.Proofs
theorem mixed_gl : Try.prog.follows .mixedOrders = true := by kernel_rfl
theorem tp23_gl : Tp Try.prog 23 true 2 16 (.agg #[.int .i64 0, .int .i64 0]) := Tp.of (by kernel_rfl)
theorem bd63_gl : Try.f63.body.isNone = false := rfl
theorem nm63_gl : (Try.f63.name == "runtime.NumGoroutine") = false := by decide +kernel

set_option maxHeartbeats 2000000 in
theorem line_ok (w0 : World) (a : (Int) × (Int)) (b : (Int) × (Int)) (c : (Int) × (Int)) (d : (Int) × (Int)) :
    Calls Try.prog 55 #[Value.agg (List.toArray [Value.int .i64 a.1, Value.int .i64 a.2]), Value.agg (List.toArray [Value.int .i64 b.1, Value.int .i64 b.2]), Value.agg (List.toArray [Value.int .i64 c.1, Value.int .i64 c.2]), Value.agg (List.toArray [Value.int .i64 d.1, Value.int .i64 d.2])] w0 (fun ee w => ee = .returned (Value.int .i64 (lineP a b c d)) ∧ Bel w0.heap.size w0 w) := by
 refine calls_of_run Try.func55 rfl (Nat.le_of_ble_eq_true rfl) ?_
 have hbase := Base.start w0
 refine run_seq (run_region rfl (l_op rfl ?_))
 refine o_box c0 (is 1) (1, 0) rfl rfl ?_
 intro g4 w1 b3 ch2 bx5
 replace bx5 : Bx g4 (is 1) w1 b3 [Value.int .i64 a.1, Value.int .i64 a.2] := bx5
 refine l_op rfl ?_
 refine o_box g4 (is 2) (2, 0) rfl rfl ?_
 intro g9 w6 b8 ch7 bx10
 replace bx10 : Bx g9 (is 2) w6 b8 [Value.int .i64 b.1, Value.int .i64 b.2] := bx10
 refine l_op rfl ?_
 refine o_box g9 (is 3) (3, 0) rfl rfl ?_
 intro g14 w11 b13 ch12 bx15
 replace bx15 : Bx g14 (is 3) w11 b13 [Value.int .i64 c.1, Value.int .i64 c.2] := bx15
 refine l_op rfl ?_
 refine o_box g14 (is 4) (4, 0) rfl rfl ?_
 intro g19 w16 b18 ch17 bx20
 replace bx20 : Bx g19 (is 4) w16 b18 [Value.int .i64 d.1, Value.int .i64 d.2] := bx20
 refine l_val (v := Value.int .i64 0) rfl (e_assign rfl) ?_
 refine l_nil (run_seq (run_seq (run_region rfl ?_)))
 have C21 : Chg (inl []) _ _ _ _ := (ch7.n).seq ((ch12.n).seq (ch17.n))
 replace bx5 := bx5.chg C21 (is_nl rfl)
 refine l_val (v := Value.agg (List.toArray [Value.int .i64 a.1, Value.int .i64 a.2])) rfl (e_load_bxN (ds := [Value.int .i64 a.1, Value.int .i64 a.2]) tp23_gl rfl bx5 rfl rfl) ?_
 replace bx10 := (bx10.chg ch12 (not_no _)).chg ch17 (not_no _)
 refine l_val (v := Value.agg (List.toArray [Value.int .i64 b.1, Value.int .i64 b.2])) rfl (e_load_bxN (ds := [Value.int .i64 b.1, Value.int .i64 b.2]) tp23_gl rfl bx10 rfl rfl) ?_
 refine l_op rfl ?_
 refine o_call (v := Value.int .i64 (ordP a b)) (e_call (vals := [Value.agg (List.toArray [Value.int .i64 a.1, Value.int .i64 a.2]), Value.agg (List.toArray [Value.int .i64 b.1, Value.int .i64 b.2])]) Try.func63 bd63_gl nm63_gl rfl) (order_ok w16 a b) ?_
 intro w22 hb23
 replace hb23 := chg_below hb23 g19
 refine l_val (v := Value.bool (decide (0 < (ordP a b)))) rfl (e_gtr (m := ordP a b) (n := 0) rfl rfl) ?_
 refine l_nil ?_
 by_cases p1 : 0 < (ordP a b)
 ·
  refine run_cond_t rfl (decide_eq_true p1) ?_
  refine run_region rfl ?_
  replace bx10 := bx10.chg hb23 (not_no _)
  refine l_val (v := Value.agg (List.toArray [Value.int .i64 b.1, Value.int .i64 b.2])) rfl (e_load_bxN (ds := [Value.int .i64 b.1, Value.int .i64 b.2]) tp23_gl rfl bx10 rfl rfl) ?_
  replace bx5 := bx5.chg hb23 (not_no _)
  refine l_val (v := Value.agg (List.toArray [Value.int .i64 a.1, Value.int .i64 a.2])) rfl (e_load_bxN (ds := [Value.int .i64 a.1, Value.int .i64 a.2]) tp23_gl rfl bx5 rfl rfl) ?_
  refine l_op rfl ?_
  refine o_store_bx (cs' := [Value.int .i64 b.1, Value.int .i64 b.2]) tp23_gl rfl rfl bx5 rfl (Nat.le_of_ble_eq_true rfl) (AllOne.all (.cons rfl (.cons rfl .nil))) rfl ?_
  intro w24 ch25 bx26
  clear bx5
  refine l_op rfl ?_
  replace bx10 := bx10.chg ch25 (is_ne rfl)
  refine o_store_bx (cs' := [Value.int .i64 a.1, Value.int .i64 a.2]) tp23_gl rfl rfl bx10 rfl (Nat.le_of_ble_eq_true rfl) (AllOne.all (.cons rfl (.cons rfl .nil))) rfl ?_
  intro w27 ch28 bx29
  clear bx10
  refine l_nil (run_seq (run_seq (run_region rfl ?_)))
  have C30 : Chg (inl [1, 2]) _ _ _ _ := (ch17.n).seq ((hb23.n).seq ((ch25.l rfl).seq (ch28.l rfl)))
  replace bx15 := bx15.chg C30 (is_nl rfl)
  refine l_val (v := Value.agg (List.toArray [Value.int .i64 c.1, Value.int .i64 c.2])) rfl (e_load_bxN (ds := [Value.int .i64 c.1, Value.int .i64 c.2]) tp23_gl rfl bx15 rfl rfl) ?_
  have C31 : Chg (inl [1, 2]) _ _ _ _ := (hb23.n).seq ((ch25.l rfl).seq (ch28.l rfl))
  replace bx20 := bx20.chg C31 (is_nl rfl)
  refine l_val (v := Value.agg (List.toArray [Value.int .i64 d.1, Value.int .i64 d.2])) rfl (e_load_bxN (ds := [Value.int .i64 d.1, Value.int .i64 d.2]) tp23_gl rfl bx20 rfl rfl) ?_
  refine l_op rfl ?_
  refine o_call (v := Value.int .i64 (ordP c d)) (e_call (vals := [Value.agg (List.toArray [Value.int .i64 c.1, Value.int .i64 c.2]), Value.agg (List.toArray [Value.int .i64 d.1, Value.int .i64 d.2])]) Try.func63 bd63_gl nm63_gl rfl) (order_ok w27 c d) ?_
  intro w32 hb33
  replace hb33 := chg_below hb33 g19
  refine l_val (v := Value.bool (decide (0 < (ordP c d)))) rfl (e_gtr (m := ordP c d) (n := 0) rfl rfl) ?_
  refine l_nil ?_
  by_cases p3 : 0 < (ordP c d)
  ·
   refine run_cond_t rfl (decide_eq_true p3) ?_
   refine run_region rfl ?_
   replace bx20 := bx20.chg hb33 (not_no _)
   refine l_val (v := Value.agg (List.toArray [Value.int .i64 d.1, Value.int .i64 d.2])) rfl (e_load_bxN (ds := [Value.int .i64 d.1, Value.int .i64 d.2]) tp23_gl rfl bx20 rfl rfl) ?_
   replace bx15 := bx15.chg hb33 (not_no _)
   refine l_val (v := Value.agg (List.toArray [Value.int .i64 c.1, Value.int .i64 c.2])) rfl (e_load_bxN (ds := [Value.int .i64 c.1, Value.int .i64 c.2]) tp23_gl rfl bx15 rfl rfl) ?_
   refine l_op rfl ?_
   refine o_store_bx (cs' := [Value.int .i64 d.1, Value.int .i64 d.2]) tp23_gl rfl rfl bx15 rfl (Nat.le_of_ble_eq_true rfl) (AllOne.all (.cons rfl (.cons rfl .nil))) rfl ?_
   intro w34 ch35 bx36
   clear bx15
   refine l_op rfl ?_
   replace bx20 := bx20.chg ch35 (is_ne rfl)
   refine o_store_bx (cs' := [Value.int .i64 c.1, Value.int .i64 c.2]) tp23_gl rfl rfl bx20 rfl (Nat.le_of_ble_eq_true rfl) (AllOne.all (.cons rfl (.cons rfl .nil))) rfl ?_
   intro w37 ch38 bx39
   clear bx20
   refine l_nil (run_seq ?_)
   refine region_midh (σ := Nat × Nat × Cmap) (fun ⟨b46, b52, gq⟩ f w => Base w0 gq w ∧ f 6 = Value.pointer (some ⟨b13, 0, none⟩) ∧ f 7 = Value.pointer (some ⟨b18, 0, none⟩) ∧ f 9 = Value.pointer (some ⟨b46, 0, none⟩) ∧ f 10 = Value.pointer (some ⟨b52, 0, none⟩) ∧ Bx gq (is 3) w b13 [Value.int .i64 d.1, Value.int .i64 d.2] ∧ Bx gq (is 4) w b18 [Value.int .i64 c.1, Value.int .i64 c.2] ∧ Bx gq (is 5) w b46 [Value.int .i64 b.1, Value.int .i64 b.2] ∧ Bx gq (is 6) w b52 [Value.int .i64 a.1, Value.int .i64 a.2]) g19 (inl [5, 6]) mixed_gl ?_ ?_
   ·
    intro mid
    intro w41 ch40
    have C42 : Chg (inl [2, 3, 4]) _ _ _ _ := (ch28.l rfl).seq ((hb33.n).seq ((ch35.l rfl).seq ((ch38.l rfl).seq (ch40.n))))
    replace bx26 := bx26.chg C42 (is_nl rfl)
    refine h_take (v := Value.agg (List.toArray [Value.int .i64 b.1, Value.int .i64 b.2])) 0 rfl (by kernel_rfl) (by kernel_rfl) rfl (Chg.refl _ _ _) (fun w' hw' => e_load_bxN (ds := [Value.int .i64 b.1, Value.int .i64 b.2]) tp23_gl rfl (bx26.chg hw' (is_nl rfl)) rfl rfl) ?_
    have C43 : Chg (inl [3, 4]) _ _ _ _ := (hb33.n).seq ((ch35.l rfl).seq ((ch38.l rfl).seq (ch40.n)))
    replace bx29 := bx29.chg C43 (is_nl rfl)
    refine h_take (v := Value.agg (List.toArray [Value.int .i64 a.1, Value.int .i64 a.2])) 1 rfl (by kernel_rfl) (by kernel_rfl) rfl (Chg.refl _ _ _) (fun w' hw' => e_load_bxN (ds := [Value.int .i64 a.1, Value.int .i64 a.2]) tp23_gl rfl (bx29.chg hw' (is_nl rfl)) rfl rfl) ?_
    refine h_many 2 [3] (by kernel_rfl) ⟨h_of 2 rfl (by kernel_rfl) rfl ?_, h_of 3 rfl (by kernel_rfl) rfl ?_, trivial⟩
    ·
     refine o_alloc g19 (is 5) (5, 0) rfl tp23_gl ?_
     intro g47 w44 b46 ch45 bx48
     replace bx48 : Bx g47 (is 5) w44 b46 [Value.int .i64 0, Value.int .i64 0] := bx48
     have hs49 : Chg (inl [5, 6]) _ _ _ _ := ch45.n
     refine ⟨hs49.same, ?_⟩
     refine h_one 3 rfl (by kernel_rfl) rfl ?_
     refine o_alloc g47 (is 6) (6, 0) rfl tp23_gl ?_
     intro g53 w50 b52 ch51 bx54
     replace bx54 : Bx g53 (is 6) w50 b52 [Value.int .i64 0, Value.int .i64 0] := bx54
     have hs55 := hs49.seq (ch51.n)
     refine ⟨hs55.same, ?_⟩
     refine h_one 4 rfl (by kernel_rfl) rfl ?_
     replace bx48 := bx48.chg ch51 (not_no _)
     refine o_store_bx (cs' := [Value.int .i64 b.1, Value.int .i64 b.2]) tp23_gl rfl rfl bx48 rfl (Nat.le_of_ble_eq_true rfl) (AllOne.all (.cons rfl (.cons rfl .nil))) rfl ?_
     intro w56 ch57 bx58
     clear bx48
     have hs59 := hs55.seq (ch57.l rfl)
     refine ⟨hs59.same, ?_⟩
     refine h_one 5 rfl (by kernel_rfl) rfl ?_
     replace bx54 := bx54.chg ch57 (is_ne rfl)
     refine o_store_bx (cs' := [Value.int .i64 a.1, Value.int .i64 a.2]) tp23_gl rfl rfl bx54 rfl (Nat.le_of_ble_eq_true rfl) (AllOne.all (.cons rfl (.cons rfl .nil))) rfl ?_
     intro w60 ch61 bx62
     clear bx54
     have hs63 := hs59.seq (ch61.l rfl)
     refine ⟨hs63.same, ?_⟩
     refine h_nil (by kernel_rfl) ?_
     have C64 : Chg (inl [1, 2, 3, 4, 5, 6]) _ _ _ _ := (ch2.n).seq ((ch7.n).seq ((ch12.n).seq ((ch17.n).seq ((hb23.n).seq ((ch25.l rfl).seq ((ch28.l rfl).seq ((hb33.n).seq ((ch35.l rfl).seq ((ch38.l rfl).seq ((ch40.n).seq ((ch45.n).seq ((ch51.n).seq ((ch57.l rfl).seq (ch61.l rfl))))))))))))))
     replace hbase := hbase.chg C64 (is_nl rfl)
     replace bx36 := (bx36.chg ch38 (is_ne rfl)).chg ch40 (not_no _)
     replace bx39 := bx39.chg ch40 (not_no _)
     replace bx58 := bx58.chg ch61 (is_ne rfl)
     exact mid (b46, b52, g53) _ _ ⟨hbase, rfl, rfl, rfl, rfl, (bx36.chg hs63 (is_nl rfl)), (bx39.chg hs63 (is_nl rfl)), bx58, bx62⟩
    ·
     refine o_alloc g19 (is 6) (6, 0) rfl tp23_gl ?_
     intro g68 w65 b67 ch66 bx69
     replace bx69 : Bx g68 (is 6) w65 b67 [Value.int .i64 0, Value.int .i64 0] := bx69
     have hs70 : Chg (inl [5, 6]) _ _ _ _ := ch66.n
     refine ⟨hs70.same, ?_⟩
     refine h_one 2 rfl (by kernel_rfl) rfl ?_
     refine o_alloc g68 (is 5) (5, 0) rfl tp23_gl ?_
     intro g74 w71 b73 ch72 bx75
     replace bx75 : Bx g74 (is 5) w71 b73 [Value.int .i64 0, Value.int .i64 0] := bx75
     have hs76 := hs70.seq (ch72.n)
     refine ⟨hs76.same, ?_⟩
     refine h_one 4 rfl (by kernel_rfl) rfl ?_
     refine o_store_bx (cs' := [Value.int .i64 b.1, Value.int .i64 b.2]) tp23_gl rfl rfl bx75 rfl (Nat.le_of_ble_eq_true rfl) (AllOne.all (.cons rfl (.cons rfl .nil))) rfl ?_
     intro w77 ch78 bx79
     clear bx75
     have hs80 := hs76.seq (ch78.l rfl)
     refine ⟨hs80.same, ?_⟩
     refine h_one 5 rfl (by kernel_rfl) rfl ?_
     replace bx69 := (bx69.chg ch72 (not_no _)).chg ch78 (is_ne rfl)
     refine o_store_bx (cs' := [Value.int .i64 a.1, Value.int .i64 a.2]) tp23_gl rfl rfl bx69 rfl (Nat.le_of_ble_eq_true rfl) (AllOne.all (.cons rfl (.cons rfl .nil))) rfl ?_
     intro w81 ch82 bx83
     clear bx69
     have hs84 := hs80.seq (ch82.l rfl)
     refine ⟨hs84.same, ?_⟩
     refine h_nil (by kernel_rfl) ?_
     have C85 : Chg (inl [1, 2, 3, 4, 5, 6]) _ _ _ _ := (ch2.n).seq ((ch7.n).seq ((ch12.n).seq ((ch17.n).seq ((hb23.n).seq ((ch25.l rfl).seq ((ch28.l rfl).seq ((hb33.n).seq ((ch35.l rfl).seq ((ch38.l rfl).seq ((ch40.n).seq ((ch66.n).seq ((ch72.n).seq ((ch78.l rfl).seq (ch82.l rfl))))))))))))))
     replace hbase := hbase.chg C85 (is_nl rfl)
     replace bx36 := (bx36.chg ch38 (is_ne rfl)).chg ch40 (not_no _)
     replace bx39 := bx39.chg ch40 (not_no _)
     replace bx79 := bx79.chg ch82 (is_ne rfl)
     exact mid (b73, b67, g74) _ _ ⟨hbase, rfl, rfl, rfl, rfl, (bx36.chg hs84 (is_nl rfl)), (bx39.chg hs84 (is_nl rfl)), bx79, bx83⟩
   clear bx26
   clear bx29
   clear bx36
   clear bx39
   clear hbase
   rintro ⟨b46, b52, g88⟩ f86 w87 ⟨hbase, zs6, zs7, zs9, zs10, bx36, bx39, bx58, bx62⟩
   refine run_seq (run_seq (run_region rfl ?_))
   refine l_val (v := Value.agg (List.toArray [Value.int .i64 d.1, Value.int .i64 d.2])) rfl (e_load_bxN (ds := [Value.int .i64 d.1, Value.int .i64 d.2]) tp23_gl (by exact zs6) bx36 rfl rfl) ?_
   refine l_val (v := Value.agg (List.toArray [Value.int .i64 b.1, Value.int .i64 b.2])) rfl (e_load_bxN (ds := [Value.int .i64 b.1, Value.int .i64 b.2]) tp23_gl (by exact zs9) bx58 rfl rfl) ?_
   refine l_op rfl ?_
   refine o_call (v := Value.int .i64 (ordP d b)) (e_call (vals := [Value.agg (List.toArray [Value.int .i64 d.1, Value.int .i64 d.2]), Value.agg (List.toArray [Value.int .i64 b.1, Value.int .i64 b.2])]) Try.func63 bd63_gl nm63_gl rfl) (order_ok w87 d b) ?_
   intro w89 hb90
   replace hb90 := chg_below hb90 g88
   refine l_val (v := Value.bool (decide (0 < (ordP d b)))) rfl (e_gtr (m := ordP d b) (n := 0) rfl rfl) ?_
   refine l_nil ?_
   by_cases p6 : 0 < (ordP d b)
   ·
    refine run_cond_t rfl (decide_eq_true p6) ?_
    refine run_region rfl ?_
    replace bx36 := bx36.chg hb90 (not_no _)
    refine l_val (v := Value.agg (List.toArray [Value.int .i64 d.1, Value.int .i64 d.2])) rfl (e_load_bxN (ds := [Value.int .i64 d.1, Value.int .i64 d.2]) tp23_gl (by exact zs6) bx36 rfl rfl) ?_
    refine l_op rfl ?_
    replace bx58 := bx58.chg hb90 (not_no _)
    refine o_store_bx (cs' := [Value.int .i64 d.1, Value.int .i64 d.2]) tp23_gl (by exact zs9) rfl bx58 rfl (Nat.le_of_ble_eq_true rfl) (AllOne.all (.cons rfl (.cons rfl .nil))) rfl ?_
    intro w91 ch92 bx93
    clear bx58
    refine l_nil (run_seq (run_seq ?_))
    clear bx36
    refine run_region rfl ?_
    replace bx39 := (bx39.chg hb90 (not_no _)).chg ch92 (is_ne rfl)
    refine l_val (v := Value.agg (List.toArray [Value.int .i64 c.1, Value.int .i64 c.2])) rfl (e_load_bxN (ds := [Value.int .i64 c.1, Value.int .i64 c.2]) tp23_gl (by exact zs7) bx39 rfl rfl) ?_
    replace bx62 := (bx62.chg hb90 (not_no _)).chg ch92 (is_ne rfl)
    refine l_val (v := Value.agg (List.toArray [Value.int .i64 a.1, Value.int .i64 a.2])) rfl (e_load_bxN (ds := [Value.int .i64 a.1, Value.int .i64 a.2]) tp23_gl (by exact zs10) bx62 rfl rfl) ?_
    refine l_op rfl ?_
    refine o_call (v := Value.int .i64 (ordP c a)) (e_call (vals := [Value.agg (List.toArray [Value.int .i64 c.1, Value.int .i64 c.2]), Value.agg (List.toArray [Value.int .i64 a.1, Value.int .i64 a.2])]) Try.func63 bd63_gl nm63_gl rfl) (order_ok w91 c a) ?_
    intro w94 hb95
    replace hb95 := chg_below hb95 g88
    refine l_val (v := Value.bool (decide ((ordP c a) < 0))) rfl (e_lss (m := ordP c a) (n := 0) rfl rfl) ?_
    refine l_nil ?_
    by_cases p8 : (ordP c a) < 0
    ·
     refine run_cond_t rfl (decide_eq_true p8) ?_
     refine run_region rfl ?_
     replace bx39 := bx39.chg hb95 (not_no _)
     refine l_val (v := Value.agg (List.toArray [Value.int .i64 c.1, Value.int .i64 c.2])) rfl (e_load_bxN (ds := [Value.int .i64 c.1, Value.int .i64 c.2]) tp23_gl (by exact zs7) bx39 rfl rfl) ?_
     refine l_op rfl ?_
     replace bx62 := bx62.chg hb95 (not_no _)
     refine o_store_bx (cs' := [Value.int .i64 c.1, Value.int .i64 c.2]) tp23_gl (by exact zs10) rfl bx62 rfl (Nat.le_of_ble_eq_true rfl) (AllOne.all (.cons rfl (.cons rfl .nil))) rfl ?_
     intro w96 ch97 bx98
     clear bx62
     refine l_nil (run_seq (run_seq ?_))
     clear bx39
     refine run_region rfl ?_
     replace bx93 := (bx93.chg hb95 (not_no _)).chg ch97 (is_ne rfl)
     refine l_val (v := Value.agg (List.toArray [Value.int .i64 d.1, Value.int .i64 d.2])) rfl (e_load_bxN (ds := [Value.int .i64 d.1, Value.int .i64 d.2]) tp23_gl (by exact zs9) bx93 rfl rfl) ?_
     refine l_val (v := Value.agg (List.toArray [Value.int .i64 c.1, Value.int .i64 c.2])) rfl (e_load_bxN (ds := [Value.int .i64 c.1, Value.int .i64 c.2]) tp23_gl (by exact zs10) bx98 rfl rfl) ?_
     refine l_op rfl ?_
     refine o_call (v := Value.int .i64 (ordP d c)) (e_call (vals := [Value.agg (List.toArray [Value.int .i64 d.1, Value.int .i64 d.2]), Value.agg (List.toArray [Value.int .i64 c.1, Value.int .i64 c.2])]) Try.func63 bd63_gl nm63_gl rfl) (order_ok w96 d c) ?_
     intro w99 hb100
     replace hb100 := chg_below hb100 g88
     refine l_val (v := Value.int .i64 (ordP d c)) rfl (e_assign rfl) ?_
     refine l_nil ?_
     refine run_block ?_
     refine run_seq ?_
     clear bx93
     clear bx98
     refine run_region rfl ?_
     refine l_val (v := Value.int .i64 (ordP d c)) rfl (e_move rfl) ?_
     refine l_val (v := Value.bool (decide (0 < (ordP d c)))) rfl (e_gtr (m := ordP d c) (n := 0) rfl rfl) ?_
     refine l_val (v := Value.bool (decide (0 < (ordP d c)))) rfl (e_assign rfl) ?_
     refine l_nil ?_
     by_cases p11 : 0 < (ordP d c)
     ·
      refine run_cond_t rfl (decide_eq_true p11) ?_
      refine run_seq (run_region rfl ?_)
      refine l_val (v := Value.int .i64 0) rfl (e_assign rfl) ?_
      refine l_nil ?_
      refine run_ret (vs := [Value.int .i64 0]) Try.func55 (.tmp rfl .nil) ?_
      -- return 0
      have e0 : (0 : Int) = (lineP a b c d) := by
        simp only [lineP, *, if_true, if_false, Int.lt_irrefl]
      have C101 : Chg (inl [5, 6]) _ _ _ _ := (hb90.n).seq ((ch92.l rfl).seq ((hb95.n).seq ((ch97.l rfl).seq (hb100.n))))
      replace hbase := hbase.chg C101 (is_nl rfl)
      exact ⟨(congrArg (a₁ := 0) (fun (z0 : Int) => Ending.returned (Value.int .i64 z0)) e0), hbase.below⟩
     refine run_cond_f rfl (decide_eq_false p11) ?_
     refine run_seq (run_region rfl ?_)
     refine l_val (v := Value.int .i64 (ordP d c)) rfl (e_move rfl) ?_
     refine l_val (v := Value.bool (decide ((ordP d c) = 0))) rfl (e_eql (m := ordP d c) (n := 0) rfl rfl) ?_
     refine l_val (v := Value.bool (decide ((ordP d c) = 0))) rfl (e_assign rfl) ?_
     refine l_nil ?_
     by_cases p13 : (ordP d c) = 0
     ·
      refine run_cond_t rfl (decide_eq_true p13) ?_
      refine run_seq (run_region rfl ?_)
      refine l_val (v := Value.int .i64 2) rfl (e_assign rfl) ?_
      refine l_nil ?_
      refine run_ret (vs := [Value.int .i64 2]) Try.func55 (.tmp rfl .nil) ?_
      -- return 1
      have e0 : (2 : Int) = (lineP a b c d) := by
        simp only [lineP, *, if_true, if_false, Int.lt_irrefl]
      have C102 : Chg (inl [5, 6]) _ _ _ _ := (hb90.n).seq ((ch92.l rfl).seq ((hb95.n).seq ((ch97.l rfl).seq (hb100.n))))
      replace hbase := hbase.chg C102 (is_nl rfl)
      exact ⟨(congrArg (a₁ := 2) (fun (z0 : Int) => Ending.returned (Value.int .i64 z0)) e0), hbase.below⟩
     refine run_cond_f rfl (decide_eq_false p13) ?_
     refine run_skip ?_
     refine run_inBlock ?_
     refine run_seq (run_region rfl ?_)
     refine l_val (v := Value.int .i64 3) rfl (e_assign rfl) ?_
     refine l_nil ?_
     refine run_ret (vs := [Value.int .i64 3]) Try.func55 (.tmp rfl .nil) ?_
     -- return 2
     have e0 : (3 : Int) = (lineP a b c d) := by
       simp only [lineP, *, if_true, if_false, Int.lt_irrefl]
     have C103 : Chg (inl [5, 6]) _ _ _ _ := (hb90.n).seq ((ch92.l rfl).seq ((hb95.n).seq ((ch97.l rfl).seq (hb100.n))))
     replace hbase := hbase.chg C103 (is_nl rfl)
     exact ⟨(congrArg (a₁ := 3) (fun (z0 : Int) => Ending.returned (Value.int .i64 z0)) e0), hbase.below⟩
    refine run_cond_f rfl (decide_eq_false p8) ?_
    refine run_skip ?_
    refine run_seq (run_seq ?_)
    clear bx39
    refine run_region rfl ?_
    replace bx93 := bx93.chg hb95 (not_no _)
    refine l_val (v := Value.agg (List.toArray [Value.int .i64 d.1, Value.int .i64 d.2])) rfl (e_load_bxN (ds := [Value.int .i64 d.1, Value.int .i64 d.2]) tp23_gl (by exact zs9) bx93 rfl rfl) ?_
    replace bx62 := bx62.chg hb95 (not_no _)
    refine l_val (v := Value.agg (List.toArray [Value.int .i64 a.1, Value.int .i64 a.2])) rfl (e_load_bxN (ds := [Value.int .i64 a.1, Value.int .i64 a.2]) tp23_gl (by exact zs10) bx62 rfl rfl) ?_
    refine l_op rfl ?_
    refine o_call (v := Value.int .i64 (ordP d a)) (e_call (vals := [Value.agg (List.toArray [Value.int .i64 d.1, Value.int .i64 d.2]), Value.agg (List.toArray [Value.int .i64 a.1, Value.int .i64 a.2])]) Try.func63 bd63_gl nm63_gl rfl) (order_ok w94 d a) ?_
    intro w104 hb105
    replace hb105 := chg_below hb105 g88
    refine l_val (v := Value.int .i64 (ordP d a)) rfl (e_assign rfl) ?_
    refine l_nil ?_
    refine run_block ?_
    refine run_seq ?_
    clear bx62
    clear bx93
    refine run_region rfl ?_
    refine l_val (v := Value.int .i64 (ordP d a)) rfl (e_move rfl) ?_
    refine l_val (v := Value.bool (decide (0 < (ordP d a)))) rfl (e_gtr (m := ordP d a) (n := 0) rfl rfl) ?_
    refine l_val (v := Value.bool (decide (0 < (ordP d a)))) rfl (e_assign rfl) ?_
    refine l_nil ?_
    by_cases p11 : 0 < (ordP d a)
    ·
     refine run_cond_t rfl (decide_eq_true p11) ?_
     refine run_seq (run_region rfl ?_)
     refine l_val (v := Value.int .i64 0) rfl (e_assign rfl) ?_
     refine l_nil ?_
     refine run_ret (vs := [Value.int .i64 0]) Try.func55 (.tmp rfl .nil) ?_
     -- return 3
     have e0 : (0 : Int) = (lineP a b c d) := by
       simp only [lineP, *, if_true, if_false, Int.lt_irrefl]
     have C106 : Chg (inl [5]) _ _ _ _ := (hb90.n).seq ((ch92.l rfl).seq ((hb95.n).seq (hb105.n)))
     replace hbase := hbase.chg C106 (is_nl rfl)
     exact ⟨(congrArg (a₁ := 0) (fun (z0 : Int) => Ending.returned (Value.int .i64 z0)) e0), hbase.below⟩
    refine run_cond_f rfl (decide_eq_false p11) ?_
    refine run_seq (run_region rfl ?_)
    refine l_val (v := Value.int .i64 (ordP d a)) rfl (e_move rfl) ?_
    refine l_val (v := Value.bool (decide ((ordP d a) = 0))) rfl (e_eql (m := ordP d a) (n := 0) rfl rfl) ?_
    refine l_val (v := Value.bool (decide ((ordP d a) = 0))) rfl (e_assign rfl) ?_
    refine l_nil ?_
    by_cases p13 : (ordP d a) = 0
    ·
     refine run_cond_t rfl (decide_eq_true p13) ?_
     refine run_seq (run_region rfl ?_)
     refine l_val (v := Value.int .i64 2) rfl (e_assign rfl) ?_
     refine l_nil ?_
     refine run_ret (vs := [Value.int .i64 2]) Try.func55 (.tmp rfl .nil) ?_
     -- return 4
     have e0 : (2 : Int) = (lineP a b c d) := by
       simp only [lineP, *, if_true, if_false, Int.lt_irrefl]
     have C107 : Chg (inl [5]) _ _ _ _ := (hb90.n).seq ((ch92.l rfl).seq ((hb95.n).seq (hb105.n)))
     replace hbase := hbase.chg C107 (is_nl rfl)
     exact ⟨(congrArg (a₁ := 2) (fun (z0 : Int) => Ending.returned (Value.int .i64 z0)) e0), hbase.below⟩
    refine run_cond_f rfl (decide_eq_false p13) ?_
    refine run_skip ?_
    refine run_inBlock ?_
    refine run_seq (run_region rfl ?_)
    refine l_val (v := Value.int .i64 3) rfl (e_assign rfl) ?_
    refine l_nil ?_
    refine run_ret (vs := [Value.int .i64 3]) Try.func55 (.tmp rfl .nil) ?_
    -- return 5
    have e0 : (3 : Int) = (lineP a b c d) := by
      simp only [lineP, *, if_true, if_false, Int.lt_irrefl]
    have C108 : Chg (inl [5]) _ _ _ _ := (hb90.n).seq ((ch92.l rfl).seq ((hb95.n).seq (hb105.n)))
    replace hbase := hbase.chg C108 (is_nl rfl)
    exact ⟨(congrArg (a₁ := 3) (fun (z0 : Int) => Ending.returned (Value.int .i64 z0)) e0), hbase.below⟩
   refine run_cond_f rfl (decide_eq_false p6) ?_
   refine run_skip ?_
   refine run_seq (run_seq ?_)
   clear bx36
   refine run_region rfl ?_
   replace bx39 := bx39.chg hb90 (not_no _)
   refine l_val (v := Value.agg (List.toArray [Value.int .i64 c.1, Value.int .i64 c.2])) rfl (e_load_bxN (ds := [Value.int .i64 c.1, Value.int .i64 c.2]) tp23_gl (by exact zs7) bx39 rfl rfl) ?_
   replace bx62 := bx62.chg hb90 (not_no _)
   refine l_val (v := Value.agg (List.toArray [Value.int .i64 a.1, Value.int .i64 a.2])) rfl (e_load_bxN (ds := [Value.int .i64 a.1, Value.int .i64 a.2]) tp23_gl (by exact zs10) bx62 rfl rfl) ?_
   refine l_op rfl ?_
   refine o_call (v := Value.int .i64 (ordP c a)) (e_call (vals := [Value.agg (List.toArray [Value.int .i64 c.1, Value.int .i64 c.2]), Value.agg (List.toArray [Value.int .i64 a.1, Value.int .i64 a.2])]) Try.func63 bd63_gl nm63_gl rfl) (order_ok w89 c a) ?_
   intro w109 hb110
   replace hb110 := chg_below hb110 g88
   refine l_val (v := Value.bool (decide ((ordP c a) < 0))) rfl (e_lss (m := ordP c a) (n := 0) rfl rfl) ?_
   refine l_nil ?_
   by_cases p8 : (ordP c a) < 0
   ·
    refine run_cond_t rfl (decide_eq_true p8) ?_
    refine run_region rfl ?_
    replace bx39 := bx39.chg hb110 (not_no _)
    refine l_val (v := Value.agg (List.toArray [Value.int .i64 c.1, Value.int .i64 c.2])) rfl (e_load_bxN (ds := [Value.int .i64 c.1, Value.int .i64 c.2]) tp23_gl (by exact zs7) bx39 rfl rfl) ?_
    refine l_op rfl ?_
    replace bx62 := bx62.chg hb110 (not_no _)
    refine o_store_bx (cs' := [Value.int .i64 c.1, Value.int .i64 c.2]) tp23_gl (by exact zs10) rfl bx62 rfl (Nat.le_of_ble_eq_true rfl) (AllOne.all (.cons rfl (.cons rfl .nil))) rfl ?_
    intro w111 ch112 bx113
    clear bx62
    refine l_nil (run_seq (run_seq ?_))
    clear bx39
    refine run_region rfl ?_
    have C114 : Chg (inl [6]) _ _ _ _ := (hb90.n).seq ((hb110.n).seq (ch112.l rfl))
    replace bx58 := bx58.chg C114 (is_nl rfl)
    refine l_val (v := Value.agg (List.toArray [Value.int .i64 b.1, Value.int .i64 b.2])) rfl (e_load_bxN (ds := [Value.int .i64 b.1, Value.int .i64 b.2]) tp23_gl (by exact zs9) bx58 rfl rfl) ?_
    refine l_val (v := Value.agg (List.toArray [Value.int .i64 c.1, Value.int .i64 c.2])) rfl (e_load_bxN (ds := [Value.int .i64 c.1, Value.int .i64 c.2]) tp23_gl (by exact zs10) bx113 rfl rfl) ?_
    refine l_op rfl ?_
    refine o_call (v := Value.int .i64 (ordP b c)) (e_call (vals := [Value.agg (List.toArray [Value.int .i64 b.1, Value.int .i64 b.2]), Value.agg (List.toArray [Value.int .i64 c.1, Value.int .i64 c.2])]) Try.func63 bd63_gl nm63_gl rfl) (order_ok w111 b c) ?_
    intro w115 hb116
    replace hb116 := chg_below hb116 g88
    refine l_val (v := Value.int .i64 (ordP b c)) rfl (e_assign rfl) ?_
    refine l_nil ?_
    refine run_block ?_
    refine run_seq ?_
    clear bx58
    clear bx113
    refine run_region rfl ?_
    refine l_val (v := Value.int .i64 (ordP b c)) rfl (e_move rfl) ?_
    refine l_val (v := Value.bool (decide (0 < (ordP b c)))) rfl (e_gtr (m := ordP b c) (n := 0) rfl rfl) ?_
    refine l_val (v := Value.bool (decide (0 < (ordP b c)))) rfl (e_assign rfl) ?_
    refine l_nil ?_
    by_cases p11 : 0 < (ordP b c)
    ·
     refine run_cond_t rfl (decide_eq_true p11) ?_
     refine run_seq (run_region rfl ?_)
     refine l_val (v := Value.int .i64 0) rfl (e_assign rfl) ?_
     refine l_nil ?_
     refine run_ret (vs := [Value.int .i64 0]) Try.func55 (.tmp rfl .nil) ?_
     -- return 6
     have e0 : (0 : Int) = (lineP a b c d) := by
       simp only [lineP, *, if_true, if_false, Int.lt_irrefl]
     have C117 : Chg (inl [6]) _ _ _ _ := (hb90.n).seq ((hb110.n).seq ((ch112.l rfl).seq (hb116.n)))
     replace hbase := hbase.chg C117 (is_nl rfl)
     exact ⟨(congrArg (a₁ := 0) (fun (z0 : Int) => Ending.returned (Value.int .i64 z0)) e0), hbase.below⟩
    refine run_cond_f rfl (decide_eq_false p11) ?_
    refine run_seq (run_region rfl ?_)
    refine l_val (v := Value.int .i64 (ordP b c)) rfl (e_move rfl) ?_
    refine l_val (v := Value.bool (decide ((ordP b c) = 0))) rfl (e_eql (m := ordP b c) (n := 0) rfl rfl) ?_
    refine l_val (v := Value.bool (decide ((ordP b c) = 0))) rfl (e_assign rfl) ?_
    refine l_nil ?_
    by_cases p13 : (ordP b c) = 0
    ·
     refine run_cond_t rfl (decide_eq_true p13) ?_
     refine run_seq (run_region rfl ?_)
     refine l_val (v := Value.int .i64 2) rfl (e_assign rfl) ?_
     refine l_nil ?_
     refine run_ret (vs := [Value.int .i64 2]) Try.func55 (.tmp rfl .nil) ?_
     -- return 7
     have e0 : (2 : Int) = (lineP a b c d) := by
       simp only [lineP, *, if_true, if_false, Int.lt_irrefl]
     have C118 : Chg (inl [6]) _ _ _ _ := (hb90.n).seq ((hb110.n).seq ((ch112.l rfl).seq (hb116.n)))
     replace hbase := hbase.chg C118 (is_nl rfl)
     exact ⟨(congrArg (a₁ := 2) (fun (z0 : Int) => Ending.returned (Value.int .i64 z0)) e0), hbase.below⟩
    refine run_cond_f rfl (decide_eq_false p13) ?_
    refine run_skip ?_
    refine run_inBlock ?_
    refine run_seq (run_region rfl ?_)
    refine l_val (v := Value.int .i64 3) rfl (e_assign rfl) ?_
    refine l_nil ?_
    refine run_ret (vs := [Value.int .i64 3]) Try.func55 (.tmp rfl .nil) ?_
    -- return 8
    have e0 : (3 : Int) = (lineP a b c d) := by
      simp only [lineP, *, if_true, if_false, Int.lt_irrefl]
    have C119 : Chg (inl [6]) _ _ _ _ := (hb90.n).seq ((hb110.n).seq ((ch112.l rfl).seq (hb116.n)))
    replace hbase := hbase.chg C119 (is_nl rfl)
    exact ⟨(congrArg (a₁ := 3) (fun (z0 : Int) => Ending.returned (Value.int .i64 z0)) e0), hbase.below⟩
   refine run_cond_f rfl (decide_eq_false p8) ?_
   refine run_skip ?_
   refine run_seq (run_seq ?_)
   clear bx39
   refine run_region rfl ?_
   replace bx58 := (bx58.chg hb90 (not_no _)).chg hb110 (not_no _)
   refine l_val (v := Value.agg (List.toArray [Value.int .i64 b.1, Value.int .i64 b.2])) rfl (e_load_bxN (ds := [Value.int .i64 b.1, Value.int .i64 b.2]) tp23_gl (by exact zs9) bx58 rfl rfl) ?_
   replace bx62 := bx62.chg hb110 (not_no _)
   refine l_val (v := Value.agg (List.toArray [Value.int .i64 a.1, Value.int .i64 a.2])) rfl (e_load_bxN (ds := [Value.int .i64 a.1, Value.int .i64 a.2]) tp23_gl (by exact zs10) bx62 rfl rfl) ?_
   refine l_op rfl ?_
   refine o_call (v := Value.int .i64 (ordP b a)) (e_call (vals := [Value.agg (List.toArray [Value.int .i64 b.1, Value.int .i64 b.2]), Value.agg (List.toArray [Value.int .i64 a.1, Value.int .i64 a.2])]) Try.func63 bd63_gl nm63_gl rfl) (order_ok w109 b a) ?_
   intro w120 hb121
   replace hb121 := chg_below hb121 g88
   refine l_val (v := Value.int .i64 (ordP b a)) rfl (e_assign rfl) ?_
   refine l_nil ?_
   refine run_block ?_
   refine run_seq ?_
   clear bx58
   clear bx62
   refine run_region rfl ?_
   refine l_val (v := Value.int .i64 (ordP b a)) rfl (e_move rfl) ?_
   refine l_val (v := Value.bool (decide (0 < (ordP b a)))) rfl (e_gtr (m := ordP b a) (n := 0) rfl rfl) ?_
   refine l_val (v := Value.bool (decide (0 < (ordP b a)))) rfl (e_assign rfl) ?_
   refine l_nil ?_
   by_cases p11 : 0 < (ordP b a)
   ·
    refine run_cond_t rfl (decide_eq_true p11) ?_
    refine run_seq (run_region rfl ?_)
    refine l_val (v := Value.int .i64 0) rfl (e_assign rfl) ?_
    refine l_nil ?_
    refine run_ret (vs := [Value.int .i64 0]) Try.func55 (.tmp rfl .nil) ?_
    -- return 9
    have e0 : (0 : Int) = (lineP a b c d) := by
      simp only [lineP, *, if_true, if_false, Int.lt_irrefl]
    have C122 : Chg (inl []) _ _ _ _ := (hb90.n).seq ((hb110.n).seq (hb121.n))
    replace hbase := hbase.chg C122 (is_nl rfl)
    exact ⟨(congrArg (a₁ := 0) (fun (z0 : Int) => Ending.returned (Value.int .i64 z0)) e0), hbase.below⟩
   refine run_cond_f rfl (decide_eq_false p11) ?_
   refine run_seq (run_region rfl ?_)
   refine l_val (v := Value.int .i64 (ordP b a)) rfl (e_move rfl) ?_
   refine l_val (v := Value.bool (decide ((ordP b a) = 0))) rfl (e_eql (m := ordP b a) (n := 0) rfl rfl) ?_
   refine l_val (v := Value.bool (decide ((ordP b a) = 0))) rfl (e_assign rfl) ?_
   refine l_nil ?_
   by_cases p13 : (ordP b a) = 0
   ·
    refine run_cond_t rfl (decide_eq_true p13) ?_
    refine run_seq (run_region rfl ?_)
    refine l_val (v := Value.int .i64 2) rfl (e_assign rfl) ?_
    refine l_nil ?_
    refine run_ret (vs := [Value.int .i64 2]) Try.func55 (.tmp rfl .nil) ?_
    -- return 10
    have e0 : (2 : Int) = (lineP a b c d) := by
      simp only [lineP, *, if_true, if_false, Int.lt_irrefl]
    have C123 : Chg (inl []) _ _ _ _ := (hb90.n).seq ((hb110.n).seq (hb121.n))
    replace hbase := hbase.chg C123 (is_nl rfl)
    exact ⟨(congrArg (a₁ := 2) (fun (z0 : Int) => Ending.returned (Value.int .i64 z0)) e0), hbase.below⟩
   refine run_cond_f rfl (decide_eq_false p13) ?_
   refine run_skip ?_
   refine run_inBlock ?_
   refine run_seq (run_region rfl ?_)
   refine l_val (v := Value.int .i64 3) rfl (e_assign rfl) ?_
   refine l_nil ?_
   refine run_ret (vs := [Value.int .i64 3]) Try.func55 (.tmp rfl .nil) ?_
   -- return 11
   have e0 : (3 : Int) = (lineP a b c d) := by
     simp only [lineP, *, if_true, if_false, Int.lt_irrefl]
   have C124 : Chg (inl []) _ _ _ _ := (hb90.n).seq ((hb110.n).seq (hb121.n))
   replace hbase := hbase.chg C124 (is_nl rfl)
   exact ⟨(congrArg (a₁ := 3) (fun (z0 : Int) => Ending.returned (Value.int .i64 z0)) e0), hbase.below⟩
  refine run_cond_f rfl (decide_eq_false p3) ?_
  refine run_skip ?_
  refine run_seq ?_
  refine region_midh (σ := Nat × Nat × Cmap) (fun ⟨b130, b136, gq⟩ f w => Base w0 gq w ∧ f 6 = Value.pointer (some ⟨b13, 0, none⟩) ∧ f 7 = Value.pointer (some ⟨b18, 0, none⟩) ∧ f 9 = Value.pointer (some ⟨b130, 0, none⟩) ∧ f 10 = Value.pointer (some ⟨b136, 0, none⟩) ∧ Bx gq (is 3) w b13 [Value.int .i64 c.1, Value.int .i64 c.2] ∧ Bx gq (is 4) w b18 [Value.int .i64 d.1, Value.int .i64 d.2] ∧ Bx gq (is 5) w b130 [Value.int .i64 b.1, Value.int .i64 b.2] ∧ Bx gq (is 6) w b136 [Value.int .i64 a.1, Value.int .i64 a.2]) g19 (inl [5, 6]) mixed_gl ?_ ?_
  ·
   intro mid
   intro w126 ch125
   have C127 : Chg (inl [2]) _ _ _ _ := (ch28.l rfl).seq ((hb33.n).seq (ch125.n))
   replace bx26 := bx26.chg C127 (is_nl rfl)
   refine h_take (v := Value.agg (List.toArray [Value.int .i64 b.1, Value.int .i64 b.2])) 0 rfl (by kernel_rfl) (by kernel_rfl) rfl (Chg.refl _ _ _) (fun w' hw' => e_load_bxN (ds := [Value.int .i64 b.1, Value.int .i64 b.2]) tp23_gl rfl (bx26.chg hw' (is_nl rfl)) rfl rfl) ?_
   replace bx29 := (bx29.chg hb33 (not_no _)).chg ch125 (not_no _)
   refine h_take (v := Value.agg (List.toArray [Value.int .i64 a.1, Value.int .i64 a.2])) 1 rfl (by kernel_rfl) (by kernel_rfl) rfl (Chg.refl _ _ _) (fun w' hw' => e_load_bxN (ds := [Value.int .i64 a.1, Value.int .i64 a.2]) tp23_gl rfl (bx29.chg hw' (is_nl rfl)) rfl rfl) ?_
   refine h_many 2 [3] (by kernel_rfl) ⟨h_of 2 rfl (by kernel_rfl) rfl ?_, h_of 3 rfl (by kernel_rfl) rfl ?_, trivial⟩
   ·
    refine o_alloc g19 (is 5) (5, 0) rfl tp23_gl ?_
    intro g131 w128 b130 ch129 bx132
    replace bx132 : Bx g131 (is 5) w128 b130 [Value.int .i64 0, Value.int .i64 0] := bx132
    have hs133 : Chg (inl [5, 6]) _ _ _ _ := ch129.n
    refine ⟨hs133.same, ?_⟩
    refine h_one 3 rfl (by kernel_rfl) rfl ?_
    refine o_alloc g131 (is 6) (6, 0) rfl tp23_gl ?_
    intro g137 w134 b136 ch135 bx138
    replace bx138 : Bx g137 (is 6) w134 b136 [Value.int .i64 0, Value.int .i64 0] := bx138
    have hs139 := hs133.seq (ch135.n)
    refine ⟨hs139.same, ?_⟩
    refine h_one 4 rfl (by kernel_rfl) rfl ?_
    replace bx132 := bx132.chg ch135 (not_no _)
    refine o_store_bx (cs' := [Value.int .i64 b.1, Value.int .i64 b.2]) tp23_gl rfl rfl bx132 rfl (Nat.le_of_ble_eq_true rfl) (AllOne.all (.cons rfl (.cons rfl .nil))) rfl ?_
    intro w140 ch141 bx142
    clear bx132
    have hs143 := hs139.seq (ch141.l rfl)
    refine ⟨hs143.same, ?_⟩
    refine h_one 5 rfl (by kernel_rfl) rfl ?_
    replace bx138 := bx138.chg ch141 (is_ne rfl)
    refine o_store_bx (cs' := [Value.int .i64 a.1, Value.int .i64 a.2]) tp23_gl rfl rfl bx138 rfl (Nat.le_of_ble_eq_true rfl) (AllOne.all (.cons rfl (.cons rfl .nil))) rfl ?_
    intro w144 ch145 bx146
    clear bx138
    have hs147 := hs143.seq (ch145.l rfl)
    refine ⟨hs147.same, ?_⟩
    refine h_nil (by kernel_rfl) ?_
    have C148 : Chg (inl [1, 2, 5, 6]) _ _ _ _ := (ch2.n).seq ((ch7.n).seq ((ch12.n).seq ((ch17.n).seq ((hb23.n).seq ((ch25.l rfl).seq ((ch28.l rfl).seq ((hb33.n).seq ((ch125.n).seq ((ch129.n).seq ((ch135.n).seq ((ch141.l rfl).seq (ch145.l rfl))))))))))))
    replace hbase := hbase.chg C148 (is_nl rfl)
    replace bx15 := (bx15.chg hb33 (not_no _)).chg ch125 (not_no _)
    replace bx20 := (bx20.chg hb33 (not_no _)).chg ch125 (not_no _)
    replace bx142 := bx142.chg ch145 (is_ne rfl)
    exact mid (b130, b136, g137) _ _ ⟨hbase, rfl, rfl, rfl, rfl, (bx15.chg hs147 (is_nl rfl)), (bx20.chg hs147 (is_nl rfl)), bx142, bx146⟩
   ·
    refine o_alloc g19 (is 6) (6, 0) rfl tp23_gl ?_
    intro g152 w149 b151 ch150 bx153
    replace bx153 : Bx g152 (is 6) w149 b151 [Value.int .i64 0, Value.int .i64 0] := bx153
    have hs154 : Chg (inl [5, 6]) _ _ _ _ := ch150.n
    refine ⟨hs154.same, ?_⟩
    refine h_one 2 rfl (by kernel_rfl) rfl ?_
    refine o_alloc g152 (is 5) (5, 0) rfl tp23_gl ?_
    intro g158 w155 b157 ch156 bx159
    replace bx159 : Bx g158 (is 5) w155 b157 [Value.int .i64 0, Value.int .i64 0] := bx159
    have hs160 := hs154.seq (ch156.n)
    refine ⟨hs160.same, ?_⟩
    refine h_one 4 rfl (by kernel_rfl) rfl ?_
    refine o_store_bx (cs' := [Value.int .i64 b.1, Value.int .i64 b.2]) tp23_gl rfl rfl bx159 rfl (Nat.le_of_ble_eq_true rfl) (AllOne.all (.cons rfl (.cons rfl .nil))) rfl ?_
    intro w161 ch162 bx163
    clear bx159
    have hs164 := hs160.seq (ch162.l rfl)
    refine ⟨hs164.same, ?_⟩
    refine h_one 5 rfl (by kernel_rfl) rfl ?_
    replace bx153 := (bx153.chg ch156 (not_no _)).chg ch162 (is_ne rfl)
    refine o_store_bx (cs' := [Value.int .i64 a.1, Value.int .i64 a.2]) tp23_gl rfl rfl bx153 rfl (Nat.le_of_ble_eq_true rfl) (AllOne.all (.cons rfl (.cons rfl .nil))) rfl ?_
    intro w165 ch166 bx167
    clear bx153
    have hs168 := hs164.seq (ch166.l rfl)
    refine ⟨hs168.same, ?_⟩
    refine h_nil (by kernel_rfl) ?_
    have C169 : Chg (inl [1, 2, 5, 6]) _ _ _ _ := (ch2.n).seq ((ch7.n).seq ((ch12.n).seq ((ch17.n).seq ((hb23.n).seq ((ch25.l rfl).seq ((ch28.l rfl).seq ((hb33.n).seq ((ch125.n).seq ((ch150.n).seq ((ch156.n).seq ((ch162.l rfl).seq (ch166.l rfl))))))))))))
    replace hbase := hbase.chg C169 (is_nl rfl)
    replace bx15 := (bx15.chg hb33 (not_no _)).chg ch125 (not_no _)
    replace bx20 := (bx20.chg hb33 (not_no _)).chg ch125 (not_no _)
    replace bx163 := bx163.chg ch166 (is_ne rfl)
    exact mid (b157, b151, g158) _ _ ⟨hbase, rfl, rfl, rfl, rfl, (bx15.chg hs168 (is_nl rfl)), (bx20.chg hs168 (is_nl rfl)), bx163, bx167⟩
  clear bx15
  clear bx20
  clear bx26
  clear bx29
  clear hbase
  rintro ⟨b130, b136, g172⟩ f170 w171 ⟨hbase, zs6, zs7, zs9, zs10, bx15, bx20, bx142, bx146⟩
  refine run_seq (run_seq (run_region rfl ?_))
  refine l_val (v := Value.agg (List.toArray [Value.int .i64 c.1, Value.int .i64 c.2])) rfl (e_load_bxN (ds := [Value.int .i64 c.1, Value.int .i64 c.2]) tp23_gl (by exact zs6) bx15 rfl rfl) ?_
  refine l_val (v := Value.agg (List.toArray [Value.int .i64 b.1, Value.int .i64 b.2])) rfl (e_load_bxN (ds := [Value.int .i64 b.1, Value.int .i64 b.2]) tp23_gl (by exact zs9) bx142 rfl rfl) ?_
  refine l_op rfl ?_
  refine o_call (v := Value.int .i64 (ordP c b)) (e_call (vals := [Value.agg (List.toArray [Value.int .i64 c.1, Value.int .i64 c.2]), Value.agg (List.toArray [Value.int .i64 b.1, Value.int .i64 b.2])]) Try.func63 bd63_gl nm63_gl rfl) (order_ok w171 c b) ?_
  intro w173 hb174
  replace hb174 := chg_below hb174 g172
  refine l_val (v := Value.bool (decide (0 < (ordP c b)))) rfl (e_gtr (m := ordP c b) (n := 0) rfl rfl) ?_
  refine l_nil ?_
  by_cases p6 : 0 < (ordP c b)
  ·
   refine run_cond_t rfl (decide_eq_true p6) ?_
   refine run_region rfl ?_
   replace bx15 := bx15.chg hb174 (not_no _)
   refine l_val (v := Value.agg (List.toArray [Value.int .i64 c.1, Value.int .i64 c.2])) rfl (e_load_bxN (ds := [Value.int .i64 c.1, Value.int .i64 c.2]) tp23_gl (by exact zs6) bx15 rfl rfl) ?_
   refine l_op rfl ?_
   replace bx142 := bx142.chg hb174 (not_no _)
   refine o_store_bx (cs' := [Value.int .i64 c.1, Value.int .i64 c.2]) tp23_gl (by exact zs9) rfl bx142 rfl (Nat.le_of_ble_eq_true rfl) (AllOne.all (.cons rfl (.cons rfl .nil))) rfl ?_
   intro w175 ch176 bx177
   clear bx142
   refine l_nil (run_seq (run_seq ?_))
   clear bx15
   refine run_region rfl ?_
   replace bx20 := (bx20.chg hb174 (not_no _)).chg ch176 (is_ne rfl)
   refine l_val (v := Value.agg (List.toArray [Value.int .i64 d.1, Value.int .i64 d.2])) rfl (e_load_bxN (ds := [Value.int .i64 d.1, Value.int .i64 d.2]) tp23_gl (by exact zs7) bx20 rfl rfl) ?_
   replace bx146 := (bx146.chg hb174 (not_no _)).chg ch176 (is_ne rfl)
   refine l_val (v := Value.agg (List.toArray [Value.int .i64 a.1, Value.int .i64 a.2])) rfl (e_load_bxN (ds := [Value.int .i64 a.1, Value.int .i64 a.2]) tp23_gl (by exact zs10) bx146 rfl rfl) ?_
   refine l_op rfl ?_
   refine o_call (v := Value.int .i64 (ordP d a)) (e_call (vals := [Value.agg (List.toArray [Value.int .i64 d.1, Value.int .i64 d.2]), Value.agg (List.toArray [Value.int .i64 a.1, Value.int .i64 a.2])]) Try.func63 bd63_gl nm63_gl rfl) (order_ok w175 d a) ?_
   intro w178 hb179
   replace hb179 := chg_below hb179 g172
   refine l_val (v := Value.bool (decide ((ordP d a) < 0))) rfl (e_lss (m := ordP d a) (n := 0) rfl rfl) ?_
   refine l_nil ?_
   by_cases p8 : (ordP d a) < 0
   ·
    refine run_cond_t rfl (decide_eq_true p8) ?_
    refine run_region rfl ?_
    replace bx20 := bx20.chg hb179 (not_no _)
    refine l_val (v := Value.agg (List.toArray [Value.int .i64 d.1, Value.int .i64 d.2])) rfl (e_load_bxN (ds := [Value.int .i64 d.1, Value.int .i64 d.2]) tp23_gl (by exact zs7) bx20 rfl rfl) ?_
    refine l_op rfl ?_
    replace bx146 := bx146.chg hb179 (not_no _)
    refine o_store_bx (cs' := [Value.int .i64 d.1, Value.int .i64 d.2]) tp23_gl (by exact zs10) rfl bx146 rfl (Nat.le_of_ble_eq_true rfl) (AllOne.all (.cons rfl (.cons rfl .nil))) rfl ?_
    intro w180 ch181 bx182
    clear bx146
    refine l_nil (run_seq (run_seq ?_))
    clear bx20
    refine run_region rfl ?_
    replace bx177 := (bx177.chg hb179 (not_no _)).chg ch181 (is_ne rfl)
    refine l_val (v := Value.agg (List.toArray [Value.int .i64 c.1, Value.int .i64 c.2])) rfl (e_load_bxN (ds := [Value.int .i64 c.1, Value.int .i64 c.2]) tp23_gl (by exact zs9) bx177 rfl rfl) ?_
    refine l_val (v := Value.agg (List.toArray [Value.int .i64 d.1, Value.int .i64 d.2])) rfl (e_load_bxN (ds := [Value.int .i64 d.1, Value.int .i64 d.2]) tp23_gl (by exact zs10) bx182 rfl rfl) ?_
    refine l_op rfl ?_
    refine o_call (v := Value.int .i64 (ordP c d)) (e_call (vals := [Value.agg (List.toArray [Value.int .i64 c.1, Value.int .i64 c.2]), Value.agg (List.toArray [Value.int .i64 d.1, Value.int .i64 d.2])]) Try.func63 bd63_gl nm63_gl rfl) (order_ok w180 c d) ?_
    intro w183 hb184
    replace hb184 := chg_below hb184 g172
    refine l_val (v := Value.int .i64 (ordP c d)) rfl (e_assign rfl) ?_
    refine l_nil ?_
    refine run_block ?_
    refine run_seq ?_
    clear bx177
    clear bx182
    refine run_region rfl ?_
    refine l_val (v := Value.int .i64 (ordP c d)) rfl (e_move rfl) ?_
    refine l_val (v := Value.bool (decide (0 < (ordP c d)))) rfl (e_gtr (m := ordP c d) (n := 0) rfl rfl) ?_
    refine l_val (v := Value.bool (decide (0 < (ordP c d)))) rfl (e_assign rfl) ?_
    refine l_nil ?_
    refine run_cond_f rfl (decide_eq_false p3) ?_
    refine run_seq (run_region rfl ?_)
    refine l_val (v := Value.int .i64 (ordP c d)) rfl (e_move rfl) ?_
    refine l_val (v := Value.bool (decide ((ordP c d) = 0))) rfl (e_eql (m := ordP c d) (n := 0) rfl rfl) ?_
    refine l_val (v := Value.bool (decide ((ordP c d) = 0))) rfl (e_assign rfl) ?_
    refine l_nil ?_
    by_cases p13 : (ordP c d) = 0
    ·
     refine run_cond_t rfl (decide_eq_true p13) ?_
     refine run_seq (run_region rfl ?_)
     refine l_val (v := Value.int .i64 2) rfl (e_assign rfl) ?_
     refine l_nil ?_
     refine run_ret (vs := [Value.int .i64 2]) Try.func55 (.tmp rfl .nil) ?_
     -- return 12
     have e0 : (2 : Int) = (lineP a b c d) := by
       simp only [lineP, *, if_true, if_false, Int.lt_irrefl]
     have C185 : Chg (inl [5, 6]) _ _ _ _ := (hb174.n).seq ((ch176.l rfl).seq ((hb179.n).seq ((ch181.l rfl).seq (hb184.n))))
     replace hbase := hbase.chg C185 (is_nl rfl)
     exact ⟨(congrArg (a₁ := 2) (fun (z0 : Int) => Ending.returned (Value.int .i64 z0)) e0), hbase.below⟩
    refine run_cond_f rfl (decide_eq_false p13) ?_
    refine run_skip ?_
    refine run_inBlock ?_
    refine run_seq (run_region rfl ?_)
    refine l_val (v := Value.int .i64 3) rfl (e_assign rfl) ?_
    refine l_nil ?_
    refine run_ret (vs := [Value.int .i64 3]) Try.func55 (.tmp rfl .nil) ?_
    -- return 13
    have e0 : (3 : Int) = (lineP a b c d) := by
      simp only [lineP, *, if_true, if_false, Int.lt_irrefl]
    have C186 : Chg (inl [5, 6]) _ _ _ _ := (hb174.n).seq ((ch176.l rfl).seq ((hb179.n).seq ((ch181.l rfl).seq (hb184.n))))
    replace hbase := hbase.chg C186 (is_nl rfl)
    exact ⟨(congrArg (a₁ := 3) (fun (z0 : Int) => Ending.returned (Value.int .i64 z0)) e0), hbase.below⟩
   refine run_cond_f rfl (decide_eq_false p8) ?_
   refine run_skip ?_
   refine run_seq (run_seq ?_)
   clear bx20
   refine run_region rfl ?_
   replace bx177 := bx177.chg hb179 (not_no _)
   refine l_val (v := Value.agg (List.toArray [Value.int .i64 c.1, Value.int .i64 c.2])) rfl (e_load_bxN (ds := [Value.int .i64 c.1, Value.int .i64 c.2]) tp23_gl (by exact zs9) bx177 rfl rfl) ?_
   replace bx146 := bx146.chg hb179 (not_no _)
   refine l_val (v := Value.agg (List.toArray [Value.int .i64 a.1, Value.int .i64 a.2])) rfl (e_load_bxN (ds := [Value.int .i64 a.1, Value.int .i64 a.2]) tp23_gl (by exact zs10) bx146 rfl rfl) ?_
   refine l_op rfl ?_
   refine o_call (v := Value.int .i64 (ordP c a)) (e_call (vals := [Value.agg (List.toArray [Value.int .i64 c.1, Value.int .i64 c.2]), Value.agg (List.toArray [Value.int .i64 a.1, Value.int .i64 a.2])]) Try.func63 bd63_gl nm63_gl rfl) (order_ok w178 c a) ?_
   intro w187 hb188
   replace hb188 := chg_below hb188 g172
   refine l_val (v := Value.int .i64 (ordP c a)) rfl (e_assign rfl) ?_
   refine l_nil ?_
   refine run_block ?_
   refine run_seq ?_
   clear bx146
   clear bx177
   refine run_region rfl ?_
   refine l_val (v := Value.int .i64 (ordP c a)) rfl (e_move rfl) ?_
   refine l_val (v := Value.bool (decide (0 < (ordP c a)))) rfl (e_gtr (m := ordP c a) (n := 0) rfl rfl) ?_
   refine l_val (v := Value.bool (decide (0 < (ordP c a)))) rfl (e_assign rfl) ?_
   refine l_nil ?_
   by_cases p11 : 0 < (ordP c a)
   ·
    refine run_cond_t rfl (decide_eq_true p11) ?_
    refine run_seq (run_region rfl ?_)
    refine l_val (v := Value.int .i64 0) rfl (e_assign rfl) ?_
    refine l_nil ?_
    refine run_ret (vs := [Value.int .i64 0]) Try.func55 (.tmp rfl .nil) ?_
    -- return 14
    have e0 : (0 : Int) = (lineP a b c d) := by
      simp only [lineP, *, if_true, if_false, Int.lt_irrefl]
    have C189 : Chg (inl [5]) _ _ _ _ := (hb174.n).seq ((ch176.l rfl).seq ((hb179.n).seq (hb188.n)))
    replace hbase := hbase.chg C189 (is_nl rfl)
    exact ⟨(congrArg (a₁ := 0) (fun (z0 : Int) => Ending.returned (Value.int .i64 z0)) e0), hbase.below⟩
   refine run_cond_f rfl (decide_eq_false p11) ?_
   refine run_seq (run_region rfl ?_)
   refine l_val (v := Value.int .i64 (ordP c a)) rfl (e_move rfl) ?_
   refine l_val (v := Value.bool (decide ((ordP c a) = 0))) rfl (e_eql (m := ordP c a) (n := 0) rfl rfl) ?_
   refine l_val (v := Value.bool (decide ((ordP c a) = 0))) rfl (e_assign rfl) ?_
   refine l_nil ?_
   by_cases p13 : (ordP c a) = 0
   ·
    refine run_cond_t rfl (decide_eq_true p13) ?_
    refine run_seq (run_region rfl ?_)
    refine l_val (v := Value.int .i64 2) rfl (e_assign rfl) ?_
    refine l_nil ?_
    refine run_ret (vs := [Value.int .i64 2]) Try.func55 (.tmp rfl .nil) ?_
    -- return 15
    have e0 : (2 : Int) = (lineP a b c d) := by
      simp only [lineP, *, if_true, if_false, Int.lt_irrefl]
    have C190 : Chg (inl [5]) _ _ _ _ := (hb174.n).seq ((ch176.l rfl).seq ((hb179.n).seq (hb188.n)))
    replace hbase := hbase.chg C190 (is_nl rfl)
    exact ⟨(congrArg (a₁ := 2) (fun (z0 : Int) => Ending.returned (Value.int .i64 z0)) e0), hbase.below⟩
   refine run_cond_f rfl (decide_eq_false p13) ?_
   refine run_skip ?_
   refine run_inBlock ?_
   refine run_seq (run_region rfl ?_)
   refine l_val (v := Value.int .i64 3) rfl (e_assign rfl) ?_
   refine l_nil ?_
   refine run_ret (vs := [Value.int .i64 3]) Try.func55 (.tmp rfl .nil) ?_
   -- return 16
   have e0 : (3 : Int) = (lineP a b c d) := by
     simp only [lineP, *, if_true, if_false, Int.lt_irrefl]
   have C191 : Chg (inl [5]) _ _ _ _ := (hb174.n).seq ((ch176.l rfl).seq ((hb179.n).seq (hb188.n)))
   replace hbase := hbase.chg C191 (is_nl rfl)
   exact ⟨(congrArg (a₁ := 3) (fun (z0 : Int) => Ending.returned (Value.int .i64 z0)) e0), hbase.below⟩
  refine run_cond_f rfl (decide_eq_false p6) ?_
  refine run_skip ?_
  refine run_seq (run_seq ?_)
  clear bx15
  refine run_region rfl ?_
  replace bx20 := bx20.chg hb174 (not_no _)
  refine l_val (v := Value.agg (List.toArray [Value.int .i64 d.1, Value.int .i64 d.2])) rfl (e_load_bxN (ds := [Value.int .i64 d.1, Value.int .i64 d.2]) tp23_gl (by exact zs7) bx20 rfl rfl) ?_
  replace bx146 := bx146.chg hb174 (not_no _)
  refine l_val (v := Value.agg (List.toArray [Value.int .i64 a.1, Value.int .i64 a.2])) rfl (e_load_bxN (ds := [Value.int .i64 a.1, Value.int .i64 a.2]) tp23_gl (by exact zs10) bx146 rfl rfl) ?_
  refine l_op rfl ?_
  refine o_call (v := Value.int .i64 (ordP d a)) (e_call (vals := [Value.agg (List.toArray [Value.int .i64 d.1, Value.int .i64 d.2]), Value.agg (List.toArray [Value.int .i64 a.1, Value.int .i64 a.2])]) Try.func63 bd63_gl nm63_gl rfl) (order_ok w173 d a) ?_
  intro w192 hb193
  replace hb193 := chg_below hb193 g172
  refine l_val (v := Value.bool (decide ((ordP d a) < 0))) rfl (e_lss (m := ordP d a) (n := 0) rfl rfl) ?_
  refine l_nil ?_
  by_cases p8 : (ordP d a) < 0
  ·
   refine run_cond_t rfl (decide_eq_true p8) ?_
   refine run_region rfl ?_
   replace bx20 := bx20.chg hb193 (not_no _)
   refine l_val (v := Value.agg (List.toArray [Value.int .i64 d.1, Value.int .i64 d.2])) rfl (e_load_bxN (ds := [Value.int .i64 d.1, Value.int .i64 d.2]) tp23_gl (by exact zs7) bx20 rfl rfl) ?_
   refine l_op rfl ?_
   replace bx146 := bx146.chg hb193 (not_no _)
   refine o_store_bx (cs' := [Value.int .i64 d.1, Value.int .i64 d.2]) tp23_gl (by exact zs10) rfl bx146 rfl (Nat.le_of_ble_eq_true rfl) (AllOne.all (.cons rfl (.cons rfl .nil))) rfl ?_
   intro w194 ch195 bx196
   clear bx146
   refine l_nil (run_seq (run_seq ?_))
   clear bx20
   refine run_region rfl ?_
   have C197 : Chg (inl [6]) _ _ _ _ := (hb174.n).seq ((hb193.n).seq (ch195.l rfl))
   replace bx142 := bx142.chg C197 (is_nl rfl)
   refine l_val (v := Value.agg (List.toArray [Value.int .i64 b.1, Value.int .i64 b.2])) rfl (e_load_bxN (ds := [Value.int .i64 b.1, Value.int .i64 b.2]) tp23_gl (by exact zs9) bx142 rfl rfl) ?_
   refine l_val (v := Value.agg (List.toArray [Value.int .i64 d.1, Value.int .i64 d.2])) rfl (e_load_bxN (ds := [Value.int .i64 d.1, Value.int .i64 d.2]) tp23_gl (by exact zs10) bx196 rfl rfl) ?_
   refine l_op rfl ?_
   refine o_call (v := Value.int .i64 (ordP b d)) (e_call (vals := [Value.agg (List.toArray [Value.int .i64 b.1, Value.int .i64 b.2]), Value.agg (List.toArray [Value.int .i64 d.1, Value.int .i64 d.2])]) Try.func63 bd63_gl nm63_gl rfl) (order_ok w194 b d) ?_
   intro w198 hb199
   replace hb199 := chg_below hb199 g172
   refine l_val (v := Value.int .i64 (ordP b d)) rfl (e_assign rfl) ?_
   refine l_nil ?_
   refine run_block ?_
   refine run_seq ?_
   clear bx142
   clear bx196
   refine run_region rfl ?_
   refine l_val (v := Value.int .i64 (ordP b d)) rfl (e_move rfl) ?_
   refine l_val (v := Value.bool (decide (0 < (ordP b d)))) rfl (e_gtr (m := ordP b d) (n := 0) rfl rfl) ?_
   refine l_val (v := Value.bool (decide (0 < (ordP b d)))) rfl (e_assign rfl) ?_
   refine l_nil ?_
   by_cases p11 : 0 < (ordP b d)
   ·
    refine run_cond_t rfl (decide_eq_true p11) ?_
    refine run_seq (run_region rfl ?_)
    refine l_val (v := Value.int .i64 0) rfl (e_assign rfl) ?_
    refine l_nil ?_
    refine run_ret (vs := [Value.int .i64 0]) Try.func55 (.tmp rfl .nil) ?_
    -- return 17
    have e0 : (0 : Int) = (lineP a b c d) := by
      simp only [lineP, *, if_true, if_false, Int.lt_irrefl]
    have C200 : Chg (inl [6]) _ _ _ _ := (hb174.n).seq ((hb193.n).seq ((ch195.l rfl).seq (hb199.n)))
    replace hbase := hbase.chg C200 (is_nl rfl)
    exact ⟨(congrArg (a₁ := 0) (fun (z0 : Int) => Ending.returned (Value.int .i64 z0)) e0), hbase.below⟩
   refine run_cond_f rfl (decide_eq_false p11) ?_
   refine run_seq (run_region rfl ?_)
   refine l_val (v := Value.int .i64 (ordP b d)) rfl (e_move rfl) ?_
   refine l_val (v := Value.bool (decide ((ordP b d) = 0))) rfl (e_eql (m := ordP b d) (n := 0) rfl rfl) ?_
   refine l_val (v := Value.bool (decide ((ordP b d) = 0))) rfl (e_assign rfl) ?_
   refine l_nil ?_
   by_cases p13 : (ordP b d) = 0
   ·
    refine run_cond_t rfl (decide_eq_true p13) ?_
    refine run_seq (run_region rfl ?_)
    refine l_val (v := Value.int .i64 2) rfl (e_assign rfl) ?_
    refine l_nil ?_
    refine run_ret (vs := [Value.int .i64 2]) Try.func55 (.tmp rfl .nil) ?_
    -- return 18
    have e0 : (2 : Int) = (lineP a b c d) := by
      simp only [lineP, *, if_true, if_false, Int.lt_irrefl]
    have C201 : Chg (inl [6]) _ _ _ _ := (hb174.n).seq ((hb193.n).seq ((ch195.l rfl).seq (hb199.n)))
    replace hbase := hbase.chg C201 (is_nl rfl)
    exact ⟨(congrArg (a₁ := 2) (fun (z0 : Int) => Ending.returned (Value.int .i64 z0)) e0), hbase.below⟩
   refine run_cond_f rfl (decide_eq_false p13) ?_
   refine run_skip ?_
   refine run_inBlock ?_
   refine run_seq (run_region rfl ?_)
   refine l_val (v := Value.int .i64 3) rfl (e_assign rfl) ?_
   refine l_nil ?_
   refine run_ret (vs := [Value.int .i64 3]) Try.func55 (.tmp rfl .nil) ?_
   -- return 19
   have e0 : (3 : Int) = (lineP a b c d) := by
     simp only [lineP, *, if_true, if_false, Int.lt_irrefl]
   have C202 : Chg (inl [6]) _ _ _ _ := (hb174.n).seq ((hb193.n).seq ((ch195.l rfl).seq (hb199.n)))
   replace hbase := hbase.chg C202 (is_nl rfl)
   exact ⟨(congrArg (a₁ := 3) (fun (z0 : Int) => Ending.returned (Value.int .i64 z0)) e0), hbase.below⟩
  refine run_cond_f rfl (decide_eq_false p8) ?_
  refine run_skip ?_
  refine run_seq (run_seq ?_)
  clear bx20
  refine run_region rfl ?_
  replace bx142 := (bx142.chg hb174 (not_no _)).chg hb193 (not_no _)
  refine l_val (v := Value.agg (List.toArray [Value.int .i64 b.1, Value.int .i64 b.2])) rfl (e_load_bxN (ds := [Value.int .i64 b.1, Value.int .i64 b.2]) tp23_gl (by exact zs9) bx142 rfl rfl) ?_
  replace bx146 := bx146.chg hb193 (not_no _)
  refine l_val (v := Value.agg (List.toArray [Value.int .i64 a.1, Value.int .i64 a.2])) rfl (e_load_bxN (ds := [Value.int .i64 a.1, Value.int .i64 a.2]) tp23_gl (by exact zs10) bx146 rfl rfl) ?_
  refine l_op rfl ?_
  refine o_call (v := Value.int .i64 (ordP b a)) (e_call (vals := [Value.agg (List.toArray [Value.int .i64 b.1, Value.int .i64 b.2]), Value.agg (List.toArray [Value.int .i64 a.1, Value.int .i64 a.2])]) Try.func63 bd63_gl nm63_gl rfl) (order_ok w192 b a) ?_
  intro w203 hb204
  replace hb204 := chg_below hb204 g172
  refine l_val (v := Value.int .i64 (ordP b a)) rfl (e_assign rfl) ?_
  refine l_nil ?_
  refine run_block ?_
  refine run_seq ?_
  clear bx142
  clear bx146
  refine run_region rfl ?_
  refine l_val (v := Value.int .i64 (ordP b a)) rfl (e_move rfl) ?_
  refine l_val (v := Value.bool (decide (0 < (ordP b a)))) rfl (e_gtr (m := ordP b a) (n := 0) rfl rfl) ?_
  refine l_val (v := Value.bool (decide (0 < (ordP b a)))) rfl (e_assign rfl) ?_
  refine l_nil ?_
  by_cases p11 : 0 < (ordP b a)
  ·
   refine run_cond_t rfl (decide_eq_true p11) ?_
   refine run_seq (run_region rfl ?_)
   refine l_val (v := Value.int .i64 0) rfl (e_assign rfl) ?_
   refine l_nil ?_
   refine run_ret (vs := [Value.int .i64 0]) Try.func55 (.tmp rfl .nil) ?_
   -- return 20
   have e0 : (0 : Int) = (lineP a b c d) := by
     simp only [lineP, *, if_true, if_false, Int.lt_irrefl]
   have C205 : Chg (inl []) _ _ _ _ := (hb174.n).seq ((hb193.n).seq (hb204.n))
   replace hbase := hbase.chg C205 (is_nl rfl)
   exact ⟨(congrArg (a₁ := 0) (fun (z0 : Int) => Ending.returned (Value.int .i64 z0)) e0), hbase.below⟩
  refine run_cond_f rfl (decide_eq_false p11) ?_
  refine run_seq (run_region rfl ?_)
  refine l_val (v := Value.int .i64 (ordP b a)) rfl (e_move rfl) ?_
  refine l_val (v := Value.bool (decide ((ordP b a) = 0))) rfl (e_eql (m := ordP b a) (n := 0) rfl rfl) ?_
  refine l_val (v := Value.bool (decide ((ordP b a) = 0))) rfl (e_assign rfl) ?_
  refine l_nil ?_
  by_cases p13 : (ordP b a) = 0
  ·
   refine run_cond_t rfl (decide_eq_true p13) ?_
   refine run_seq (run_region rfl ?_)
   refine l_val (v := Value.int .i64 2) rfl (e_assign rfl) ?_
   refine l_nil ?_
   refine run_ret (vs := [Value.int .i64 2]) Try.func55 (.tmp rfl .nil) ?_
   -- return 21
   have e0 : (2 : Int) = (lineP a b c d) := by
     simp only [lineP, *, if_true, if_false, Int.lt_irrefl]
   have C206 : Chg (inl []) _ _ _ _ := (hb174.n).seq ((hb193.n).seq (hb204.n))
   replace hbase := hbase.chg C206 (is_nl rfl)
   exact ⟨(congrArg (a₁ := 2) (fun (z0 : Int) => Ending.returned (Value.int .i64 z0)) e0), hbase.below⟩
  refine run_cond_f rfl (decide_eq_false p13) ?_
  refine run_skip ?_
  refine run_inBlock ?_
  refine run_seq (run_region rfl ?_)
  refine l_val (v := Value.int .i64 3) rfl (e_assign rfl) ?_
  refine l_nil ?_
  refine run_ret (vs := [Value.int .i64 3]) Try.func55 (.tmp rfl .nil) ?_
  -- return 22
  have e0 : (3 : Int) = (lineP a b c d) := by
    simp only [lineP, *, if_true, if_false, Int.lt_irrefl]
  have C207 : Chg (inl []) _ _ _ _ := (hb174.n).seq ((hb193.n).seq (hb204.n))
  replace hbase := hbase.chg C207 (is_nl rfl)
  exact ⟨(congrArg (a₁ := 3) (fun (z0 : Int) => Ending.returned (Value.int .i64 z0)) e0), hbase.below⟩
 refine run_cond_f rfl (decide_eq_false p1) ?_
 refine run_skip ?_
 refine run_seq (run_seq (run_region rfl ?_))
 replace bx15 := (bx15.chg ch17 (not_no _)).chg hb23 (not_no _)
 refine l_val (v := Value.agg (List.toArray [Value.int .i64 c.1, Value.int .i64 c.2])) rfl (e_load_bxN (ds := [Value.int .i64 c.1, Value.int .i64 c.2]) tp23_gl rfl bx15 rfl rfl) ?_
 replace bx20 := bx20.chg hb23 (not_no _)
 refine l_val (v := Value.agg (List.toArray [Value.int .i64 d.1, Value.int .i64 d.2])) rfl (e_load_bxN (ds := [Value.int .i64 d.1, Value.int .i64 d.2]) tp23_gl rfl bx20 rfl rfl) ?_
 refine l_op rfl ?_
 refine o_call (v := Value.int .i64 (ordP c d)) (e_call (vals := [Value.agg (List.toArray [Value.int .i64 c.1, Value.int .i64 c.2]), Value.agg (List.toArray [Value.int .i64 d.1, Value.int .i64 d.2])]) Try.func63 bd63_gl nm63_gl rfl) (order_ok w22 c d) ?_
 intro w208 hb209
 replace hb209 := chg_below hb209 g19
 refine l_val (v := Value.bool (decide (0 < (ordP c d)))) rfl (e_gtr (m := ordP c d) (n := 0) rfl rfl) ?_
 refine l_nil ?_
 by_cases p3 : 0 < (ordP c d)
 ·
  refine run_cond_t rfl (decide_eq_true p3) ?_
  refine run_region rfl ?_
  replace bx20 := bx20.chg hb209 (not_no _)
  refine l_val (v := Value.agg (List.toArray [Value.int .i64 d.1, Value.int .i64 d.2])) rfl (e_load_bxN (ds := [Value.int .i64 d.1, Value.int .i64 d.2]) tp23_gl rfl bx20 rfl rfl) ?_
  replace bx15 := bx15.chg hb209 (not_no _)
  refine l_val (v := Value.agg (List.toArray [Value.int .i64 c.1, Value.int .i64 c.2])) rfl (e_load_bxN (ds := [Value.int .i64 c.1, Value.int .i64 c.2]) tp23_gl rfl bx15 rfl rfl) ?_
  refine l_op rfl ?_
  refine o_store_bx (cs' := [Value.int .i64 d.1, Value.int .i64 d.2]) tp23_gl rfl rfl bx15 rfl (Nat.le_of_ble_eq_true rfl) (AllOne.all (.cons rfl (.cons rfl .nil))) rfl ?_
  intro w210 ch211 bx212
  clear bx15
  refine l_op rfl ?_
  replace bx20 := bx20.chg ch211 (is_ne rfl)
  refine o_store_bx (cs' := [Value.int .i64 c.1, Value.int .i64 c.2]) tp23_gl rfl rfl bx20 rfl (Nat.le_of_ble_eq_true rfl) (AllOne.all (.cons rfl (.cons rfl .nil))) rfl ?_
  intro w213 ch214 bx215
  clear bx20
  refine l_nil (run_seq ?_)
  refine region_midh (σ := Nat × Nat × Cmap) (fun ⟨b221, b227, gq⟩ f w => Base w0 gq w ∧ f 6 = Value.pointer (some ⟨b13, 0, none⟩) ∧ f 7 = Value.pointer (some ⟨b18, 0, none⟩) ∧ f 9 = Value.pointer (some ⟨b221, 0, none⟩) ∧ f 10 = Value.pointer (some ⟨b227, 0, none⟩) ∧ Bx gq (is 3) w b13 [Value.int .i64 d.1, Value.int .i64 d.2] ∧ Bx gq (is 4) w b18 [Value.int .i64 c.1, Value.int .i64 c.2] ∧ Bx gq (is 5) w b221 [Value.int .i64 a.1, Value.int .i64 a.2] ∧ Bx gq (is 6) w b227 [Value.int .i64 b.1, Value.int .i64 b.2]) g19 (inl [5, 6]) mixed_gl ?_ ?_
  ·
   intro mid
   intro w217 ch216
   have C218 : Chg (inl [3, 4]) _ _ _ _ := (hb23.n).seq ((hb209.n).seq ((ch211.l rfl).seq ((ch214.l rfl).seq (ch216.n))))
   replace bx5 := bx5.chg C218 (is_nl rfl)
   refine h_take (v := Value.agg (List.toArray [Value.int .i64 a.1, Value.int .i64 a.2])) 0 rfl (by kernel_rfl) (by kernel_rfl) rfl (Chg.refl _ _ _) (fun w' hw' => e_load_bxN (ds := [Value.int .i64 a.1, Value.int .i64 a.2]) tp23_gl rfl (bx5.chg hw' (is_nl rfl)) rfl rfl) ?_
   replace bx10 := bx10.chg C218 (is_nl rfl)
   refine h_take (v := Value.agg (List.toArray [Value.int .i64 b.1, Value.int .i64 b.2])) 1 rfl (by kernel_rfl) (by kernel_rfl) rfl (Chg.refl _ _ _) (fun w' hw' => e_load_bxN (ds := [Value.int .i64 b.1, Value.int .i64 b.2]) tp23_gl rfl (bx10.chg hw' (is_nl rfl)) rfl rfl) ?_
   refine h_many 2 [3] (by kernel_rfl) ⟨h_of 2 rfl (by kernel_rfl) rfl ?_, h_of 3 rfl (by kernel_rfl) rfl ?_, trivial⟩
   ·
    refine o_alloc g19 (is 5) (5, 0) rfl tp23_gl ?_
    intro g222 w219 b221 ch220 bx223
    replace bx223 : Bx g222 (is 5) w219 b221 [Value.int .i64 0, Value.int .i64 0] := bx223
    have hs224 : Chg (inl [5, 6]) _ _ _ _ := ch220.n
    refine ⟨hs224.same, ?_⟩
    refine h_one 3 rfl (by kernel_rfl) rfl ?_
    refine o_alloc g222 (is 6) (6, 0) rfl tp23_gl ?_
    intro g228 w225 b227 ch226 bx229
    replace bx229 : Bx g228 (is 6) w225 b227 [Value.int .i64 0, Value.int .i64 0] := bx229
    have hs230 := hs224.seq (ch226.n)
    refine ⟨hs230.same, ?_⟩
    refine h_one 4 rfl (by kernel_rfl) rfl ?_
    replace bx223 := bx223.chg ch226 (not_no _)
    refine o_store_bx (cs' := [Value.int .i64 a.1, Value.int .i64 a.2]) tp23_gl rfl rfl bx223 rfl (Nat.le_of_ble_eq_true rfl) (AllOne.all (.cons rfl (.cons rfl .nil))) rfl ?_
    intro w231 ch232 bx233
    clear bx223
    have hs234 := hs230.seq (ch232.l rfl)
    refine ⟨hs234.same, ?_⟩
    refine h_one 5 rfl (by kernel_rfl) rfl ?_
    replace bx229 := bx229.chg ch232 (is_ne rfl)
    refine o_store_bx (cs' := [Value.int .i64 b.1, Value.int .i64 b.2]) tp23_gl rfl rfl bx229 rfl (Nat.le_of_ble_eq_true rfl) (AllOne.all (.cons rfl (.cons rfl .nil))) rfl ?_
    intro w235 ch236 bx237
    clear bx229
    have hs238 := hs234.seq (ch236.l rfl)
    refine ⟨hs238.same, ?_⟩
    refine h_nil (by kernel_rfl) ?_
    have C239 : Chg (inl [3, 4, 5, 6]) _ _ _ _ := (ch2.n).seq ((ch7.n).seq ((ch12.n).seq ((ch17.n).seq ((hb23.n).seq ((hb209.n).seq ((ch211.l rfl).seq ((ch214.l rfl).seq ((ch216.n).seq ((ch220.n).seq ((ch226.n).seq ((ch232.l rfl).seq (ch236.l rfl))))))))))))
    replace hbase := hbase.chg C239 (is_nl rfl)
    replace bx212 := (bx212.chg ch214 (is_ne rfl)).chg ch216 (not_no _)
    replace bx215 := bx215.chg ch216 (not_no _)
    replace bx233 := bx233.chg ch236 (is_ne rfl)
    exact mid (b221, b227, g228) _ _ ⟨hbase, rfl, rfl, rfl, rfl, (bx212.chg hs238 (is_nl rfl)), (bx215.chg hs238 (is_nl rfl)), bx233, bx237⟩
   ·
    refine o_alloc g19 (is 6) (6, 0) rfl tp23_gl ?_
    intro g243 w240 b242 ch241 bx244
    replace bx244 : Bx g243 (is 6) w240 b242 [Value.int .i64 0, Value.int .i64 0] := bx244
    have hs245 : Chg (inl [5, 6]) _ _ _ _ := ch241.n
    refine ⟨hs245.same, ?_⟩
    refine h_one 2 rfl (by kernel_rfl) rfl ?_
    refine o_alloc g243 (is 5) (5, 0) rfl tp23_gl ?_
    intro g249 w246 b248 ch247 bx250
    replace bx250 : Bx g249 (is 5) w246 b248 [Value.int .i64 0, Value.int .i64 0] := bx250
    have hs251 := hs245.seq (ch247.n)
    refine ⟨hs251.same, ?_⟩
    refine h_one 4 rfl (by kernel_rfl) rfl ?_
    refine o_store_bx (cs' := [Value.int .i64 a.1, Value.int .i64 a.2]) tp23_gl rfl rfl bx250 rfl (Nat.le_of_ble_eq_true rfl) (AllOne.all (.cons rfl (.cons rfl .nil))) rfl ?_
    intro w252 ch253 bx254
    clear bx250
    have hs255 := hs251.seq (ch253.l rfl)
    refine ⟨hs255.same, ?_⟩
    refine h_one 5 rfl (by kernel_rfl) rfl ?_
    replace bx244 := (bx244.chg ch247 (not_no _)).chg ch253 (is_ne rfl)
    refine o_store_bx (cs' := [Value.int .i64 b.1, Value.int .i64 b.2]) tp23_gl rfl rfl bx244 rfl (Nat.le_of_ble_eq_true rfl) (AllOne.all (.cons rfl (.cons rfl .nil))) rfl ?_
    intro w256 ch257 bx258
    clear bx244
    have hs259 := hs255.seq (ch257.l rfl)
    refine ⟨hs259.same, ?_⟩
    refine h_nil (by kernel_rfl) ?_
    have C260 : Chg (inl [3, 4, 5, 6]) _ _ _ _ := (ch2.n).seq ((ch7.n).seq ((ch12.n).seq ((ch17.n).seq ((hb23.n).seq ((hb209.n).seq ((ch211.l rfl).seq ((ch214.l rfl).seq ((ch216.n).seq ((ch241.n).seq ((ch247.n).seq ((ch253.l rfl).seq (ch257.l rfl))))))))))))
    replace hbase := hbase.chg C260 (is_nl rfl)
    replace bx212 := (bx212.chg ch214 (is_ne rfl)).chg ch216 (not_no _)
    replace bx215 := bx215.chg ch216 (not_no _)
    replace bx254 := bx254.chg ch257 (is_ne rfl)
    exact mid (b248, b242, g249) _ _ ⟨hbase, rfl, rfl, rfl, rfl, (bx212.chg hs259 (is_nl rfl)), (bx215.chg hs259 (is_nl rfl)), bx254, bx258⟩
  clear bx5
  clear bx10
  clear bx212
  clear bx215
  clear hbase
  rintro ⟨b221, b227, g263⟩ f261 w262 ⟨hbase, zs6, zs7, zs9, zs10, bx212, bx215, bx233, bx237⟩
  refine run_seq (run_seq (run_region rfl ?_))
  refine l_val (v := Value.agg (List.toArray [Value.int .i64 d.1, Value.int .i64 d.2])) rfl (e_load_bxN (ds := [Value.int .i64 d.1, Value.int .i64 d.2]) tp23_gl (by exact zs6) bx212 rfl rfl) ?_
  refine l_val (v := Value.agg (List.toArray [Value.int .i64 a.1, Value.int .i64 a.2])) rfl (e_load_bxN (ds := [Value.int .i64 a.1, Value.int .i64 a.2]) tp23_gl (by exact zs9) bx233 rfl rfl) ?_
  refine l_op rfl ?_
  refine o_call (v := Value.int .i64 (ordP d a)) (e_call (vals := [Value.agg (List.toArray [Value.int .i64 d.1, Value.int .i64 d.2]), Value.agg (List.toArray [Value.int .i64 a.1, Value.int .i64 a.2])]) Try.func63 bd63_gl nm63_gl rfl) (order_ok w262 d a) ?_
  intro w264 hb265
  replace hb265 := chg_below hb265 g263
  refine l_val (v := Value.bool (decide (0 < (ordP d a)))) rfl (e_gtr (m := ordP d a) (n := 0) rfl rfl) ?_
  refine l_nil ?_
  by_cases p6 : 0 < (ordP d a)
  ·
   refine run_cond_t rfl (decide_eq_true p6) ?_
   refine run_region rfl ?_
   replace bx212 := bx212.chg hb265 (not_no _)
   refine l_val (v := Value.agg (List.toArray [Value.int .i64 d.1, Value.int .i64 d.2])) rfl (e_load_bxN (ds := [Value.int .i64 d.1, Value.int .i64 d.2]) tp23_gl (by exact zs6) bx212 rfl rfl) ?_
   refine l_op rfl ?_
   replace bx233 := bx233.chg hb265 (not_no _)
   refine o_store_bx (cs' := [Value.int .i64 d.1, Value.int .i64 d.2]) tp23_gl (by exact zs9) rfl bx233 rfl (Nat.le_of_ble_eq_true rfl) (AllOne.all (.cons rfl (.cons rfl .nil))) rfl ?_
   intro w266 ch267 bx268
   clear bx233
   refine l_nil (run_seq (run_seq ?_))
   clear bx212
   refine run_region rfl ?_
   replace bx215 := (bx215.chg hb265 (not_no _)).chg ch267 (is_ne rfl)
   refine l_val (v := Value.agg (List.toArray [Value.int .i64 c.1, Value.int .i64 c.2])) rfl (e_load_bxN (ds := [Value.int .i64 c.1, Value.int .i64 c.2]) tp23_gl (by exact zs7) bx215 rfl rfl) ?_
   replace bx237 := (bx237.chg hb265 (not_no _)).chg ch267 (is_ne rfl)
   refine l_val (v := Value.agg (List.toArray [Value.int .i64 b.1, Value.int .i64 b.2])) rfl (e_load_bxN (ds := [Value.int .i64 b.1, Value.int .i64 b.2]) tp23_gl (by exact zs10) bx237 rfl rfl) ?_
   refine l_op rfl ?_
   refine o_call (v := Value.int .i64 (ordP c b)) (e_call (vals := [Value.agg (List.toArray [Value.int .i64 c.1, Value.int .i64 c.2]), Value.agg (List.toArray [Value.int .i64 b.1, Value.int .i64 b.2])]) Try.func63 bd63_gl nm63_gl rfl) (order_ok w266 c b) ?_
   intro w269 hb270
   replace hb270 := chg_below hb270 g263
   refine l_val (v := Value.bool (decide ((ordP c b) < 0))) rfl (e_lss (m := ordP c b) (n := 0) rfl rfl) ?_
   refine l_nil ?_
   by_cases p8 : (ordP c b) < 0
   ·
    refine run_cond_t rfl (decide_eq_true p8) ?_
    refine run_region rfl ?_
    replace bx215 := bx215.chg hb270 (not_no _)
    refine l_val (v := Value.agg (List.toArray [Value.int .i64 c.1, Value.int .i64 c.2])) rfl (e_load_bxN (ds := [Value.int .i64 c.1, Value.int .i64 c.2]) tp23_gl (by exact zs7) bx215 rfl rfl) ?_
    refine l_op rfl ?_
    replace bx237 := bx237.chg hb270 (not_no _)
    refine o_store_bx (cs' := [Value.int .i64 c.1, Value.int .i64 c.2]) tp23_gl (by exact zs10) rfl bx237 rfl (Nat.le_of_ble_eq_true rfl) (AllOne.all (.cons rfl (.cons rfl .nil))) rfl ?_
    intro w271 ch272 bx273
    clear bx237
    refine l_nil (run_seq (run_seq ?_))
    clear bx215
    refine run_region rfl ?_
    replace bx268 := (bx268.chg hb270 (not_no _)).chg ch272 (is_ne rfl)
    refine l_val (v := Value.agg (List.toArray [Value.int .i64 d.1, Value.int .i64 d.2])) rfl (e_load_bxN (ds := [Value.int .i64 d.1, Value.int .i64 d.2]) tp23_gl (by exact zs9) bx268 rfl rfl) ?_
    refine l_val (v := Value.agg (List.toArray [Value.int .i64 c.1, Value.int .i64 c.2])) rfl (e_load_bxN (ds := [Value.int .i64 c.1, Value.int .i64 c.2]) tp23_gl (by exact zs10) bx273 rfl rfl) ?_
    refine l_op rfl ?_
    refine o_call (v := Value.int .i64 (ordP d c)) (e_call (vals := [Value.agg (List.toArray [Value.int .i64 d.1, Value.int .i64 d.2]), Value.agg (List.toArray [Value.int .i64 c.1, Value.int .i64 c.2])]) Try.func63 bd63_gl nm63_gl rfl) (order_ok w271 d c) ?_
    intro w274 hb275
    replace hb275 := chg_below hb275 g263
    refine l_val (v := Value.int .i64 (ordP d c)) rfl (e_assign rfl) ?_
    refine l_nil ?_
    refine run_block ?_
    refine run_seq ?_
    clear bx268
    clear bx273
    refine run_region rfl ?_
    refine l_val (v := Value.int .i64 (ordP d c)) rfl (e_move rfl) ?_
    refine l_val (v := Value.bool (decide (0 < (ordP d c)))) rfl (e_gtr (m := ordP d c) (n := 0) rfl rfl) ?_
    refine l_val (v := Value.bool (decide (0 < (ordP d c)))) rfl (e_assign rfl) ?_
    refine l_nil ?_
    by_cases p11 : 0 < (ordP d c)
    ·
     refine run_cond_t rfl (decide_eq_true p11) ?_
     refine run_seq (run_region rfl ?_)
     refine l_val (v := Value.int .i64 0) rfl (e_assign rfl) ?_
     refine l_nil ?_
     refine run_ret (vs := [Value.int .i64 0]) Try.func55 (.tmp rfl .nil) ?_
     -- return 23
     have e0 : (0 : Int) = (lineP a b c d) := by
       simp only [lineP, *, if_true, if_false, Int.lt_irrefl]
     have C276 : Chg (inl [5, 6]) _ _ _ _ := (hb265.n).seq ((ch267.l rfl).seq ((hb270.n).seq ((ch272.l rfl).seq (hb275.n))))
     replace hbase := hbase.chg C276 (is_nl rfl)
     exact ⟨(congrArg (a₁ := 0) (fun (z0 : Int) => Ending.returned (Value.int .i64 z0)) e0), hbase.below⟩
    refine run_cond_f rfl (decide_eq_false p11) ?_
    refine run_seq (run_region rfl ?_)
    refine l_val (v := Value.int .i64 (ordP d c)) rfl (e_move rfl) ?_
    refine l_val (v := Value.bool (decide ((ordP d c) = 0))) rfl (e_eql (m := ordP d c) (n := 0) rfl rfl) ?_
    refine l_val (v := Value.bool (decide ((ordP d c) = 0))) rfl (e_assign rfl) ?_
    refine l_nil ?_
    by_cases p13 : (ordP d c) = 0
    ·
     refine run_cond_t rfl (decide_eq_true p13) ?_
     refine run_seq (run_region rfl ?_)
     refine l_val (v := Value.int .i64 2) rfl (e_assign rfl) ?_
     refine l_nil ?_
     refine run_ret (vs := [Value.int .i64 2]) Try.func55 (.tmp rfl .nil) ?_
     -- return 24
     have e0 : (2 : Int) = (lineP a b c d) := by
       simp only [lineP, *, if_true, if_false, Int.lt_irrefl]
     have C277 : Chg (inl [5, 6]) _ _ _ _ := (hb265.n).seq ((ch267.l rfl).seq ((hb270.n).seq ((ch272.l rfl).seq (hb275.n))))
     replace hbase := hbase.chg C277 (is_nl rfl)
     exact ⟨(congrArg (a₁ := 2) (fun (z0 : Int) => Ending.returned (Value.int .i64 z0)) e0), hbase.below⟩
    refine run_cond_f rfl (decide_eq_false p13) ?_
    refine run_skip ?_
    refine run_inBlock ?_
    refine run_seq (run_region rfl ?_)
    refine l_val (v := Value.int .i64 3) rfl (e_assign rfl) ?_
    refine l_nil ?_
    refine run_ret (vs := [Value.int .i64 3]) Try.func55 (.tmp rfl .nil) ?_
    -- return 25
    have e0 : (3 : Int) = (lineP a b c d) := by
      simp only [lineP, *, if_true, if_false, Int.lt_irrefl]
    have C278 : Chg (inl [5, 6]) _ _ _ _ := (hb265.n).seq ((ch267.l rfl).seq ((hb270.n).seq ((ch272.l rfl).seq (hb275.n))))
    replace hbase := hbase.chg C278 (is_nl rfl)
    exact ⟨(congrArg (a₁ := 3) (fun (z0 : Int) => Ending.returned (Value.int .i64 z0)) e0), hbase.below⟩
   refine run_cond_f rfl (decide_eq_false p8) ?_
   refine run_skip ?_
   refine run_seq (run_seq ?_)
   clear bx215
   refine run_region rfl ?_
   replace bx268 := bx268.chg hb270 (not_no _)
   refine l_val (v := Value.agg (List.toArray [Value.int .i64 d.1, Value.int .i64 d.2])) rfl (e_load_bxN (ds := [Value.int .i64 d.1, Value.int .i64 d.2]) tp23_gl (by exact zs9) bx268 rfl rfl) ?_
   replace bx237 := bx237.chg hb270 (not_no _)
   refine l_val (v := Value.agg (List.toArray [Value.int .i64 b.1, Value.int .i64 b.2])) rfl (e_load_bxN (ds := [Value.int .i64 b.1, Value.int .i64 b.2]) tp23_gl (by exact zs10) bx237 rfl rfl) ?_
   refine l_op rfl ?_
   refine o_call (v := Value.int .i64 (ordP d b)) (e_call (vals := [Value.agg (List.toArray [Value.int .i64 d.1, Value.int .i64 d.2]), Value.agg (List.toArray [Value.int .i64 b.1, Value.int .i64 b.2])]) Try.func63 bd63_gl nm63_gl rfl) (order_ok w269 d b) ?_
   intro w279 hb280
   replace hb280 := chg_below hb280 g263
   refine l_val (v := Value.int .i64 (ordP d b)) rfl (e_assign rfl) ?_
   refine l_nil ?_
   refine run_block ?_
   refine run_seq ?_
   clear bx237
   clear bx268
   refine run_region rfl ?_
   refine l_val (v := Value.int .i64 (ordP d b)) rfl (e_move rfl) ?_
   refine l_val (v := Value.bool (decide (0 < (ordP d b)))) rfl (e_gtr (m := ordP d b) (n := 0) rfl rfl) ?_
   refine l_val (v := Value.bool (decide (0 < (ordP d b)))) rfl (e_assign rfl) ?_
   refine l_nil ?_
   by_cases p11 : 0 < (ordP d b)
   ·
    refine run_cond_t rfl (decide_eq_true p11) ?_
    refine run_seq (run_region rfl ?_)
    refine l_val (v := Value.int .i64 0) rfl (e_assign rfl) ?_
    refine l_nil ?_
    refine run_ret (vs := [Value.int .i64 0]) Try.func55 (.tmp rfl .nil) ?_
    -- return 26
    have e0 : (0 : Int) = (lineP a b c d) := by
      simp only [lineP, *, if_true, if_false, Int.lt_irrefl]
    have C281 : Chg (inl [5]) _ _ _ _ := (hb265.n).seq ((ch267.l rfl).seq ((hb270.n).seq (hb280.n)))
    replace hbase := hbase.chg C281 (is_nl rfl)
    exact ⟨(congrArg (a₁ := 0) (fun (z0 : Int) => Ending.returned (Value.int .i64 z0)) e0), hbase.below⟩
   refine run_cond_f rfl (decide_eq_false p11) ?_
   refine run_seq (run_region rfl ?_)
   refine l_val (v := Value.int .i64 (ordP d b)) rfl (e_move rfl) ?_
   refine l_val (v := Value.bool (decide ((ordP d b) = 0))) rfl (e_eql (m := ordP d b) (n := 0) rfl rfl) ?_
   refine l_val (v := Value.bool (decide ((ordP d b) = 0))) rfl (e_assign rfl) ?_
   refine l_nil ?_
   by_cases p13 : (ordP d b) = 0
   ·
    refine run_cond_t rfl (decide_eq_true p13) ?_
    refine run_seq (run_region rfl ?_)
    refine l_val (v := Value.int .i64 2) rfl (e_assign rfl) ?_
    refine l_nil ?_
    refine run_ret (vs := [Value.int .i64 2]) Try.func55 (.tmp rfl .nil) ?_
    -- return 27
    have e0 : (2 : Int) = (lineP a b c d) := by
      simp only [lineP, *, if_true, if_false, Int.lt_irrefl]
    have C282 : Chg (inl [5]) _ _ _ _ := (hb265.n).seq ((ch267.l rfl).seq ((hb270.n).seq (hb280.n)))
    replace hbase := hbase.chg C282 (is_nl rfl)
    exact ⟨(congrArg (a₁ := 2) (fun (z0 : Int) => Ending.returned (Value.int .i64 z0)) e0), hbase.below⟩
   refine run_cond_f rfl (decide_eq_false p13) ?_
   refine run_skip ?_
   refine run_inBlock ?_
   refine run_seq (run_region rfl ?_)
   refine l_val (v := Value.int .i64 3) rfl (e_assign rfl) ?_
   refine l_nil ?_
   refine run_ret (vs := [Value.int .i64 3]) Try.func55 (.tmp rfl .nil) ?_
   -- return 28
   have e0 : (3 : Int) = (lineP a b c d) := by
     simp only [lineP, *, if_true, if_false, Int.lt_irrefl]
   have C283 : Chg (inl [5]) _ _ _ _ := (hb265.n).seq ((ch267.l rfl).seq ((hb270.n).seq (hb280.n)))
   replace hbase := hbase.chg C283 (is_nl rfl)
   exact ⟨(congrArg (a₁ := 3) (fun (z0 : Int) => Ending.returned (Value.int .i64 z0)) e0), hbase.below⟩
  refine run_cond_f rfl (decide_eq_false p6) ?_
  refine run_skip ?_
  refine run_seq (run_seq ?_)
  clear bx212
  refine run_region rfl ?_
  replace bx215 := bx215.chg hb265 (not_no _)
  refine l_val (v := Value.agg (List.toArray [Value.int .i64 c.1, Value.int .i64 c.2])) rfl (e_load_bxN (ds := [Value.int .i64 c.1, Value.int .i64 c.2]) tp23_gl (by exact zs7) bx215 rfl rfl) ?_
  replace bx237 := bx237.chg hb265 (not_no _)
  refine l_val (v := Value.agg (List.toArray [Value.int .i64 b.1, Value.int .i64 b.2])) rfl (e_load_bxN (ds := [Value.int .i64 b.1, Value.int .i64 b.2]) tp23_gl (by exact zs10) bx237 rfl rfl) ?_
  refine l_op rfl ?_
  refine o_call (v := Value.int .i64 (ordP c b)) (e_call (vals := [Value.agg (List.toArray [Value.int .i64 c.1, Value.int .i64 c.2]), Value.agg (List.toArray [Value.int .i64 b.1, Value.int .i64 b.2])]) Try.func63 bd63_gl nm63_gl rfl) (order_ok w264 c b) ?_
  intro w284 hb285
  replace hb285 := chg_below hb285 g263
  refine l_val (v := Value.bool (decide ((ordP c b) < 0))) rfl (e_lss (m := ordP c b) (n := 0) rfl rfl) ?_
  refine l_nil ?_
  by_cases p8 : (ordP c b) < 0
  ·
   refine run_cond_t rfl (decide_eq_true p8) ?_
   refine run_region rfl ?_
   replace bx215 := bx215.chg hb285 (not_no _)
   refine l_val (v := Value.agg (List.toArray [Value.int .i64 c.1, Value.int .i64 c.2])) rfl (e_load_bxN (ds := [Value.int .i64 c.1, Value.int .i64 c.2]) tp23_gl (by exact zs7) bx215 rfl rfl) ?_
   refine l_op rfl ?_
   replace bx237 := bx237.chg hb285 (not_no _)
   refine o_store_bx (cs' := [Value.int .i64 c.1, Value.int .i64 c.2]) tp23_gl (by exact zs10) rfl bx237 rfl (Nat.le_of_ble_eq_true rfl) (AllOne.all (.cons rfl (.cons rfl .nil))) rfl ?_
   intro w286 ch287 bx288
   clear bx237
   refine l_nil (run_seq (run_seq ?_))
   clear bx215
   refine run_region rfl ?_
   have C289 : Chg (inl [6]) _ _ _ _ := (hb265.n).seq ((hb285.n).seq (ch287.l rfl))
   replace bx233 := bx233.chg C289 (is_nl rfl)
   refine l_val (v := Value.agg (List.toArray [Value.int .i64 a.1, Value.int .i64 a.2])) rfl (e_load_bxN (ds := [Value.int .i64 a.1, Value.int .i64 a.2]) tp23_gl (by exact zs9) bx233 rfl rfl) ?_
   refine l_val (v := Value.agg (List.toArray [Value.int .i64 c.1, Value.int .i64 c.2])) rfl (e_load_bxN (ds := [Value.int .i64 c.1, Value.int .i64 c.2]) tp23_gl (by exact zs10) bx288 rfl rfl) ?_
   refine l_op rfl ?_
   refine o_call (v := Value.int .i64 (ordP a c)) (e_call (vals := [Value.agg (List.toArray [Value.int .i64 a.1, Value.int .i64 a.2]), Value.agg (List.toArray [Value.int .i64 c.1, Value.int .i64 c.2])]) Try.func63 bd63_gl nm63_gl rfl) (order_ok w286 a c) ?_
   intro w290 hb291
   replace hb291 := chg_below hb291 g263
   refine l_val (v := Value.int .i64 (ordP a c)) rfl (e_assign rfl) ?_
   refine l_nil ?_
   refine run_block ?_
   refine run_seq ?_
   clear bx233
   clear bx288
   refine run_region rfl ?_
   refine l_val (v := Value.int .i64 (ordP a c)) rfl (e_move rfl) ?_
   refine l_val (v := Value.bool (decide (0 < (ordP a c)))) rfl (e_gtr (m := ordP a c) (n := 0) rfl rfl) ?_
   refine l_val (v := Value.bool (decide (0 < (ordP a c)))) rfl (e_assign rfl) ?_
   refine l_nil ?_
   by_cases p11 : 0 < (ordP a c)
   ·
    refine run_cond_t rfl (decide_eq_true p11) ?_
    refine run_seq (run_region rfl ?_)
    refine l_val (v := Value.int .i64 0) rfl (e_assign rfl) ?_
    refine l_nil ?_
    refine run_ret (vs := [Value.int .i64 0]) Try.func55 (.tmp rfl .nil) ?_
    -- return 29
    have e0 : (0 : Int) = (lineP a b c d) := by
      simp only [lineP, *, if_true, if_false, Int.lt_irrefl]
    have C292 : Chg (inl [6]) _ _ _ _ := (hb265.n).seq ((hb285.n).seq ((ch287.l rfl).seq (hb291.n)))
    replace hbase := hbase.chg C292 (is_nl rfl)
    exact ⟨(congrArg (a₁ := 0) (fun (z0 : Int) => Ending.returned (Value.int .i64 z0)) e0), hbase.below⟩
   refine run_cond_f rfl (decide_eq_false p11) ?_
   refine run_seq (run_region rfl ?_)
   refine l_val (v := Value.int .i64 (ordP a c)) rfl (e_move rfl) ?_
   refine l_val (v := Value.bool (decide ((ordP a c) = 0))) rfl (e_eql (m := ordP a c) (n := 0) rfl rfl) ?_
   refine l_val (v := Value.bool (decide ((ordP a c) = 0))) rfl (e_assign rfl) ?_
   refine l_nil ?_
   by_cases p13 : (ordP a c) = 0
   ·
    refine run_cond_t rfl (decide_eq_true p13) ?_
    refine run_seq (run_region rfl ?_)
    refine l_val (v := Value.int .i64 2) rfl (e_assign rfl) ?_
    refine l_nil ?_
    refine run_ret (vs := [Value.int .i64 2]) Try.func55 (.tmp rfl .nil) ?_
    -- return 30
    have e0 : (2 : Int) = (lineP a b c d) := by
      simp only [lineP, *, if_true, if_false, Int.lt_irrefl]
    have C293 : Chg (inl [6]) _ _ _ _ := (hb265.n).seq ((hb285.n).seq ((ch287.l rfl).seq (hb291.n)))
    replace hbase := hbase.chg C293 (is_nl rfl)
    exact ⟨(congrArg (a₁ := 2) (fun (z0 : Int) => Ending.returned (Value.int .i64 z0)) e0), hbase.below⟩
   refine run_cond_f rfl (decide_eq_false p13) ?_
   refine run_skip ?_
   refine run_inBlock ?_
   refine run_seq (run_region rfl ?_)
   refine l_val (v := Value.int .i64 3) rfl (e_assign rfl) ?_
   refine l_nil ?_
   refine run_ret (vs := [Value.int .i64 3]) Try.func55 (.tmp rfl .nil) ?_
   -- return 31
   have e0 : (3 : Int) = (lineP a b c d) := by
     simp only [lineP, *, if_true, if_false, Int.lt_irrefl]
   have C294 : Chg (inl [6]) _ _ _ _ := (hb265.n).seq ((hb285.n).seq ((ch287.l rfl).seq (hb291.n)))
   replace hbase := hbase.chg C294 (is_nl rfl)
   exact ⟨(congrArg (a₁ := 3) (fun (z0 : Int) => Ending.returned (Value.int .i64 z0)) e0), hbase.below⟩
  refine run_cond_f rfl (decide_eq_false p8) ?_
  refine run_skip ?_
  refine run_seq (run_seq ?_)
  clear bx215
  refine run_region rfl ?_
  replace bx233 := (bx233.chg hb265 (not_no _)).chg hb285 (not_no _)
  refine l_val (v := Value.agg (List.toArray [Value.int .i64 a.1, Value.int .i64 a.2])) rfl (e_load_bxN (ds := [Value.int .i64 a.1, Value.int .i64 a.2]) tp23_gl (by exact zs9) bx233 rfl rfl) ?_
  replace bx237 := bx237.chg hb285 (not_no _)
  refine l_val (v := Value.agg (List.toArray [Value.int .i64 b.1, Value.int .i64 b.2])) rfl (e_load_bxN (ds := [Value.int .i64 b.1, Value.int .i64 b.2]) tp23_gl (by exact zs10) bx237 rfl rfl) ?_
  refine l_op rfl ?_
  refine o_call (v := Value.int .i64 (ordP a b)) (e_call (vals := [Value.agg (List.toArray [Value.int .i64 a.1, Value.int .i64 a.2]), Value.agg (List.toArray [Value.int .i64 b.1, Value.int .i64 b.2])]) Try.func63 bd63_gl nm63_gl rfl) (order_ok w284 a b) ?_
  intro w295 hb296
  replace hb296 := chg_below hb296 g263
  refine l_val (v := Value.int .i64 (ordP a b)) rfl (e_assign rfl) ?_
  refine l_nil ?_
  refine run_block ?_
  refine run_seq ?_
  clear bx233
  clear bx237
  refine run_region rfl ?_
  refine l_val (v := Value.int .i64 (ordP a b)) rfl (e_move rfl) ?_
  refine l_val (v := Value.bool (decide (0 < (ordP a b)))) rfl (e_gtr (m := ordP a b) (n := 0) rfl rfl) ?_
  refine l_val (v := Value.bool (decide (0 < (ordP a b)))) rfl (e_assign rfl) ?_
  refine l_nil ?_
  refine run_cond_f rfl (decide_eq_false p1) ?_
  refine run_seq (run_region rfl ?_)
  refine l_val (v := Value.int .i64 (ordP a b)) rfl (e_move rfl) ?_
  refine l_val (v := Value.bool (decide ((ordP a b) = 0))) rfl (e_eql (m := ordP a b) (n := 0) rfl rfl) ?_
  refine l_val (v := Value.bool (decide ((ordP a b) = 0))) rfl (e_assign rfl) ?_
  refine l_nil ?_
  by_cases p13 : (ordP a b) = 0
  ·
   refine run_cond_t rfl (decide_eq_true p13) ?_
   refine run_seq (run_region rfl ?_)
   refine l_val (v := Value.int .i64 2) rfl (e_assign rfl) ?_
   refine l_nil ?_
   refine run_ret (vs := [Value.int .i64 2]) Try.func55 (.tmp rfl .nil) ?_
   -- return 32
   have e0 : (2 : Int) = (lineP a b c d) := by
     simp only [lineP, *, if_true, if_false, Int.lt_irrefl]
   have C297 : Chg (inl []) _ _ _ _ := (hb265.n).seq ((hb285.n).seq (hb296.n))
   replace hbase := hbase.chg C297 (is_nl rfl)
   exact ⟨(congrArg (a₁ := 2) (fun (z0 : Int) => Ending.returned (Value.int .i64 z0)) e0), hbase.below⟩
  refine run_cond_f rfl (decide_eq_false p13) ?_
  refine run_skip ?_
  refine run_inBlock ?_
  refine run_seq (run_region rfl ?_)
  refine l_val (v := Value.int .i64 3) rfl (e_assign rfl) ?_
  refine l_nil ?_
  refine run_ret (vs := [Value.int .i64 3]) Try.func55 (.tmp rfl .nil) ?_
  -- return 33
  have e0 : (3 : Int) = (lineP a b c d) := by
    simp only [lineP, *, if_true, if_false, Int.lt_irrefl]
  have C298 : Chg (inl []) _ _ _ _ := (hb265.n).seq ((hb285.n).seq (hb296.n))
  replace hbase := hbase.chg C298 (is_nl rfl)
  exact ⟨(congrArg (a₁ := 3) (fun (z0 : Int) => Ending.returned (Value.int .i64 z0)) e0), hbase.below⟩
 refine run_cond_f rfl (decide_eq_false p3) ?_
 refine run_skip ?_
 refine run_seq ?_
 refine region_midh (σ := Nat × Nat × Cmap) (fun ⟨b304, b310, gq⟩ f w => Base w0 gq w ∧ f 6 = Value.pointer (some ⟨b13, 0, none⟩) ∧ f 7 = Value.pointer (some ⟨b18, 0, none⟩) ∧ f 9 = Value.pointer (some ⟨b304, 0, none⟩) ∧ f 10 = Value.pointer (some ⟨b310, 0, none⟩) ∧ Bx gq (is 3) w b13 [Value.int .i64 c.1, Value.int .i64 c.2] ∧ Bx gq (is 4) w b18 [Value.int .i64 d.1, Value.int .i64 d.2] ∧ Bx gq (is 5) w b304 [Value.int .i64 a.1, Value.int .i64 a.2] ∧ Bx gq (is 6) w b310 [Value.int .i64 b.1, Value.int .i64 b.2]) g19 (inl [5, 6]) mixed_gl ?_ ?_
 ·
  intro mid
  intro w300 ch299
  have C301 : Chg (inl []) _ _ _ _ := (hb23.n).seq ((hb209.n).seq (ch299.n))
  replace bx5 := bx5.chg C301 (is_nl rfl)
  refine h_take (v := Value.agg (List.toArray [Value.int .i64 a.1, Value.int .i64 a.2])) 0 rfl (by kernel_rfl) (by kernel_rfl) rfl (Chg.refl _ _ _) (fun w' hw' => e_load_bxN (ds := [Value.int .i64 a.1, Value.int .i64 a.2]) tp23_gl rfl (bx5.chg hw' (is_nl rfl)) rfl rfl) ?_
  replace bx10 := bx10.chg C301 (is_nl rfl)
  refine h_take (v := Value.agg (List.toArray [Value.int .i64 b.1, Value.int .i64 b.2])) 1 rfl (by kernel_rfl) (by kernel_rfl) rfl (Chg.refl _ _ _) (fun w' hw' => e_load_bxN (ds := [Value.int .i64 b.1, Value.int .i64 b.2]) tp23_gl rfl (bx10.chg hw' (is_nl rfl)) rfl rfl) ?_
  refine h_many 2 [3] (by kernel_rfl) ⟨h_of 2 rfl (by kernel_rfl) rfl ?_, h_of 3 rfl (by kernel_rfl) rfl ?_, trivial⟩
  ·
   refine o_alloc g19 (is 5) (5, 0) rfl tp23_gl ?_
   intro g305 w302 b304 ch303 bx306
   replace bx306 : Bx g305 (is 5) w302 b304 [Value.int .i64 0, Value.int .i64 0] := bx306
   have hs307 : Chg (inl [5, 6]) _ _ _ _ := ch303.n
   refine ⟨hs307.same, ?_⟩
   refine h_one 3 rfl (by kernel_rfl) rfl ?_
   refine o_alloc g305 (is 6) (6, 0) rfl tp23_gl ?_
   intro g311 w308 b310 ch309 bx312
   replace bx312 : Bx g311 (is 6) w308 b310 [Value.int .i64 0, Value.int .i64 0] := bx312
   have hs313 := hs307.seq (ch309.n)
   refine ⟨hs313.same, ?_⟩
   refine h_one 4 rfl (by kernel_rfl) rfl ?_
   replace bx306 := bx306.chg ch309 (not_no _)
   refine o_store_bx (cs' := [Value.int .i64 a.1, Value.int .i64 a.2]) tp23_gl rfl rfl bx306 rfl (Nat.le_of_ble_eq_true rfl) (AllOne.all (.cons rfl (.cons rfl .nil))) rfl ?_
   intro w314 ch315 bx316
   clear bx306
   have hs317 := hs313.seq (ch315.l rfl)
   refine ⟨hs317.same, ?_⟩
   refine h_one 5 rfl (by kernel_rfl) rfl ?_
   replace bx312 := bx312.chg ch315 (is_ne rfl)
   refine o_store_bx (cs' := [Value.int .i64 b.1, Value.int .i64 b.2]) tp23_gl rfl rfl bx312 rfl (Nat.le_of_ble_eq_true rfl) (AllOne.all (.cons rfl (.cons rfl .nil))) rfl ?_
   intro w318 ch319 bx320
   clear bx312
   have hs321 := hs317.seq (ch319.l rfl)
   refine ⟨hs321.same, ?_⟩
   refine h_nil (by kernel_rfl) ?_
   have C322 : Chg (inl [5, 6]) _ _ _ _ := (ch2.n).seq ((ch7.n).seq ((ch12.n).seq ((ch17.n).seq ((hb23.n).seq ((hb209.n).seq ((ch299.n).seq ((ch303.n).seq ((ch309.n).seq ((ch315.l rfl).seq (ch319.l rfl))))))))))
   replace hbase := hbase.chg C322 (is_nl rfl)
   replace bx15 := (bx15.chg hb209 (not_no _)).chg ch299 (not_no _)
   replace bx20 := (bx20.chg hb209 (not_no _)).chg ch299 (not_no _)
   replace bx316 := bx316.chg ch319 (is_ne rfl)
   exact mid (b304, b310, g311) _ _ ⟨hbase, rfl, rfl, rfl, rfl, (bx15.chg hs321 (is_nl rfl)), (bx20.chg hs321 (is_nl rfl)), bx316, bx320⟩
  ·
   refine o_alloc g19 (is 6) (6, 0) rfl tp23_gl ?_
   intro g326 w323 b325 ch324 bx327
   replace bx327 : Bx g326 (is 6) w323 b325 [Value.int .i64 0, Value.int .i64 0] := bx327
   have hs328 : Chg (inl [5, 6]) _ _ _ _ := ch324.n
   refine ⟨hs328.same, ?_⟩
   refine h_one 2 rfl (by kernel_rfl) rfl ?_
   refine o_alloc g326 (is 5) (5, 0) rfl tp23_gl ?_
   intro g332 w329 b331 ch330 bx333
   replace bx333 : Bx g332 (is 5) w329 b331 [Value.int .i64 0, Value.int .i64 0] := bx333
   have hs334 := hs328.seq (ch330.n)
   refine ⟨hs334.same, ?_⟩
   refine h_one 4 rfl (by kernel_rfl) rfl ?_
   refine o_store_bx (cs' := [Value.int .i64 a.1, Value.int .i64 a.2]) tp23_gl rfl rfl bx333 rfl (Nat.le_of_ble_eq_true rfl) (AllOne.all (.cons rfl (.cons rfl .nil))) rfl ?_
   intro w335 ch336 bx337
   clear bx333
   have hs338 := hs334.seq (ch336.l rfl)
   refine ⟨hs338.same, ?_⟩
   refine h_one 5 rfl (by kernel_rfl) rfl ?_
   replace bx327 := (bx327.chg ch330 (not_no _)).chg ch336 (is_ne rfl)
   refine o_store_bx (cs' := [Value.int .i64 b.1, Value.int .i64 b.2]) tp23_gl rfl rfl bx327 rfl (Nat.le_of_ble_eq_true rfl) (AllOne.all (.cons rfl (.cons rfl .nil))) rfl ?_
   intro w339 ch340 bx341
   clear bx327
   have hs342 := hs338.seq (ch340.l rfl)
   refine ⟨hs342.same, ?_⟩
   refine h_nil (by kernel_rfl) ?_
   have C343 : Chg (inl [5, 6]) _ _ _ _ := (ch2.n).seq ((ch7.n).seq ((ch12.n).seq ((ch17.n).seq ((hb23.n).seq ((hb209.n).seq ((ch299.n).seq ((ch324.n).seq ((ch330.n).seq ((ch336.l rfl).seq (ch340.l rfl))))))))))
   replace hbase := hbase.chg C343 (is_nl rfl)
   replace bx15 := (bx15.chg hb209 (not_no _)).chg ch299 (not_no _)
   replace bx20 := (bx20.chg hb209 (not_no _)).chg ch299 (not_no _)
   replace bx337 := bx337.chg ch340 (is_ne rfl)
   exact mid (b331, b325, g332) _ _ ⟨hbase, rfl, rfl, rfl, rfl, (bx15.chg hs342 (is_nl rfl)), (bx20.chg hs342 (is_nl rfl)), bx337, bx341⟩
 clear bx5
 clear bx10
 clear bx15
 clear bx20
 clear hbase
 rintro ⟨b304, b310, g346⟩ f344 w345 ⟨hbase, zs6, zs7, zs9, zs10, bx15, bx20, bx316, bx320⟩
 refine run_seq (run_seq (run_region rfl ?_))
 refine l_val (v := Value.agg (List.toArray [Value.int .i64 c.1, Value.int .i64 c.2])) rfl (e_load_bxN (ds := [Value.int .i64 c.1, Value.int .i64 c.2]) tp23_gl (by exact zs6) bx15 rfl rfl) ?_
 refine l_val (v := Value.agg (List.toArray [Value.int .i64 a.1, Value.int .i64 a.2])) rfl (e_load_bxN (ds := [Value.int .i64 a.1, Value.int .i64 a.2]) tp23_gl (by exact zs9) bx316 rfl rfl) ?_
 refine l_op rfl ?_
 refine o_call (v := Value.int .i64 (ordP c a)) (e_call (vals := [Value.agg (List.toArray [Value.int .i64 c.1, Value.int .i64 c.2]), Value.agg (List.toArray [Value.int .i64 a.1, Value.int .i64 a.2])]) Try.func63 bd63_gl nm63_gl rfl) (order_ok w345 c a) ?_
 intro w347 hb348
 replace hb348 := chg_below hb348 g346
 refine l_val (v := Value.bool (decide (0 < (ordP c a)))) rfl (e_gtr (m := ordP c a) (n := 0) rfl rfl) ?_
 refine l_nil ?_
 by_cases p6 : 0 < (ordP c a)
 ·
  refine run_cond_t rfl (decide_eq_true p6) ?_
  refine run_region rfl ?_
  replace bx15 := bx15.chg hb348 (not_no _)
  refine l_val (v := Value.agg (List.toArray [Value.int .i64 c.1, Value.int .i64 c.2])) rfl (e_load_bxN (ds := [Value.int .i64 c.1, Value.int .i64 c.2]) tp23_gl (by exact zs6) bx15 rfl rfl) ?_
  refine l_op rfl ?_
  replace bx316 := bx316.chg hb348 (not_no _)
  refine o_store_bx (cs' := [Value.int .i64 c.1, Value.int .i64 c.2]) tp23_gl (by exact zs9) rfl bx316 rfl (Nat.le_of_ble_eq_true rfl) (AllOne.all (.cons rfl (.cons rfl .nil))) rfl ?_
  intro w349 ch350 bx351
  clear bx316
  refine l_nil (run_seq (run_seq ?_))
  clear bx15
  refine run_region rfl ?_
  replace bx20 := (bx20.chg hb348 (not_no _)).chg ch350 (is_ne rfl)
  refine l_val (v := Value.agg (List.toArray [Value.int .i64 d.1, Value.int .i64 d.2])) rfl (e_load_bxN (ds := [Value.int .i64 d.1, Value.int .i64 d.2]) tp23_gl (by exact zs7) bx20 rfl rfl) ?_
  replace bx320 := (bx320.chg hb348 (not_no _)).chg ch350 (is_ne rfl)
  refine l_val (v := Value.agg (List.toArray [Value.int .i64 b.1, Value.int .i64 b.2])) rfl (e_load_bxN (ds := [Value.int .i64 b.1, Value.int .i64 b.2]) tp23_gl (by exact zs10) bx320 rfl rfl) ?_
  refine l_op rfl ?_
  refine o_call (v := Value.int .i64 (ordP d b)) (e_call (vals := [Value.agg (List.toArray [Value.int .i64 d.1, Value.int .i64 d.2]), Value.agg (List.toArray [Value.int .i64 b.1, Value.int .i64 b.2])]) Try.func63 bd63_gl nm63_gl rfl) (order_ok w349 d b) ?_
  intro w352 hb353
  replace hb353 := chg_below hb353 g346
  refine l_val (v := Value.bool (decide ((ordP d b) < 0))) rfl (e_lss (m := ordP d b) (n := 0) rfl rfl) ?_
  refine l_nil ?_
  by_cases p8 : (ordP d b) < 0
  ·
   refine run_cond_t rfl (decide_eq_true p8) ?_
   refine run_region rfl ?_
   replace bx20 := bx20.chg hb353 (not_no _)
   refine l_val (v := Value.agg (List.toArray [Value.int .i64 d.1, Value.int .i64 d.2])) rfl (e_load_bxN (ds := [Value.int .i64 d.1, Value.int .i64 d.2]) tp23_gl (by exact zs7) bx20 rfl rfl) ?_
   refine l_op rfl ?_
   replace bx320 := bx320.chg hb353 (not_no _)
   refine o_store_bx (cs' := [Value.int .i64 d.1, Value.int .i64 d.2]) tp23_gl (by exact zs10) rfl bx320 rfl (Nat.le_of_ble_eq_true rfl) (AllOne.all (.cons rfl (.cons rfl .nil))) rfl ?_
   intro w354 ch355 bx356
   clear bx320
   refine l_nil (run_seq (run_seq ?_))
   clear bx20
   refine run_region rfl ?_
   replace bx351 := (bx351.chg hb353 (not_no _)).chg ch355 (is_ne rfl)
   refine l_val (v := Value.agg (List.toArray [Value.int .i64 c.1, Value.int .i64 c.2])) rfl (e_load_bxN (ds := [Value.int .i64 c.1, Value.int .i64 c.2]) tp23_gl (by exact zs9) bx351 rfl rfl) ?_
   refine l_val (v := Value.agg (List.toArray [Value.int .i64 d.1, Value.int .i64 d.2])) rfl (e_load_bxN (ds := [Value.int .i64 d.1, Value.int .i64 d.2]) tp23_gl (by exact zs10) bx356 rfl rfl) ?_
   refine l_op rfl ?_
   refine o_call (v := Value.int .i64 (ordP c d)) (e_call (vals := [Value.agg (List.toArray [Value.int .i64 c.1, Value.int .i64 c.2]), Value.agg (List.toArray [Value.int .i64 d.1, Value.int .i64 d.2])]) Try.func63 bd63_gl nm63_gl rfl) (order_ok w354 c d) ?_
   intro w357 hb358
   replace hb358 := chg_below hb358 g346
   refine l_val (v := Value.int .i64 (ordP c d)) rfl (e_assign rfl) ?_
   refine l_nil ?_
   refine run_block ?_
   refine run_seq ?_
   clear bx351
   clear bx356
   refine run_region rfl ?_
   refine l_val (v := Value.int .i64 (ordP c d)) rfl (e_move rfl) ?_
   refine l_val (v := Value.bool (decide (0 < (ordP c d)))) rfl (e_gtr (m := ordP c d) (n := 0) rfl rfl) ?_
   refine l_val (v := Value.bool (decide (0 < (ordP c d)))) rfl (e_assign rfl) ?_
   refine l_nil ?_
   refine run_cond_f rfl (decide_eq_false p3) ?_
   refine run_seq (run_region rfl ?_)
   refine l_val (v := Value.int .i64 (ordP c d)) rfl (e_move rfl) ?_
   refine l_val (v := Value.bool (decide ((ordP c d) = 0))) rfl (e_eql (m := ordP c d) (n := 0) rfl rfl) ?_
   refine l_val (v := Value.bool (decide ((ordP c d) = 0))) rfl (e_assign rfl) ?_
   refine l_nil ?_
   by_cases p13 : (ordP c d) = 0
   ·
    refine run_cond_t rfl (decide_eq_true p13) ?_
    refine run_seq (run_region rfl ?_)
    refine l_val (v := Value.int .i64 2) rfl (e_assign rfl) ?_
    refine l_nil ?_
    refine run_ret (vs := [Value.int .i64 2]) Try.func55 (.tmp rfl .nil) ?_
    -- return 34
    have e0 : (2 : Int) = (lineP a b c d) := by
      simp only [lineP, *, if_true, if_false, Int.lt_irrefl]
    have C359 : Chg (inl [5, 6]) _ _ _ _ := (hb348.n).seq ((ch350.l rfl).seq ((hb353.n).seq ((ch355.l rfl).seq (hb358.n))))
    replace hbase := hbase.chg C359 (is_nl rfl)
    exact ⟨(congrArg (a₁ := 2) (fun (z0 : Int) => Ending.returned (Value.int .i64 z0)) e0), hbase.below⟩
   refine run_cond_f rfl (decide_eq_false p13) ?_
   refine run_skip ?_
   refine run_inBlock ?_
   refine run_seq (run_region rfl ?_)
   refine l_val (v := Value.int .i64 3) rfl (e_assign rfl) ?_
   refine l_nil ?_
   refine run_ret (vs := [Value.int .i64 3]) Try.func55 (.tmp rfl .nil) ?_
   -- return 35
   have e0 : (3 : Int) = (lineP a b c d) := by
     simp only [lineP, *, if_true, if_false, Int.lt_irrefl]
   have C360 : Chg (inl [5, 6]) _ _ _ _ := (hb348.n).seq ((ch350.l rfl).seq ((hb353.n).seq ((ch355.l rfl).seq (hb358.n))))
   replace hbase := hbase.chg C360 (is_nl rfl)
   exact ⟨(congrArg (a₁ := 3) (fun (z0 : Int) => Ending.returned (Value.int .i64 z0)) e0), hbase.below⟩
  refine run_cond_f rfl (decide_eq_false p8) ?_
  refine run_skip ?_
  refine run_seq (run_seq ?_)
  clear bx20
  refine run_region rfl ?_
  replace bx351 := bx351.chg hb353 (not_no _)
  refine l_val (v := Value.agg (List.toArray [Value.int .i64 c.1, Value.int .i64 c.2])) rfl (e_load_bxN (ds := [Value.int .i64 c.1, Value.int .i64 c.2]) tp23_gl (by exact zs9) bx351 rfl rfl) ?_
  replace bx320 := bx320.chg hb353 (not_no _)
  refine l_val (v := Value.agg (List.toArray [Value.int .i64 b.1, Value.int .i64 b.2])) rfl (e_load_bxN (ds := [Value.int .i64 b.1, Value.int .i64 b.2]) tp23_gl (by exact zs10) bx320 rfl rfl) ?_
  refine l_op rfl ?_
  refine o_call (v := Value.int .i64 (ordP c b)) (e_call (vals := [Value.agg (List.toArray [Value.int .i64 c.1, Value.int .i64 c.2]), Value.agg (List.toArray [Value.int .i64 b.1, Value.int .i64 b.2])]) Try.func63 bd63_gl nm63_gl rfl) (order_ok w352 c b) ?_
  intro w361 hb362
  replace hb362 := chg_below hb362 g346
  refine l_val (v := Value.int .i64 (ordP c b)) rfl (e_assign rfl) ?_
  refine l_nil ?_
  refine run_block ?_
  refine run_seq ?_
  clear bx320
  clear bx351
  refine run_region rfl ?_
  refine l_val (v := Value.int .i64 (ordP c b)) rfl (e_move rfl) ?_
  refine l_val (v := Value.bool (decide (0 < (ordP c b)))) rfl (e_gtr (m := ordP c b) (n := 0) rfl rfl) ?_
  refine l_val (v := Value.bool (decide (0 < (ordP c b)))) rfl (e_assign rfl) ?_
  refine l_nil ?_
  by_cases p11 : 0 < (ordP c b)
  ·
   refine run_cond_t rfl (decide_eq_true p11) ?_
   refine run_seq (run_region rfl ?_)
   refine l_val (v := Value.int .i64 0) rfl (e_assign rfl) ?_
   refine l_nil ?_
   refine run_ret (vs := [Value.int .i64 0]) Try.func55 (.tmp rfl .nil) ?_
   -- return 36
   have e0 : (0 : Int) = (lineP a b c d) := by
     simp only [lineP, *, if_true, if_false, Int.lt_irrefl]
   have C363 : Chg (inl [5]) _ _ _ _ := (hb348.n).seq ((ch350.l rfl).seq ((hb353.n).seq (hb362.n)))
   replace hbase := hbase.chg C363 (is_nl rfl)
   exact ⟨(congrArg (a₁ := 0) (fun (z0 : Int) => Ending.returned (Value.int .i64 z0)) e0), hbase.below⟩
  refine run_cond_f rfl (decide_eq_false p11) ?_
  refine run_seq (run_region rfl ?_)
  refine l_val (v := Value.int .i64 (ordP c b)) rfl (e_move rfl) ?_
  refine l_val (v := Value.bool (decide ((ordP c b) = 0))) rfl (e_eql (m := ordP c b) (n := 0) rfl rfl) ?_
  refine l_val (v := Value.bool (decide ((ordP c b) = 0))) rfl (e_assign rfl) ?_
  refine l_nil ?_
  by_cases p13 : (ordP c b) = 0
  ·
   refine run_cond_t rfl (decide_eq_true p13) ?_
   refine run_seq (run_region rfl ?_)
   refine l_val (v := Value.int .i64 2) rfl (e_assign rfl) ?_
   refine l_nil ?_
   refine run_ret (vs := [Value.int .i64 2]) Try.func55 (.tmp rfl .nil) ?_
   -- return 37
   have e0 : (2 : Int) = (lineP a b c d) := by
     simp only [lineP, *, if_true, if_false, Int.lt_irrefl]
   have C364 : Chg (inl [5]) _ _ _ _ := (hb348.n).seq ((ch350.l rfl).seq ((hb353.n).seq (hb362.n)))
   replace hbase := hbase.chg C364 (is_nl rfl)
   exact ⟨(congrArg (a₁ := 2) (fun (z0 : Int) => Ending.returned (Value.int .i64 z0)) e0), hbase.below⟩
  refine run_cond_f rfl (decide_eq_false p13) ?_
  refine run_skip ?_
  refine run_inBlock ?_
  refine run_seq (run_region rfl ?_)
  refine l_val (v := Value.int .i64 3) rfl (e_assign rfl) ?_
  refine l_nil ?_
  refine run_ret (vs := [Value.int .i64 3]) Try.func55 (.tmp rfl .nil) ?_
  -- return 38
  have e0 : (3 : Int) = (lineP a b c d) := by
    simp only [lineP, *, if_true, if_false, Int.lt_irrefl]
  have C365 : Chg (inl [5]) _ _ _ _ := (hb348.n).seq ((ch350.l rfl).seq ((hb353.n).seq (hb362.n)))
  replace hbase := hbase.chg C365 (is_nl rfl)
  exact ⟨(congrArg (a₁ := 3) (fun (z0 : Int) => Ending.returned (Value.int .i64 z0)) e0), hbase.below⟩
 refine run_cond_f rfl (decide_eq_false p6) ?_
 refine run_skip ?_
 refine run_seq (run_seq ?_)
 clear bx15
 refine run_region rfl ?_
 replace bx20 := bx20.chg hb348 (not_no _)
 refine l_val (v := Value.agg (List.toArray [Value.int .i64 d.1, Value.int .i64 d.2])) rfl (e_load_bxN (ds := [Value.int .i64 d.1, Value.int .i64 d.2]) tp23_gl (by exact zs7) bx20 rfl rfl) ?_
 replace bx320 := bx320.chg hb348 (not_no _)
 refine l_val (v := Value.agg (List.toArray [Value.int .i64 b.1, Value.int .i64 b.2])) rfl (e_load_bxN (ds := [Value.int .i64 b.1, Value.int .i64 b.2]) tp23_gl (by exact zs10) bx320 rfl rfl) ?_
 refine l_op rfl ?_
 refine o_call (v := Value.int .i64 (ordP d b)) (e_call (vals := [Value.agg (List.toArray [Value.int .i64 d.1, Value.int .i64 d.2]), Value.agg (List.toArray [Value.int .i64 b.1, Value.int .i64 b.2])]) Try.func63 bd63_gl nm63_gl rfl) (order_ok w347 d b) ?_
 intro w366 hb367
 replace hb367 := chg_below hb367 g346
 refine l_val (v := Value.bool (decide ((ordP d b) < 0))) rfl (e_lss (m := ordP d b) (n := 0) rfl rfl) ?_
 refine l_nil ?_
 by_cases p8 : (ordP d b) < 0
 ·
  refine run_cond_t rfl (decide_eq_true p8) ?_
  refine run_region rfl ?_
  replace bx20 := bx20.chg hb367 (not_no _)
  refine l_val (v := Value.agg (List.toArray [Value.int .i64 d.1, Value.int .i64 d.2])) rfl (e_load_bxN (ds := [Value.int .i64 d.1, Value.int .i64 d.2]) tp23_gl (by exact zs7) bx20 rfl rfl) ?_
  refine l_op rfl ?_
  replace bx320 := bx320.chg hb367 (not_no _)
  refine o_store_bx (cs' := [Value.int .i64 d.1, Value.int .i64 d.2]) tp23_gl (by exact zs10) rfl bx320 rfl (Nat.le_of_ble_eq_true rfl) (AllOne.all (.cons rfl (.cons rfl .nil))) rfl ?_
  intro w368 ch369 bx370
  clear bx320
  refine l_nil (run_seq (run_seq ?_))
  clear bx20
  refine run_region rfl ?_
  have C371 : Chg (inl [6]) _ _ _ _ := (hb348.n).seq ((hb367.n).seq (ch369.l rfl))
  replace bx316 := bx316.chg C371 (is_nl rfl)
  refine l_val (v := Value.agg (List.toArray [Value.int .i64 a.1, Value.int .i64 a.2])) rfl (e_load_bxN (ds := [Value.int .i64 a.1, Value.int .i64 a.2]) tp23_gl (by exact zs9) bx316 rfl rfl) ?_
  refine l_val (v := Value.agg (List.toArray [Value.int .i64 d.1, Value.int .i64 d.2])) rfl (e_load_bxN (ds := [Value.int .i64 d.1, Value.int .i64 d.2]) tp23_gl (by exact zs10) bx370 rfl rfl) ?_
  refine l_op rfl ?_
  refine o_call (v := Value.int .i64 (ordP a d)) (e_call (vals := [Value.agg (List.toArray [Value.int .i64 a.1, Value.int .i64 a.2]), Value.agg (List.toArray [Value.int .i64 d.1, Value.int .i64 d.2])]) Try.func63 bd63_gl nm63_gl rfl) (order_ok w368 a d) ?_
  intro w372 hb373
  replace hb373 := chg_below hb373 g346
  refine l_val (v := Value.int .i64 (ordP a d)) rfl (e_assign rfl) ?_
  refine l_nil ?_
  refine run_block ?_
  refine run_seq ?_
  clear bx316
  clear bx370
  refine run_region rfl ?_
  refine l_val (v := Value.int .i64 (ordP a d)) rfl (e_move rfl) ?_
  refine l_val (v := Value.bool (decide (0 < (ordP a d)))) rfl (e_gtr (m := ordP a d) (n := 0) rfl rfl) ?_
  refine l_val (v := Value.bool (decide (0 < (ordP a d)))) rfl (e_assign rfl) ?_
  refine l_nil ?_
  by_cases p11 : 0 < (ordP a d)
  ·
   refine run_cond_t rfl (decide_eq_true p11) ?_
   refine run_seq (run_region rfl ?_)
   refine l_val (v := Value.int .i64 0) rfl (e_assign rfl) ?_
   refine l_nil ?_
   refine run_ret (vs := [Value.int .i64 0]) Try.func55 (.tmp rfl .nil) ?_
   -- return 39
   have e0 : (0 : Int) = (lineP a b c d) := by
     simp only [lineP, *, if_true, if_false, Int.lt_irrefl]
   have C374 : Chg (inl [6]) _ _ _ _ := (hb348.n).seq ((hb367.n).seq ((ch369.l rfl).seq (hb373.n)))
   replace hbase := hbase.chg C374 (is_nl rfl)
   exact ⟨(congrArg (a₁ := 0) (fun (z0 : Int) => Ending.returned (Value.int .i64 z0)) e0), hbase.below⟩
  refine run_cond_f rfl (decide_eq_false p11) ?_
  refine run_seq (run_region rfl ?_)
  refine l_val (v := Value.int .i64 (ordP a d)) rfl (e_move rfl) ?_
  refine l_val (v := Value.bool (decide ((ordP a d) = 0))) rfl (e_eql (m := ordP a d) (n := 0) rfl rfl) ?_
  refine l_val (v := Value.bool (decide ((ordP a d) = 0))) rfl (e_assign rfl) ?_
  refine l_nil ?_
  by_cases p13 : (ordP a d) = 0
  ·
   refine run_cond_t rfl (decide_eq_true p13) ?_
   refine run_seq (run_region rfl ?_)
   refine l_val (v := Value.int .i64 2) rfl (e_assign rfl) ?_
   refine l_nil ?_
   refine run_ret (vs := [Value.int .i64 2]) Try.func55 (.tmp rfl .nil) ?_
   -- return 40
   have e0 : (2 : Int) = (lineP a b c d) := by
     simp only [lineP, *, if_true, if_false, Int.lt_irrefl]
   have C375 : Chg (inl [6]) _ _ _ _ := (hb348.n).seq ((hb367.n).seq ((ch369.l rfl).seq (hb373.n)))
   replace hbase := hbase.chg C375 (is_nl rfl)
   exact ⟨(congrArg (a₁ := 2) (fun (z0 : Int) => Ending.returned (Value.int .i64 z0)) e0), hbase.below⟩
  refine run_cond_f rfl (decide_eq_false p13) ?_
  refine run_skip ?_
  refine run_inBlock ?_
  refine run_seq (run_region rfl ?_)
  refine l_val (v := Value.int .i64 3) rfl (e_assign rfl) ?_
  refine l_nil ?_
  refine run_ret (vs := [Value.int .i64 3]) Try.func55 (.tmp rfl .nil) ?_
  -- return 41
  have e0 : (3 : Int) = (lineP a b c d) := by
    simp only [lineP, *, if_true, if_false, Int.lt_irrefl]
  have C376 : Chg (inl [6]) _ _ _ _ := (hb348.n).seq ((hb367.n).seq ((ch369.l rfl).seq (hb373.n)))
  replace hbase := hbase.chg C376 (is_nl rfl)
  exact ⟨(congrArg (a₁ := 3) (fun (z0 : Int) => Ending.returned (Value.int .i64 z0)) e0), hbase.below⟩
 refine run_cond_f rfl (decide_eq_false p8) ?_
 refine run_skip ?_
 refine run_seq (run_seq ?_)
 clear bx20
 refine run_region rfl ?_
 replace bx316 := (bx316.chg hb348 (not_no _)).chg hb367 (not_no _)
 refine l_val (v := Value.agg (List.toArray [Value.int .i64 a.1, Value.int .i64 a.2])) rfl (e_load_bxN (ds := [Value.int .i64 a.1, Value.int .i64 a.2]) tp23_gl (by exact zs9) bx316 rfl rfl) ?_
 replace bx320 := bx320.chg hb367 (not_no _)
 refine l_val (v := Value.agg (List.toArray [Value.int .i64 b.1, Value.int .i64 b.2])) rfl (e_load_bxN (ds := [Value.int .i64 b.1, Value.int .i64 b.2]) tp23_gl (by exact zs10) bx320 rfl rfl) ?_
 refine l_op rfl ?_
 refine o_call (v := Value.int .i64 (ordP a b)) (e_call (vals := [Value.agg (List.toArray [Value.int .i64 a.1, Value.int .i64 a.2]), Value.agg (List.toArray [Value.int .i64 b.1, Value.int .i64 b.2])]) Try.func63 bd63_gl nm63_gl rfl) (order_ok w366 a b) ?_
 intro w377 hb378
 replace hb378 := chg_below hb378 g346
 refine l_val (v := Value.int .i64 (ordP a b)) rfl (e_assign rfl) ?_
 refine l_nil ?_
 refine run_block ?_
 refine run_seq ?_
 clear bx316
 clear bx320
 refine run_region rfl ?_
 refine l_val (v := Value.int .i64 (ordP a b)) rfl (e_move rfl) ?_
 refine l_val (v := Value.bool (decide (0 < (ordP a b)))) rfl (e_gtr (m := ordP a b) (n := 0) rfl rfl) ?_
 refine l_val (v := Value.bool (decide (0 < (ordP a b)))) rfl (e_assign rfl) ?_
 refine l_nil ?_
 refine run_cond_f rfl (decide_eq_false p1) ?_
 refine run_seq (run_region rfl ?_)
 refine l_val (v := Value.int .i64 (ordP a b)) rfl (e_move rfl) ?_
 refine l_val (v := Value.bool (decide ((ordP a b) = 0))) rfl (e_eql (m := ordP a b) (n := 0) rfl rfl) ?_
 refine l_val (v := Value.bool (decide ((ordP a b) = 0))) rfl (e_assign rfl) ?_
 refine l_nil ?_
 by_cases p13 : (ordP a b) = 0
 ·
  refine run_cond_t rfl (decide_eq_true p13) ?_
  refine run_seq (run_region rfl ?_)
  refine l_val (v := Value.int .i64 2) rfl (e_assign rfl) ?_
  refine l_nil ?_
  refine run_ret (vs := [Value.int .i64 2]) Try.func55 (.tmp rfl .nil) ?_
  -- return 42
  have e0 : (2 : Int) = (lineP a b c d) := by
    simp only [lineP, *, if_true, if_false, Int.lt_irrefl]
  have C379 : Chg (inl []) _ _ _ _ := (hb348.n).seq ((hb367.n).seq (hb378.n))
  replace hbase := hbase.chg C379 (is_nl rfl)
  exact ⟨(congrArg (a₁ := 2) (fun (z0 : Int) => Ending.returned (Value.int .i64 z0)) e0), hbase.below⟩
 refine run_cond_f rfl (decide_eq_false p13) ?_
 refine run_skip ?_
 refine run_inBlock ?_
 refine run_seq (run_region rfl ?_)
 refine l_val (v := Value.int .i64 3) rfl (e_assign rfl) ?_
 refine l_nil ?_
 refine run_ret (vs := [Value.int .i64 3]) Try.func55 (.tmp rfl .nil) ?_
 -- return 43
 have e0 : (3 : Int) = (lineP a b c d) := by
   simp only [lineP, *, if_true, if_false, Int.lt_irrefl]
 have C380 : Chg (inl []) _ _ _ _ := (hb348.n).seq ((hb367.n).seq (hb378.n))
 replace hbase := hbase.chg C380 (is_nl rfl)
 exact ⟨(congrArg (a₁ := 3) (fun (z0 : Int) => Ending.returned (Value.int .i64 z0)) e0), hbase.below⟩
end TL
