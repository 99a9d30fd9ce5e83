import Derived.Test.YtilohhkbelkmdaaTlGdA
import Derived.Test.YtilohhkbelkmdaaTlGenO
import Derived.Test.YtilohhkbelkmdaaTlGenF
import Derived.Test.YtilohhkbelkmdaaTlP3
import Derived.Test.YtilohhkbelkmdaaProg
set_option linter.all false
set_option maxRecDepth 20000
namespace TL
open Go Go.Proofs
theorem tp3_db : Tp Try.prog 3 false 1 8 (.int .i64 0) := Tp.of (by kernel_rfl)
theorem tp22_db : Tp Try.prog 22 false 1 24 (.slice none 0 0) := Tp.of (by kernel_rfl)
theorem tp24_db : Tp Try.prog 24 true 2 32 (.agg #[.int .i64 0, .slice none 0 0]) := Tp.of (by kernel_rfl)
theorem bd15_db : Try.f15.body.isNone = false := rfl
theorem nm15_db : (Try.f15.name == "runtime.NumGoroutine") = false := by decide +kernel
theorem bd61_db : Try.f61.body.isNone = false := rfl
theorem nm61_db : (Try.f61.name == "runtime.NumGoroutine") = false := by decide +kernel
theorem Take_ok (w0 : World) (g : (Int) × (List ((Int) × (Int)))) (g_v : Value) (hg_v : Ro w0 g_v g.2) (r : List (List Int)) (r_v : Value) (hr_v : Ro w0 r_v r) (e : Int) :
    Calls Try.prog 32 #[Value.agg (List.toArray [Value.int .i64 g.1, g_v]), r_v, Value.int .i64 e] w0 (fun ee w => ∃ xx : Cmap × Value × Value, ee = .returned ((fun ⟨δ, rv0, rv1⟩ => Value.tuple (List.toArray [Value.agg (List.toArray [Value.int .i64 (((takeR g r e).1).1), rv0]), rv1, Value.int .i64 ((takeR g r e).2.2)])) xx) ∧ (fun (⟨δ, rv0, rv1⟩ : Cmap × Value × Value) (w : World) => Fresh w0 δ w ∧ Ow δ (is 1) (is 1) w rv0 (((takeR g r e).1).2) ∧ Nst δ 2 w rv1 ((takeR g r e).2.1)) xx w) := by
 refine calls_of_run Try.func32 rfl (Nat.le_of_ble_eq_true rfl) ?_
 have hbase := Base.start w0
 have r_g_v := hg_v.sl
 have r_r_v := hr_v.sl
 refine run_seq (run_region rfl (l_op rfl ?_))
 refine o_box c0 (is 1) (1, 0) rfl rfl ?_
 intro g4 w1 b3 ch2 bx5
 replace bx5 : Bx g4 (is 1) w1 b3 [Value.int .i64 g.1, g_v] := bx5
 refine l_op rfl ?_
 refine o_alloc g4 (is 2) (2, 0) rfl tp24_db ?_
 intro g9 w6 b8 ch7 bx10
 replace bx10 : Bx g9 (is 2) w6 b8 [Value.int .i64 0, Value.slice none 0 0] := bx10
 refine l_val (v := Value.slice none 0 0) rfl (e_assign rfl) ?_
 refine l_val (v := Value.int .i64 0) rfl (e_assign rfl) ?_
 refine l_nil (run_seq (run_seq (run_region rfl ?_)))
 replace bx5 := bx5.chg ch7 (not_no _)
 refine l_val (v := Value.agg (List.toArray [Value.int .i64 g.1, g_v])) rfl (e_load_bxN (ds := [Value.int .i64 g.1, g_v]) tp24_db rfl bx5 rfl rfl) ?_
 refine l_val (v := r_v) rfl (e_move rfl) ?_
 replace r_g_v := (r_g_v.chg ch2 (not_no _)).chg ch7 (not_no _)
 replace r_r_v := (r_r_v.chg ch2 (not_no _)).chg ch7 (not_no _)
 refine l_op rfl ?_
 refine o_call (v := Value.int .i64 (rmayR g r)) (e_call (vals := [Value.agg (List.toArray [Value.int .i64 g.1, g_v]), r_v]) Try.func15 bd15_db nm15_db rfl) (RMay_ok w6 g g_v (r_g_v).ro r r_v (r_r_v).ro) ?_
 intro w11 hb12
 replace hb12 := chg_below hb12 g9
 refine l_val (v := Value.int .i64 (rmayR g r)) rfl (e_assign rfl) ?_
 refine l_nil (run_seq (run_region rfl ?_))
 refine l_val (v := Value.int .i64 (rmayR g r)) rfl (e_move rfl) ?_
 refine l_val (v := Value.bool (!(decide ((rmayR g r) = 0)))) rfl (e_neq (m := rmayR g r) (n := 0) rfl rfl) ?_
 refine l_nil ?_
 by_cases p2 : (rmayR g r) = 0
 ·
  obtain ⟨hm, hrp⟩ := rmay_ok (by assumption)
  have hm0 := hm
  obtain ⟨hm1, hm2, hm3, hm4⟩ := hm0
  refine run_cond_f rfl (congrArg Bool.not (decide_eq_true p2)) ?_
  refine run_skip ?_
  refine run_seq (run_seq (run_region rfl ?_))
  refine l_val (v := Value.int .i64 e) rfl (e_move rfl) ?_
  refine l_val (v := Value.bool (decide (e < 0))) rfl (e_lss (m := e) (n := 0) rfl rfl) ?_
  refine l_val (v := Value.bool (decide (e < 0))) rfl (e_move rfl) ?_
  by_cases q21 : e < 0
  ·
   refine l_skip (want_n rfl rfl rfl (decide_eq_true q21)) ?_
   refine l_skip (want_n rfl rfl rfl (decide_eq_true q21)) ?_
   refine l_skip (want_n rfl rfl rfl (decide_eq_true q21)) ?_
   refine l_skip (want_n rfl rfl rfl (decide_eq_true q21)) ?_
   refine l_skip (want_n rfl rfl rfl (decide_eq_true q21)) ?_
   refine l_val (v := Value.bool true) rfl (e_pick_t rfl (decide_eq_true q21) rfl) ?_
   refine l_nil ?_
   refine run_cond_t rfl rfl ?_
   refine run_seq ?_
   clear bx5
   refine run_region rfl ?_
   refine l_val (v := Value.agg (List.toArray [Value.int .i64 0, Value.slice none 0 0])) rfl (e_build (vs := []) rfl (by kernel_rfl)) ?_
   refine l_op rfl ?_
   replace bx10 := bx10.chg hb12 (not_no _)
   refine o_store_bx (cs' := [Value.int .i64 0, Value.slice none 0 0]) tp24_db rfl rfl bx10 rfl (Nat.le_of_ble_eq_true rfl) (AllOne.all (.cons rfl (.cons rfl .nil))) rfl ?_
   intro w13 ch14 bx15
   clear bx10
   refine l_val (v := Value.slice none 0 0) rfl (e_assign rfl) ?_
   refine l_val (v := Value.int .i64 2) rfl (e_assign rfl) ?_
   refine l_nil ?_
   refine run_ret (vs := [Value.agg (List.toArray [Value.int .i64 0, Value.slice none 0 0]), Value.slice none 0 0, Value.int .i64 2]) Try.func32 (.cell rfl (load_bxN (ds := [Value.int .i64 0, Value.slice none 0 0]) tp24_db bx15 rfl rfl) (.tmp rfl (.tmp rfl .nil))) ?_
   -- return 0
   have C16 : Chg (inl [2]) _ _ _ _ := (ch2.n).seq ((ch7.n).seq ((hb12.n).seq (ch14.l rfl)))
   replace hbase := hbase.chg C16 (is_nl rfl)
   have e0 : ((0, []) : (Int) × (List ((Int) × (Int)))) = ((takeR g r e).1) := by
     first
       | (simp only [takeR, if_neg (show ¬ rmayR g r = 0 by assumption)]; done)
       | (have hb : e < 0 ∨ (g.2.length : Int) ≤ e := by omega
          simp only [takeR, if_pos (show rmayR g r = 0 by assumption), if_pos hb]; done)
       | (have hb : ¬ (e < 0 ∨ (g.2.length : Int) ≤ e) := by omega
          have hk : k = g.2.length := by omega
          subst hk
          simp only [takeR, if_pos (show rmayR g r = 0 by assumption), if_neg hb, hinv]; done)
   have e1 : ([] : List (List Int)) = ((takeR g r e).2.1) := by
     first
       | (simp only [takeR, if_neg (show ¬ rmayR g r = 0 by assumption)]; done)
       | (have hb : e < 0 ∨ (g.2.length : Int) ≤ e := by omega
          simp only [takeR, if_pos (show rmayR g r = 0 by assumption), if_pos hb]; done)
       | (have hb : ¬ (e < 0 ∨ (g.2.length : Int) ≤ e) := by omega
          have hk : k = g.2.length := by omega
          subst hk
          simp only [takeR, if_pos (show rmayR g r = 0 by assumption), if_neg hb, hinv]; done)
   have e2 : (2 : Int) = ((takeR g r e).2.2) := by
     first
       | (simp only [takeR, if_neg (show ¬ rmayR g r = 0 by assumption)]; done)
       | (have hb : e < 0 ∨ (g.2.length : Int) ≤ e := by omega
          simp only [takeR, if_pos (show rmayR g r = 0 by assumption), if_pos hb]; done)
       | (have hb : ¬ (e < 0 ∨ (g.2.length : Int) ≤ e) := by omega
          have hk : k = g.2.length := by omega
          subst hk
          simp only [takeR, if_pos (show rmayR g r = 0 by assumption), if_neg hb, hinv]; done)
   exact ⟨(fin w0 g9 (fun n => 0), (Value.slice none 0 0), (Value.slice none 0 0)), (congr3 (a := (0, [])) (b := []) (c := 2) (fun (z0 : (Int) × (List ((Int) × (Int)))) (z1 : List (List Int)) (z2 : Int) => Ending.returned (Value.tuple (List.toArray [Value.agg (List.toArray [Value.int .i64 z0.1, Value.slice none 0 0]), Value.slice none 0 0, Value.int .i64 z2]))) e0 e1 e2), hbase.fresh _, ((congrArg (fun (z : (Int) × (List ((Int) × (Int)))) => z.2) e0) ▸ Ow.nil), (e1 ▸ Nst.nil)⟩
  refine l_val (v := Value.int .i64 e) (want_y rfl rfl rfl (decide_eq_false q21)) (e_move rfl) ?_
  refine l_val (v := Value.pointer (some ⟨b3, 1, none⟩)) (want_y rfl rfl rfl (decide_eq_false q21)) (e_fieldAddr Try.underlying24 rfl rfl rfl rfl) ?_
  replace bx5 := bx5.chg hb12 (not_no _)
  refine l_val (v := g_v) (want_y rfl rfl rfl (decide_eq_false q21)) (e_load_bx1 tp22_db rfl bx5 rfl) ?_
  replace r_g_v := r_g_v.chg hb12 (not_no _)
  have len17 := (r_g_v).small
  refine l_val (v := Value.int .i64 (List.length g.2 : Int)) (want_y rfl rfl rfl (decide_eq_false q21)) (e_len Try.underlying22 rfl r_g_v) ?_
  refine l_val (v := Value.bool (decide ((List.length g.2 : Int) ≤ e))) (want_y rfl rfl rfl (decide_eq_false q21)) (e_geq (m := e) (n := (List.length g.2 : Int)) rfl rfl) ?_
  refine l_val (v := Value.bool (decide ((List.length g.2 : Int) ≤ e))) rfl (e_pick_f rfl (decide_eq_false q21) rfl) ?_
  refine l_nil ?_
  by_cases p4 : (List.length g.2 : Int) ≤ e
  ·
   refine run_cond_t rfl (decide_eq_true p4) ?_
   refine run_seq ?_
   clear bx5
   refine run_region rfl ?_
   refine l_val (v := Value.agg (List.toArray [Value.int .i64 0, Value.slice none 0 0])) rfl (e_build (vs := []) rfl (by kernel_rfl)) ?_
   refine l_op rfl ?_
   replace bx10 := bx10.chg hb12 (not_no _)
   refine o_store_bx (cs' := [Value.int .i64 0, Value.slice none 0 0]) tp24_db rfl rfl bx10 rfl (Nat.le_of_ble_eq_true rfl) (AllOne.all (.cons rfl (.cons rfl .nil))) rfl ?_
   intro w18 ch19 bx20
   clear bx10
   refine l_val (v := Value.slice none 0 0) rfl (e_assign rfl) ?_
   refine l_val (v := Value.int .i64 2) rfl (e_assign rfl) ?_
   refine l_nil ?_
   refine run_ret (vs := [Value.agg (List.toArray [Value.int .i64 0, Value.slice none 0 0]), Value.slice none 0 0, Value.int .i64 2]) Try.func32 (.cell rfl (load_bxN (ds := [Value.int .i64 0, Value.slice none 0 0]) tp24_db bx20 rfl rfl) (.tmp rfl (.tmp rfl .nil))) ?_
   -- return 1
   have C21 : Chg (inl [2]) _ _ _ _ := (ch2.n).seq ((ch7.n).seq ((hb12.n).seq (ch19.l rfl)))
   replace hbase := hbase.chg C21 (is_nl rfl)
   have e0 : ((0, []) : (Int) × (List ((Int) × (Int)))) = ((takeR g r e).1) := by
     first
       | (simp only [takeR, if_neg (show ¬ rmayR g r = 0 by assumption)]; done)
       | (have hb : e < 0 ∨ (g.2.length : Int) ≤ e := by omega
          simp only [takeR, if_pos (show rmayR g r = 0 by assumption), if_pos hb]; done)
       | (have hb : ¬ (e < 0 ∨ (g.2.length : Int) ≤ e) := by omega
          have hk : k = g.2.length := by omega
          subst hk
          simp only [takeR, if_pos (show rmayR g r = 0 by assumption), if_neg hb, hinv]; done)
   have e1 : ([] : List (List Int)) = ((takeR g r e).2.1) := by
     first
       | (simp only [takeR, if_neg (show ¬ rmayR g r = 0 by assumption)]; done)
       | (have hb : e < 0 ∨ (g.2.length : Int) ≤ e := by omega
          simp only [takeR, if_pos (show rmayR g r = 0 by assumption), if_pos hb]; done)
       | (have hb : ¬ (e < 0 ∨ (g.2.length : Int) ≤ e) := by omega
          have hk : k = g.2.length := by omega
          subst hk
          simp only [takeR, if_pos (show rmayR g r = 0 by assumption), if_neg hb, hinv]; done)
   have e2 : (2 : Int) = ((takeR g r e).2.2) := by
     first
       | (simp only [takeR, if_neg (show ¬ rmayR g r = 0 by assumption)]; done)
       | (have hb : e < 0 ∨ (g.2.length : Int) ≤ e := by omega
          simp only [takeR, if_pos (show rmayR g r = 0 by assumption), if_pos hb]; done)
       | (have hb : ¬ (e < 0 ∨ (g.2.length : Int) ≤ e) := by omega
          have hk : k = g.2.length := by omega
          subst hk
          simp only [takeR, if_pos (show rmayR g r = 0 by assumption), if_neg hb, hinv]; done)
   exact ⟨(fin w0 g9 (fun n => 0), (Value.slice none 0 0), (Value.slice none 0 0)), (congr3 (a := (0, [])) (b := []) (c := 2) (fun (z0 : (Int) × (List ((Int) × (Int)))) (z1 : List (List Int)) (z2 : Int) => Ending.returned (Value.tuple (List.toArray [Value.agg (List.toArray [Value.int .i64 z0.1, Value.slice none 0 0]), Value.slice none 0 0, Value.int .i64 z2]))) e0 e1 e2), hbase.fresh _, ((congrArg (fun (z : (Int) × (List ((Int) × (Int)))) => z.2) e0) ▸ Ow.nil), (e1 ▸ Nst.nil)⟩
  refine run_cond_f rfl (decide_eq_false p4) ?_
  refine run_skip ?_
  refine run_seq (run_region rfl ?_)
  refine l_val (v := Value.slice none 0 0) rfl (e_assign rfl) ?_
  refine l_nil (run_seq (run_seq (run_region rfl ?_)))
  refine l_val (v := Value.pointer (some ⟨b3, 1, none⟩)) rfl (e_fieldAddr Try.underlying24 rfl rfl rfl rfl) ?_
  refine l_val (v := g_v) rfl (e_load_bx1 tp22_db rfl bx5 rfl) ?_
  refine l_val (v := Value.int .i64 (List.length g.2 : Int)) rfl (e_len Try.underlying22 rfl r_g_v) ?_
  refine l_val (v := Value.int .i64 0) rfl (e_move rfl) ?_
  refine l_nil ?_
  refine run_block ?_
  refine run_loop (σ := Nat × Value × (List Int) × Cmap) (fun ⟨k, keep_v, keep, gq⟩ f w => Base w0 gq w ∧ f 1 = r_v ∧ f 2 = Value.int .i64 e ∧ f 3 = Value.pointer (some ⟨b3, 0, none⟩) ∧ f 6 = Value.pointer (some ⟨b8, 0, none⟩) ∧ f 10 = keep_v ∧ f 31 = Value.int .i64 (List.length g.2 : Int) ∧ f 32 = Value.int .i64 (k : Int) ∧ Sl gq (is 0) w g_v g.2 ∧ Sl gq (is 0) w r_v r ∧ Bx gq (is 1) w b3 [Value.int .i64 g.1, g_v] ∧ Bx gq (is 2) w b8 [Value.int .i64 0, Value.slice none 0 0] ∧ Ow gq (is 4) (is 4) w keep_v keep ∧ (k : Int) ≤ ((List.length g.2 : Int) : Int) ∧ (keep = butK e k)) (fun ⟨k, keep_v, keep, gq⟩ => Int.toNat (((List.length g.2 : Int) : Int) - (k : Int))) (0, Value.slice none 0 0, [], g9) ?_ ?_
  have C22 : Chg (inl []) _ _ _ _ := (ch2.n).seq ((ch7.n).seq (hb12.n))
  replace hbase := hbase.chg C22 (is_nl rfl)
  replace r_r_v := r_r_v.chg hb12 (not_no _)
  replace bx10 := bx10.chg hb12 (not_no _)
  · exact ⟨hbase, rfl, rfl, rfl, rfl, rfl, rfl, rfl, r_g_v, r_r_v, bx5, bx10, Ow.nil, by omega, by rfl⟩
  clear r_g_v
  clear r_r_v
  clear bx5
  clear bx10
  clear hbase
  rintro ⟨k, keep_v, keep, g25⟩ f23 w24 ⟨hbase, zs1, zs2, zs3, zs6, zs10, zs31, zs32, r_g_v, r_r_v, bx5, bx10, o_keep, hle_k, hinv⟩ back8
  have hkl := butK_len e k
  have hke : keep.length ≤ k := by rw [hinv]; exact hkl
  refine run_seq (run_region rfl ?_)
  refine l_val (v := Value.bool (decide ((k : Int) < (List.length g.2 : Int)))) rfl (e_lss (m := (k : Int)) (n := (List.length g.2 : Int)) (by exact zs32) (by exact zs31)) ?_
  refine l_nil (run_seq ?_)
  by_cases p8 : (k : Int) < (List.length g.2 : Int)
  ·
   refine run_cond_t rfl (decide_eq_true p8) ?_
   refine run_skip ?_
   refine run_seq ?_
   refine run_block ?_
   refine run_seq (run_region rfl ?_)
   refine l_val (v := Value.int .i64 (k : Int)) rfl (e_move (by exact zs32)) ?_
   refine l_val (v := Value.int .i64 (k : Int)) rfl (e_assign rfl) ?_
   refine l_nil (run_seq (run_region rfl ?_))
   refine l_val (v := Value.int .i64 (k : Int)) rfl (e_move rfl) ?_
   refine l_val (v := Value.int .i64 e) rfl (e_move (by exact zs2)) ?_
   refine l_val (v := Value.bool (!(decide ((k : Int) = e)))) rfl (e_neq (m := (k : Int)) (n := e) rfl rfl) ?_
   refine l_nil ?_
   by_cases p10 : (k : Int) = e
   ·
    refine run_cond_f rfl (congrArg Bool.not (decide_eq_true p10)) ?_
    refine run_skip ?_
    refine run_inBlock ?_
    refine run_region rfl ?_
    refine l_val (v := Value.int .i64 ((k : Int) + 1)) rfl (e_add (m := (k : Int)) (n := 1) (by exact zs32) rfl (by omega)) ?_
    refine l_val (v := Value.int .i64 ((k : Int) + 1)) rfl (e_move rfl) ?_
    refine l_nil ?_
    refine back8 (k + 1, keep_v, keep, g25) _ _ ⟨hbase, (by exact zs1), (by exact zs2), (by exact zs3), (by exact zs6), (by exact zs10), (by exact zs31), rfl, r_g_v, r_r_v, bx5, bx10, o_keep, by omega, ?_⟩ ?_
    · show keep = butK e (k + 1)
      first
        | (rw [butK_yes (by assumption), hinv]; done)
        | (rw [butK_no (by assumption), hinv]; done)
    · show Int.toNat (((List.length g.2 : Int) : Int) - ((k + 1) : Int)) < Int.toNat (((List.length g.2 : Int) : Int) - (k : Int))
      omega
   refine run_cond_t rfl (congrArg Bool.not (decide_eq_false p10)) ?_
   refine run_region rfl ?_
   refine l_val (v := keep_v) rfl (e_move (by exact zs10)) ?_
   refine l_val (v := Value.int .i64 (k : Int)) rfl (e_move rfl) ?_
   refine l_op rfl ?_
   refine o_buildSlice (α := Int) g25 (is 3) (is 3) (3, 0) rfl [(k : Int)] Try.underlying27 tp3_db (by decide) (by decide) (vs := [(0, Value.int .i64 (k : Int))]) rfl rfl (.cons rfl .nil) ?_
   intro g26 w27 v28 ch29 o30
   refine l_op rfl ?_
   replace o_keep := o_keep.chg ch29 (not_no _) (not_no _)
   refine o_append (α := Int) (xs := keep) (ys := ([(k : Int)])) g26 (J := is 4) (S := is 4) (4, 0) rfl Try.underlying27 tp3_db (by decide) rfl rfl rfl o_keep o30.flat (by decide) (by first | omega | (simp; done) | (simp; omega)) ?_
   intro g31 w32 v33 ch34 o35
   clear o_keep
   refine l_val (v := v33) rfl (e_assign rfl) ?_
   refine l_nil ?_
   refine run_inBlock ?_
   clear o30
   refine run_region rfl ?_
   refine l_val (v := Value.int .i64 ((k : Int) + 1)) rfl (e_add (m := (k : Int)) (n := 1) (by exact zs32) rfl (by omega)) ?_
   refine l_val (v := Value.int .i64 ((k : Int) + 1)) rfl (e_move rfl) ?_
   refine l_nil ?_
   replace hbase := hbase.chg ch29 (not_no _)
   replace hbase := hbase.chg ch34 (is_ne rfl)
   replace r_g_v := (r_g_v.chg ch29 (not_no _)).chg ch34 (is_ne rfl)
   replace r_r_v := (r_r_v.chg ch29 (not_no _)).chg ch34 (is_ne rfl)
   replace bx5 := (bx5.chg ch29 (not_no _)).chg ch34 (is_ne rfl)
   replace bx10 := (bx10.chg ch29 (not_no _)).chg ch34 (is_ne rfl)
   refine back8 (k + 1, v33, (keep ++ [(k : Int)]), g31) _ _ ⟨hbase, (by exact zs1), (by exact zs2), (by exact zs3), (by exact zs6), rfl, (by exact zs31), rfl, r_g_v, r_r_v, bx5, bx10, o35, by omega, ?_⟩ ?_
   · show (keep ++ [(k : Int)]) = butK e (k + 1)
     first
       | (rw [butK_yes (by assumption), hinv]; done)
       | (rw [butK_no (by assumption), hinv]; done)
   · show Int.toNat (((List.length g.2 : Int) : Int) - ((k + 1) : Int)) < Int.toNat (((List.length g.2 : Int) : Int) - (k : Int))
     omega
  refine run_cond_f rfl (decide_eq_false p8) ?_
  refine run_exit rfl ?_
  refine run_seq (run_region rfl ?_)
  refine l_val (v := Value.agg (List.toArray [Value.int .i64 g.1, g_v])) rfl (e_load_bxN (ds := [Value.int .i64 g.1, g_v]) tp24_db (by exact zs3) bx5 rfl rfl) ?_
  refine l_val (v := r_v) rfl (e_move (by exact zs1)) ?_
  refine l_val (v := keep_v) rfl (e_move (by exact zs10)) ?_
  refine l_op rfl ?_
  refine o_callx (e_call (vals := [Value.agg (List.toArray [Value.int .i64 g.1, g_v]), r_v, keep_v]) Try.func61 bd61_db nm61_db rfl) (RSub_ok w24 g g_v (r_g_v).ro r r_v (r_r_v).ro keep keep_v (o_keep.flat).ro) ?_
  rintro ⟨d37, v39, v41⟩ w36 ⟨fr38, o40, o42⟩
  obtain ⟨g43, hg43⟩ : ∃ q, q = glue w24.heap.size g25 d37 (fun n => if n = 1 then 5 else if n = 2 then 6 else 0) := ⟨_, rfl⟩
  have ch44 := chg_glue fr38.below g25 d37 (fun n => if n = 1 then 5 else if n = 2 then 6 else 0)
  rw [← hg43] at ch44
  replace o40 := o40.glue (γ := g25) (ren := (fun n => if n = 1 then 5 else if n = 2 then 6 else 0)) (k := 5) fr38.col rfl rfl
  rw [← hg43] at o40
  replace o42 := o42.glue (γ := g25) (ren := (fun n => if n = 1 then 5 else if n = 2 then 6 else 0)) (k := 6) fr38.col rfl rfl
  rw [← hg43] at o42
  clear hg43
  refine l_val (v := Value.agg (List.toArray [Value.int .i64 (((rsubR g r keep).1).1), v39])) rfl (e_extract rfl rfl) ?_
  refine l_val (v := v41) rfl (e_extract rfl rfl) ?_
  refine l_val (v := Value.int .i64 ((rsubR g r keep).2.2)) rfl (e_extract rfl rfl) ?_
  refine l_op rfl ?_
  replace bx10 := bx10.chg ch44 (not_no _)
  refine o_store_bx (cs' := [Value.int .i64 (((rsubR g r keep).1).1), v39]) tp24_db (by exact zs6) rfl bx10 rfl (Nat.le_of_ble_eq_true rfl) (AllOne.all (.cons rfl (.cons (sl_one o40.flat) .nil))) rfl ?_
  intro w45 ch46 bx47
  clear bx10
  refine l_val (v := v41) rfl (e_assign rfl) ?_
  refine l_val (v := Value.int .i64 ((rsubR g r keep).2.2)) rfl (e_assign rfl) ?_
  refine l_nil ?_
  refine run_ret (vs := [Value.agg (List.toArray [Value.int .i64 (((rsubR g r keep).1).1), v39]), v41, Value.int .i64 ((rsubR g r keep).2.2)]) Try.func32 (.cell (by exact zs6) (load_bxN (ds := [Value.int .i64 (((rsubR g r keep).1).1), v39]) tp24_db bx47 rfl rfl) (.tmp rfl (.tmp rfl .nil))) ?_
  -- return 2
  replace hbase := hbase.chg ch44 (not_no _)
  replace hbase := hbase.chg ch46 (is_ne rfl)
  replace o40 := o40.chg ch46 (is_ne rfl) (is_ne rfl)
  replace o42 := o42.chg ch46 (is_ne rfl)
  have e0 : (((rsubR g r keep).1) : (Int) × (List ((Int) × (Int)))) = ((takeR g r e).1) := by
    first
      | (simp only [takeR, if_neg (show ¬ rmayR g r = 0 by assumption)]; done)
      | (have hb : e < 0 ∨ (g.2.length : Int) ≤ e := by omega
         simp only [takeR, if_pos (show rmayR g r = 0 by assumption), if_pos hb]; done)
      | (have hb : ¬ (e < 0 ∨ (g.2.length : Int) ≤ e) := by omega
         have hk : k = g.2.length := by omega
         subst hk
         simp only [takeR, if_pos (show rmayR g r = 0 by assumption), if_neg hb, hinv]; done)
  have e1 : ((rsubR g r keep).2.1 : List (List Int)) = ((takeR g r e).2.1) := by
    first
      | (simp only [takeR, if_neg (show ¬ rmayR g r = 0 by assumption)]; done)
      | (have hb : e < 0 ∨ (g.2.length : Int) ≤ e := by omega
         simp only [takeR, if_pos (show rmayR g r = 0 by assumption), if_pos hb]; done)
      | (have hb : ¬ (e < 0 ∨ (g.2.length : Int) ≤ e) := by omega
         have hk : k = g.2.length := by omega
         subst hk
         simp only [takeR, if_pos (show rmayR g r = 0 by assumption), if_neg hb, hinv]; done)
  have e2 : ((rsubR g r keep).2.2 : Int) = ((takeR g r e).2.2) := by
    first
      | (simp only [takeR, if_neg (show ¬ rmayR g r = 0 by assumption)]; done)
      | (have hb : e < 0 ∨ (g.2.length : Int) ≤ e := by omega
         simp only [takeR, if_pos (show rmayR g r = 0 by assumption), if_pos hb]; done)
      | (have hb : ¬ (e < 0 ∨ (g.2.length : Int) ≤ e) := by omega
         have hk : k = g.2.length := by omega
         subst hk
         simp only [takeR, if_pos (show rmayR g r = 0 by assumption), if_neg hb, hinv]; done)
  exact ⟨(fin w0 g43 (fun n => if n = 5 then 1 else if n = 6 then 2 else 0), v39, v41), (congr3 (a := ((rsubR g r keep).1)) (b := (rsubR g r keep).2.1) (c := (rsubR g r keep).2.2) (fun (z0 : (Int) × (List ((Int) × (Int)))) (z1 : List (List Int)) (z2 : Int) => Ending.returned (Value.tuple (List.toArray [Value.agg (List.toArray [Value.int .i64 z0.1, v39]), v41, Value.int .i64 z2]))) e0 e1 e2), hbase.fresh _, ((congrArg (fun (z : (Int) × (List ((Int) × (Int)))) => z.2) e0) ▸ (o40.glue (γ := c0) (ren := (fun n => if n = 5 then 1 else if n = 6 then 2 else 0)) (k := 1) hbase.col rfl rfl)), (e1 ▸ (o42.glue (γ := c0) (ren := (fun n => if n = 5 then 1 else if n = 6 then 2 else 0)) (k := 2) hbase.col rfl rfl))⟩
 refine run_cond_t rfl (congrArg Bool.not (decide_eq_false p2)) ?_
 refine run_seq ?_
 clear bx5
 refine run_region rfl ?_
 refine l_val (v := Value.agg (List.toArray [Value.int .i64 0, Value.slice none 0 0])) rfl (e_build (vs := []) rfl (by kernel_rfl)) ?_
 refine l_val (v := Value.int .i64 (rmayR g r)) rfl (e_move rfl) ?_
 refine l_op rfl ?_
 replace bx10 := bx10.chg hb12 (not_no _)
 refine o_store_bx (cs' := [Value.int .i64 0, Value.slice none 0 0]) tp24_db rfl rfl bx10 rfl (Nat.le_of_ble_eq_true rfl) (AllOne.all (.cons rfl (.cons rfl .nil))) rfl ?_
 intro w48 ch49 bx50
 clear bx10
 refine l_val (v := Value.slice none 0 0) rfl (e_assign rfl) ?_
 refine l_val (v := Value.int .i64 (rmayR g r)) rfl (e_assign rfl) ?_
 refine l_nil ?_
 refine run_ret (vs := [Value.agg (List.toArray [Value.int .i64 0, Value.slice none 0 0]), Value.slice none 0 0, Value.int .i64 (rmayR g r)]) Try.func32 (.cell rfl (load_bxN (ds := [Value.int .i64 0, Value.slice none 0 0]) tp24_db bx50 rfl rfl) (.tmp rfl (.tmp rfl .nil))) ?_
 -- return 3
 have C51 : Chg (inl [2]) _ _ _ _ := (ch2.n).seq ((ch7.n).seq ((hb12.n).seq (ch49.l rfl)))
 replace hbase := hbase.chg C51 (is_nl rfl)
 have e0 : ((0, []) : (Int) × (List ((Int) × (Int)))) = ((takeR g r e).1) := by
   first
     | (simp only [takeR, if_neg (show ¬ rmayR g r = 0 by assumption)]; done)
     | (have hb : e < 0 ∨ (g.2.length : Int) ≤ e := by omega
        simp only [takeR, if_pos (show rmayR g r = 0 by assumption), if_pos hb]; done)
     | (have hb : ¬ (e < 0 ∨ (g.2.length : Int) ≤ e) := by omega
        have hk : k = g.2.length := by omega
        subst hk
        simp only [takeR, if_pos (show rmayR g r = 0 by assumption), if_neg hb, hinv]; done)
 have e1 : ([] : List (List Int)) = ((takeR g r e).2.1) := by
   first
     | (simp only [takeR, if_neg (show ¬ rmayR g r = 0 by assumption)]; done)
     | (have hb : e < 0 ∨ (g.2.length : Int) ≤ e := by omega
        simp only [takeR, if_pos (show rmayR g r = 0 by assumption), if_pos hb]; done)
     | (have hb : ¬ (e < 0 ∨ (g.2.length : Int) ≤ e) := by omega
        have hk : k = g.2.length := by omega
        subst hk
        simp only [takeR, if_pos (show rmayR g r = 0 by assumption), if_neg hb, hinv]; done)
 have e2 : (rmayR g r : Int) = ((takeR g r e).2.2) := by
   first
     | (simp only [takeR, if_neg (show ¬ rmayR g r = 0 by assumption)]; done)
     | (have hb : e < 0 ∨ (g.2.length : Int) ≤ e := by omega
        simp only [takeR, if_pos (show rmayR g r = 0 by assumption), if_pos hb]; done)
     | (have hb : ¬ (e < 0 ∨ (g.2.length : Int) ≤ e) := by omega
        have hk : k = g.2.length := by omega
        subst hk
        simp only [takeR, if_pos (show rmayR g r = 0 by assumption), if_neg hb, hinv]; done)
 exact ⟨(fin w0 g9 (fun n => 0), (Value.slice none 0 0), (Value.slice none 0 0)), (congr3 (a := (0, [])) (b := []) (c := rmayR g r) (fun (z0 : (Int) × (List ((Int) × (Int)))) (z1 : List (List Int)) (z2 : Int) => Ending.returned (Value.tuple (List.toArray [Value.agg (List.toArray [Value.int .i64 z0.1, Value.slice none 0 0]), Value.slice none 0 0, Value.int .i64 z2]))) e0 e1 e2), hbase.fresh _, ((congrArg (fun (z : (Int) × (List ((Int) × (Int)))) => z.2) e0) ▸ Ow.nil), (e1 ▸ Nst.nil)⟩
end TL
