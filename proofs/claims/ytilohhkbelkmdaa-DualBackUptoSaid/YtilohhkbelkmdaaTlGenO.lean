import Derived.Test.YtilohhkbelkmdaaTlGenA
import Derived.Test.YtilohhkbelkmdaaTlGenC
import Derived.Test.YtilohhkbelkmdaaTlGenX
import Derived.Test.YtilohhkbelkmdaaTlGenY
import Derived.Test.YtilohhkbelkmdaaTlP3
import Derived.Test.YtilohhkbelkmdaaProg
set_option linter.all false
set_option maxRecDepth 20000
namespace TL
open Go Go.Proofs
theorem tp3_o : Tp Try.prog 3 false 1 8 (.int .i64 0) := Tp.of (by kernel_rfl)
theorem tp22_o : Tp Try.prog 22 false 1 24 (.slice none 0 0) := Tp.of (by kernel_rfl)
theorem tp24_o : Tp Try.prog 24 true 2 32 (.agg #[.int .i64 0, .slice none 0 0]) := Tp.of (by kernel_rfl)
theorem tp27_o : Tp Try.prog 27 false 1 24 (.slice none 0 0) := Tp.of (by kernel_rfl)
theorem bd15_o : Try.f15.body.isNone = false := rfl
theorem nm15_o : (Try.f15.name == "runtime.NumGoroutine") = false := by decide +kernel
theorem bd87_o : Try.f87.body.isNone = false := rfl
theorem nm87_o : (Try.f87.name == "runtime.NumGoroutine") = false := by decide +kernel
theorem ROf_ok (w0 : World) (g : (Int) × (List ((Int) × (Int)))) (g_v : Value) (hg_v : Ro w0 g_v g.2) (r : List (List Int)) (r_v : Value) (hr_v : Ro w0 r_v r) :
    Calls Try.prog 54 #[Value.agg (List.toArray [Value.int .i64 g.1, g_v]), r_v] w0 (fun ee w => ∃ xx : Cmap × Value, ee = .returned ((fun ⟨δ, rv0⟩ => Value.tuple (List.toArray [rv0, Value.int .i64 ((ofR g r).2)])) xx) ∧ (fun (⟨δ, rv0⟩ : Cmap × Value) (w : World) => Fresh w0 δ w ∧ Ow δ (is 1) (is 1) w rv0 ((ofR g r).1)) xx w) := by
 refine calls_of_run Try.func54 rfl (Nat.le_of_ble_eq_true rfl) ?_
 have hbase := Base.start w0
 have r_g_v := hg_v.sl
 have r_r_v := hr_v.sl
 refine run_seq (run_region rfl (l_op rfl ?_))
 refine o_box c0 (is 1) (1, 0) rfl rfl ?_
 intro g4 w1 b3 ch2 bx5
 replace bx5 : Bx g4 (is 1) w1 b3 [Value.int .i64 g.1, g_v] := bx5
 refine l_val (v := Value.slice none 0 0) rfl (e_assign rfl) ?_
 refine l_val (v := Value.int .i64 0) rfl (e_assign rfl) ?_
 refine l_nil (run_seq (run_seq (run_region rfl ?_)))
 refine l_val (v := Value.agg (List.toArray [Value.int .i64 g.1, g_v])) rfl (e_load_bxN (ds := [Value.int .i64 g.1, g_v]) tp24_o rfl bx5 rfl rfl) ?_
 refine l_val (v := r_v) rfl (e_move rfl) ?_
 replace r_g_v := r_g_v.chg ch2 (not_no _)
 replace r_r_v := r_r_v.chg ch2 (not_no _)
 refine l_op rfl ?_
 refine o_call (v := Value.int .i64 (rmayR g r)) (e_call (vals := [Value.agg (List.toArray [Value.int .i64 g.1, g_v]), r_v]) Try.func15 bd15_o nm15_o rfl) (RMay_ok w1 g g_v (r_g_v).ro r r_v (r_r_v).ro) ?_
 intro w6 hb7
 replace hb7 := chg_below hb7 g4
 refine l_val (v := Value.int .i64 (rmayR g r)) rfl (e_assign rfl) ?_
 refine l_nil (run_seq (run_region rfl ?_))
 refine l_val (v := Value.int .i64 (rmayR g r)) rfl (e_move rfl) ?_
 refine l_val (v := Value.bool (!(decide ((rmayR g r) = 0)))) rfl (e_neq (m := rmayR g r) (n := 0) rfl rfl) ?_
 refine l_nil ?_
 by_cases p2 : (rmayR g r) = 0
 ·
  obtain ⟨hm, hrp⟩ := rmay_ok (by assumption)
  have hm0 := hm
  obtain ⟨hm1, hm2, hm3, hm4⟩ := hm0
  refine run_cond_f rfl (congrArg Bool.not (decide_eq_true p2)) ?_
  refine run_skip ?_
  refine run_seq (run_region rfl ?_)
  refine l_val (v := Value.pointer (some ⟨b3, 1, none⟩)) rfl (e_fieldAddr Try.underlying24 rfl rfl rfl rfl) ?_
  replace bx5 := bx5.chg hb7 (not_no _)
  refine l_val (v := g_v) rfl (e_load_bx1 tp22_o rfl bx5 rfl) ?_
  replace r_g_v := r_g_v.chg hb7 (not_no _)
  have len8 := (r_g_v).small
  refine l_val (v := Value.int .i64 (List.length g.2 : Int)) rfl (e_len Try.underlying22 rfl r_g_v) ?_
  refine l_val (v := Value.int .i64 (2 * (List.length g.2 : Int))) rfl (e_mul (m := 2) (n := (List.length g.2 : Int)) rfl rfl (by omega)) ?_
  refine l_op rfl ?_
  refine o_make (α := Int) (l := 2 * (List.length g.2 : Int)) (cp := 2 * (List.length g.2 : Int)) g4 (is 2) (is 2) (2, 0) rfl (0 : Int) Try.underlying27 tp3_o rfl rfl rfl (by omega) (by omega) (by omega) (by omega) ?_
  intro g9 w10 v11 ch12 o13 _
  refine l_val (v := v11) rfl (e_assign rfl) ?_
  refine l_nil (run_seq (run_seq (run_region rfl ?_)))
  replace bx5 := bx5.chg ch12 (not_no _)
  refine l_val (v := Value.agg (List.toArray [Value.int .i64 g.1, g_v])) rfl (e_load_bxN (ds := [Value.int .i64 g.1, g_v]) tp24_o rfl bx5 rfl rfl) ?_
  refine l_val (v := r_v) rfl (e_move rfl) ?_
  replace r_g_v := r_g_v.chg ch12 (not_no _)
  replace r_r_v := (r_r_v.chg hb7 (not_no _)).chg ch12 (not_no _)
  refine l_op rfl ?_
  refine o_callx (e_call (vals := [Value.agg (List.toArray [Value.int .i64 g.1, g_v]), r_v]) Try.func87 bd87_o nm87_o rfl) (faces_ok w10 g g_v (r_g_v).ro r r_v (r_r_v).ro (by assumption) (by assumption)) ?_
  rintro ⟨d15, v17⟩ w14 ⟨fr16, o18⟩
  obtain ⟨g19, hg19⟩ : ∃ q, q = glue w10.heap.size g9 d15 (fun n => if n = 1 then 3 else 0) := ⟨_, rfl⟩
  have ch20 := chg_glue fr16.below g9 d15 (fun n => if n = 1 then 3 else 0)
  rw [← hg19] at ch20
  replace o18 := o18.glue (γ := g9) (ren := (fun n => if n = 1 then 3 else 0)) (k := 3) fr16.col rfl rfl
  rw [← hg19] at o18
  clear hg19
  have len21 := (o18.sl).small
  refine l_val (v := Value.int .i64 (List.length (facesS (nextS g r) r) : Int)) rfl (e_len Try.underlying25 rfl o18.sl) ?_
  refine l_val (v := Value.int .i64 0) rfl (e_move rfl) ?_
  refine l_nil ?_
  refine run_block ?_
  clear bx5
  refine run_loop (σ := Nat × (List Int) × Cmap) (fun ⟨k, l, gq⟩ f w => Base w0 gq w ∧ f 7 = v11 ∧ f 25 = v17 ∧ f 26 = Value.int .i64 (List.length (facesS (nextS g r) r) : Int) ∧ f 27 = Value.int .i64 (k : Int) ∧ Sl gq (is 0) w g_v g.2 ∧ Sl gq (is 0) w r_v r ∧ Ow gq (is 2) (is 2) w v11 l ∧ Nst gq 3 w v17 (facesS (nextS g r) r) ∧ (k : Int) ≤ ((List.length (facesS (nextS g r) r) : Int) : Int) ∧ (l = ofK (facesS (nextS g r) r) (2 * (g.2.length : Int)) k)) (fun ⟨k, l, gq⟩ => Int.toNat (((List.length (facesS (nextS g r) r) : Int) : Int) - (k : Int))) (0, (List.replicate (Int.toNat (2 * (List.length g.2 : Int))) (0 : Int)), g19) ?_ ?_
  have C22 : Chg (inl []) _ _ _ _ := (ch2.n).seq ((hb7.n).seq ((ch12.n).seq (ch20.n)))
  replace hbase := hbase.chg C22 (is_nl rfl)
  replace r_g_v := r_g_v.chg ch20 (not_no _)
  replace r_r_v := r_r_v.chg ch20 (not_no _)
  replace o13 := o13.chg ch20 (not_no _) (not_no _)
  · exact ⟨hbase, rfl, rfl, rfl, rfl, r_g_v, r_r_v, o13, o18, by omega, by rfl⟩
  clear r_g_v
  clear r_r_v
  clear o13
  clear o18
  clear hbase
  rintro ⟨k, l, g25⟩ f23 w24 ⟨hbase, zs7, zs25, zs26, zs27, r_g_v, r_r_v, o13, o18, hle_k, hinv⟩ back6
  have hll : (l.length : Int) = 2 * (g.2.length : Int) := by rw [hinv, ofK_len]; omega
  refine run_seq (run_region rfl ?_)
  refine l_val (v := Value.bool (decide ((k : Int) < (List.length (facesS (nextS g r) r) : Int)))) rfl (e_lss (m := (k : Int)) (n := (List.length (facesS (nextS g r) r) : Int)) (by exact zs27) (by exact zs26)) ?_
  refine l_nil (run_seq ?_)
  by_cases p6 : (k : Int) < (List.length (facesS (nextS g r) r) : Int)
  ·
   refine run_cond_t rfl (decide_eq_true p6) ?_
   refine run_skip ?_
   refine run_seq ?_
   refine run_block ?_
   refine run_seq (run_region rfl ?_)
   refine l_val (v := Value.int .i64 (k : Int)) rfl (e_move (by exact zs27)) ?_
   refine l_val (v := Value.pointer (some (eAddr v17 1 (Int.toNat (k : Int))))) rfl (e_indexAddr (α := List Int) (xs := facesS (nextS g r) r) (v := v17) (i := (k : Int)) Try.underlying25 rfl (by exact zs25) o18.sl (by exact zs27) (by omega) (by omega)) ?_
   obtain ⟨v26, cel27, r28⟩ := nst_row (r := (k : Int)) o18 (by omega) (by omega)
   refine l_val (v := v26) rfl (e_load1 tp27_o rfl cel27) ?_
   refine l_val (v := Value.int .i64 (k : Int)) rfl (e_assign rfl) ?_
   refine l_val (v := v26) rfl (e_assign rfl) ?_
   refine l_nil (run_seq (run_region rfl ?_))
   refine l_val (v := v26) rfl (e_move rfl) ?_
   have len29 := (r28.row_sl).small
   refine l_val (v := Value.int .i64 (List.length (gI (facesS (nextS g r) r) (k : Int)) : Int)) rfl (e_len Try.underlying27 rfl r28.row_sl) ?_
   refine l_val (v := Value.int .i64 0) rfl (e_move rfl) ?_
   refine l_nil ?_
   refine run_block ?_
   refine run_loop (σ := Nat × (List Int) × Cmap) (fun ⟨i, l, gq⟩ f w => Base w0 gq w ∧ f 7 = v11 ∧ f 8 = Value.int .i64 (k : Int) ∧ f 25 = v17 ∧ f 26 = Value.int .i64 (List.length (facesS (nextS g r) r) : Int) ∧ f 27 = Value.int .i64 (k : Int) ∧ f 32 = v26 ∧ f 33 = Value.int .i64 (List.length (gI (facesS (nextS g r) r) (k : Int)) : Int) ∧ f 34 = Value.int .i64 (i : Int) ∧ Sl gq (is 0) w g_v g.2 ∧ Sl gq (is 0) w r_v r ∧ Ow gq (is 2) (is 2) w v11 l ∧ Nst gq 3 w v17 (facesS (nextS g r) r) ∧ Ow gq (row 3 (Int.toNat (k : Int) + 1)) (row 3 (Int.toNat (k : Int) + 1)) w v26 (gI (facesS (nextS g r) r) (k : Int)) ∧ (i : Int) ≤ ((List.length (gI (facesS (nextS g r) r) (k : Int)) : Int) : Int) ∧ (l = ofKi (facesS (nextS g r) r) (2 * (g.2.length : Int)) k i)) (fun ⟨i, l, gq⟩ => Int.toNat (((List.length (gI (facesS (nextS g r) r) (k : Int)) : Int) : Int) - (i : Int))) (0, l, g25) ?_ ?_
   · exact ⟨hbase, (by exact zs7), rfl, (by exact zs25), (by exact zs26), (by exact zs27), rfl, rfl, rfl, r_g_v, r_r_v, o13, o18, r28, by omega, by rw [ofKi_zero]; exact hinv⟩
   clear r_g_v
   clear r_r_v
   clear o13
   clear o18
   clear cel27
   clear r28
   clear hbase
   rintro ⟨i, l, g32⟩ f30 w31 ⟨hbase, zs7, zs8, zs25, zs26, zs27, zs32, zs33, zs34, r_g_v, r_r_v, o13, o18, r28, hle_i, hin⟩ back9
   have hll : (l.length : Int) = 2 * (g.2.length : Int) := by rw [hin, ofKi_len]; omega
   refine run_seq (run_region rfl ?_)
   refine l_val (v := Value.bool (decide ((i : Int) < (List.length (gI (facesS (nextS g r) r) (k : Int)) : Int)))) rfl (e_lss (m := (i : Int)) (n := (List.length (gI (facesS (nextS g r) r) (k : Int)) : Int)) (by exact zs34) (by exact zs33)) ?_
   refine l_nil (run_seq ?_)
   by_cases p9 : (i : Int) < (List.length (gI (facesS (nextS g r) r) (k : Int)) : Int)
   ·
    refine run_cond_t rfl (decide_eq_true p9) ?_
    obtain ⟨hh1, hh2⟩ := face_in hrp (k := k) (i := i) (by assumption) (by assumption)
    refine run_skip ?_
    refine run_seq ?_
    refine run_block ?_
    refine run_seq (run_region rfl ?_)
    refine l_val (v := Value.pointer (some (eAddr v26 1 (Int.toNat (i : Int))))) rfl (e_indexAddr (α := Int) (xs := gI (facesS (nextS g r) r) (k : Int)) (v := v26) (i := (i : Int)) Try.underlying27 rfl (by exact zs32) r28.row_sl (by exact zs34) (by omega) (by omega)) ?_
    refine l_val (v := Value.int .i64 (gI (gI (facesS (nextS g r) r) (k : Int)) (i : Int))) rfl (e_load_el1 (α := Int) (xs := gI (facesS (nextS g r) r) (k : Int)) (v := v26) (i := (i : Int)) tp3_o rfl r28.row_sl (by omega) (by omega) (by decide) rfl) ?_
    refine l_val (v := Value.int .i64 (gI (gI (facesS (nextS g r) r) (k : Int)) (i : Int))) rfl (e_assign rfl) ?_
    refine l_nil (run_region rfl ?_)
    refine l_val (v := v11) rfl (e_move (by exact zs7)) ?_
    refine l_val (v := Value.int .i64 (gI (gI (facesS (nextS g r) r) (k : Int)) (i : Int))) rfl (e_move rfl) ?_
    refine l_val (v := Value.int .i64 (k : Int)) rfl (e_move (by exact zs8)) ?_
    refine l_val (v := Value.pointer (some (eAddr v11 1 (Int.toNat (gI (gI (facesS (nextS g r) r) (k : Int)) (i : Int)))))) rfl (e_indexAddr (α := Int) (xs := l) (v := v11) (i := (gI (gI (facesS (nextS g r) r) (k : Int)) (i : Int))) Try.underlying27 rfl rfl o13.flat rfl (by omega) (by omega)) ?_
    refine l_op rfl ?_
    refine o_store_el (i := (gI (gI (facesS (nextS g r) r) (k : Int)) (i : Int))) (k : Int) tp3_o rfl rfl o13 (by omega) (by omega) rfl ?_
    intro w33 ch34 bx35
    clear o13
    refine l_nil ?_
    refine run_inBlock ?_
    refine run_region rfl ?_
    refine l_val (v := Value.int .i64 ((i : Int) + 1)) rfl (e_add (m := (i : Int)) (n := 1) (by exact zs34) rfl (by omega)) ?_
    refine l_val (v := Value.int .i64 ((i : Int) + 1)) rfl (e_move rfl) ?_
    refine l_nil ?_
    replace hbase := hbase.chg ch34 (is_ne rfl)
    replace r_g_v := r_g_v.chg ch34 (is_ne rfl)
    replace r_r_v := r_r_v.chg ch34 (is_ne rfl)
    replace o18 := o18.chg ch34 (is_ne rfl)
    replace r28 := r28.chg ch34 (row_ne rfl) (row_ne rfl)
    refine back9 (i + 1, (List.set l (Int.toNat (gI (gI (facesS (nextS g r) r) (k : Int)) (i : Int))) (k : Int)), g32) _ _ ⟨hbase, (by exact zs7), (by exact zs8), (by exact zs25), (by exact zs26), (by exact zs27), (by exact zs32), (by exact zs33), rfl, r_g_v, r_r_v, bx35, o18, r28, by omega, ?_⟩ ?_
    · show (List.set l (Int.toNat (gI (gI (facesS (nextS g r) r) (k : Int)) (i : Int))) (k : Int)) = ofKi (facesS (nextS g r) r) (2 * (g.2.length : Int)) k (i + 1)
      rw [ofKi_succ _ _ _ _ (by assumption), hin]
    · show Int.toNat (((List.length (gI (facesS (nextS g r) r) (k : Int)) : Int) : Int) - ((i + 1) : Int)) < Int.toNat (((List.length (gI (facesS (nextS g r) r) (k : Int)) : Int) : Int) - (i : Int))
      omega
   refine run_cond_f rfl (decide_eq_false p9) ?_
   refine run_exit rfl ?_
   refine run_inBlock ?_
   clear r28
   refine run_region rfl ?_
   refine l_val (v := Value.int .i64 ((k : Int) + 1)) rfl (e_add (m := (k : Int)) (n := 1) (by exact zs27) rfl (by omega)) ?_
   refine l_val (v := Value.int .i64 ((k : Int) + 1)) rfl (e_move rfl) ?_
   refine l_nil ?_
   refine back6 (k + 1, l, g32) _ _ ⟨hbase, (by exact zs7), (by exact zs25), (by exact zs26), rfl, r_g_v, r_r_v, o13, o18, by omega, ?_⟩ ?_
   · show l = ofK (facesS (nextS g r) r) (2 * (g.2.length : Int)) (k + 1)
     rw [hin]; exact ofKi_done _ _ _ _ (by assumption)
   · show Int.toNat (((List.length (facesS (nextS g r) r) : Int) : Int) - ((k + 1) : Int)) < Int.toNat (((List.length (facesS (nextS g r) r) : Int) : Int) - (k : Int))
     omega
  refine run_cond_f rfl (decide_eq_false p6) ?_
  refine run_exit rfl ?_
  refine run_seq ?_
  clear o18
  refine run_region rfl ?_
  refine l_val (v := v11) rfl (e_move (by exact zs7)) ?_
  refine l_val (v := v11) rfl (e_assign rfl) ?_
  refine l_val (v := Value.int .i64 0) rfl (e_assign rfl) ?_
  refine l_nil ?_
  refine run_ret (vs := [v11, Value.int .i64 0]) Try.func54 (.tmp rfl (.tmp rfl .nil)) ?_
  -- return 0
  have e0 : (l : List Int) = ((ofR g r).1) := by
    first
      | (simp only [ofR, if_neg (show ¬ rmayR g r = 0 by assumption)]; done)
      | (simp only [ofR, if_pos (show rmayR g r = 0 by assumption)]; done)
      | (have hk : k = (facesS (nextS g r) r).length := by omega
         simp only [ofR, if_pos (show rmayR g r = 0 by assumption), ofS]
         rw [hinv, hk])
  have e1 : (0 : Int) = ((ofR g r).2) := by
    first
      | (simp only [ofR, if_neg (show ¬ rmayR g r = 0 by assumption)]; done)
      | (simp only [ofR, if_pos (show rmayR g r = 0 by assumption)]; done)
      | (have hk : k = (facesS (nextS g r) r).length := by omega
         simp only [ofR, if_pos (show rmayR g r = 0 by assumption), ofS]
         rw [hinv, hk])
  exact ⟨(fin w0 g25 (fun n => if n = 2 then 1 else 0), v11), (congr2 (a := l) (b := 0) (fun (z0 : List Int) (z1 : Int) => Ending.returned (Value.tuple (List.toArray [v11, Value.int .i64 z1]))) e0 e1), hbase.fresh _, (e0 ▸ (o13.glue (γ := c0) (ren := (fun n => if n = 2 then 1 else 0)) (k := 1) hbase.col rfl rfl))⟩
 refine run_cond_t rfl (congrArg Bool.not (decide_eq_false p2)) ?_
 refine run_seq ?_
 clear bx5
 refine run_region rfl ?_
 refine l_val (v := Value.int .i64 (rmayR g r)) rfl (e_move rfl) ?_
 refine l_val (v := Value.slice none 0 0) rfl (e_assign rfl) ?_
 refine l_val (v := Value.int .i64 (rmayR g r)) rfl (e_assign rfl) ?_
 refine l_nil ?_
 refine run_ret (vs := [Value.slice none 0 0, Value.int .i64 (rmayR g r)]) Try.func54 (.tmp rfl (.tmp rfl .nil)) ?_
 -- return 1
 replace hbase := hbase.chg ch2 (not_no _)
 replace hbase := hbase.chg hb7 (not_no _)
 have e0 : ([] : List Int) = ((ofR g r).1) := by
   first
     | (simp only [ofR, if_neg (show ¬ rmayR g r = 0 by assumption)]; done)
     | (simp only [ofR, if_pos (show rmayR g r = 0 by assumption)]; done)
     | (have hk : k = (facesS (nextS g r) r).length := by omega
        simp only [ofR, if_pos (show rmayR g r = 0 by assumption), ofS]
        rw [hinv, hk])
 have e1 : (rmayR g r : Int) = ((ofR g r).2) := by
   first
     | (simp only [ofR, if_neg (show ¬ rmayR g r = 0 by assumption)]; done)
     | (simp only [ofR, if_pos (show rmayR g r = 0 by assumption)]; done)
     | (have hk : k = (facesS (nextS g r) r).length := by omega
        simp only [ofR, if_pos (show rmayR g r = 0 by assumption), ofS]
        rw [hinv, hk])
 exact ⟨(fin w0 g4 (fun n => 0), (Value.slice none 0 0)), (congr2 (a := []) (b := rmayR g r) (fun (z0 : List Int) (z1 : Int) => Ending.returned (Value.tuple (List.toArray [Value.slice none 0 0, Value.int .i64 z1]))) e0 e1), hbase.fresh _, (e0 ▸ Ow.nil)⟩
end TL
