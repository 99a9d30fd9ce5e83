import Derived.Test.YtilohhkbelkmdaaTlGenA
import Derived.Test.YtilohhkbelkmdaaTlGenC
import Derived.Test.YtilohhkbelkmdaaTlGenX
import Derived.Test.YtilohhkbelkmdaaTlGenY
import Derived.Test.YtilohhkbelkmdaaTlP2
import Derived.Test.YtilohhkbelkmdaaProg
set_option linter.all false
set_option maxRecDepth 20000
namespace TL
open Go Go.Proofs
theorem mixed_o : Try.prog.follows .mixedOrders = true := by kernel_rfl
theorem tp3_o : Tp Try.prog 3 false 1 8 (.int .i64 0) := Tp.of (by kernel_rfl)
theorem tp22_o : Tp Try.prog 22 false 1 24 (.slice none 0 0) := Tp.of (by kernel_rfl)
theorem tp24_o : Tp Try.prog 24 true 2 32 (.agg #[.int .i64 0, .slice none 0 0]) := Tp.of (by kernel_rfl)
theorem tp27_o : Tp Try.prog 27 false 1 24 (.slice none 0 0) := Tp.of (by kernel_rfl)
theorem tp60_o : Tp Try.prog 60 true 2 16 (.agg #[.int .i64 0, .int .i64 0]) := Tp.of (by kernel_rfl)
theorem bd15_o : Try.f15.body.isNone = false := rfl
theorem nm15_o : (Try.f15.name == "runtime.NumGoroutine") = false := by decide +kernel
theorem bd53_o : Try.f53.body.isNone = false := rfl
theorem nm53_o : (Try.f53.name == "runtime.NumGoroutine") = false := by decide +kernel
theorem bd87_o : Try.f87.body.isNone = false := rfl
theorem nm87_o : (Try.f87.name == "runtime.NumGoroutine") = false := by decide +kernel
theorem bd89_o : Try.f89.body.isNone = false := rfl
theorem nm89_o : (Try.f89.name == "runtime.NumGoroutine") = false := by decide +kernel
theorem bd91_o : Try.f91.body.isNone = false := rfl
theorem nm91_o : (Try.f91.name == "runtime.NumGoroutine") = false := by decide +kernel
theorem bd92_o : Try.f92.body.isNone = false := rfl
theorem nm92_o : (Try.f92.name == "runtime.NumGoroutine") = false := by decide +kernel
theorem ROf_ok (w0 : World) (g : (Int) × (List ((Int) × (Int)))) (g_v : Value) (hg_v : Ro w0 g_v g.2) (r : List (List Int)) (r_v : Value) (hr_v : Ro w0 r_v r) :
    Calls Try.prog 54 #[Value.agg (List.toArray [Value.int .i64 g.1, g_v]), r_v] w0 (fun ee w => ∃ xx : Cmap × Value, ee = .returned ((fun ⟨δ, rv0⟩ => Value.tuple (List.toArray [rv0, Value.int .i64 ((ofR g r).2)])) xx) ∧ (fun (⟨δ, rv0⟩ : Cmap × Value) (w : World) => Fresh w0 δ w ∧ Ow δ (is 1) (is 1) w rv0 ((ofR g r).1)) xx w) := by
 refine calls_of_run Try.func54 rfl (Nat.le_of_ble_eq_true rfl) ?_
 have hbase := Base.start w0
 have r_g_v := hg_v.sl
 have r_r_v := hr_v.sl
 refine run_seq (run_region rfl (l_op rfl ?_))
 refine o_box c0 (is 1) (1, 0) rfl rfl ?_
 intro g4 w1 b3 ch2 bx5
 replace bx5 : Bx g4 (is 1) w1 b3 [Value.int .i64 g.1, g_v] := bx5
 refine lv (Value.slice none 0 0) rfl (e_assign rfl) ?_
 refine lv (Value.int .i64 0) rfl (e_assign rfl) ?_
 refine l_nil (run_seq (run_seq (run_region rfl ?_)))
 refine lv (Value.agg (List.toArray [Value.int .i64 g.1, g_v])) rfl (e_load_bxN (ds := [Value.int .i64 g.1, g_v]) tp24_o rfl bx5 rfl rfl) ?_
 refine lv (r_v) rfl (e_move rfl) ?_
 replace r_g_v := r_g_v.chg ch2 (not_no _)
 replace r_r_v := r_r_v.chg ch2 (not_no _)
 refine l_op rfl ?_
 refine o_call (v := Value.int .i64 (rmayR g r)) (e_call (vals := [Value.agg (List.toArray [Value.int .i64 g.1, g_v]), r_v]) Try.func15 bd15_o nm15_o rfl) (RMay_ok w1 g g_v (r_g_v).ro r r_v (r_r_v).ro) ?_
 intro w6 hb7
 replace hb7 := chg_below hb7 g4
 refine lv (Value.int .i64 (rmayR g r)) rfl (e_assign rfl) ?_
 refine l_nil (run_seq (run_region rfl ?_))
 refine lv (Value.int .i64 (rmayR g r)) rfl (e_move rfl) ?_
 refine lv (Value.bool (!(decide ((rmayR g r) = 0)))) rfl (e_neq (m := rmayR g r) (n := 0) rfl rfl) ?_
 refine l_nil ?_
 by_cases p2 : (rmayR g r) = 0
 ·
  obtain ⟨hm, hrp⟩ := rmay_ok (by assumption)
  have hm0 := hm
  obtain ⟨hm1, hm2, hm3, hm4⟩ := hm0
  refine run_cond_f rfl (congrArg Bool.not (decide_eq_true p2)) ?_
  refine run_skip ?_
  refine run_seq (run_region rfl ?_)
  refine lv (Value.pointer (some ⟨b3, 1, none⟩)) rfl (e_fieldAddr Try.underlying24 rfl rfl rfl rfl) ?_
  replace bx5 := bx5.chg hb7 (not_no _)
  refine lv (g_v) rfl (e_load_bx1 tp22_o rfl bx5 rfl) ?_
  replace r_g_v := r_g_v.chg hb7 (not_no _)
  have len8 := (r_g_v).small
  refine lv (Value.int .i64 (List.length g.2 : Int)) rfl (e_len Try.underlying22 rfl r_g_v) ?_
  refine lv (Value.int .i64 (2 * (List.length g.2 : Int))) rfl (e_mul (m := 2) (n := (List.length g.2 : Int)) rfl rfl (by omega)) ?_
  refine l_op rfl ?_
  refine o_make (α := Int) (l := 2 * (List.length g.2 : Int)) (cp := 2 * (List.length g.2 : Int)) g4 (is 2) (is 2) (2, 0) rfl (0 : Int) Try.underlying27 tp3_o rfl rfl rfl (by omega) (by omega) (by omega) (by omega) ?_
  intro g9 w10 v11 ch12 o13 _
  refine lv (v11) rfl (e_assign rfl) ?_
  refine l_nil (run_seq (run_seq (run_region rfl ?_)))
  replace bx5 := bx5.chg ch12 (not_no _)
  refine lv (Value.agg (List.toArray [Value.int .i64 g.1, g_v])) rfl (e_load_bxN (ds := [Value.int .i64 g.1, g_v]) tp24_o rfl bx5 rfl rfl) ?_
  refine lv (r_v) rfl (e_move rfl) ?_
  replace r_g_v := r_g_v.chg ch12 (not_no _)
  replace r_r_v := (r_r_v.chg hb7 (not_no _)).chg ch12 (not_no _)
  refine l_op rfl ?_
  refine o_callx (e_call (vals := [Value.agg (List.toArray [Value.int .i64 g.1, g_v]), r_v]) Try.func87 bd87_o nm87_o rfl) (faces_ok w10 g g_v (r_g_v).ro r r_v (r_r_v).ro (by assumption) (by assumption)) ?_
  rintro ⟨d15, v17⟩ w14 ⟨fr16, o18⟩
  obtain ⟨g19, hg19⟩ : ∃ q, q = glue w10.heap.size g9 d15 (fun n => if n = 1 then 3 else 0) := ⟨_, rfl⟩
  have ch20 := chg_glue fr16.below g9 d15 (fun n => if n = 1 then 3 else 0)
  rw [← hg19] at ch20
  replace o18 := o18.glue (γ := g9) (ren := (fun n => if n = 1 then 3 else 0)) (k := 3) fr16.col rfl rfl
  rw [← hg19] at o18
  clear hg19
  have len21 := (o18.sl).small
  refine lv (Value.int .i64 (List.length (facesS (nextS g r) r) : Int)) rfl (e_len Try.underlying25 rfl o18.sl) ?_
  refine lv (Value.int .i64 0) rfl (e_move rfl) ?_
  refine l_nil ?_
  refine run_block ?_
  clear bx5
  refine run_loop (σ := Nat × (List Int) × Cmap) (fun ⟨k, l, gq⟩ f w => Base w0 gq w ∧ f 7 = v11 ∧ f 25 = v17 ∧ f 26 = Value.int .i64 (List.length (facesS (nextS g r) r) : Int) ∧ f 27 = Value.int .i64 (k : Int) ∧ Sl gq (is 0) w g_v g.2 ∧ Sl gq (is 0) w r_v r ∧ Ow gq (is 2) (is 2) w v11 l ∧ Nst gq 3 w v17 (facesS (nextS g r) r) ∧ (k : Int) ≤ ((List.length (facesS (nextS g r) r) : Int) : Int) ∧ (l = ofK (facesS (nextS g r) r) (2 * (g.2.length : Int)) k)) (fun ⟨k, l, gq⟩ => Int.toNat (((List.length (facesS (nextS g r) r) : Int) : Int) - (k : Int))) (0, (List.replicate (Int.toNat (2 * (List.length g.2 : Int))) (0 : Int)), g19) ?_ ?_
  have C22 : Chg (inl []) _ _ _ _ := (ch2.n).seq ((hb7.n).seq ((ch12.n).seq (ch20.n)))
  replace hbase := hbase.chg C22 (is_nl rfl)
  replace r_g_v := r_g_v.chg ch20 (not_no _)
  replace r_r_v := r_r_v.chg ch20 (not_no _)
  replace o13 := o13.chg ch20 (not_no _) (not_no _)
  · exact ⟨hbase, rfl, rfl, rfl, rfl, r_g_v, r_r_v, o13, o18, by omega, by rfl⟩
  clear r_g_v r_r_v o13 o18 hbase
  rintro ⟨k, l, g25⟩ f23 w24 ⟨hbase, zs7, zs25, zs26, zs27, r_g_v, r_r_v, o13, o18, hle_k, hinv⟩ back6
  have hll : (l.length : Int) = 2 * (g.2.length : Int) := by rw [hinv, ofK_len]; omega
  refine run_seq (run_region rfl ?_)
  refine lv (Value.bool (decide ((k : Int) < (List.length (facesS (nextS g r) r) : Int)))) rfl (e_lss (m := (k : Int)) (n := (List.length (facesS (nextS g r) r) : Int)) (by exact zs27) (by exact zs26)) ?_
  refine l_nil (run_seq ?_)
  by_cases p6 : (k : Int) < (List.length (facesS (nextS g r) r) : Int)
  ·
   refine run_cond_t rfl (decide_eq_true p6) ?_
   refine run_skip ?_
   refine run_seq ?_
   refine run_block ?_
   refine run_seq (run_region rfl ?_)
   refine lv (Value.int .i64 (k : Int)) rfl (e_move (by exact zs27)) ?_
   refine lv (Value.pointer (some (eAddr v17 1 (Int.toNat (k : Int))))) rfl (e_indexAddr (α := List Int) (xs := facesS (nextS g r) r) (v := v17) (i := (k : Int)) Try.underlying25 rfl (by exact zs25) o18.sl (by exact zs27) (by omega) (by omega)) ?_
   obtain ⟨v26, cel27, r28⟩ := nst_row (r := (k : Int)) o18 (by omega) (by omega)
   refine lv (v26) rfl (e_load1 tp27_o rfl cel27) ?_
   refine lv (Value.int .i64 (k : Int)) rfl (e_assign rfl) ?_
   refine lv (v26) rfl (e_assign rfl) ?_
   refine l_nil (run_seq (run_region rfl ?_))
   refine lv (v26) rfl (e_move rfl) ?_
   have len29 := (r28.row_sl).small
   refine lv (Value.int .i64 (List.length (gI (facesS (nextS g r) r) (k : Int)) : Int)) rfl (e_len Try.underlying27 rfl r28.row_sl) ?_
   refine lv (Value.int .i64 0) rfl (e_move rfl) ?_
   refine l_nil ?_
   refine run_block ?_
   refine run_loop (σ := Nat × (List Int) × Cmap) (fun ⟨i, l, gq⟩ f w => Base w0 gq w ∧ f 7 = v11 ∧ f 8 = Value.int .i64 (k : Int) ∧ f 25 = v17 ∧ f 26 = Value.int .i64 (List.length (facesS (nextS g r) r) : Int) ∧ f 27 = Value.int .i64 (k : Int) ∧ f 32 = v26 ∧ f 33 = Value.int .i64 (List.length (gI (facesS (nextS g r) r) (k : Int)) : Int) ∧ f 34 = Value.int .i64 (i : Int) ∧ Sl gq (is 0) w g_v g.2 ∧ Sl gq (is 0) w r_v r ∧ Ow gq (is 2) (is 2) w v11 l ∧ Nst gq 3 w v17 (facesS (nextS g r) r) ∧ Ow gq (row 3 (Int.toNat (k : Int) + 1)) (row 3 (Int.toNat (k : Int) + 1)) w v26 (gI (facesS (nextS g r) r) (k : Int)) ∧ (i : Int) ≤ ((List.length (gI (facesS (nextS g r) r) (k : Int)) : Int) : Int) ∧ (l = ofKi (facesS (nextS g r) r) (2 * (g.2.length : Int)) k i)) (fun ⟨i, l, gq⟩ => Int.toNat (((List.length (gI (facesS (nextS g r) r) (k : Int)) : Int) : Int) - (i : Int))) (0, l, g25) ?_ ?_
   · exact ⟨hbase, (by exact zs7), rfl, (by exact zs25), (by exact zs26), (by exact zs27), rfl, rfl, rfl, r_g_v, r_r_v, o13, o18, r28, by omega, by rw [ofKi_zero]; exact hinv⟩
   clear r_g_v r_r_v o13 o18 cel27 r28 hbase
   rintro ⟨i, l, g32⟩ f30 w31 ⟨hbase, zs7, zs8, zs25, zs26, zs27, zs32, zs33, zs34, r_g_v, r_r_v, o13, o18, r28, hle_i, hin⟩ back9
   have hll : (l.length : Int) = 2 * (g.2.length : Int) := by rw [hin, ofKi_len]; omega
   refine run_seq (run_region rfl ?_)
   refine lv (Value.bool (decide ((i : Int) < (List.length (gI (facesS (nextS g r) r) (k : Int)) : Int)))) rfl (e_lss (m := (i : Int)) (n := (List.length (gI (facesS (nextS g r) r) (k : Int)) : Int)) (by exact zs34) (by exact zs33)) ?_
   refine l_nil (run_seq ?_)
   by_cases p9 : (i : Int) < (List.length (gI (facesS (nextS g r) r) (k : Int)) : Int)
   ·
    refine run_cond_t rfl (decide_eq_true p9) ?_
    obtain ⟨hh1, hh2⟩ := face_in hrp (k := k) (i := i) (by assumption) (by assumption)
    refine run_skip ?_
    refine run_seq ?_
    refine run_block ?_
    refine run_seq (run_region rfl ?_)
    refine lv (Value.pointer (some (eAddr v26 1 (Int.toNat (i : Int))))) rfl (e_indexAddr (α := Int) (xs := gI (facesS (nextS g r) r) (k : Int)) (v := v26) (i := (i : Int)) Try.underlying27 rfl (by exact zs32) r28.row_sl (by exact zs34) (by omega) (by omega)) ?_
    refine lv (Value.int .i64 (gI (gI (facesS (nextS g r) r) (k : Int)) (i : Int))) rfl (e_load_el1 (α := Int) (xs := gI (facesS (nextS g r) r) (k : Int)) (v := v26) (i := (i : Int)) tp3_o rfl r28.row_sl (by omega) (by omega) (by decide) rfl) ?_
    refine lv (Value.int .i64 (gI (gI (facesS (nextS g r) r) (k : Int)) (i : Int))) rfl (e_assign rfl) ?_
    refine l_nil (run_region rfl ?_)
    refine lv (v11) rfl (e_move (by exact zs7)) ?_
    refine lv (Value.int .i64 (gI (gI (facesS (nextS g r) r) (k : Int)) (i : Int))) rfl (e_move rfl) ?_
    refine lv (Value.int .i64 (k : Int)) rfl (e_move (by exact zs8)) ?_
    refine lv (Value.pointer (some (eAddr v11 1 (Int.toNat (gI (gI (facesS (nextS g r) r) (k : Int)) (i : Int)))))) rfl (e_indexAddr (α := Int) (xs := l) (v := v11) (i := (gI (gI (facesS (nextS g r) r) (k : Int)) (i : Int))) Try.underlying27 rfl rfl o13.flat rfl (by omega) (by omega)) ?_
    refine l_op rfl ?_
    refine o_store_el (i := (gI (gI (facesS (nextS g r) r) (k : Int)) (i : Int))) (k : Int) tp3_o rfl rfl o13 (by omega) (by omega) rfl ?_
    intro w33 ch34 bx35
    clear o13
    refine l_nil ?_
    refine run_inBlock ?_
    refine run_region rfl ?_
    refine lv (Value.int .i64 ((i : Int) + 1)) rfl (e_add (m := (i : Int)) (n := 1) (by exact zs34) rfl (by omega)) ?_
    refine lv (Value.int .i64 ((i : Int) + 1)) rfl (e_move rfl) ?_
    refine l_nil ?_
    replace hbase := hbase.chg ch34 (is_ne rfl)
    replace r_g_v := r_g_v.chg ch34 (is_ne rfl)
    replace r_r_v := r_r_v.chg ch34 (is_ne rfl)
    replace o18 := o18.chg ch34 (is_ne rfl)
    replace r28 := r28.chg ch34 (row_ne rfl) (row_ne rfl)
    refine back9 (i + 1, (List.set l (Int.toNat (gI (gI (facesS (nextS g r) r) (k : Int)) (i : Int))) (k : Int)), g32) _ _ ⟨hbase, (by exact zs7), (by exact zs8), (by exact zs25), (by exact zs26), (by exact zs27), (by exact zs32), (by exact zs33), rfl, r_g_v, r_r_v, bx35, o18, r28, by omega, ?_⟩ ?_
    · show (List.set l (Int.toNat (gI (gI (facesS (nextS g r) r) (k : Int)) (i : Int))) (k : Int)) = ofKi (facesS (nextS g r) r) (2 * (g.2.length : Int)) k (i + 1)
      rw [ofKi_succ _ _ _ _ (by assumption), hin]
    · show Int.toNat (((List.length (gI (facesS (nextS g r) r) (k : Int)) : Int) : Int) - ((i + 1) : Int)) < Int.toNat (((List.length (gI (facesS (nextS g r) r) (k : Int)) : Int) : Int) - (i : Int))
      omega
   refine run_cond_f rfl (decide_eq_false p9) ?_
   refine run_exit rfl ?_
   refine run_inBlock ?_
   clear r28
   refine run_region rfl ?_
   refine lv (Value.int .i64 ((k : Int) + 1)) rfl (e_add (m := (k : Int)) (n := 1) (by exact zs27) rfl (by omega)) ?_
   refine lv (Value.int .i64 ((k : Int) + 1)) rfl (e_move rfl) ?_
   refine l_nil ?_
   refine back6 (k + 1, l, g32) _ _ ⟨hbase, (by exact zs7), (by exact zs25), (by exact zs26), rfl, r_g_v, r_r_v, o13, o18, by omega, ?_⟩ ?_
   · show l = ofK (facesS (nextS g r) r) (2 * (g.2.length : Int)) (k + 1)
     rw [hin]; exact ofKi_done _ _ _ _ (by assumption)
   · show Int.toNat (((List.length (facesS (nextS g r) r) : Int) : Int) - ((k + 1) : Int)) < Int.toNat (((List.length (facesS (nextS g r) r) : Int) : Int) - (k : Int))
     omega
  refine run_cond_f rfl (decide_eq_false p6) ?_
  refine run_exit rfl ?_
  refine run_seq ?_
  clear o18
  refine run_region rfl ?_
  refine lv (v11) rfl (e_move (by exact zs7)) ?_
  refine lv (v11) rfl (e_assign rfl) ?_
  refine lv (Value.int .i64 0) rfl (e_assign rfl) ?_
  refine l_nil ?_
  refine run_ret (vs := [v11, Value.int .i64 0]) Try.func54 (.tmp rfl (.tmp rfl .nil)) ?_
  have e0 : (l : List Int) = ((ofR g r).1) := by
    first
      | (simp only [ofR, if_neg (show ¬ rmayR g r = 0 by assumption)]; done)
      | (simp only [ofR, if_pos (show rmayR g r = 0 by assumption)]; done)
      | (have hk : k = (facesS (nextS g r) r).length := by omega
         simp only [ofR, if_pos (show rmayR g r = 0 by assumption), ofS]
         rw [hinv, hk])
  have e1 : (0 : Int) = ((ofR g r).2) := by
    first
      | (simp only [ofR, if_neg (show ¬ rmayR g r = 0 by assumption)]; done)
      | (simp only [ofR, if_pos (show rmayR g r = 0 by assumption)]; done)
      | (have hk : k = (facesS (nextS g r) r).length := by omega
         simp only [ofR, if_pos (show rmayR g r = 0 by assumption), ofS]
         rw [hinv, hk])
  exact ⟨(fin w0 g25 (fun n => if n = 2 then 1 else 0), v11), (congr2 (a := l) (b := 0) (fun (z0 : List Int) (z1 : Int) => Ending.returned (Value.tuple (List.toArray [v11, Value.int .i64 z1]))) e0 e1), hbase.fresh _, (e0 ▸ (o13.glue (γ := c0) (ren := (fun n => if n = 2 then 1 else 0)) (k := 1) hbase.col rfl rfl))⟩
 refine run_cond_t rfl (congrArg Bool.not (decide_eq_false p2)) ?_
 refine run_seq ?_
 clear bx5
 refine run_region rfl ?_
 refine lv (Value.int .i64 (rmayR g r)) rfl (e_move rfl) ?_
 refine lv (Value.slice none 0 0) rfl (e_assign rfl) ?_
 refine lv (Value.int .i64 (rmayR g r)) rfl (e_assign rfl) ?_
 refine l_nil ?_
 refine run_ret (vs := [Value.slice none 0 0, Value.int .i64 (rmayR g r)]) Try.func54 (.tmp rfl (.tmp rfl .nil)) ?_
 replace hbase := hbase.chg ch2 (not_no _)
 replace hbase := hbase.chg hb7 (not_no _)
 have e0 : ([] : List Int) = ((ofR g r).1) := by
   first
     | (simp only [ofR, if_neg (show ¬ rmayR g r = 0 by assumption)]; done)
     | (simp only [ofR, if_pos (show rmayR g r = 0 by assumption)]; done)
     | (have hk : k = (facesS (nextS g r) r).length := by omega
        simp only [ofR, if_pos (show rmayR g r = 0 by assumption), ofS]
        rw [hinv, hk])
 have e1 : (rmayR g r : Int) = ((ofR g r).2) := by
   first
     | (simp only [ofR, if_neg (show ¬ rmayR g r = 0 by assumption)]; done)
     | (simp only [ofR, if_pos (show rmayR g r = 0 by assumption)]; done)
     | (have hk : k = (facesS (nextS g r) r).length := by omega
        simp only [ofR, if_pos (show rmayR g r = 0 by assumption), ofS]
        rw [hinv, hk])
 exact ⟨(fin w0 g4 (fun n => 0), (Value.slice none 0 0)), (congr2 (a := []) (b := rmayR g r) (fun (z0 : List Int) (z1 : Int) => Ending.returned (Value.tuple (List.toArray [Value.slice none 0 0, Value.int .i64 z1]))) e0 e1), hbase.fresh _, (e0 ▸ Ow.nil)⟩
theorem RFirst_ok (w0 : World) (g : (Int) × (List ((Int) × (Int)))) (g_v : Value) (hg_v : Ro w0 g_v g.2) :
    Calls Try.prog 56 #[Value.agg (List.toArray [Value.int .i64 g.1, g_v])] w0 (fun ee w => ∃ xx : Cmap × Value, ee = .returned ((fun ⟨δ, rv0⟩ => Value.tuple (List.toArray [rv0, Value.int .i64 ((firstR g).2)])) xx) ∧ (fun (⟨δ, rv0⟩ : Cmap × Value) (w : World) => Fresh w0 δ w ∧ Nst δ 1 w rv0 ((firstR g).1)) xx w) := by
 refine calls_of_run Try.func56 rfl (Nat.le_of_ble_eq_true rfl) ?_
 have hbase := Base.start w0
 have r_g_v := hg_v.sl
 refine run_seq (run_region rfl (l_op rfl ?_))
 refine o_box c0 (is 1) (1, 0) rfl rfl ?_
 intro g4 w1 b3 ch2 bx5
 replace bx5 : Bx g4 (is 1) w1 b3 [Value.int .i64 g.1, g_v] := bx5
 refine lv (Value.slice none 0 0) rfl (e_assign rfl) ?_
 refine lv (Value.int .i64 0) rfl (e_assign rfl) ?_
 refine l_nil (run_seq (run_seq (run_region rfl ?_)))
 refine lv (Value.agg (List.toArray [Value.int .i64 g.1, g_v])) rfl (e_load_bxN (ds := [Value.int .i64 g.1, g_v]) tp24_o rfl bx5 rfl rfl) ?_
 replace r_g_v := r_g_v.chg ch2 (not_no _)
 refine l_op rfl ?_
 refine o_call (v := Value.bool (mayB g)) (e_call (vals := [Value.agg (List.toArray [Value.int .i64 g.1, g_v])]) Try.func53 bd53_o nm53_o rfl) (May_ok w1 g g_v (r_g_v).ro) ?_
 intro w6 hb7
 replace hb7 := chg_below hb7 g4
 refine lv (Value.bool (!(mayB g))) rfl (e_not (b := (mayB g)) rfl) ?_
 refine l_nil ?_
 by_cases p1 : (mayB g) = true
 ·
  have hm := of_decide_eq_true p1
  have hm0 := hm
  obtain ⟨hm1, hm2, hm3, hm4⟩ := hm0
  refine run_cond_f rfl (congrArg Bool.not p1) ?_
  refine run_skip ?_
  refine run_seq (run_region rfl ?_)
  refine lv (Value.pointer (some ⟨b3, 0, none⟩)) rfl (e_fieldAddr Try.underlying24 rfl rfl rfl rfl) ?_
  replace bx5 := bx5.chg hb7 (not_no _)
  refine lv (Value.int .i64 g.1) rfl (e_load_bx1 tp3_o rfl bx5 rfl) ?_
  refine l_op rfl ?_
  refine o_make_nst (α := Int) (n := g.1) (cp := g.1) g4 2 Try.underlying26 tp27_o rfl rfl rfl (by omega) (by omega) (by omega) (by omega) ?_
  intro g8 w9 v10 ch11 o12
  refine lv (v10) rfl (e_assign rfl) ?_
  refine l_nil (run_seq (run_seq (run_region rfl ?_)))
  refine lv (Value.pointer (some ⟨b3, 1, none⟩)) rfl (e_fieldAddr Try.underlying24 rfl rfl rfl rfl) ?_
  replace bx5 := bx5.chg ch11 (not_no _)
  refine lv (g_v) rfl (e_load_bx1 tp22_o rfl bx5 rfl) ?_
  replace r_g_v := (r_g_v.chg hb7 (not_no _)).chg ch11 (not_no _)
  have len13 := (r_g_v).small
  refine lv (Value.int .i64 (List.length g.2 : Int)) rfl (e_len Try.underlying22 rfl r_g_v) ?_
  refine lv (Value.int .i64 0) rfl (e_move rfl) ?_
  refine l_nil ?_
  refine run_block ?_
  clear bx5
  refine run_loop (σ := Nat × (List (List Int)) × Cmap) (fun ⟨e, O, gq⟩ f w => Base w0 gq w ∧ f 4 = v10 ∧ f 16 = g_v ∧ f 17 = Value.int .i64 (List.length g.2 : Int) ∧ f 18 = Value.int .i64 (e : Int) ∧ Sl gq (is 0) w g_v g.2 ∧ Nst gq 2 w v10 O ∧ (e : Int) ≤ ((List.length g.2 : Int) : Int) ∧ (OutInv O g e)) (fun ⟨e, O, gq⟩ => Int.toNat (((List.length g.2 : Int) : Int) - (e : Int))) (0, (List.replicate (Int.toNat g.1) []), g8) ?_ ?_
  have C14 : Chg (inl []) _ _ _ _ := (ch2.n).seq ((hb7.n).seq (ch11.n))
  replace hbase := hbase.chg C14 (is_nl rfl)
  · exact ⟨hbase, rfl, rfl, rfl, rfl, r_g_v, o12, by omega, by exact OutInv.start hm1⟩
  clear r_g_v o12 hbase
  rintro ⟨e, O, g17⟩ f15 w16 ⟨hbase, zs4, zs16, zs17, zs18, r_g_v, o12, hle_e, hov⟩ back5
  have hol := hov.len
  refine run_seq (run_region rfl ?_)
  refine lv (Value.bool (decide ((e : Int) < (List.length g.2 : Int)))) rfl (e_lss (m := (e : Int)) (n := (List.length g.2 : Int)) (by exact zs18) (by exact zs17)) ?_
  refine l_nil (run_seq ?_)
  by_cases p5 : (e : Int) < (List.length g.2 : Int)
  ·
   refine run_cond_t rfl (decide_eq_true p5) ?_
   obtain ⟨⟨he1, he2⟩, he3, he4⟩ := hm4 _ (gI_mem (xs := g.2) (i := (e : Int)) (by omega) (by omega))
   have hq1 := hov.rl he1 he2
   have hq2 := hov.rl2 he1 he2 he3 he4 (2 * (e : Int))
   refine run_skip ?_
   refine run_seq ?_
   refine run_block ?_
   refine run_seq (run_region rfl ?_)
   refine lv (Value.int .i64 (e : Int)) rfl (e_move (by exact zs18)) ?_
   refine lv (Value.pointer (some (eAddr g_v 2 (Int.toNat (e : Int))))) rfl (e_indexAddr (α := (Int) × (Int)) (xs := g.2) (v := g_v) (i := (e : Int)) Try.underlying22 rfl (by exact zs16) r_g_v (by exact zs18) (by omega) (by omega)) ?_
   refine lv (Value.agg (List.toArray [Value.int .i64 ((gI g.2 (e : Int)).1), Value.int .i64 ((gI g.2 (e : Int)).2)])) rfl (e_load_elN (α := (Int) × (Int)) (xs := g.2) (v := g_v) (i := (e : Int)) tp60_o rfl r_g_v (by omega) (by omega) rfl) ?_
   refine l_op rfl ?_
   refine o_alloc g17 (is 3) (3, 0) rfl tp60_o ?_
   intro g21 w18 b20 ch19 bx22
   replace bx22 : Bx g21 (is 3) w18 b20 [Value.int .i64 0, Value.int .i64 0] := bx22
   refine lv (Value.int .i64 (e : Int)) rfl (e_assign rfl) ?_
   refine l_op rfl ?_
   refine o_store_bx (cs' := [Value.int .i64 ((gI g.2 (e : Int)).1), Value.int .i64 ((gI g.2 (e : Int)).2)]) tp60_o rfl rfl bx22 rfl (Nat.le_of_ble_eq_true rfl) (AllOne.all (.cons rfl (.cons rfl .nil))) rfl ?_
   intro w23 ch24 bx25
   clear bx22
   refine l_nil (run_seq (run_region rfl ?_))
   refine lv (Value.agg (List.toArray [Value.int .i64 ((gI g.2 (e : Int)).1), Value.int .i64 ((gI g.2 (e : Int)).2)])) rfl (e_load_bxN (ds := [Value.int .i64 ((gI g.2 (e : Int)).1), Value.int .i64 ((gI g.2 (e : Int)).2)]) tp60_o rfl bx25 rfl rfl) ?_
   refine lv (Value.int .i64 0) rfl (e_move rfl) ?_
   refine l_nil ?_
   refine run_block ?_
   refine run_loop0 ?_
   refine run_seq ?_
   clear bx25
   refine run_region rfl ?_
   refine lv (Value.bool true) rfl (e_lss (m := 0) (n := 2) rfl rfl) ?_
   refine l_nil (run_seq ?_)
   refine run_cond_t rfl rfl ?_
   refine run_skip ?_
   refine run_seq ?_
   refine run_block ?_
   refine run_seq (run_region rfl ?_)
   refine lv (Value.int .i64 0) rfl (e_move rfl) ?_
   refine lv (Value.int .i64 ((gI g.2 (e : Int)).1)) rfl (e_index_arr Try.underlying60 tp3_o rfl rfl (by decide) (by decide) rfl) ?_
   refine lv (Value.int .i64 0) rfl (e_assign rfl) ?_
   refine lv (Value.int .i64 ((gI g.2 (e : Int)).1)) rfl (e_assign rfl) ?_
   refine l_nil (run_region rfl ?_)
   refine lv (v10) rfl (e_move (by exact zs4)) ?_
   refine lv (Value.int .i64 ((gI g.2 (e : Int)).1)) rfl (e_move rfl) ?_
   refine lv (v10) rfl (e_move (by exact zs4)) ?_
   refine lv (Value.int .i64 ((gI g.2 (e : Int)).1)) rfl (e_move rfl) ?_
   replace o12 := (o12.chg ch19 (not_no _)).chg ch24 (is_ne rfl)
   refine lv (Value.pointer (some (eAddr v10 1 (Int.toNat ((gI g.2 (e : Int)).1))))) rfl (e_indexAddr (α := List Int) (xs := O) (v := v10) (i := (gI g.2 (e : Int)).1) Try.underlying26 rfl rfl o12.sl rfl (by omega) (by omega)) ?_
   obtain ⟨v26, cel27, r28⟩ := nst_row (r := (gI g.2 (e : Int)).1) o12 (by omega) (by omega)
   refine lv (v26) rfl (e_load1 tp27_o rfl cel27) ?_
   refine lv (Value.int .i64 (e : Int)) rfl (e_move rfl) ?_
   refine lv (Value.int .i64 (2 * (e : Int))) rfl (e_mul (m := 2) (n := (e : Int)) rfl rfl (by omega)) ?_
   refine lv (Value.int .i64 0) rfl (e_move rfl) ?_
   refine lv (Value.int .i64 ((2 * (e : Int)) + 0)) rfl (e_add (m := 2 * (e : Int)) (n := 0) rfl rfl (by omega)) ?_
   refine l_op rfl ?_
   refine o_buildSlice (α := Int) g21 (is 4) (is 4) (4, 0) rfl [(2 * (e : Int)) + 0] Try.underlying27 tp3_o (by decide) (by decide) (vs := [(0, Value.int .i64 ((2 * (e : Int)) + 0))]) rfl rfl (.cons rfl .nil) ?_
   intro g29 w30 v31 ch32 o33
   refine l_op rfl ?_
   replace o12 := o12.chg ch32 (not_no _)
   replace r28 := r28.chg ch32 (not_no _) (not_no _)
   refine o_append (α := Int) (xs := (gI O ((gI g.2 (e : Int)).1))) (ys := ([(2 * (e : Int)) + 0])) g29 (J := row 2 (Int.toNat ((gI g.2 (e : Int)).1) + 1)) (S := row 2 (Int.toNat ((gI g.2 (e : Int)).1) + 1)) (2, Int.toNat ((gI g.2 (e : Int)).1) + 1) rfl Try.underlying27 tp3_o (by decide) rfl rfl rfl r28 o33.flat (by decide) (by first | omega | (simp; done) | (simp; omega)) ?_
   intro g34 w35 v36 ch37 o38
   have o39 := o12.rowchg ch37
   clear o12 cel27 r28
   obtain ⟨us40, hl41, r42⟩ := o39.vc
   try simp only [List.length_set, List.length_append, List.length_cons, List.length_nil] at hl41
   refine lv (Value.pointer (some (eAddr v10 1 (Int.toNat ((gI g.2 (e : Int)).1))))) rfl (e_indexAddr (α := Vc) (xs := us40) (v := v10) (i := (gI g.2 (e : Int)).1) Try.underlying26 rfl rfl r42 rfl (by omega) (by omega)) ?_
   refine l_op rfl ?_
   refine o_store_row (r := (gI g.2 (e : Int)).1) tp27_o rfl rfl o39 o38 (by omega) (by omega) ?_
   intro w46 ch47 o48
   clear o39 o38
   refine l_nil ?_
   refine run_inBlock ?_
   clear o33
   refine run_region rfl ?_
   refine lv (Value.int .i64 1) rfl (e_add (m := 0) (n := 1) rfl rfl (by omega)) ?_
   refine lv (Value.int .i64 1) rfl (e_move rfl) ?_
   refine l_nil ?_
   refine run_inLoop ?_
   refine run_seq (run_region rfl ?_)
   refine lv (Value.bool true) rfl (e_lss (m := 1) (n := 2) rfl rfl) ?_
   refine l_nil (run_seq ?_)
   refine run_cond_t rfl rfl ?_
   refine run_skip ?_
   refine run_seq ?_
   refine run_block ?_
   refine run_seq (run_region rfl ?_)
   refine lv (Value.int .i64 1) rfl (e_move rfl) ?_
   refine lv (Value.int .i64 ((gI g.2 (e : Int)).2)) rfl (e_index_arr Try.underlying60 tp3_o rfl rfl (by decide) (by decide) rfl) ?_
   refine lv (Value.int .i64 1) rfl (e_assign rfl) ?_
   refine lv (Value.int .i64 ((gI g.2 (e : Int)).2)) rfl (e_assign rfl) ?_
   refine l_nil (run_region rfl ?_)
   refine lv (v10) rfl (e_move (by exact zs4)) ?_
   refine lv (Value.int .i64 ((gI g.2 (e : Int)).2)) rfl (e_move rfl) ?_
   refine lv (v10) rfl (e_move (by exact zs4)) ?_
   refine lv (Value.int .i64 ((gI g.2 (e : Int)).2)) rfl (e_move rfl) ?_
   refine lv (Value.pointer (some (eAddr v10 1 (Int.toNat ((gI g.2 (e : Int)).2))))) rfl (e_indexAddr (α := List Int) (xs := (List.set O (Int.toNat ((gI g.2 (e : Int)).1)) (gI O ((gI g.2 (e : Int)).1) ++ [(2 * (e : Int)) + 0]))) (v := v10) (i := (gI g.2 (e : Int)).2) Try.underlying26 rfl rfl o48.sl rfl (by omega) (by first | omega | (simp only [List.length_set, List.length_append, List.length_cons, List.length_nil, List.length_replicate, List.length_map, List.length_take, List.length_drop]; omega) | (simp; done) | (simp; omega))) ?_
   obtain ⟨v49, cel50, r51⟩ := nst_row (r := (gI g.2 (e : Int)).2) o48 (by omega) (by first | omega | (simp only [List.length_set, List.length_append, List.length_cons, List.length_nil, List.length_replicate, List.length_map, List.length_take, List.length_drop]; omega) | (simp; done) | (simp; omega))
   refine lv (v49) rfl (e_load1 tp27_o rfl cel50) ?_
   refine lv (Value.int .i64 (e : Int)) rfl (e_move rfl) ?_
   refine lv (Value.int .i64 (2 * (e : Int))) rfl (e_mul (m := 2) (n := (e : Int)) rfl rfl (by omega)) ?_
   refine lv (Value.int .i64 1) rfl (e_move rfl) ?_
   refine lv (Value.int .i64 ((2 * (e : Int)) + 1)) rfl (e_add (m := 2 * (e : Int)) (n := 1) rfl rfl (by omega)) ?_
   refine l_op rfl ?_
   refine o_buildSlice (α := Int) g34 (is 4) (is 4) (4, 0) rfl [(2 * (e : Int)) + 1] Try.underlying27 tp3_o (by decide) (by decide) (vs := [(0, Value.int .i64 ((2 * (e : Int)) + 1))]) rfl rfl (.cons rfl .nil) ?_
   intro g52 w53 v54 ch55 o56
   refine l_op rfl ?_
   replace o48 := o48.chg ch55 (not_no _)
   replace r51 := r51.chg ch55 (not_no _) (not_no _)
   refine o_append (α := Int) (xs := (gI (List.set O (Int.toNat ((gI g.2 (e : Int)).1)) (gI O ((gI g.2 (e : Int)).1) ++ [(2 * (e : Int)) + 0])) ((gI g.2 (e : Int)).2))) (ys := ([(2 * (e : Int)) + 1])) g52 (J := row 2 (Int.toNat ((gI g.2 (e : Int)).2) + 1)) (S := row 2 (Int.toNat ((gI g.2 (e : Int)).2) + 1)) (2, Int.toNat ((gI g.2 (e : Int)).2) + 1) rfl Try.underlying27 tp3_o (by decide) rfl rfl rfl r51 o56.flat (by decide) (by first | omega | (simp; done) | (simp; omega)) ?_
   intro g57 w58 v59 ch60 o61
   have o62 := o48.rowchg ch60
   clear o48 cel50 r51
   obtain ⟨us63, hl64, r65⟩ := o62.vc
   try simp only [List.length_set, List.length_append, List.length_cons, List.length_nil] at hl64
   refine lv (Value.pointer (some (eAddr v10 1 (Int.toNat ((gI g.2 (e : Int)).2))))) rfl (e_indexAddr (α := Vc) (xs := us63) (v := v10) (i := (gI g.2 (e : Int)).2) Try.underlying26 rfl rfl r65 rfl (by omega) (by omega)) ?_
   refine l_op rfl ?_
   refine o_store_row (r := (gI g.2 (e : Int)).2) tp27_o rfl rfl o62 o61 (by omega) (by first | omega | (simp only [List.length_set, List.length_append, List.length_cons, List.length_nil, List.length_replicate, List.length_map, List.length_take, List.length_drop]; omega) | (simp; done) | (simp; omega)) ?_
   intro w69 ch70 o71
   clear o62 o61
   refine l_nil ?_
   refine run_inBlock ?_
   clear o56
   refine run_region rfl ?_
   refine lv (Value.int .i64 2) rfl (e_add (m := 1) (n := 1) rfl rfl (by omega)) ?_
   refine lv (Value.int .i64 2) rfl (e_move rfl) ?_
   refine l_nil ?_
   refine run_inLoop ?_
   refine run_seq (run_region rfl ?_)
   refine lv (Value.bool false) rfl (e_lss (m := 2) (n := 2) rfl rfl) ?_
   refine l_nil (run_seq ?_)
   refine run_cond_f rfl rfl ?_
   refine run_exit rfl ?_
   refine run_inBlock ?_
   refine run_region rfl ?_
   refine lv (Value.int .i64 ((e : Int) + 1)) rfl (e_add (m := (e : Int)) (n := 1) (by exact zs18) rfl (by omega)) ?_
   refine lv (Value.int .i64 ((e : Int) + 1)) rfl (e_move rfl) ?_
   refine l_nil ?_
   have C72 : Chg (inl [2, 3]) _ _ _ _ := (ch19.n).seq ((ch24.l rfl).seq ((ch32.n).seq ((ch37.lr rfl).seq ((ch47.l rfl).seq ((ch55.n).seq ((ch60.lr rfl).seq (ch70.l rfl)))))))
   replace hbase := hbase.chg C72 (is_nl rfl)
   replace r_g_v := r_g_v.chg C72 (is_nl rfl)
   refine back5 (e + 1, (List.set (List.set O (Int.toNat ((gI g.2 (e : Int)).1)) (gI O ((gI g.2 (e : Int)).1) ++ [(2 * (e : Int)) + 0])) (Int.toNat ((gI g.2 (e : Int)).2)) (gI (List.set O (Int.toNat ((gI g.2 (e : Int)).1)) (gI O ((gI g.2 (e : Int)).1) ++ [(2 * (e : Int)) + 0])) ((gI g.2 (e : Int)).2) ++ [(2 * (e : Int)) + 1])), g57) _ _ ⟨hbase, (by exact zs4), (by exact zs16), (by exact zs17), rfl, r_g_v, o71, by omega, ?_⟩ ?_
   · show OutInv (List.set (List.set O (Int.toNat ((gI g.2 (e : Int)).1)) (gI O ((gI g.2 (e : Int)).1) ++ [(2 * (e : Int)) + 0])) (Int.toNat ((gI g.2 (e : Int)).2)) (gI (List.set O (Int.toNat ((gI g.2 (e : Int)).1)) (gI O ((gI g.2 (e : Int)).1) ++ [(2 * (e : Int)) + 0])) ((gI g.2 (e : Int)).2) ++ [(2 * (e : Int)) + 1])) g (e + 1)
     exact hov.next he1 he2 he3 he4 (by omega) (by omega)
   · show Int.toNat (((List.length g.2 : Int) : Int) - ((e + 1) : Int)) < Int.toNat (((List.length g.2 : Int) : Int) - (e : Int))
     omega
  refine run_cond_f rfl (decide_eq_false p5) ?_
  refine run_exit rfl ?_
  refine run_seq (run_region rfl ?_)
  refine lv (v10) rfl (e_move (by exact zs4)) ?_
  refine lv (v10) rfl (e_assign rfl) ?_
  refine lv (Value.int .i64 0) rfl (e_assign rfl) ?_
  refine l_nil ?_
  refine run_ret (vs := [v10, Value.int .i64 0]) Try.func56 (.tmp rfl (.tmp rfl .nil)) ?_
  have e0 : (O : List (List Int)) = ((firstR g).1) := by
    first
      | (have hn : ¬ MayP g := fun h => p1 (decide_eq_true h)
         simp only [firstR, if_neg hn]; done)
      | (simp only [firstR, if_pos hm]; exact hov.first (by omega))
      | (simp only [firstR, if_pos hm]; done)
  have e1 : (0 : Int) = ((firstR g).2) := by
    first
      | (have hn : ¬ MayP g := fun h => p1 (decide_eq_true h)
         simp only [firstR, if_neg hn]; done)
      | (simp only [firstR, if_pos hm]; exact hov.first (by omega))
      | (simp only [firstR, if_pos hm]; done)
  exact ⟨(fin w0 g17 (fun n => if n = 2 then 1 else 0), v10), (congr2 (a := O) (b := 0) (fun (z0 : List (List Int)) (z1 : Int) => Ending.returned (Value.tuple (List.toArray [v10, Value.int .i64 z1]))) e0 e1), hbase.fresh _, (e0 ▸ (o12.glue (γ := c0) (ren := (fun n => if n = 2 then 1 else 0)) (k := 1) hbase.col rfl rfl))⟩
 refine run_cond_t rfl (congrArg Bool.not (Bool.eq_false_iff.2 p1)) ?_
 refine run_seq ?_
 clear bx5
 refine run_region rfl ?_
 refine lv (Value.slice none 0 0) rfl (e_assign rfl) ?_
 refine lv (Value.int .i64 1) rfl (e_assign rfl) ?_
 refine l_nil ?_
 refine run_ret (vs := [Value.slice none 0 0, Value.int .i64 1]) Try.func56 (.tmp rfl (.tmp rfl .nil)) ?_
 replace hbase := hbase.chg ch2 (not_no _)
 replace hbase := hbase.chg hb7 (not_no _)
 have e0 : ([] : List (List Int)) = ((firstR g).1) := by
   first
     | (have hn : ¬ MayP g := fun h => p1 (decide_eq_true h)
        simp only [firstR, if_neg hn]; done)
     | (simp only [firstR, if_pos hm]; exact hov.first (by omega))
     | (simp only [firstR, if_pos hm]; done)
 have e1 : (1 : Int) = ((firstR g).2) := by
   first
     | (have hn : ¬ MayP g := fun h => p1 (decide_eq_true h)
        simp only [firstR, if_neg hn]; done)
     | (simp only [firstR, if_pos hm]; exact hov.first (by omega))
     | (simp only [firstR, if_pos hm]; done)
 exact ⟨(fin w0 g4 (fun n => 0), (Value.slice none 0 0)), (congr2 (a := []) (b := 1) (fun (z0 : List (List Int)) (z1 : Int) => Ending.returned (Value.tuple (List.toArray [Value.slice none 0 0, Value.int .i64 z1]))) e0 e1), hbase.fresh _, (e0 ▸ Nst.nil)⟩
set_option maxHeartbeats 1000000 in
theorem RSub_ok (w0 : World) (g : (Int) × (List ((Int) × (Int)))) (g_v : Value) (hg_v : Ro w0 g_v g.2) (r : List (List Int)) (r_v : Value) (hr_v : Ro w0 r_v r) (keep : List Int) (keep_v : Value) (hkeep_v : Ro w0 keep_v keep) :
    Calls Try.prog 61 #[Value.agg (List.toArray [Value.int .i64 g.1, g_v]), r_v, keep_v] w0 (fun ee w => ∃ xx : Cmap × Value × Value, ee = .returned ((fun ⟨δ, rv0, rv1⟩ => Value.tuple (List.toArray [Value.agg (List.toArray [Value.int .i64 (((rsubR g r keep).1).1), rv0]), rv1, Value.int .i64 ((rsubR g r keep).2.2)])) xx) ∧ (fun (⟨δ, rv0, rv1⟩ : Cmap × Value × Value) (w : World) => Fresh w0 δ w ∧ Ow δ (is 1) (is 1) w rv0 (((rsubR g r keep).1).2) ∧ Nst δ 2 w rv1 ((rsubR g r keep).2.1)) xx w) := by
 refine calls_of_run Try.func61 rfl (Nat.le_of_ble_eq_true rfl) ?_
 have hbase := Base.start w0
 have r_g_v := hg_v.sl
 have r_r_v := hr_v.sl
 have r_keep_v := hkeep_v.sl
 refine run_seq (run_region rfl (l_op rfl ?_))
 refine o_box c0 (is 1) (1, 0) rfl rfl ?_
 intro g4 w1 b3 ch2 bx5
 replace bx5 : Bx g4 (is 1) w1 b3 [Value.int .i64 g.1, g_v] := bx5
 refine l_op rfl ?_
 refine o_alloc g4 (is 2) (2, 0) rfl tp24_o ?_
 intro g9 w6 b8 ch7 bx10
 replace bx10 : Bx g9 (is 2) w6 b8 [Value.int .i64 0, Value.slice none 0 0] := bx10
 refine lv (Value.slice none 0 0) rfl (e_assign rfl) ?_
 refine lv (Value.int .i64 0) rfl (e_assign rfl) ?_
 refine l_nil (run_seq (run_seq (run_region rfl ?_)))
 replace bx5 := bx5.chg ch7 (not_no _)
 refine lv (Value.agg (List.toArray [Value.int .i64 g.1, g_v])) rfl (e_load_bxN (ds := [Value.int .i64 g.1, g_v]) tp24_o rfl bx5 rfl rfl) ?_
 refine lv (r_v) rfl (e_move rfl) ?_
 replace r_g_v := (r_g_v.chg ch2 (not_no _)).chg ch7 (not_no _)
 replace r_r_v := (r_r_v.chg ch2 (not_no _)).chg ch7 (not_no _)
 refine l_op rfl ?_
 refine o_call (v := Value.int .i64 (rmayR g r)) (e_call (vals := [Value.agg (List.toArray [Value.int .i64 g.1, g_v]), r_v]) Try.func15 bd15_o nm15_o rfl) (RMay_ok w6 g g_v (r_g_v).ro r r_v (r_r_v).ro) ?_
 intro w11 hb12
 replace hb12 := chg_below hb12 g9
 refine lv (Value.int .i64 (rmayR g r)) rfl (e_assign rfl) ?_
 refine l_nil (run_seq (run_region rfl ?_))
 refine lv (Value.int .i64 (rmayR g r)) rfl (e_move rfl) ?_
 refine lv (Value.bool (!(decide ((rmayR g r) = 0)))) rfl (e_neq (m := rmayR g r) (n := 0) rfl rfl) ?_
 refine l_nil ?_
 by_cases p2 : (rmayR g r) = 0
 ·
  obtain ⟨hm, hrp⟩ := rmay_ok (by assumption)
  have hm0 := hm
  obtain ⟨hm1, hm2, hm3, hm4⟩ := hm0
  refine run_cond_f rfl (congrArg Bool.not (decide_eq_true p2)) ?_
  refine run_skip ?_
  refine run_seq (run_region rfl ?_)
  replace bx5 := bx5.chg hb12 (not_no _)
  refine lv (Value.agg (List.toArray [Value.int .i64 g.1, g_v])) rfl (e_load_bxN (ds := [Value.int .i64 g.1, g_v]) tp24_o rfl bx5 rfl rfl) ?_
  refine lv (keep_v) rfl (e_move rfl) ?_
  replace r_g_v := r_g_v.chg hb12 (not_no _)
  have C13 : Chg (inl []) _ _ _ _ := (ch2.n).seq ((ch7.n).seq (hb12.n))
  replace r_keep_v := r_keep_v.chg C13 (is_nl rfl)
  refine l_op rfl ?_
  refine o_callx (e_call (vals := [Value.agg (List.toArray [Value.int .i64 g.1, g_v]), keep_v]) Try.func91 bd91_o nm91_o rfl) (Sub_ok w11 g g_v (r_g_v).ro keep keep_v (r_keep_v).ro) ?_
  rintro ⟨d15, v17⟩ w14 ⟨fr16, o18⟩
  obtain ⟨g19, hg19⟩ : ∃ q, q = glue w11.heap.size g9 d15 (fun n => if n = 1 then 3 else 0) := ⟨_, rfl⟩
  have ch20 := chg_glue fr16.below g9 d15 (fun n => if n = 1 then 3 else 0)
  rw [← hg19] at ch20
  replace o18 := o18.glue (γ := g9) (ren := (fun n => if n = 1 then 3 else 0)) (k := 3) fr16.col rfl rfl
  rw [← hg19] at o18
  clear hg19
  refine lv (Value.tuple (List.toArray [Value.agg (List.toArray [Value.int .i64 (((subR g keep).1).1), v17]), Value.int .i64 ((subR g keep).2)])) rfl (e_move rfl) ?_
  refine lv (Value.agg (List.toArray [Value.int .i64 (((subR g keep).1).1), v17])) rfl (e_extract rfl rfl) ?_
  refine lv (Value.int .i64 ((subR g keep).2)) rfl (e_extract rfl rfl) ?_
  refine l_op rfl ?_
  refine o_alloc g19 (is 4) (4, 0) rfl tp24_o ?_
  intro g24 w21 b23 ch22 bx25
  replace bx25 : Bx g24 (is 4) w21 b23 [Value.int .i64 0, Value.slice none 0 0] := bx25
  refine l_op rfl ?_
  replace o18 := o18.chg ch22 (not_no _) (not_no _)
  refine o_store_bx (cs' := [Value.int .i64 (((subR g keep).1).1), v17]) tp24_o rfl rfl bx25 rfl (Nat.le_of_ble_eq_true rfl) (AllOne.all (.cons rfl (.cons (sl_one o18.flat) .nil))) rfl ?_
  intro w26 ch27 bx28
  clear bx25
  refine lv (Value.int .i64 ((subR g keep).2)) rfl (e_assign rfl) ?_
  refine l_nil (run_seq (run_seq (run_region rfl ?_)))
  refine lv (Value.int .i64 ((subR g keep).2)) rfl (e_move rfl) ?_
  refine lv (Value.bool (!(decide (((subR g keep).2) = 0)))) rfl (e_neq (m := (subR g keep).2) (n := 0) rfl rfl) ?_
  refine l_nil ?_
  by_cases p5 : ((subR g keep).2) = 0
  ·
   obtain ⟨_, hch0, hse⟩ := subR_ok (by assumption)
   have hch := chosenS_ok hch0
   refine run_cond_f rfl (congrArg Bool.not (decide_eq_true p5)) ?_
   refine run_skip ?_
   refine run_seq (run_region rfl ?_)
   refine lv (Value.pointer (some ⟨b3, 1, none⟩)) rfl (e_fieldAddr Try.underlying24 rfl rfl rfl rfl) ?_
   have C29 : Chg (inl [4]) _ _ _ _ := (ch20.n).seq ((ch22.n).seq (ch27.l rfl))
   replace bx5 := bx5.chg C29 (is_nl rfl)
   refine lv (g_v) rfl (e_load_bx1 tp22_o rfl bx5 rfl) ?_
   replace r_g_v := r_g_v.chg C29 (is_nl rfl)
   have len30 := (r_g_v).small
   refine lv (Value.int .i64 (List.length g.2 : Int)) rfl (e_len Try.underlying22 rfl r_g_v) ?_
   refine l_op rfl ?_
   refine o_make (α := Int) (l := (List.length g.2 : Int)) (cp := (List.length g.2 : Int)) g24 (is 5) (is 5) (5, 0) rfl (0 : Int) Try.underlying27 tp3_o rfl rfl rfl (by omega) (by omega) (by omega) (by omega) ?_
   intro g31 w32 v33 ch34 o35 _
   refine lv (v33) rfl (e_assign rfl) ?_
   refine l_nil (run_seq (run_seq ?_))
   clear bx5
   refine run_region rfl ?_
   refine lv (keep_v) rfl (e_move rfl) ?_
   have C36 : Chg (inl [4]) _ _ _ _ := (ch20.n).seq ((ch22.n).seq ((ch27.l rfl).seq (ch34.n)))
   replace r_keep_v := r_keep_v.chg C36 (is_nl rfl)
   have len37 := (r_keep_v).small
   refine lv (Value.int .i64 (List.length keep : Int)) rfl (e_len Try.underlying27 rfl r_keep_v) ?_
   refine lv (Value.int .i64 0) rfl (e_move rfl) ?_
   refine l_nil ?_
   refine run_block ?_
   refine run_loop (σ := Nat × (List Int) × Cmap) (fun ⟨i, to, gq⟩ f w => Base w0 gq w ∧ f 1 = r_v ∧ f 6 = Value.pointer (some ⟨b8, 0, none⟩) ∧ f 10 = Value.pointer (some ⟨b23, 0, none⟩) ∧ f 12 = v33 ∧ f 42 = keep_v ∧ f 43 = Value.int .i64 (List.length keep : Int) ∧ f 44 = Value.int .i64 (i : Int) ∧ Sl gq (is 0) w g_v g.2 ∧ Sl gq (is 0) w r_v r ∧ Sl gq (is 0) w keep_v keep ∧ Bx gq (is 2) w b8 [Value.int .i64 0, Value.slice none 0 0] ∧ Ow gq (is 3) (is 3) w v17 (((subR g keep).1).2) ∧ Bx gq (is 4) w b23 [Value.int .i64 (((subR g keep).1).1), v17] ∧ Ow gq (is 5) (is 5) w v33 to ∧ (i : Int) ≤ ((List.length keep : Int) : Int) ∧ (PosInv to keep (g.2.length : Int) i)) (fun ⟨i, to, gq⟩ => Int.toNat (((List.length keep : Int) : Int) - (i : Int))) (0, (List.replicate (Int.toNat (List.length g.2 : Int)) (0 : Int)), g31) ?_ ?_
   have C38 : Chg (inl [4]) _ _ _ _ := (ch2.n).seq ((ch7.n).seq ((hb12.n).seq ((ch20.n).seq ((ch22.n).seq ((ch27.l rfl).seq (ch34.n))))))
   replace hbase := hbase.chg C38 (is_nl rfl)
   replace r_g_v := r_g_v.chg ch34 (not_no _)
   have C39 : Chg (inl [4]) _ _ _ _ := (hb12.n).seq ((ch20.n).seq ((ch22.n).seq ((ch27.l rfl).seq (ch34.n))))
   replace r_r_v := r_r_v.chg C39 (is_nl rfl)
   replace bx10 := bx10.chg C39 (is_nl rfl)
   replace o18 := (o18.chg ch27 (is_ne rfl) (is_ne rfl)).chg ch34 (not_no _) (not_no _)
   replace bx28 := bx28.chg ch34 (not_no _)
   · exact ⟨hbase, rfl, rfl, rfl, rfl, rfl, rfl, rfl, r_g_v, r_r_v, r_keep_v, bx10, o18, bx28, o35, by omega, by (have h := PosInv.start keep (g.2.length : Int) (by omega); simpa using h)⟩
   clear r_g_v r_r_v r_keep_v bx10 o18 bx28 o35 hbase
   rintro ⟨i, to, g42⟩ f40 w41 ⟨hbase, zs1, zs6, zs10, zs12, zs42, zs43, zs44, r_g_v, r_r_v, r_keep_v, bx10, o18, bx28, o35, hle_i, hpi⟩ back9
   have htl := hpi.len
   refine run_seq (run_region rfl ?_)
   refine lv (Value.bool (decide ((i : Int) < (List.length keep : Int)))) rfl (e_lss (m := (i : Int)) (n := (List.length keep : Int)) (by exact zs44) (by exact zs43)) ?_
   refine l_nil (run_seq ?_)
   by_cases p9 : (i : Int) < (List.length keep : Int)
   ·
    refine run_cond_t rfl (decide_eq_true p9) ?_
    obtain ⟨hk1, hk2⟩ := hch.1 _ (gI_mem (xs := keep) (i := (i : Int)) (by omega) (by omega))
    refine run_skip ?_
    refine run_seq ?_
    refine run_block ?_
    refine run_seq (run_region rfl ?_)
    refine lv (Value.int .i64 (i : Int)) rfl (e_move (by exact zs44)) ?_
    refine lv (Value.pointer (some (eAddr keep_v 1 (Int.toNat (i : Int))))) rfl (e_indexAddr (α := Int) (xs := keep) (v := keep_v) (i := (i : Int)) Try.underlying27 rfl (by exact zs42) r_keep_v (by exact zs44) (by omega) (by omega)) ?_
    refine lv (Value.int .i64 (gI keep (i : Int))) rfl (e_load_el1 (α := Int) (xs := keep) (v := keep_v) (i := (i : Int)) tp3_o rfl r_keep_v (by omega) (by omega) (by decide) rfl) ?_
    refine lv (Value.int .i64 (i : Int)) rfl (e_assign rfl) ?_
    refine lv (Value.int .i64 (gI keep (i : Int))) rfl (e_assign rfl) ?_
    refine l_nil (run_region rfl ?_)
    refine lv (v33) rfl (e_move (by exact zs12)) ?_
    refine lv (Value.int .i64 (gI keep (i : Int))) rfl (e_move rfl) ?_
    refine lv (Value.int .i64 (i : Int)) rfl (e_move rfl) ?_
    refine lv (Value.int .i64 ((i : Int) + 1)) rfl (e_add (m := (i : Int)) (n := 1) rfl rfl (by omega)) ?_
    refine lv (Value.pointer (some (eAddr v33 1 (Int.toNat (gI keep (i : Int)))))) rfl (e_indexAddr (α := Int) (xs := to) (v := v33) (i := (gI keep (i : Int))) Try.underlying27 rfl rfl o35.flat rfl (by omega) (by omega)) ?_
    refine l_op rfl ?_
    refine o_store_el (i := (gI keep (i : Int))) ((i : Int) + 1) tp3_o rfl rfl o35 (by omega) (by omega) rfl ?_
    intro w43 ch44 bx45
    clear o35
    refine l_nil ?_
    refine run_inBlock ?_
    refine run_region rfl ?_
    refine lv (Value.int .i64 ((i : Int) + 1)) rfl (e_add (m := (i : Int)) (n := 1) (by exact zs44) rfl (by omega)) ?_
    refine lv (Value.int .i64 ((i : Int) + 1)) rfl (e_move rfl) ?_
    refine l_nil ?_
    replace hbase := hbase.chg ch44 (is_ne rfl)
    replace r_g_v := r_g_v.chg ch44 (is_ne rfl)
    replace r_r_v := r_r_v.chg ch44 (is_ne rfl)
    replace r_keep_v := r_keep_v.chg ch44 (is_ne rfl)
    replace bx10 := bx10.chg ch44 (is_ne rfl)
    replace o18 := o18.chg ch44 (is_ne rfl) (is_ne rfl)
    replace bx28 := bx28.chg ch44 (is_ne rfl)
    refine back9 (i + 1, (List.set to (Int.toNat (gI keep (i : Int))) ((i : Int) + 1)), g42) _ _ ⟨hbase, (by exact zs1), (by exact zs6), (by exact zs10), (by exact zs12), (by exact zs42), (by exact zs43), rfl, r_g_v, r_r_v, r_keep_v, bx10, o18, bx28, bx45, by omega, ?_⟩ ?_
    · show PosInv (List.set to (Int.toNat (gI keep (i : Int))) ((i : Int) + 1)) keep (g.2.length : Int) (i + 1)
      exact hpi.next (by omega) hk1 hk2 hch.2
    · show Int.toNat (((List.length keep : Int) : Int) - ((i + 1) : Int)) < Int.toNat (((List.length keep : Int) : Int) - (i : Int))
      omega
   refine run_cond_f rfl (decide_eq_false p9) ?_
   refine run_exit rfl ?_
   refine run_seq (run_region rfl ?_)
   refine lv (r_v) rfl (e_move (by exact zs1)) ?_
   have len46 := (r_r_v).small
   refine lv (Value.int .i64 (List.length r : Int)) rfl (e_len Try.underlying26 rfl r_r_v) ?_
   refine l_op rfl ?_
   refine o_make_nst (α := Int) (n := (List.length r : Int)) (cp := (List.length r : Int)) g42 6 Try.underlying26 tp27_o rfl rfl rfl (by omega) (by omega) (by omega) (by omega) ?_
   intro g47 w48 v49 ch50 o51
   refine lv (v49) rfl (e_assign rfl) ?_
   refine l_nil (run_seq (run_seq (run_region rfl ?_)))
   refine lv (r_v) rfl (e_move (by exact zs1)) ?_
   replace r_r_v := r_r_v.chg ch50 (not_no _)
   refine lv (Value.int .i64 (List.length r : Int)) rfl (e_len Try.underlying26 rfl r_r_v) ?_
   refine lv (Value.int .i64 0) rfl (e_move rfl) ?_
   refine l_nil ?_
   refine run_block ?_
   refine run_loop (σ := Nat × (List (List Int)) × Cmap) (fun ⟨v, out, gq⟩ f w => Base w0 gq w ∧ f 6 = Value.pointer (some ⟨b8, 0, none⟩) ∧ f 10 = Value.pointer (some ⟨b23, 0, none⟩) ∧ f 12 = v33 ∧ f 15 = v49 ∧ f 58 = r_v ∧ f 59 = Value.int .i64 (List.length r : Int) ∧ f 60 = Value.int .i64 (v : Int) ∧ Sl gq (is 0) w g_v g.2 ∧ Sl gq (is 0) w r_v r ∧ Sl gq (is 0) w keep_v keep ∧ Bx gq (is 2) w b8 [Value.int .i64 0, Value.slice none 0 0] ∧ Ow gq (is 3) (is 3) w v17 (((subR g keep).1).2) ∧ Bx gq (is 4) w b23 [Value.int .i64 (((subR g keep).1).1), v17] ∧ Ow gq (is 5) (is 5) w v33 to ∧ Nst gq 6 w v49 out ∧ (v : Int) ≤ ((List.length r : Int) : Int) ∧ (SubInv out keep r v 0)) (fun ⟨v, out, gq⟩ => Int.toNat (((List.length r : Int) : Int) - (v : Int))) (0, (List.replicate (Int.toNat (List.length r : Int)) []), g47) ?_ ?_
   replace hbase := hbase.chg ch50 (not_no _)
   replace r_g_v := r_g_v.chg ch50 (not_no _)
   replace r_keep_v := r_keep_v.chg ch50 (not_no _)
   replace bx10 := bx10.chg ch50 (not_no _)
   replace o18 := o18.chg ch50 (not_no _) (not_no _)
   replace bx28 := bx28.chg ch50 (not_no _)
   replace o35 := o35.chg ch50 (not_no _) (not_no _)
   · exact ⟨hbase, (by exact zs6), (by exact zs10), (by exact zs12), rfl, rfl, rfl, rfl, r_g_v, r_r_v, r_keep_v, bx10, o18, bx28, o35, o51, by omega, by exact SubInv.start keep r⟩
   clear r_g_v r_r_v r_keep_v bx10 o18 bx28 o35 o51 hbase
   rintro ⟨v, out, g54⟩ f52 w53 ⟨hbase, zs6, zs10, zs12, zs15, zs58, zs59, zs60, r_g_v, r_r_v, r_keep_v, bx10, o18, bx28, o35, o51, hle_v, hinv⟩ back15
   have hol := hinv.len
   have hpk : (List.take i keep) = keep := List.take_of_length_le (by omega)
   refine run_seq (run_region rfl ?_)
   refine lv (Value.bool (decide ((v : Int) < (List.length r : Int)))) rfl (e_lss (m := (v : Int)) (n := (List.length r : Int)) (by exact zs60) (by exact zs59)) ?_
   refine l_nil (run_seq ?_)
   by_cases p15 : (v : Int) < (List.length r : Int)
   ·
    refine run_cond_t rfl (decide_eq_true p15) ?_
    refine run_skip ?_
    refine run_seq ?_
    refine run_block ?_
    refine run_seq (run_region rfl ?_)
    refine lv (Value.int .i64 (v : Int)) rfl (e_move (by exact zs60)) ?_
    refine lv (Value.pointer (some (eAddr r_v 1 (Int.toNat (v : Int))))) rfl (e_indexAddr (α := List Int) (xs := r) (v := r_v) (i := (v : Int)) Try.underlying26 rfl (by exact zs58) r_r_v (by exact zs60) (by omega) (by omega)) ?_
    obtain ⟨v55, cel56, r57⟩ := sl_row (r := (v : Int)) r_r_v (by omega) (by omega)
    refine lv (v55) rfl (e_load1 tp27_o rfl cel56) ?_
    refine lv (Value.int .i64 (v : Int)) rfl (e_assign rfl) ?_
    refine lv (v55) rfl (e_assign rfl) ?_
    refine l_nil (run_seq (run_region rfl ?_))
    refine lv (v55) rfl (e_move rfl) ?_
    have len58 := (r57).small
    refine lv (Value.int .i64 (List.length (gI r (v : Int)) : Int)) rfl (e_len Try.underlying27 rfl r57) ?_
    refine lv (Value.int .i64 0) rfl (e_move rfl) ?_
    refine l_nil ?_
    refine run_block ?_
    refine run_loop (σ := Nat × (List (List Int)) × Cmap) (fun ⟨j, out, gq⟩ f w => Base w0 gq w ∧ f 6 = Value.pointer (some ⟨b8, 0, none⟩) ∧ f 10 = Value.pointer (some ⟨b23, 0, none⟩) ∧ f 12 = v33 ∧ f 15 = v49 ∧ f 16 = Value.int .i64 (v : Int) ∧ f 58 = r_v ∧ f 59 = Value.int .i64 (List.length r : Int) ∧ f 60 = Value.int .i64 (v : Int) ∧ f 65 = v55 ∧ f 66 = Value.int .i64 (List.length (gI r (v : Int)) : Int) ∧ f 67 = Value.int .i64 (j : Int) ∧ Sl gq (is 0) w g_v g.2 ∧ Sl gq (is 0) w r_v r ∧ Sl gq (is 0) w keep_v keep ∧ Bx gq (is 2) w b8 [Value.int .i64 0, Value.slice none 0 0] ∧ Ow gq (is 3) (is 3) w v17 (((subR g keep).1).2) ∧ Bx gq (is 4) w b23 [Value.int .i64 (((subR g keep).1).1), v17] ∧ Ow gq (is 5) (is 5) w v33 to ∧ Nst gq 6 w v49 out ∧ Sl gq (is 0) w v55 (gI r (v : Int)) ∧ (j : Int) ≤ ((List.length (gI r (v : Int)) : Int) : Int) ∧ (SubInv out keep r v j)) (fun ⟨j, out, gq⟩ => Int.toNat (((List.length (gI r (v : Int)) : Int) : Int) - (j : Int))) (0, out, g54) ?_ ?_
    · exact ⟨hbase, (by exact zs6), (by exact zs10), (by exact zs12), (by exact zs15), rfl, (by exact zs58), (by exact zs59), (by exact zs60), rfl, rfl, rfl, r_g_v, r_r_v, r_keep_v, bx10, o18, bx28, o35, o51, r57, by omega, by exact hinv⟩
    clear r_g_v r_r_v r_keep_v bx10 o18 bx28 o35 o51 r57 hbase
    rintro ⟨j, out, g61⟩ f59 w60 ⟨hbase, zs6, zs10, zs12, zs15, zs16, zs58, zs59, zs60, zs65, zs66, zs67, r_g_v, r_r_v, r_keep_v, bx10, o18, bx28, o35, o51, r57, hle_j, hin⟩ back18
    have hol := hin.len
    have hbd := hin.bd (by assumption)
    refine run_seq (run_region rfl ?_)
    refine lv (Value.bool (decide ((j : Int) < (List.length (gI r (v : Int)) : Int)))) rfl (e_lss (m := (j : Int)) (n := (List.length (gI r (v : Int)) : Int)) (by exact zs67) (by exact zs66)) ?_
    refine l_nil (run_seq ?_)
    by_cases p18 : (j : Int) < (List.length (gI r (v : Int)) : Int)
    ·
     refine run_cond_t rfl (decide_eq_true p18) ?_
     obtain ⟨hh1, hh2⟩ := (hrp.2.1 v (by omega) _ (gI_mem (xs := gI r (v : Int)) (i := (j : Int)) (by omega) (by assumption))).1
     have hto := hpi.pos (gI (gI r (v : Int)) (j : Int) / 2) (by omega) (by omega)
     rw [hpk] at hto
     have hple := posS_le keep (gI (gI r (v : Int)) (j : Int) / 2)
     have hpnn := posS_nonneg keep (gI (gI r (v : Int)) (j : Int) / 2)
     have hkl := nodup_le (n := (g.2.length : Int)) (by omega) hch.2 hch.1
     refine run_skip ?_
     refine run_seq ?_
     refine run_block ?_
     refine run_seq (run_region rfl ?_)
     refine lv (Value.pointer (some (eAddr v55 1 (Int.toNat (j : Int))))) rfl (e_indexAddr (α := Int) (xs := gI r (v : Int)) (v := v55) (i := (j : Int)) Try.underlying27 rfl (by exact zs65) r57 (by exact zs67) (by omega) (by omega)) ?_
     refine lv (Value.int .i64 (gI (gI r (v : Int)) (j : Int))) rfl (e_load_el1 (α := Int) (xs := gI r (v : Int)) (v := v55) (i := (j : Int)) tp3_o rfl r57 (by omega) (by omega) (by decide) rfl) ?_
     refine lv (Value.int .i64 (gI (gI r (v : Int)) (j : Int))) rfl (e_assign rfl) ?_
     refine l_nil (run_seq (run_region rfl ?_))
     refine lv (v33) rfl (e_move (by exact zs12)) ?_
     refine lv (Value.int .i64 (gI (gI r (v : Int)) (j : Int))) rfl (e_move rfl) ?_
     refine lv (Value.int .i64 ((gI (gI r (v : Int)) (j : Int)) / 2)) rfl (e_quo (m := (gI (gI r (v : Int)) (j : Int))) (n := 2) rfl rfl (by omega) (by omega) (by omega)) ?_
     refine lv (Value.pointer (some (eAddr v33 1 (Int.toNat ((gI (gI r (v : Int)) (j : Int)) / 2))))) rfl (e_indexAddr (α := Int) (xs := to) (v := v33) (i := (gI (gI r (v : Int)) (j : Int)) / 2) Try.underlying27 rfl rfl o35.flat rfl (by omega) (by omega)) ?_
     refine lv (Value.int .i64 (gI to ((gI (gI r (v : Int)) (j : Int)) / 2))) rfl (e_load_el1 (α := Int) (xs := to) (v := v33) (i := (gI (gI r (v : Int)) (j : Int)) / 2) tp3_o rfl o35.flat (by omega) (by omega) (by decide) rfl) ?_
     refine lv (Value.int .i64 (gI to ((gI (gI r (v : Int)) (j : Int)) / 2))) rfl (e_assign rfl) ?_
     refine l_nil (run_seq (run_region rfl ?_))
     refine lv (Value.int .i64 (gI to ((gI (gI r (v : Int)) (j : Int)) / 2))) rfl (e_move rfl) ?_
     refine lv (Value.bool (decide (0 < (gI to ((gI (gI r (v : Int)) (j : Int)) / 2))))) rfl (e_gtr (m := (gI to ((gI (gI r (v : Int)) (j : Int)) / 2))) (n := 0) rfl rfl) ?_
     refine l_nil ?_
     by_cases p21 : 0 < (gI to ((gI (gI r (v : Int)) (j : Int)) / 2))
     ·
      refine run_cond_t rfl (decide_eq_true p21) ?_
      refine run_region rfl ?_
      refine lv (v49) rfl (e_move (by exact zs15)) ?_
      refine lv (Value.int .i64 (v : Int)) rfl (e_move (by exact zs16)) ?_
      refine lv (v49) rfl (e_move (by exact zs15)) ?_
      refine lv (Value.int .i64 (v : Int)) rfl (e_move (by exact zs16)) ?_
      refine lv (Value.pointer (some (eAddr v49 1 (Int.toNat (v : Int))))) rfl (e_indexAddr (α := List Int) (xs := out) (v := v49) (i := (v : Int)) Try.underlying26 rfl rfl o51.sl rfl (by omega) (by omega)) ?_
      obtain ⟨v62, cel63, r64⟩ := nst_row (r := (v : Int)) o51 (by omega) (by omega)
      refine lv (v62) rfl (e_load1 tp27_o rfl cel63) ?_
      refine lv (Value.int .i64 (gI to ((gI (gI r (v : Int)) (j : Int)) / 2))) rfl (e_move rfl) ?_
      refine lv (Value.int .i64 ((gI to ((gI (gI r (v : Int)) (j : Int)) / 2)) - 1)) rfl (e_sub (m := (gI to ((gI (gI r (v : Int)) (j : Int)) / 2))) (n := 1) rfl rfl (by omega)) ?_
      refine lv (Value.int .i64 (2 * ((gI to ((gI (gI r (v : Int)) (j : Int)) / 2)) - 1))) rfl (e_mul (m := 2) (n := (gI to ((gI (gI r (v : Int)) (j : Int)) / 2)) - 1) rfl rfl (by omega)) ?_
      refine lv (Value.int .i64 (gI (gI r (v : Int)) (j : Int))) rfl (e_move rfl) ?_
      refine lv (Value.int .i64 ((gI (gI r (v : Int)) (j : Int)) % 2)) rfl (e_rem (m := (gI (gI r (v : Int)) (j : Int))) (n := 2) rfl rfl (by omega) (by omega)) ?_
      refine lv (Value.int .i64 ((2 * ((gI to ((gI (gI r (v : Int)) (j : Int)) / 2)) - 1)) + ((gI (gI r (v : Int)) (j : Int)) % 2))) rfl (e_add (m := 2 * ((gI to ((gI (gI r (v : Int)) (j : Int)) / 2)) - 1)) (n := (gI (gI r (v : Int)) (j : Int)) % 2) rfl rfl (by omega)) ?_
      refine l_op rfl ?_
      refine o_buildSlice (α := Int) g61 (is 7) (is 7) (7, 0) rfl [(2 * ((gI to ((gI (gI r (v : Int)) (j : Int)) / 2)) - 1)) + ((gI (gI r (v : Int)) (j : Int)) % 2)] Try.underlying27 tp3_o (by decide) (by decide) (vs := [(0, Value.int .i64 ((2 * ((gI to ((gI (gI r (v : Int)) (j : Int)) / 2)) - 1)) + ((gI (gI r (v : Int)) (j : Int)) % 2)))]) rfl rfl (.cons rfl .nil) ?_
      intro g65 w66 v67 ch68 o69
      refine l_op rfl ?_
      replace o51 := o51.chg ch68 (not_no _)
      replace r64 := r64.chg ch68 (not_no _) (not_no _)
      refine o_append (α := Int) (xs := (gI out (v : Int))) (ys := ([(2 * ((gI to ((gI (gI r (v : Int)) (j : Int)) / 2)) - 1)) + ((gI (gI r (v : Int)) (j : Int)) % 2)])) g65 (J := row 6 (Int.toNat (v : Int) + 1)) (S := row 6 (Int.toNat (v : Int) + 1)) (6, Int.toNat (v : Int) + 1) rfl Try.underlying27 tp3_o (by decide) rfl rfl rfl r64 o69.flat (by decide) (by first | omega | (simp; done) | (simp; omega)) ?_
      intro g70 w71 v72 ch73 o74
      have o75 := o51.rowchg ch73
      clear o51 cel63 r64
      obtain ⟨us76, hl77, r78⟩ := o75.vc
      try simp only [List.length_set, List.length_append, List.length_cons, List.length_nil] at hl77
      refine lv (Value.pointer (some (eAddr v49 1 (Int.toNat (v : Int))))) rfl (e_indexAddr (α := Vc) (xs := us76) (v := v49) (i := (v : Int)) Try.underlying26 rfl rfl r78 rfl (by omega) (by omega)) ?_
      refine l_op rfl ?_
      refine o_store_row (r := (v : Int)) tp27_o rfl rfl o75 o74 (by omega) (by omega) ?_
      intro w82 ch83 o84
      clear o75 o74
      refine l_nil ?_
      refine run_inBlock ?_
      clear o69
      refine run_region rfl ?_
      refine lv (Value.int .i64 ((j : Int) + 1)) rfl (e_add (m := (j : Int)) (n := 1) (by exact zs67) rfl (by omega)) ?_
      refine lv (Value.int .i64 ((j : Int) + 1)) rfl (e_move rfl) ?_
      refine l_nil ?_
      have C85 : Chg (inl [6]) _ _ _ _ := (ch68.n).seq ((ch73.lr rfl).seq (ch83.l rfl))
      replace hbase := hbase.chg C85 (is_nl rfl)
      replace r_g_v := r_g_v.chg C85 (is_nl rfl)
      replace r_r_v := r_r_v.chg C85 (is_nl rfl)
      replace r_keep_v := r_keep_v.chg C85 (is_nl rfl)
      replace bx10 := bx10.chg C85 (is_nl rfl)
      replace o18 := o18.chg C85 (is_nl rfl) (is_nl rfl)
      replace bx28 := bx28.chg C85 (is_nl rfl)
      replace o35 := o35.chg C85 (is_nl rfl) (is_nl rfl)
      replace r57 := r57.chg C85 (is_nl rfl)
      refine back18 (j + 1, (List.set out (Int.toNat (v : Int)) (gI out (v : Int) ++ [(2 * ((gI to ((gI (gI r (v : Int)) (j : Int)) / 2)) - 1)) + ((gI (gI r (v : Int)) (j : Int)) % 2)])), g70) _ _ ⟨hbase, (by exact zs6), (by exact zs10), (by exact zs12), (by exact zs15), (by exact zs16), (by exact zs58), (by exact zs59), (by exact zs60), (by exact zs65), (by exact zs66), rfl, r_g_v, r_r_v, r_keep_v, bx10, o18, bx28, o35, o84, r57, by omega, ?_⟩ ?_
      · show SubInv (List.set out (Int.toNat (v : Int)) (gI out (v : Int) ++ [(2 * ((gI to ((gI (gI r (v : Int)) (j : Int)) / 2)) - 1)) + ((gI (gI r (v : Int)) (j : Int)) % 2)])) keep r v (j + 1)
        first
          | (have h1 := hin.yes (by assumption) (by assumption) (by rw [← hto]; assumption)
             rw [← hto] at h1
             exact h1)
          | exact hin.no (by assumption) (by rw [← hto]; assumption)
      · show Int.toNat (((List.length (gI r (v : Int)) : Int) : Int) - ((j + 1) : Int)) < Int.toNat (((List.length (gI r (v : Int)) : Int) : Int) - (j : Int))
        omega
     refine run_cond_f rfl (decide_eq_false p21) ?_
     refine run_skip ?_
     refine run_inBlock ?_
     refine run_region rfl ?_
     refine lv (Value.int .i64 ((j : Int) + 1)) rfl (e_add (m := (j : Int)) (n := 1) (by exact zs67) rfl (by omega)) ?_
     refine lv (Value.int .i64 ((j : Int) + 1)) rfl (e_move rfl) ?_
     refine l_nil ?_
     refine back18 (j + 1, out, g61) _ _ ⟨hbase, (by exact zs6), (by exact zs10), (by exact zs12), (by exact zs15), (by exact zs16), (by exact zs58), (by exact zs59), (by exact zs60), (by exact zs65), (by exact zs66), rfl, r_g_v, r_r_v, r_keep_v, bx10, o18, bx28, o35, o51, r57, by omega, ?_⟩ ?_
     · show SubInv out keep r v (j + 1)
       first
         | (have h1 := hin.yes (by assumption) (by assumption) (by rw [← hto]; assumption)
            rw [← hto] at h1
            exact h1)
         | exact hin.no (by assumption) (by rw [← hto]; assumption)
     · show Int.toNat (((List.length (gI r (v : Int)) : Int) : Int) - ((j + 1) : Int)) < Int.toNat (((List.length (gI r (v : Int)) : Int) : Int) - (j : Int))
       omega
    refine run_cond_f rfl (decide_eq_false p18) ?_
    refine run_exit rfl ?_
    refine run_inBlock ?_
    clear r57
    refine run_region rfl ?_
    refine lv (Value.int .i64 ((v : Int) + 1)) rfl (e_add (m := (v : Int)) (n := 1) (by exact zs60) rfl (by omega)) ?_
    refine lv (Value.int .i64 ((v : Int) + 1)) rfl (e_move rfl) ?_
    refine l_nil ?_
    refine back15 (v + 1, out, g61) _ _ ⟨hbase, (by exact zs6), (by exact zs10), (by exact zs12), (by exact zs15), (by exact zs58), (by exact zs59), rfl, r_g_v, r_r_v, r_keep_v, bx10, o18, bx28, o35, o51, by omega, ?_⟩ ?_
    · show SubInv out keep r (v + 1) 0
      exact hin.row_done (by assumption) (by assumption)
    · show Int.toNat (((List.length r : Int) : Int) - ((v + 1) : Int)) < Int.toNat (((List.length r : Int) : Int) - (v : Int))
      omega
   refine run_cond_f rfl (decide_eq_false p15) ?_
   refine run_exit rfl ?_
   refine run_seq ?_
   clear o35
   refine run_region_h g54 (inl [2]) mixed_o ?_
   intro w87 ch86
   replace bx28 := bx28.chg ch86 (not_no _)
   refine h_take (v := Value.agg (List.toArray [Value.int .i64 (((subR g keep).1).1), v17])) 0 rfl (by kernel_rfl) (by kernel_rfl) rfl (Chg.refl _ _ _) (fun w' hw' => e_load_bxN (ds := [Value.int .i64 (((subR g keep).1).1), v17]) tp24_o (by exact zs10) (bx28.chg hw' (is_nl rfl)) rfl rfl) ?_
   refine h_take (v := v49) 1 rfl (by kernel_rfl) (by kernel_rfl) rfl (Chg.refl _ _ _) (fun w' hw' => e_move (by exact zs15)) ?_
   refine h_one 2 rfl (by kernel_rfl) rfl ?_
   replace o51 := o51.chg ch86 (not_no _)
   refine o_callx (e_call (vals := [v49]) Try.func89 bd89_o nm89_o rfl) (canon_ok w87 out v49 (o51.sl).ro) ?_
   rintro ⟨d89, v91⟩ w88 ⟨fr90, o92⟩
   obtain ⟨g93, hg93⟩ : ∃ q, q = glue w87.heap.size g54 d89 (fun n => if n = 1 then 8 else 0) := ⟨_, rfl⟩
   have ch94 := chg_glue fr90.below g54 d89 (fun n => if n = 1 then 8 else 0)
   rw [← hg93] at ch94
   replace o92 := o92.glue (γ := g54) (ren := (fun n => if n = 1 then 8 else 0)) (k := 8) fr90.col rfl rfl
   rw [← hg93] at o92
   clear hg93
   have hs95 : Chg (inl [2]) _ _ _ _ := ch94.n
   refine ⟨hs95.same, ?_⟩
   refine h_one 3 rfl (by kernel_rfl) rfl ?_
   replace bx10 := (bx10.chg ch86 (not_no _)).chg ch94 (not_no _)
   replace o18 := o18.chg ch86 (not_no _) (not_no _)
   refine o_store_bx (cs' := [Value.int .i64 (((subR g keep).1).1), v17]) tp24_o (by exact zs6) rfl bx10 rfl (Nat.le_of_ble_eq_true rfl) (AllOne.all (.cons rfl (.cons (sl_one (o18.chg hs95 (is_nl rfl) (is_nl rfl)).flat) .nil))) rfl ?_
   intro w96 ch97 bx98
   clear bx10
   have hs99 := hs95.seq (ch97.l rfl)
   refine ⟨hs99.same, ?_⟩
   refine h_take (v := v91) 4 rfl (by kernel_rfl) (by kernel_rfl) rfl hs99.same (fun w' hw' => e_assign rfl) ?_
   refine h_take (v := Value.int .i64 0) 5 rfl (by kernel_rfl) (by kernel_rfl) rfl hs99.same (fun w' hw' => e_assign rfl) ?_
   refine h_nil (by kernel_rfl) ?_
   refine run_ret (vs := [Value.agg (List.toArray [Value.int .i64 (((subR g keep).1).1), v17]), v91, Value.int .i64 0]) Try.func61 (.cell (by exact zs6) (load_bxN (ds := [Value.int .i64 (((subR g keep).1).1), v17]) tp24_o bx98 rfl rfl) (.tmp rfl (.tmp rfl .nil))) ?_
   have C100 : Chg (inl [2]) _ _ _ _ := (ch86.n).seq ((ch94.n).seq (ch97.l rfl))
   replace hbase := hbase.chg C100 (is_nl rfl)
   replace o18 := (o18.chg ch94 (not_no _) (not_no _)).chg ch97 (is_ne rfl) (is_ne rfl)
   replace o92 := o92.chg ch97 (is_ne rfl)
   have e0 : (((subR g keep).1) : (Int) × (List ((Int) × (Int)))) = ((rsubR g r keep).1) := by
     first
       | (simp only [rsubR, if_neg (show ¬ rmayR g r = 0 by assumption)]; done)
       | (simp only [rsubR, if_pos (show rmayR g r = 0 by assumption), if_neg (show ¬ (subR g keep).2 = 0 by assumption)]; done)
       | (simp only [rsubR, if_pos (show rmayR g r = 0 by assumption), if_pos (show (subR g keep).2 = 0 by assumption)]; done)
       | (simp only [rsubR, if_pos (show rmayR g r = 0 by assumption), if_pos (show (subR g keep).2 = 0 by assumption), hinv.done (by assumption)]; done)
   have e1 : (canonS out : List (List Int)) = ((rsubR g r keep).2.1) := by
     first
       | (simp only [rsubR, if_neg (show ¬ rmayR g r = 0 by assumption)]; done)
       | (simp only [rsubR, if_pos (show rmayR g r = 0 by assumption), if_neg (show ¬ (subR g keep).2 = 0 by assumption)]; done)
       | (simp only [rsubR, if_pos (show rmayR g r = 0 by assumption), if_pos (show (subR g keep).2 = 0 by assumption)]; done)
       | (simp only [rsubR, if_pos (show rmayR g r = 0 by assumption), if_pos (show (subR g keep).2 = 0 by assumption), hinv.done (by assumption)]; done)
   have e2 : (0 : Int) = ((rsubR g r keep).2.2) := by
     first
       | (simp only [rsubR, if_neg (show ¬ rmayR g r = 0 by assumption)]; done)
       | (simp only [rsubR, if_pos (show rmayR g r = 0 by assumption), if_neg (show ¬ (subR g keep).2 = 0 by assumption)]; done)
       | (simp only [rsubR, if_pos (show rmayR g r = 0 by assumption), if_pos (show (subR g keep).2 = 0 by assumption)]; done)
       | (simp only [rsubR, if_pos (show rmayR g r = 0 by assumption), if_pos (show (subR g keep).2 = 0 by assumption), hinv.done (by assumption)]; done)
   exact ⟨(fin w0 g93 (fun n => if n = 3 then 1 else if n = 8 then 2 else 0), v17, v91), (congr3 (a := ((subR g keep).1)) (b := canonS out) (c := 0) (fun (z0 : (Int) × (List ((Int) × (Int)))) (z1 : List (List Int)) (z2 : Int) => Ending.returned (Value.tuple (List.toArray [Value.agg (List.toArray [Value.int .i64 z0.1, v17]), v91, Value.int .i64 z2]))) e0 e1 e2), hbase.fresh _, ((congrArg (fun (z : (Int) × (List ((Int) × (Int)))) => z.2) e0) ▸ (o18.glue (γ := c0) (ren := (fun n => if n = 3 then 1 else if n = 8 then 2 else 0)) (k := 1) hbase.col rfl rfl)), (e1 ▸ (o92.glue (γ := c0) (ren := (fun n => if n = 3 then 1 else if n = 8 then 2 else 0)) (k := 2) hbase.col rfl rfl))⟩
  refine run_cond_t rfl (congrArg Bool.not (decide_eq_false p5)) ?_
  refine run_seq ?_
  clear bx5 o18 bx28
  refine run_region rfl ?_
  refine lv (Value.agg (List.toArray [Value.int .i64 0, Value.slice none 0 0])) rfl (e_build (vs := []) rfl (by kernel_rfl)) ?_
  refine lv (Value.int .i64 ((subR g keep).2)) rfl (e_move rfl) ?_
  refine l_op rfl ?_
  have C104 : Chg (inl [4]) _ _ _ _ := (hb12.n).seq ((ch20.n).seq ((ch22.n).seq (ch27.l rfl)))
  replace bx10 := bx10.chg C104 (is_nl rfl)
  refine o_store_bx (cs' := [Value.int .i64 0, Value.slice none 0 0]) tp24_o rfl rfl bx10 rfl (Nat.le_of_ble_eq_true rfl) (AllOne.all (.cons rfl (.cons rfl .nil))) rfl ?_
  intro w101 ch102 bx103
  clear bx10
  refine lv (Value.slice none 0 0) rfl (e_assign rfl) ?_
  refine lv (Value.int .i64 ((subR g keep).2)) rfl (e_assign rfl) ?_
  refine l_nil ?_
  refine run_ret (vs := [Value.agg (List.toArray [Value.int .i64 0, Value.slice none 0 0]), Value.slice none 0 0, Value.int .i64 ((subR g keep).2)]) Try.func61 (.cell rfl (load_bxN (ds := [Value.int .i64 0, Value.slice none 0 0]) tp24_o bx103 rfl rfl) (.tmp rfl (.tmp rfl .nil))) ?_
  have C105 : Chg (inl [2, 4]) _ _ _ _ := (ch2.n).seq ((ch7.n).seq ((hb12.n).seq ((ch20.n).seq ((ch22.n).seq ((ch27.l rfl).seq (ch102.l rfl))))))
  replace hbase := hbase.chg C105 (is_nl rfl)
  have e0 : ((0, []) : (Int) × (List ((Int) × (Int)))) = ((rsubR g r keep).1) := by
    first
      | (simp only [rsubR, if_neg (show ¬ rmayR g r = 0 by assumption)]; done)
      | (simp only [rsubR, if_pos (show rmayR g r = 0 by assumption), if_neg (show ¬ (subR g keep).2 = 0 by assumption)]; done)
      | (simp only [rsubR, if_pos (show rmayR g r = 0 by assumption), if_pos (show (subR g keep).2 = 0 by assumption)]; done)
      | (simp only [rsubR, if_pos (show rmayR g r = 0 by assumption), if_pos (show (subR g keep).2 = 0 by assumption), hinv.done (by assumption)]; done)
  have e1 : ([] : List (List Int)) = ((rsubR g r keep).2.1) := by
    first
      | (simp only [rsubR, if_neg (show ¬ rmayR g r = 0 by assumption)]; done)
      | (simp only [rsubR, if_pos (show rmayR g r = 0 by assumption), if_neg (show ¬ (subR g keep).2 = 0 by assumption)]; done)
      | (simp only [rsubR, if_pos (show rmayR g r = 0 by assumption), if_pos (show (subR g keep).2 = 0 by assumption)]; done)
      | (simp only [rsubR, if_pos (show rmayR g r = 0 by assumption), if_pos (show (subR g keep).2 = 0 by assumption), hinv.done (by assumption)]; done)
  have e2 : ((subR g keep).2 : Int) = ((rsubR g r keep).2.2) := by
    first
      | (simp only [rsubR, if_neg (show ¬ rmayR g r = 0 by assumption)]; done)
      | (simp only [rsubR, if_pos (show rmayR g r = 0 by assumption), if_neg (show ¬ (subR g keep).2 = 0 by assumption)]; done)
      | (simp only [rsubR, if_pos (show rmayR g r = 0 by assumption), if_pos (show (subR g keep).2 = 0 by assumption)]; done)
      | (simp only [rsubR, if_pos (show rmayR g r = 0 by assumption), if_pos (show (subR g keep).2 = 0 by assumption), hinv.done (by assumption)]; done)
  exact ⟨(fin w0 g24 (fun n => 0), (Value.slice none 0 0), (Value.slice none 0 0)), (congr3 (a := (0, [])) (b := []) (c := (subR g keep).2) (fun (z0 : (Int) × (List ((Int) × (Int)))) (z1 : List (List Int)) (z2 : Int) => Ending.returned (Value.tuple (List.toArray [Value.agg (List.toArray [Value.int .i64 z0.1, Value.slice none 0 0]), Value.slice none 0 0, Value.int .i64 z2]))) e0 e1 e2), hbase.fresh _, ((congrArg (fun (z : (Int) × (List ((Int) × (Int)))) => z.2) e0) ▸ Ow.nil), (e1 ▸ Nst.nil)⟩
 refine run_cond_t rfl (congrArg Bool.not (decide_eq_false p2)) ?_
 refine run_seq ?_
 clear bx5
 refine run_region rfl ?_
 refine lv (Value.agg (List.toArray [Value.int .i64 0, Value.slice none 0 0])) rfl (e_build (vs := []) rfl (by kernel_rfl)) ?_
 refine lv (Value.int .i64 (rmayR g r)) rfl (e_move rfl) ?_
 refine l_op rfl ?_
 replace bx10 := bx10.chg hb12 (not_no _)
 refine o_store_bx (cs' := [Value.int .i64 0, Value.slice none 0 0]) tp24_o rfl rfl bx10 rfl (Nat.le_of_ble_eq_true rfl) (AllOne.all (.cons rfl (.cons rfl .nil))) rfl ?_
 intro w106 ch107 bx108
 clear bx10
 refine lv (Value.slice none 0 0) rfl (e_assign rfl) ?_
 refine lv (Value.int .i64 (rmayR g r)) rfl (e_assign rfl) ?_
 refine l_nil ?_
 refine run_ret (vs := [Value.agg (List.toArray [Value.int .i64 0, Value.slice none 0 0]), Value.slice none 0 0, Value.int .i64 (rmayR g r)]) Try.func61 (.cell rfl (load_bxN (ds := [Value.int .i64 0, Value.slice none 0 0]) tp24_o bx108 rfl rfl) (.tmp rfl (.tmp rfl .nil))) ?_
 have C109 : Chg (inl [2]) _ _ _ _ := (ch2.n).seq ((ch7.n).seq ((hb12.n).seq (ch107.l rfl)))
 replace hbase := hbase.chg C109 (is_nl rfl)
 have e0 : ((0, []) : (Int) × (List ((Int) × (Int)))) = ((rsubR g r keep).1) := by
   first
     | (simp only [rsubR, if_neg (show ¬ rmayR g r = 0 by assumption)]; done)
     | (simp only [rsubR, if_pos (show rmayR g r = 0 by assumption), if_neg (show ¬ (subR g keep).2 = 0 by assumption)]; done)
     | (simp only [rsubR, if_pos (show rmayR g r = 0 by assumption), if_pos (show (subR g keep).2 = 0 by assumption)]; done)
     | (simp only [rsubR, if_pos (show rmayR g r = 0 by assumption), if_pos (show (subR g keep).2 = 0 by assumption), hinv.done (by assumption)]; done)
 have e1 : ([] : List (List Int)) = ((rsubR g r keep).2.1) := by
   first
     | (simp only [rsubR, if_neg (show ¬ rmayR g r = 0 by assumption)]; done)
     | (simp only [rsubR, if_pos (show rmayR g r = 0 by assumption), if_neg (show ¬ (subR g keep).2 = 0 by assumption)]; done)
     | (simp only [rsubR, if_pos (show rmayR g r = 0 by assumption), if_pos (show (subR g keep).2 = 0 by assumption)]; done)
     | (simp only [rsubR, if_pos (show rmayR g r = 0 by assumption), if_pos (show (subR g keep).2 = 0 by assumption), hinv.done (by assumption)]; done)
 have e2 : (rmayR g r : Int) = ((rsubR g r keep).2.2) := by
   first
     | (simp only [rsubR, if_neg (show ¬ rmayR g r = 0 by assumption)]; done)
     | (simp only [rsubR, if_pos (show rmayR g r = 0 by assumption), if_neg (show ¬ (subR g keep).2 = 0 by assumption)]; done)
     | (simp only [rsubR, if_pos (show rmayR g r = 0 by assumption), if_pos (show (subR g keep).2 = 0 by assumption)]; done)
     | (simp only [rsubR, if_pos (show rmayR g r = 0 by assumption), if_pos (show (subR g keep).2 = 0 by assumption), hinv.done (by assumption)]; done)
 exact ⟨(fin w0 g9 (fun n => 0), (Value.slice none 0 0), (Value.slice none 0 0)), (congr3 (a := (0, [])) (b := []) (c := rmayR g r) (fun (z0 : (Int) × (List ((Int) × (Int)))) (z1 : List (List Int)) (z2 : Int) => Ending.returned (Value.tuple (List.toArray [Value.agg (List.toArray [Value.int .i64 z0.1, Value.slice none 0 0]), Value.slice none 0 0, Value.int .i64 z2]))) e0 e1 e2), hbase.fresh _, ((congrArg (fun (z : (Int) × (List ((Int) × (Int)))) => z.2) e0) ▸ Ow.nil), (e1 ▸ Nst.nil)⟩
set_option maxHeartbeats 1000000 in
theorem RMoved_ok (w0 : World) (g : (Int) × (List ((Int) × (Int)))) (g_v : Value) (hg_v : Ro w0 g_v g.2) (r : List (List Int)) (r_v : Value) (hr_v : Ro w0 r_v r) (to : List Int) (to_v : Value) (hto_v : Ro w0 to_v to) :
    Calls Try.prog 62 #[Value.agg (List.toArray [Value.int .i64 g.1, g_v]), r_v, to_v] w0 (fun ee w => ∃ xx : Cmap × Value × Value, ee = .returned ((fun ⟨δ, rv0, rv1⟩ => Value.tuple (List.toArray [Value.agg (List.toArray [Value.int .i64 (((rmovedR g r to).1).1), rv0]), rv1, Value.int .i64 ((rmovedR g r to).2.2)])) xx) ∧ (fun (⟨δ, rv0, rv1⟩ : Cmap × Value × Value) (w : World) => Fresh w0 δ w ∧ Ow δ (is 1) (is 1) w rv0 (((rmovedR g r to).1).2) ∧ Nst δ 2 w rv1 ((rmovedR g r to).2.1)) xx w) := by
 refine calls_of_run Try.func62 rfl (Nat.le_of_ble_eq_true rfl) ?_
 have hbase := Base.start w0
 have r_g_v := hg_v.sl
 have r_r_v := hr_v.sl
 have r_to_v := hto_v.sl
 refine run_seq (run_region rfl (l_op rfl ?_))
 refine o_box c0 (is 1) (1, 0) rfl rfl ?_
 intro g4 w1 b3 ch2 bx5
 replace bx5 : Bx g4 (is 1) w1 b3 [Value.int .i64 g.1, g_v] := bx5
 refine l_op rfl ?_
 refine o_alloc g4 (is 2) (2, 0) rfl tp24_o ?_
 intro g9 w6 b8 ch7 bx10
 replace bx10 : Bx g9 (is 2) w6 b8 [Value.int .i64 0, Value.slice none 0 0] := bx10
 refine lv (Value.slice none 0 0) rfl (e_assign rfl) ?_
 refine lv (Value.int .i64 0) rfl (e_assign rfl) ?_
 refine l_nil (run_seq (run_seq (run_region rfl ?_)))
 replace bx5 := bx5.chg ch7 (not_no _)
 refine lv (Value.agg (List.toArray [Value.int .i64 g.1, g_v])) rfl (e_load_bxN (ds := [Value.int .i64 g.1, g_v]) tp24_o rfl bx5 rfl rfl) ?_
 refine lv (r_v) rfl (e_move rfl) ?_
 replace r_g_v := (r_g_v.chg ch2 (not_no _)).chg ch7 (not_no _)
 replace r_r_v := (r_r_v.chg ch2 (not_no _)).chg ch7 (not_no _)
 refine l_op rfl ?_
 refine o_call (v := Value.int .i64 (rmayR g r)) (e_call (vals := [Value.agg (List.toArray [Value.int .i64 g.1, g_v]), r_v]) Try.func15 bd15_o nm15_o rfl) (RMay_ok w6 g g_v (r_g_v).ro r r_v (r_r_v).ro) ?_
 intro w11 hb12
 replace hb12 := chg_below hb12 g9
 refine lv (Value.int .i64 (rmayR g r)) rfl (e_assign rfl) ?_
 refine l_nil (run_seq (run_region rfl ?_))
 refine lv (Value.int .i64 (rmayR g r)) rfl (e_move rfl) ?_
 refine lv (Value.bool (!(decide ((rmayR g r) = 0)))) rfl (e_neq (m := rmayR g r) (n := 0) rfl rfl) ?_
 refine l_nil ?_
 by_cases p2 : (rmayR g r) = 0
 ·
  obtain ⟨hm, hrp⟩ := rmay_ok (by assumption)
  have hm0 := hm
  obtain ⟨hm1, hm2, hm3, hm4⟩ := hm0
  refine run_cond_f rfl (congrArg Bool.not (decide_eq_true p2)) ?_
  refine run_skip ?_
  refine run_seq (run_region rfl ?_)
  replace bx5 := bx5.chg hb12 (not_no _)
  refine lv (Value.agg (List.toArray [Value.int .i64 g.1, g_v])) rfl (e_load_bxN (ds := [Value.int .i64 g.1, g_v]) tp24_o rfl bx5 rfl rfl) ?_
  refine lv (to_v) rfl (e_move rfl) ?_
  replace r_g_v := r_g_v.chg hb12 (not_no _)
  have C13 : Chg (inl []) _ _ _ _ := (ch2.n).seq ((ch7.n).seq (hb12.n))
  replace r_to_v := r_to_v.chg C13 (is_nl rfl)
  refine l_op rfl ?_
  refine o_callx (e_call (vals := [Value.agg (List.toArray [Value.int .i64 g.1, g_v]), to_v]) Try.func92 bd92_o nm92_o rfl) (Moved_ok w11 g g_v (r_g_v).ro to to_v (r_to_v).ro) ?_
  rintro ⟨d15, v17⟩ w14 ⟨fr16, o18⟩
  obtain ⟨g19, hg19⟩ : ∃ q, q = glue w11.heap.size g9 d15 (fun n => if n = 1 then 3 else 0) := ⟨_, rfl⟩
  have ch20 := chg_glue fr16.below g9 d15 (fun n => if n = 1 then 3 else 0)
  rw [← hg19] at ch20
  replace o18 := o18.glue (γ := g9) (ren := (fun n => if n = 1 then 3 else 0)) (k := 3) fr16.col rfl rfl
  rw [← hg19] at o18
  clear hg19
  refine lv (Value.tuple (List.toArray [Value.agg (List.toArray [Value.int .i64 (((movedR g to).1).1), v17]), Value.int .i64 ((movedR g to).2)])) rfl (e_move rfl) ?_
  refine lv (Value.agg (List.toArray [Value.int .i64 (((movedR g to).1).1), v17])) rfl (e_extract rfl rfl) ?_
  refine lv (Value.int .i64 ((movedR g to).2)) rfl (e_extract rfl rfl) ?_
  refine l_op rfl ?_
  refine o_alloc g19 (is 4) (4, 0) rfl tp24_o ?_
  intro g24 w21 b23 ch22 bx25
  replace bx25 : Bx g24 (is 4) w21 b23 [Value.int .i64 0, Value.slice none 0 0] := bx25
  refine l_op rfl ?_
  replace o18 := o18.chg ch22 (not_no _) (not_no _)
  refine o_store_bx (cs' := [Value.int .i64 (((movedR g to).1).1), v17]) tp24_o rfl rfl bx25 rfl (Nat.le_of_ble_eq_true rfl) (AllOne.all (.cons rfl (.cons (sl_one o18.flat) .nil))) rfl ?_
  intro w26 ch27 bx28
  clear bx25
  refine lv (Value.int .i64 ((movedR g to).2)) rfl (e_assign rfl) ?_
  refine l_nil (run_seq (run_seq ?_))
  clear bx5
  refine run_region rfl ?_
  refine lv (Value.int .i64 ((movedR g to).2)) rfl (e_move rfl) ?_
  refine lv (Value.bool (!(decide (((movedR g to).2) = 0)))) rfl (e_neq (m := (movedR g to).2) (n := 0) rfl rfl) ?_
  refine l_nil ?_
  by_cases p5 : ((movedR g to).2) = 0
  ·
   obtain ⟨_, hml, hmc, hme⟩ := movedR_ok (by assumption)
   obtain ⟨hmr, hmn⟩ := chosenS_ok hmc
   have hrl := hrp.1
   refine run_cond_f rfl (congrArg Bool.not (decide_eq_true p5)) ?_
   refine run_skip ?_
   refine run_seq (run_region rfl ?_)
   refine lv (r_v) rfl (e_move rfl) ?_
   have C29 : Chg (inl [4]) _ _ _ _ := (hb12.n).seq ((ch20.n).seq ((ch22.n).seq (ch27.l rfl)))
   replace r_r_v := r_r_v.chg C29 (is_nl rfl)
   have len30 := (r_r_v).small
   refine lv (Value.int .i64 (List.length r : Int)) rfl (e_len Try.underlying26 rfl r_r_v) ?_
   refine l_op rfl ?_
   refine o_make_nst (α := Int) (n := (List.length r : Int)) (cp := (List.length r : Int)) g24 5 Try.underlying26 tp27_o rfl rfl rfl (by omega) (by omega) (by omega) (by omega) ?_
   intro g31 w32 v33 ch34 o35
   refine lv (v33) rfl (e_assign rfl) ?_
   refine l_nil (run_seq (run_seq (run_region rfl ?_)))
   refine lv (r_v) rfl (e_move rfl) ?_
   replace r_r_v := r_r_v.chg ch34 (not_no _)
   refine lv (Value.int .i64 (List.length r : Int)) rfl (e_len Try.underlying26 rfl r_r_v) ?_
   refine lv (Value.int .i64 0) rfl (e_move rfl) ?_
   refine l_nil ?_
   refine run_block ?_
   refine run_loop (σ := Nat × (List (List Int)) × Cmap) (fun ⟨k, out, gq⟩ f w => Base w0 gq w ∧ f 2 = to_v ∧ f 6 = Value.pointer (some ⟨b8, 0, none⟩) ∧ f 10 = Value.pointer (some ⟨b23, 0, none⟩) ∧ f 12 = v33 ∧ f 35 = r_v ∧ f 36 = Value.int .i64 (List.length r : Int) ∧ f 37 = Value.int .i64 (k : Int) ∧ Sl gq (is 0) w g_v g.2 ∧ Sl gq (is 0) w r_v r ∧ Sl gq (is 0) w to_v to ∧ Bx gq (is 2) w b8 [Value.int .i64 0, Value.slice none 0 0] ∧ Ow gq (is 3) (is 3) w v17 (((movedR g to).1).2) ∧ Bx gq (is 4) w b23 [Value.int .i64 (((movedR g to).1).1), v17] ∧ Nst gq 5 w v33 out ∧ (k : Int) ≤ ((List.length r : Int) : Int) ∧ (MovInv out r to g.1 k)) (fun ⟨k, out, gq⟩ => Int.toNat (((List.length r : Int) : Int) - (k : Int))) (0, (List.replicate (Int.toNat (List.length r : Int)) []), g31) ?_ ?_
   have C36 : Chg (inl [4]) _ _ _ _ := (ch2.n).seq ((ch7.n).seq ((hb12.n).seq ((ch20.n).seq ((ch22.n).seq ((ch27.l rfl).seq (ch34.n))))))
   replace hbase := hbase.chg C36 (is_nl rfl)
   have C37 : Chg (inl [4]) _ _ _ _ := (ch20.n).seq ((ch22.n).seq ((ch27.l rfl).seq (ch34.n)))
   replace r_g_v := r_g_v.chg C37 (is_nl rfl)
   replace r_to_v := r_to_v.chg C37 (is_nl rfl)
   have C38 : Chg (inl [4]) _ _ _ _ := (hb12.n).seq ((ch20.n).seq ((ch22.n).seq ((ch27.l rfl).seq (ch34.n))))
   replace bx10 := bx10.chg C38 (is_nl rfl)
   replace o18 := (o18.chg ch27 (is_ne rfl) (is_ne rfl)).chg ch34 (not_no _) (not_no _)
   replace bx28 := bx28.chg ch34 (not_no _)
   · exact ⟨hbase, rfl, rfl, rfl, rfl, rfl, rfl, rfl, r_g_v, r_r_v, r_to_v, bx10, o18, bx28, o35, by omega, by exact ⟨by simp; omega, fun v hv => by omega⟩⟩
   clear r_g_v r_r_v r_to_v bx10 o18 bx28 o35 hbase
   rintro ⟨k, out, g41⟩ f39 w40 ⟨hbase, zs2, zs6, zs10, zs12, zs35, zs36, zs37, r_g_v, r_r_v, r_to_v, bx10, o18, bx28, o35, hle_k, hinv⟩ back9
   have hol := hinv.len
   refine run_seq (run_region rfl ?_)
   refine lv (Value.bool (decide ((k : Int) < (List.length r : Int)))) rfl (e_lss (m := (k : Int)) (n := (List.length r : Int)) (by exact zs37) (by exact zs36)) ?_
   refine l_nil (run_seq ?_)
   by_cases p9 : (k : Int) < (List.length r : Int)
   ·
    refine run_cond_t rfl (decide_eq_true p9) ?_
    obtain ⟨hk1, hk2⟩ := hmr _ (gI_mem (xs := to) (i := (k : Int)) (by omega) (by omega))
    have hrw := row_len hrp (k := k) (by assumption)
    refine run_skip ?_
    refine run_seq ?_
    refine run_block ?_
    refine run_seq (run_region rfl ?_)
    refine lv (Value.int .i64 (k : Int)) rfl (e_move (by exact zs37)) ?_
    refine lv (Value.pointer (some (eAddr r_v 1 (Int.toNat (k : Int))))) rfl (e_indexAddr (α := List Int) (xs := r) (v := r_v) (i := (k : Int)) Try.underlying26 rfl (by exact zs35) r_r_v (by exact zs37) (by omega) (by omega)) ?_
    obtain ⟨v42, cel43, r44⟩ := sl_row (r := (k : Int)) r_r_v (by omega) (by omega)
    refine lv (v42) rfl (e_load1 tp27_o rfl cel43) ?_
    refine lv (Value.int .i64 (k : Int)) rfl (e_assign rfl) ?_
    refine lv (v42) rfl (e_assign rfl) ?_
    refine l_nil ?_
    refine region_midh (σ := Cmap) (fun gq f w => Base w0 gq w ∧ f 2 = to_v ∧ f 6 = Value.pointer (some ⟨b8, 0, none⟩) ∧ f 10 = Value.pointer (some ⟨b23, 0, none⟩) ∧ f 12 = v33 ∧ f 35 = r_v ∧ f 36 = Value.int .i64 (List.length r : Int) ∧ f 37 = Value.int .i64 (k : Int) ∧ Sl gq (is 0) w g_v g.2 ∧ Sl gq (is 0) w r_v r ∧ Sl gq (is 0) w to_v to ∧ Bx gq (is 2) w b8 [Value.int .i64 0, Value.slice none 0 0] ∧ Ow gq (is 3) (is 3) w v17 (((movedR g to).1).2) ∧ Bx gq (is 4) w b23 [Value.int .i64 (((movedR g to).1).1), v17] ∧ Nst gq 5 w v33 (List.set out (Int.toNat (gI to (k : Int))) (gI r (k : Int)))) g41 (inl [5, 6]) mixed_o ?_ ?_
    ·
     intro mid
     intro w46 ch45
     refine h_take (v := v33) 0 rfl (by kernel_rfl) (by kernel_rfl) rfl (Chg.refl _ _ _) (fun w' hw' => e_move (by exact zs12)) ?_
     refine h_take (v := to_v) 1 rfl (by kernel_rfl) (by kernel_rfl) rfl (Chg.refl _ _ _) (fun w' hw' => e_move (by exact zs2)) ?_
     refine h_take (v := Value.int .i64 (k : Int)) 2 rfl (by kernel_rfl) (by kernel_rfl) rfl (Chg.refl _ _ _) (fun w' hw' => e_move rfl) ?_
     refine h_take (v := v42) 5 rfl (by kernel_rfl) (by kernel_rfl) rfl (Chg.refl _ _ _) (fun w' hw' => e_move rfl) ?_
     refine h_many 3 [6] (by kernel_rfl) ⟨h_of 3 rfl (by kernel_rfl) rfl ?_, h_of 6 rfl (by kernel_rfl) rfl ?_, trivial⟩
     ·
      replace r_to_v := r_to_v.chg ch45 (not_no _)
      refine o_of_val (v := Value.pointer (some (eAddr to_v 1 (Int.toNat (k : Int))))) (e_indexAddr (α := Int) (xs := to) (v := to_v) (i := (k : Int)) Try.underlying27 rfl rfl r_to_v rfl (by omega) (by omega)) ?_
      refine ⟨(Chg.refl _ _ _), ?_⟩
      refine h_take (v := Value.int .i64 (gI to (k : Int))) 4 rfl (by kernel_rfl) (by kernel_rfl) rfl (Chg.refl _ _ _) (fun w' hw' => e_load_el1 (α := Int) (xs := to) (v := to_v) (i := (k : Int)) tp3_o rfl (r_to_v.chg hw' (is_nl rfl)) (by omega) (by omega) (by decide) rfl) ?_
      refine h_one 6 rfl (by kernel_rfl) rfl ?_
      replace r44 := r44.chg ch45 (not_no _)
      refine o_append (α := Int) (xs := ([])) (ys := (gI r (k : Int))) g41 (J := is 6) (S := is 6) (6, 0) rfl Try.underlying27 tp3_o (by decide) rfl rfl rfl Ow.nil r44 (by decide) (by first | omega | (simp; done) | (simp; omega)) ?_
      intro g47 w48 v49 ch50 o51
      replace o51 : Ow g47 (is 6) (is 6) w48 v49 (gI r (k : Int)) := o51
      have hs52 : Chg (inl [5, 6]) _ _ _ _ := ch50.l rfl
      refine ⟨hs52.same, ?_⟩
      refine h_one 7 rfl (by kernel_rfl) rfl ?_
      replace o35 := (o35.chg ch45 (not_no _)).chg ch50 (is_ne rfl)
      refine o_of_val (v := Value.pointer (some (eAddr v33 1 (Int.toNat (gI to (k : Int)))))) (e_indexAddr (α := List Int) (xs := out) (v := v33) (i := (gI to (k : Int))) Try.underlying26 rfl rfl o35.sl rfl (by omega) (by omega)) ?_
      refine ⟨hs52.same, ?_⟩
      refine h_one 8 rfl (by kernel_rfl) rfl ?_
      refine o_store_fresh (r := (gI to (k : Int))) tp27_o rfl rfl o35 o51 rfl (by omega) (by omega) ?_
      intro g59 w56 ch57 o58
      clear o35 o51
      have hs60 := hs52.seq (ch57.l2 rfl rfl)
      refine ⟨hs60.same, ?_⟩
      refine h_nil (by kernel_rfl) ?_
      have C61 : Chg (inl [5, 6]) _ _ _ _ := (ch45.n).seq ((ch50.l rfl).seq (ch57.l2 rfl rfl))
      replace hbase := hbase.chg C61 (is_nl rfl)
      replace r_g_v := r_g_v.chg ch45 (not_no _)
      replace r_r_v := r_r_v.chg ch45 (not_no _)
      replace bx10 := bx10.chg ch45 (not_no _)
      replace o18 := o18.chg ch45 (not_no _) (not_no _)
      replace bx28 := bx28.chg ch45 (not_no _)
      exact mid (g59) _ _ ⟨hbase, (by exact zs2), (by exact zs6), (by exact zs10), (by exact zs12), (by exact zs35), (by exact zs36), (by exact zs37), (r_g_v.chg hs60 (is_nl rfl)), (r_r_v.chg hs60 (is_nl rfl)), (r_to_v.chg hs60 (is_nl rfl)), (bx10.chg hs60 (is_nl rfl)), (o18.chg hs60 (is_nl rfl) (is_nl rfl)), (bx28.chg hs60 (is_nl rfl)), o58⟩
     ·
      replace r44 := r44.chg ch45 (not_no _)
      refine o_append (α := Int) (xs := ([])) (ys := (gI r (k : Int))) g41 (J := is 6) (S := is 6) (6, 0) rfl Try.underlying27 tp3_o (by decide) rfl rfl rfl Ow.nil r44 (by decide) (by first | omega | (simp; done) | (simp; omega)) ?_
      intro g62 w63 v64 ch65 o66
      replace o66 : Ow g62 (is 6) (is 6) w63 v64 (gI r (k : Int)) := o66
      have hs67 : Chg (inl [5, 6]) _ _ _ _ := ch65.l rfl
      refine ⟨hs67.same, ?_⟩
      refine h_one 3 rfl (by kernel_rfl) rfl ?_
      replace r_to_v := r_to_v.chg ch45 (not_no _)
      refine o_of_val (v := Value.pointer (some (eAddr to_v 1 (Int.toNat (k : Int))))) (e_indexAddr (α := Int) (xs := to) (v := to_v) (i := (k : Int)) Try.underlying27 rfl rfl (r_to_v.chg hs67 (is_nl rfl)) rfl (by omega) (by omega)) ?_
      refine ⟨hs67.same, ?_⟩
      refine h_take (v := Value.int .i64 (gI to (k : Int))) 4 rfl (by kernel_rfl) (by kernel_rfl) rfl hs67.same (fun w' hw' => e_load_el1 (α := Int) (xs := to) (v := to_v) (i := (k : Int)) tp3_o rfl (r_to_v.chg hw' (is_nl rfl)) (by omega) (by omega) (by decide) rfl) ?_
      refine h_one 7 rfl (by kernel_rfl) rfl ?_
      replace o35 := (o35.chg ch45 (not_no _)).chg ch65 (is_ne rfl)
      refine o_of_val (v := Value.pointer (some (eAddr v33 1 (Int.toNat (gI to (k : Int)))))) (e_indexAddr (α := List Int) (xs := out) (v := v33) (i := (gI to (k : Int))) Try.underlying26 rfl rfl o35.sl rfl (by omega) (by omega)) ?_
      refine ⟨hs67.same, ?_⟩
      refine h_one 8 rfl (by kernel_rfl) rfl ?_
      refine o_store_fresh (r := (gI to (k : Int))) tp27_o rfl rfl o35 o66 rfl (by omega) (by omega) ?_
      intro g74 w71 ch72 o73
      clear o35 o66
      have hs75 := hs67.seq (ch72.l2 rfl rfl)
      refine ⟨hs75.same, ?_⟩
      refine h_nil (by kernel_rfl) ?_
      have C76 : Chg (inl [5, 6]) _ _ _ _ := (ch45.n).seq ((ch65.l rfl).seq (ch72.l2 rfl rfl))
      replace hbase := hbase.chg C76 (is_nl rfl)
      replace r_g_v := r_g_v.chg ch45 (not_no _)
      replace r_r_v := r_r_v.chg ch45 (not_no _)
      replace bx10 := bx10.chg ch45 (not_no _)
      replace o18 := o18.chg ch45 (not_no _) (not_no _)
      replace bx28 := bx28.chg ch45 (not_no _)
      exact mid (g74) _ _ ⟨hbase, (by exact zs2), (by exact zs6), (by exact zs10), (by exact zs12), (by exact zs35), (by exact zs36), (by exact zs37), (r_g_v.chg hs75 (is_nl rfl)), (r_r_v.chg hs75 (is_nl rfl)), (r_to_v.chg hs75 (is_nl rfl)), (bx10.chg hs75 (is_nl rfl)), (o18.chg hs75 (is_nl rfl) (is_nl rfl)), (bx28.chg hs75 (is_nl rfl)), o73⟩
    clear r_g_v r_r_v r_to_v bx10 o18 bx28 o35 r44 hbase
    rintro g79 f77 w78 ⟨hbase, zs2, zs6, zs10, zs12, zs35, zs36, zs37, r_g_v, r_r_v, r_to_v, bx10, o18, bx28, o58⟩
    refine run_inBlock ?_
    refine run_region rfl ?_
    refine lv (Value.int .i64 ((k : Int) + 1)) rfl (e_add (m := (k : Int)) (n := 1) (by exact zs37) rfl (by omega)) ?_
    refine lv (Value.int .i64 ((k : Int) + 1)) rfl (e_move rfl) ?_
    refine l_nil ?_
    refine back9 (k + 1, (List.set out (Int.toNat (gI to (k : Int))) (gI r (k : Int))), g79) _ _ ⟨hbase, (by exact zs2), (by exact zs6), (by exact zs10), (by exact zs12), (by exact zs35), (by exact zs36), rfl, r_g_v, r_r_v, r_to_v, bx10, o18, bx28, o58, by omega, ?_⟩ ?_
    · show MovInv (List.set out (Int.toNat (gI to (k : Int))) (gI r (k : Int))) r to g.1 (k + 1)
      exact hinv.next hmn hmr (by omega)
    · show Int.toNat (((List.length r : Int) : Int) - ((k + 1) : Int)) < Int.toNat (((List.length r : Int) : Int) - (k : Int))
      omega
   refine run_cond_f rfl (decide_eq_false p9) ?_
   refine run_exit rfl ?_
   refine run_seq ?_
   refine run_region_h g41 (inl [2]) mixed_o ?_
   intro w81 ch80
   replace bx28 := bx28.chg ch80 (not_no _)
   refine h_take (v := Value.agg (List.toArray [Value.int .i64 (((movedR g to).1).1), v17])) 0 rfl (by kernel_rfl) (by kernel_rfl) rfl (Chg.refl _ _ _) (fun w' hw' => e_load_bxN (ds := [Value.int .i64 (((movedR g to).1).1), v17]) tp24_o (by exact zs10) (bx28.chg hw' (is_nl rfl)) rfl rfl) ?_
   refine h_take (v := v33) 1 rfl (by kernel_rfl) (by kernel_rfl) rfl (Chg.refl _ _ _) (fun w' hw' => e_move (by exact zs12)) ?_
   refine h_one 2 rfl (by kernel_rfl) rfl ?_
   replace o35 := o35.chg ch80 (not_no _)
   refine o_callx (e_call (vals := [v33]) Try.func89 bd89_o nm89_o rfl) (canon_ok w81 out v33 (o35.sl).ro) ?_
   rintro ⟨d83, v85⟩ w82 ⟨fr84, o86⟩
   obtain ⟨g87, hg87⟩ : ∃ q, q = glue w81.heap.size g41 d83 (fun n => if n = 1 then 7 else 0) := ⟨_, rfl⟩
   have ch88 := chg_glue fr84.below g41 d83 (fun n => if n = 1 then 7 else 0)
   rw [← hg87] at ch88
   replace o86 := o86.glue (γ := g41) (ren := (fun n => if n = 1 then 7 else 0)) (k := 7) fr84.col rfl rfl
   rw [← hg87] at o86
   clear hg87
   have hs89 : Chg (inl [2]) _ _ _ _ := ch88.n
   refine ⟨hs89.same, ?_⟩
   refine h_one 3 rfl (by kernel_rfl) rfl ?_
   replace bx10 := (bx10.chg ch80 (not_no _)).chg ch88 (not_no _)
   replace o18 := o18.chg ch80 (not_no _) (not_no _)
   refine o_store_bx (cs' := [Value.int .i64 (((movedR g to).1).1), v17]) tp24_o (by exact zs6) rfl bx10 rfl (Nat.le_of_ble_eq_true rfl) (AllOne.all (.cons rfl (.cons (sl_one (o18.chg hs89 (is_nl rfl) (is_nl rfl)).flat) .nil))) rfl ?_
   intro w90 ch91 bx92
   clear bx10
   have hs93 := hs89.seq (ch91.l rfl)
   refine ⟨hs93.same, ?_⟩
   refine h_take (v := v85) 4 rfl (by kernel_rfl) (by kernel_rfl) rfl hs93.same (fun w' hw' => e_assign rfl) ?_
   refine h_take (v := Value.int .i64 0) 5 rfl (by kernel_rfl) (by kernel_rfl) rfl hs93.same (fun w' hw' => e_assign rfl) ?_
   refine h_nil (by kernel_rfl) ?_
   refine run_ret (vs := [Value.agg (List.toArray [Value.int .i64 (((movedR g to).1).1), v17]), v85, Value.int .i64 0]) Try.func62 (.cell (by exact zs6) (load_bxN (ds := [Value.int .i64 (((movedR g to).1).1), v17]) tp24_o bx92 rfl rfl) (.tmp rfl (.tmp rfl .nil))) ?_
   have C94 : Chg (inl [2]) _ _ _ _ := (ch80.n).seq ((ch88.n).seq (ch91.l rfl))
   replace hbase := hbase.chg C94 (is_nl rfl)
   replace o18 := (o18.chg ch88 (not_no _) (not_no _)).chg ch91 (is_ne rfl) (is_ne rfl)
   replace o86 := o86.chg ch91 (is_ne rfl)
   have e0 : (((movedR g to).1) : (Int) × (List ((Int) × (Int)))) = ((rmovedR g r to).1) := by
     first
       | (simp only [rmovedR, if_neg (show ¬ rmayR g r = 0 by assumption)]; done)
       | (simp only [rmovedR, if_pos (show rmayR g r = 0 by assumption), if_neg (show ¬ (movedR g to).2 = 0 by assumption)]; done)
       | (simp only [rmovedR, if_pos (show rmayR g r = 0 by assumption), if_pos (show (movedR g to).2 = 0 by assumption)]; done)
       | (simp only [rmovedR, if_pos (show rmayR g r = 0 by assumption), if_pos (show (movedR g to).2 = 0 by assumption), hinv.done hmn hmr (by omega) (by omega)]; done)
   have e1 : (canonS out : List (List Int)) = ((rmovedR g r to).2.1) := by
     first
       | (simp only [rmovedR, if_neg (show ¬ rmayR g r = 0 by assumption)]; done)
       | (simp only [rmovedR, if_pos (show rmayR g r = 0 by assumption), if_neg (show ¬ (movedR g to).2 = 0 by assumption)]; done)
       | (simp only [rmovedR, if_pos (show rmayR g r = 0 by assumption), if_pos (show (movedR g to).2 = 0 by assumption)]; done)
       | (simp only [rmovedR, if_pos (show rmayR g r = 0 by assumption), if_pos (show (movedR g to).2 = 0 by assumption), hinv.done hmn hmr (by omega) (by omega)]; done)
   have e2 : (0 : Int) = ((rmovedR g r to).2.2) := by
     first
       | (simp only [rmovedR, if_neg (show ¬ rmayR g r = 0 by assumption)]; done)
       | (simp only [rmovedR, if_pos (show rmayR g r = 0 by assumption), if_neg (show ¬ (movedR g to).2 = 0 by assumption)]; done)
       | (simp only [rmovedR, if_pos (show rmayR g r = 0 by assumption), if_pos (show (movedR g to).2 = 0 by assumption)]; done)
       | (simp only [rmovedR, if_pos (show rmayR g r = 0 by assumption), if_pos (show (movedR g to).2 = 0 by assumption), hinv.done hmn hmr (by omega) (by omega)]; done)
   exact ⟨(fin w0 g87 (fun n => if n = 3 then 1 else if n = 7 then 2 else 0), v17, v85), (congr3 (a := ((movedR g to).1)) (b := canonS out) (c := 0) (fun (z0 : (Int) × (List ((Int) × (Int)))) (z1 : List (List Int)) (z2 : Int) => Ending.returned (Value.tuple (List.toArray [Value.agg (List.toArray [Value.int .i64 z0.1, v17]), v85, Value.int .i64 z2]))) e0 e1 e2), hbase.fresh _, ((congrArg (fun (z : (Int) × (List ((Int) × (Int)))) => z.2) e0) ▸ (o18.glue (γ := c0) (ren := (fun n => if n = 3 then 1 else if n = 7 then 2 else 0)) (k := 1) hbase.col rfl rfl)), (e1 ▸ (o86.glue (γ := c0) (ren := (fun n => if n = 3 then 1 else if n = 7 then 2 else 0)) (k := 2) hbase.col rfl rfl))⟩
  refine run_cond_t rfl (congrArg Bool.not (decide_eq_false p5)) ?_
  refine run_seq ?_
  clear o18 bx28
  refine run_region rfl ?_
  refine lv (Value.agg (List.toArray [Value.int .i64 0, Value.slice none 0 0])) rfl (e_build (vs := []) rfl (by kernel_rfl)) ?_
  refine lv (Value.int .i64 ((movedR g to).2)) rfl (e_move rfl) ?_
  refine l_op rfl ?_
  have C98 : Chg (inl [4]) _ _ _ _ := (hb12.n).seq ((ch20.n).seq ((ch22.n).seq (ch27.l rfl)))
  replace bx10 := bx10.chg C98 (is_nl rfl)
  refine o_store_bx (cs' := [Value.int .i64 0, Value.slice none 0 0]) tp24_o rfl rfl bx10 rfl (Nat.le_of_ble_eq_true rfl) (AllOne.all (.cons rfl (.cons rfl .nil))) rfl ?_
  intro w95 ch96 bx97
  clear bx10
  refine lv (Value.slice none 0 0) rfl (e_assign rfl) ?_
  refine lv (Value.int .i64 ((movedR g to).2)) rfl (e_assign rfl) ?_
  refine l_nil ?_
  refine run_ret (vs := [Value.agg (List.toArray [Value.int .i64 0, Value.slice none 0 0]), Value.slice none 0 0, Value.int .i64 ((movedR g to).2)]) Try.func62 (.cell rfl (load_bxN (ds := [Value.int .i64 0, Value.slice none 0 0]) tp24_o bx97 rfl rfl) (.tmp rfl (.tmp rfl .nil))) ?_
  have C99 : Chg (inl [2, 4]) _ _ _ _ := (ch2.n).seq ((ch7.n).seq ((hb12.n).seq ((ch20.n).seq ((ch22.n).seq ((ch27.l rfl).seq (ch96.l rfl))))))
  replace hbase := hbase.chg C99 (is_nl rfl)
  have e0 : ((0, []) : (Int) × (List ((Int) × (Int)))) = ((rmovedR g r to).1) := by
    first
      | (simp only [rmovedR, if_neg (show ¬ rmayR g r = 0 by assumption)]; done)
      | (simp only [rmovedR, if_pos (show rmayR g r = 0 by assumption), if_neg (show ¬ (movedR g to).2 = 0 by assumption)]; done)
      | (simp only [rmovedR, if_pos (show rmayR g r = 0 by assumption), if_pos (show (movedR g to).2 = 0 by assumption)]; done)
      | (simp only [rmovedR, if_pos (show rmayR g r = 0 by assumption), if_pos (show (movedR g to).2 = 0 by assumption), hinv.done hmn hmr (by omega) (by omega)]; done)
  have e1 : ([] : List (List Int)) = ((rmovedR g r to).2.1) := by
    first
      | (simp only [rmovedR, if_neg (show ¬ rmayR g r = 0 by assumption)]; done)
      | (simp only [rmovedR, if_pos (show rmayR g r = 0 by assumption), if_neg (show ¬ (movedR g to).2 = 0 by assumption)]; done)
      | (simp only [rmovedR, if_pos (show rmayR g r = 0 by assumption), if_pos (show (movedR g to).2 = 0 by assumption)]; done)
      | (simp only [rmovedR, if_pos (show rmayR g r = 0 by assumption), if_pos (show (movedR g to).2 = 0 by assumption), hinv.done hmn hmr (by omega) (by omega)]; done)
  have e2 : ((movedR g to).2 : Int) = ((rmovedR g r to).2.2) := by
    first
      | (simp only [rmovedR, if_neg (show ¬ rmayR g r = 0 by assumption)]; done)
      | (simp only [rmovedR, if_pos (show rmayR g r = 0 by assumption), if_neg (show ¬ (movedR g to).2 = 0 by assumption)]; done)
      | (simp only [rmovedR, if_pos (show rmayR g r = 0 by assumption), if_pos (show (movedR g to).2 = 0 by assumption)]; done)
      | (simp only [rmovedR, if_pos (show rmayR g r = 0 by assumption), if_pos (show (movedR g to).2 = 0 by assumption), hinv.done hmn hmr (by omega) (by omega)]; done)
  exact ⟨(fin w0 g24 (fun n => 0), (Value.slice none 0 0), (Value.slice none 0 0)), (congr3 (a := (0, [])) (b := []) (c := (movedR g to).2) (fun (z0 : (Int) × (List ((Int) × (Int)))) (z1 : List (List Int)) (z2 : Int) => Ending.returned (Value.tuple (List.toArray [Value.agg (List.toArray [Value.int .i64 z0.1, Value.slice none 0 0]), Value.slice none 0 0, Value.int .i64 z2]))) e0 e1 e2), hbase.fresh _, ((congrArg (fun (z : (Int) × (List ((Int) × (Int)))) => z.2) e0) ▸ Ow.nil), (e1 ▸ Nst.nil)⟩
 refine run_cond_t rfl (congrArg Bool.not (decide_eq_false p2)) ?_
 refine run_seq ?_
 clear bx5
 refine run_region rfl ?_
 refine lv (Value.agg (List.toArray [Value.int .i64 0, Value.slice none 0 0])) rfl (e_build (vs := []) rfl (by kernel_rfl)) ?_
 refine lv (Value.int .i64 (rmayR g r)) rfl (e_move rfl) ?_
 refine l_op rfl ?_
 replace bx10 := bx10.chg hb12 (not_no _)
 refine o_store_bx (cs' := [Value.int .i64 0, Value.slice none 0 0]) tp24_o rfl rfl bx10 rfl (Nat.le_of_ble_eq_true rfl) (AllOne.all (.cons rfl (.cons rfl .nil))) rfl ?_
 intro w100 ch101 bx102
 clear bx10
 refine lv (Value.slice none 0 0) rfl (e_assign rfl) ?_
 refine lv (Value.int .i64 (rmayR g r)) rfl (e_assign rfl) ?_
 refine l_nil ?_
 refine run_ret (vs := [Value.agg (List.toArray [Value.int .i64 0, Value.slice none 0 0]), Value.slice none 0 0, Value.int .i64 (rmayR g r)]) Try.func62 (.cell rfl (load_bxN (ds := [Value.int .i64 0, Value.slice none 0 0]) tp24_o bx102 rfl rfl) (.tmp rfl (.tmp rfl .nil))) ?_
 have C103 : Chg (inl [2]) _ _ _ _ := (ch2.n).seq ((ch7.n).seq ((hb12.n).seq (ch101.l rfl)))
 replace hbase := hbase.chg C103 (is_nl rfl)
 have e0 : ((0, []) : (Int) × (List ((Int) × (Int)))) = ((rmovedR g r to).1) := by
   first
     | (simp only [rmovedR, if_neg (show ¬ rmayR g r = 0 by assumption)]; done)
     | (simp only [rmovedR, if_pos (show rmayR g r = 0 by assumption), if_neg (show ¬ (movedR g to).2 = 0 by assumption)]; done)
     | (simp only [rmovedR, if_pos (show rmayR g r = 0 by assumption), if_pos (show (movedR g to).2 = 0 by assumption)]; done)
     | (simp only [rmovedR, if_pos (show rmayR g r = 0 by assumption), if_pos (show (movedR g to).2 = 0 by assumption), hinv.done hmn hmr (by omega) (by omega)]; done)
 have e1 : ([] : List (List Int)) = ((rmovedR g r to).2.1) := by
   first
     | (simp only [rmovedR, if_neg (show ¬ rmayR g r = 0 by assumption)]; done)
     | (simp only [rmovedR, if_pos (show rmayR g r = 0 by assumption), if_neg (show ¬ (movedR g to).2 = 0 by assumption)]; done)
     | (simp only [rmovedR, if_pos (show rmayR g r = 0 by assumption), if_pos (show (movedR g to).2 = 0 by assumption)]; done)
     | (simp only [rmovedR, if_pos (show rmayR g r = 0 by assumption), if_pos (show (movedR g to).2 = 0 by assumption), hinv.done hmn hmr (by omega) (by omega)]; done)
 have e2 : (rmayR g r : Int) = ((rmovedR g r to).2.2) := by
   first
     | (simp only [rmovedR, if_neg (show ¬ rmayR g r = 0 by assumption)]; done)
     | (simp only [rmovedR, if_pos (show rmayR g r = 0 by assumption), if_neg (show ¬ (movedR g to).2 = 0 by assumption)]; done)
     | (simp only [rmovedR, if_pos (show rmayR g r = 0 by assumption), if_pos (show (movedR g to).2 = 0 by assumption)]; done)
     | (simp only [rmovedR, if_pos (show rmayR g r = 0 by assumption), if_pos (show (movedR g to).2 = 0 by assumption), hinv.done hmn hmr (by omega) (by omega)]; done)
 exact ⟨(fin w0 g9 (fun n => 0), (Value.slice none 0 0), (Value.slice none 0 0)), (congr3 (a := (0, [])) (b := []) (c := rmayR g r) (fun (z0 : (Int) × (List ((Int) × (Int)))) (z1 : List (List Int)) (z2 : Int) => Ending.returned (Value.tuple (List.toArray [Value.agg (List.toArray [Value.int .i64 z0.1, Value.slice none 0 0]), Value.slice none 0 0, Value.int .i64 z2]))) e0 e1 e2), hbase.fresh _, ((congrArg (fun (z : (Int) × (List ((Int) × (Int)))) => z.2) e0) ▸ Ow.nil), (e1 ▸ Nst.nil)⟩
end TL
