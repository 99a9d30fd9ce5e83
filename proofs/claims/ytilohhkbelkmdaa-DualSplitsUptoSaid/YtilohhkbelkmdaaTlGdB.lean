import Derived.Test.YtilohhkbelkmdaaTlGdA
import Derived.Test.YtilohhkbelkmdaaTlGenO
import Derived.Test.YtilohhkbelkmdaaTlGenF
import Derived.Test.YtilohhkbelkmdaaTlP3
import Derived.Test.YtilohhkbelkmdaaProg
set_option linter.all false
set_option maxRecDepth 20000
namespace TL
open Go Go.Proofs
theorem tp3_db : Tp Try.prog 3 false 1 8 (.int .i64 0) := Tp.of (by kernel_rfl)
theorem tp22_db : Tp Try.prog 22 false 1 24 (.slice none 0 0) := Tp.of (by kernel_rfl)
theorem tp24_db : Tp Try.prog 24 true 2 32 (.agg #[.int .i64 0, .slice none 0 0]) := Tp.of (by kernel_rfl)
theorem tp27_db : Tp Try.prog 27 false 1 24 (.slice none 0 0) := Tp.of (by kernel_rfl)
theorem bd15_db : Try.f15.body.isNone = false := rfl
theorem nm15_db : (Try.f15.name == "runtime.NumGoroutine") = false := by decide +kernel
theorem bd55_db : Try.f55.body.isNone = false := rfl
theorem nm55_db : (Try.f55.name == "runtime.NumGoroutine") = false := by decide +kernel
theorem bd69_db : Try.f69.body.isNone = false := rfl
theorem nm69_db : (Try.f69.name == "runtime.NumGoroutine") = false := by decide +kernel
theorem bd70_db : Try.f70.body.isNone = false := rfl
theorem nm70_db : (Try.f70.name == "runtime.NumGoroutine") = false := by decide +kernel
theorem bd71_db : Try.f71.body.isNone = false := rfl
theorem nm71_db : (Try.f71.name == "runtime.NumGoroutine") = false := by decide +kernel
theorem dSplit_ok (w0 : World) (g : (Int) × (List ((Int) × (Int)))) (g_v : Value) (hg_v : Ro w0 g_v g.2) (r : List (List Int)) (r_v : Value) (hr_v : Ro w0 r_v r) (e : Int) :
    Calls Try.prog 28 #[Value.agg (List.toArray [Value.int .i64 g.1, g_v]), r_v, Value.int .i64 e] w0 (fun ee w => ∃ xx : Cmap × Value × Value, ee = .returned ((fun ⟨δ, rv0, rv1⟩ => Value.tuple (List.toArray [Value.agg (List.toArray [Value.int .i64 (((dsplitR g r e).1).1), rv0]), rv1, Value.int .i64 ((dsplitR g r e).2.2)])) xx) ∧ (fun (⟨δ, rv0, rv1⟩ : Cmap × Value × Value) (w : World) => Fresh w0 δ w ∧ Ow δ (is 1) (is 1) w rv0 (((dsplitR g r e).1).2) ∧ Nst δ 2 w rv1 ((dsplitR g r e).2.1)) xx w) := by
 refine calls_of_run Try.func28 rfl (Nat.le_of_ble_eq_true rfl) ?_
 have hbase := Base.start w0
 have r_g_v := hg_v.sl
 have r_r_v := hr_v.sl
 refine run_seq (run_region rfl (l_op rfl ?_))
 refine o_box c0 (is 1) (1, 0) rfl rfl ?_
 intro g4 w1 b3 ch2 bx5
 replace bx5 : Bx g4 (is 1) w1 b3 [Value.int .i64 g.1, g_v] := bx5
 refine l_op rfl ?_
 refine o_alloc g4 (is 2) (2, 0) rfl tp24_db ?_
 intro g9 w6 b8 ch7 bx10
 replace bx10 : Bx g9 (is 2) w6 b8 [Value.int .i64 0, Value.slice none 0 0] := bx10
 refine l_val (v := Value.slice none 0 0) rfl (e_assign rfl) ?_
 refine l_val (v := Value.int .i64 0) rfl (e_assign rfl) ?_
 refine l_nil (run_seq (run_seq (run_region rfl ?_)))
 replace bx5 := bx5.chg ch7 (not_no _)
 refine l_val (v := Value.agg (List.toArray [Value.int .i64 g.1, g_v])) rfl (e_load_bxN (ds := [Value.int .i64 g.1, g_v]) tp24_db rfl bx5 rfl rfl) ?_
 refine l_val (v := r_v) rfl (e_move rfl) ?_
 replace r_g_v := (r_g_v.chg ch2 (not_no _)).chg ch7 (not_no _)
 replace r_r_v := (r_r_v.chg ch2 (not_no _)).chg ch7 (not_no _)
 refine l_op rfl ?_
 refine o_call (v := Value.int .i64 (rmayR g r)) (e_call (vals := [Value.agg (List.toArray [Value.int .i64 g.1, g_v]), r_v]) Try.func15 bd15_db nm15_db rfl) (RMay_ok w6 g g_v (r_g_v).ro r r_v (r_r_v).ro) ?_
 intro w11 hb12
 replace hb12 := chg_below hb12 g9
 refine l_val (v := Value.int .i64 (rmayR g r)) rfl (e_assign rfl) ?_
 refine l_nil (run_seq (run_region rfl ?_))
 refine l_val (v := Value.int .i64 (rmayR g r)) rfl (e_move rfl) ?_
 refine l_val (v := Value.bool (!(decide ((rmayR g r) = 0)))) rfl (e_neq (m := rmayR g r) (n := 0) rfl rfl) ?_
 refine l_nil ?_
 by_cases p2 : (rmayR g r) = 0
 ·
  obtain ⟨hm, hrp⟩ := rmay_ok (by assumption)
  have hm0 := hm
  obtain ⟨hm1, hm2, hm3, hm4⟩ := hm0
  have hrl := hrp.1
  refine run_cond_f rfl (congrArg Bool.not (decide_eq_true p2)) ?_
  refine run_skip ?_
  refine run_seq (run_region rfl ?_)
  replace bx5 := bx5.chg hb12 (not_no _)
  refine l_val (v := Value.agg (List.toArray [Value.int .i64 g.1, g_v])) rfl (e_load_bxN (ds := [Value.int .i64 g.1, g_v]) tp24_db rfl bx5 rfl rfl) ?_
  refine l_val (v := Value.int .i64 e) rfl (e_move rfl) ?_
  replace r_g_v := r_g_v.chg hb12 (not_no _)
  refine l_op rfl ?_
  refine o_callx (e_call (vals := [Value.agg (List.toArray [Value.int .i64 g.1, g_v]), Value.int .i64 e]) Try.func69 bd69_db nm69_db rfl) (Split_ok w11 g g_v (r_g_v).ro e) ?_
  rintro ⟨d14, v16⟩ w13 ⟨fr15, o17⟩
  obtain ⟨g18, hg18⟩ : ∃ q, q = glue w11.heap.size g9 d14 (fun n => if n = 1 then 3 else 0) := ⟨_, rfl⟩
  have ch19 := chg_glue fr15.below g9 d14 (fun n => if n = 1 then 3 else 0)
  rw [← hg18] at ch19
  replace o17 := o17.glue (γ := g9) (ren := (fun n => if n = 1 then 3 else 0)) (k := 3) fr15.col rfl rfl
  rw [← hg18] at o17
  clear hg18
  refine l_val (v := Value.tuple (List.toArray [Value.agg (List.toArray [Value.int .i64 (((splitR g e).1).1), v16]), Value.int .i64 ((splitR g e).2)])) rfl (e_move rfl) ?_
  refine l_val (v := Value.agg (List.toArray [Value.int .i64 (((splitR g e).1).1), v16])) rfl (e_extract rfl rfl) ?_
  refine l_val (v := Value.int .i64 ((splitR g e).2)) rfl (e_extract rfl rfl) ?_
  refine l_op rfl ?_
  refine o_alloc g18 (is 4) (4, 0) rfl tp24_db ?_
  intro g23 w20 b22 ch21 bx24
  replace bx24 : Bx g23 (is 4) w20 b22 [Value.int .i64 0, Value.slice none 0 0] := bx24
  refine l_op rfl ?_
  replace o17 := o17.chg ch21 (not_no _) (not_no _)
  refine o_store_bx (cs' := [Value.int .i64 (((splitR g e).1).1), v16]) tp24_db rfl rfl bx24 rfl (Nat.le_of_ble_eq_true rfl) (AllOne.all (.cons rfl (.cons (sl_one o17.flat) .nil))) rfl ?_
  intro w25 ch26 bx27
  clear bx24
  refine l_val (v := Value.int .i64 ((splitR g e).2)) rfl (e_assign rfl) ?_
  refine l_nil (run_seq (run_seq (run_region rfl ?_)))
  refine l_val (v := Value.int .i64 ((splitR g e).2)) rfl (e_move rfl) ?_
  refine l_val (v := Value.bool (!(decide (((splitR g e).2) = 0)))) rfl (e_neq (m := (splitR g e).2) (n := 0) rfl rfl) ?_
  refine l_nil ?_
  by_cases p5 : ((splitR g e).2) = 0
  ·
   obtain ⟨_, hse, _⟩ := splitR_ok p5
   obtain ⟨⟨hb1, hb2⟩, hb3, hb4, hb5⟩ := split_place hm hrp hse
   obtain ⟨hse1, hse2⟩ := hse
   refine run_cond_f rfl (congrArg Bool.not (decide_eq_true p5)) ?_
   refine run_skip ?_
   refine run_seq (run_region rfl ?_)
   refine l_val (v := Value.pointer (some ⟨b3, 1, none⟩)) rfl (e_fieldAddr Try.underlying24 rfl rfl rfl rfl) ?_
   have C28 : Chg (inl [4]) _ _ _ _ := (ch19.n).seq ((ch21.n).seq (ch26.l rfl))
   replace bx5 := bx5.chg C28 (is_nl rfl)
   refine l_val (v := g_v) rfl (e_load_bx1 tp22_db rfl bx5 rfl) ?_
   replace r_g_v := r_g_v.chg C28 (is_nl rfl)
   have len29 := (r_g_v).small
   refine l_val (v := Value.int .i64 (List.length g.2 : Int)) rfl (e_len Try.underlying22 rfl r_g_v) ?_
   refine l_val (v := Value.int .i64 (2 * (List.length g.2 : Int))) rfl (e_mul (m := 2) (n := (List.length g.2 : Int)) rfl rfl (by omega)) ?_
   refine l_val (v := Value.int .i64 (2 * (List.length g.2 : Int))) rfl (e_assign rfl) ?_
   refine l_nil (run_seq (run_region rfl ?_))
   refine l_val (v := r_v) rfl (e_move rfl) ?_
   have C30 : Chg (inl [4]) _ _ _ _ := (hb12.n).seq ((ch19.n).seq ((ch21.n).seq (ch26.l rfl)))
   replace r_r_v := r_r_v.chg C30 (is_nl rfl)
   refine l_op rfl ?_
   refine o_callx (e_call (vals := [r_v]) Try.func70 bd70_db nm70_db rfl) (dcopied_ok w25 r r_v (r_r_v).ro (by omega) (by exact rot_rows hm hrp)) ?_
   rintro ⟨d32, v34⟩ w31 ⟨fr33, o35⟩
   obtain ⟨g36, hg36⟩ : ∃ q, q = glue w25.heap.size g23 d32 (fun n => if n = 1 then 5 else 0) := ⟨_, rfl⟩
   have ch37 := chg_glue fr33.below g23 d32 (fun n => if n = 1 then 5 else 0)
   rw [← hg36] at ch37
   replace o35 := o35.glue (γ := g23) (ren := (fun n => if n = 1 then 5 else 0)) (k := 5) fr33.col rfl rfl
   rw [← hg36] at o35
   clear hg36
   refine l_val (v := v34) rfl (e_assign rfl) ?_
   refine l_nil (run_seq (run_region rfl ?_))
   refine l_val (v := v34) rfl (e_move rfl) ?_
   refine l_val (v := Value.pointer (some ⟨b3, 1, none⟩)) rfl (e_fieldAddr Try.underlying24 rfl rfl rfl rfl) ?_
   replace bx5 := bx5.chg ch37 (not_no _)
   refine l_val (v := g_v) rfl (e_load_bx1 tp22_db rfl bx5 rfl) ?_
   refine l_val (v := Value.int .i64 e) rfl (e_move rfl) ?_
   replace r_g_v := r_g_v.chg ch37 (not_no _)
   refine l_val (v := Value.pointer (some (eAddr g_v 2 (Int.toNat e)))) rfl (e_indexAddr (α := (Int) × (Int)) (xs := g.2) (v := g_v) (i := e) Try.underlying22 rfl rfl r_g_v rfl (by omega) (by omega)) ?_
   refine l_val (v := Value.pointer (some ⟨(eAddr g_v 2 (Int.toNat e)).block, (eAddr g_v 2 (Int.toNat e)).off + 1, none⟩)) rfl (e_indexAddr_el Try.underlying60 rfl rfl rfl (by decide) (by decide) rfl) ?_
   refine l_val (v := Value.int .i64 ((gI g.2 e).2)) rfl (e_load_elF (α := (Int) × (Int)) (xs := g.2) (v := g_v) (i := e) tp3_db rfl r_g_v (by omega) (by omega) (by decide) rfl) ?_
   refine l_val (v := Value.pointer (some (eAddr v34 1 (Int.toNat ((gI g.2 e).2))))) rfl (e_indexAddr (α := List Int) (xs := r) (v := v34) (i := (gI g.2 e).2) Try.underlying26 rfl rfl o35.sl rfl (by omega) (by omega)) ?_
   obtain ⟨v38, cel39, r40⟩ := nst_row (r := (gI g.2 e).2) o35 (by omega) (by omega)
   refine l_val (v := v38) rfl (e_load1 tp27_db rfl cel39) ?_
   refine l_val (v := v38) rfl (e_assign rfl) ?_
   refine l_nil (run_seq ?_)
   clear bx5
   refine run_region rfl ?_
   refine l_val (v := v38) rfl (e_move rfl) ?_
   refine l_val (v := v38) rfl (e_move rfl) ?_
   refine l_val (v := Value.int .i64 e) rfl (e_move rfl) ?_
   refine l_val (v := Value.int .i64 (2 * e)) rfl (e_mul (m := 2) (n := e) rfl rfl (by omega)) ?_
   refine l_val (v := Value.int .i64 ((2 * e) + 1)) rfl (e_add (m := 2 * e) (n := 1) rfl rfl (by omega)) ?_
   refine l_op rfl ?_
   refine o_call (v := Value.int .i64 (idxS (gI r ((gI g.2 e).2)) ((2 * e) + 1))) (e_call (vals := [v38, Value.int .i64 ((2 * e) + 1)]) Try.func71 bd71_db nm71_db rfl) (Index_ok w31 (gI r ((gI g.2 e).2)) v38 (r40.row_sl).ro ((2 * e) + 1)) ?_
   intro w41 hb42
   replace hb42 := chg_below hb42 g36
   refine l_val (v := Value.int .i64 (2 * (List.length g.2 : Int))) rfl (e_move rfl) ?_
   refine l_val (v := Value.int .i64 ((2 * (List.length g.2 : Int)) + 1)) rfl (e_add (m := 2 * (List.length g.2 : Int)) (n := 1) rfl rfl (by omega)) ?_
   replace r40 := r40.chg hb42 (not_no _) (not_no _)
   refine l_val (v := Value.pointer (some (eAddr v38 1 (Int.toNat (idxS (gI r ((gI g.2 e).2)) ((2 * e) + 1)))))) rfl (e_indexAddr (α := Int) (xs := gI r ((gI g.2 e).2)) (v := v38) (i := idxS (gI r ((gI g.2 e).2)) ((2 * e) + 1)) Try.underlying27 rfl rfl r40.row_sl rfl (by omega) (by omega)) ?_
   refine l_op rfl ?_
   replace o35 := o35.chg hb42 (not_no _)
   replace cel39 := cel_chg cel39 hb42
   refine o_store_el (i := idxS (gI r ((gI g.2 e).2)) ((2 * e) + 1)) ((2 * (List.length g.2 : Int)) + 1) tp3_db rfl rfl r40 (by omega) (by omega) rfl ?_
   intro w46 ch47 r48
   obtain ⟨o49, cel50⟩ := nst_el (r := (gI g.2 e).2) o35 (by omega) (by omega) ch47 cel39 r48
   clear o35
   clear cel39
   clear r40
   refine l_nil (run_seq ?_)
   clear cel50
   clear r48
   refine run_region rfl ?_
   refine l_val (v := v34) rfl (e_move rfl) ?_
   refine l_val (v := Value.int .i64 e) rfl (e_move rfl) ?_
   refine l_val (v := Value.int .i64 (2 * e)) rfl (e_mul (m := 2) (n := e) rfl rfl (by omega)) ?_
   refine l_val (v := Value.int .i64 ((2 * e) + 1)) rfl (e_add (m := 2 * e) (n := 1) rfl rfl (by omega)) ?_
   refine l_val (v := Value.int .i64 (2 * (List.length g.2 : Int))) rfl (e_move rfl) ?_
   refine l_op rfl ?_
   refine o_buildSlice (α := Int) g36 (is 6) (is 6) (6, 0) rfl ([(2 * e) + 1, 2 * (List.length g.2 : Int)] : List Int) Try.underlying27 tp3_db (by decide) (by decide) (vs := [(0, Value.int .i64 ((2 * e) + 1)), (1, Value.int .i64 (2 * (List.length g.2 : Int)))]) rfl rfl (.cons rfl (.cons rfl .nil)) ?_
   intro g51 w52 v53 ch54 o55
   refine l_op rfl ?_
   obtain ⟨c56, hv57⟩ := vc_of (u := v53) (sl_one o55.flat)
   refine o_buildSlice (α := Vc) g51 (is 7) (is 7) (7, 0) rfl [c56] Try.underlying26 tp27_db (by decide) (by decide) (vs := [(0, v53)]) rfl rfl (.cons (vc_els hv57 (sl_cells1 o55.flat)) .nil) ?_
   intro g58 w59 v60 ch61 o62
   refine l_op rfl ?_
   replace o49 := (o49.chg ch54 (not_no _)).chg ch61 (not_no _)
   replace o55 := o55.chg ch61 (not_no _) (not_no _)
   refine o_append_nst hv57 (α := Int) (xss := (List.set r (Int.toNat ((gI g.2 e).2)) (List.set (gI r ((gI g.2 e).2)) (Int.toNat (idxS (gI r ((gI g.2 e).2)) ((2 * e) + 1))) ((2 * (List.length g.2 : Int)) + 1)))) (i := 5) (γ := g58) Try.underlying26 tp27_db rfl rfl rfl o49 (o62.flat) o55 rfl (by decide) (by first | omega | (simp; done) | (simp; omega)) ?_
   intro g63 w64 v65 ch66 o67 r68
   clear o49
   clear o55
   refine l_val (v := v65) rfl (e_assign rfl) ?_
   refine l_nil (run_seq ?_)
   clear o62
   clear r68
   refine run_region rfl ?_
   have C69 : Chg (inl [5, 6]) _ _ _ _ := (ch37.n).seq ((hb42.n).seq ((ch47.lr rfl).seq ((ch54.n).seq ((ch61.n).seq (ch66.lx rfl rfl)))))
   replace bx27 := bx27.chg C69 (is_nl rfl)
   refine l_val (v := Value.agg (List.toArray [Value.int .i64 (((splitR g e).1).1), v16])) rfl (e_load_bxN (ds := [Value.int .i64 (((splitR g e).1).1), v16]) tp24_db rfl bx27 rfl rfl) ?_
   refine l_val (v := v65) rfl (e_move rfl) ?_
   have C70 : Chg (inl [4, 5, 6]) _ _ _ _ := (ch26.l rfl).seq ((ch37.n).seq ((hb42.n).seq ((ch47.lr rfl).seq ((ch54.n).seq ((ch61.n).seq (ch66.lx rfl rfl))))))
   replace o17 := o17.chg C70 (is_nl rfl) (is_nl rfl)
   refine l_op rfl ?_
   refine o_callx (e_call (vals := [Value.agg (List.toArray [Value.int .i64 (((splitR g e).1).1), v16]), v65]) Try.func55 bd55_db nm55_db rfl) (RCanon_ok w64 ((splitR g e).1) v16 (o17.flat).ro ((List.set r (Int.toNat ((gI g.2 e).2)) (List.set (gI r ((gI g.2 e).2)) (Int.toNat (idxS (gI r ((gI g.2 e).2)) ((2 * e) + 1))) ((2 * (List.length g.2 : Int)) + 1))) ++ [([(2 * e) + 1, 2 * (List.length g.2 : Int)] : List Int)]) v65 (o67.sl).ro) ?_
   rintro ⟨d72, v74⟩ w71 ⟨fr73, o75⟩
   obtain ⟨g76, hg76⟩ : ∃ q, q = glue w64.heap.size g63 d72 (fun n => if n = 1 then 8 else 0) := ⟨_, rfl⟩
   have ch77 := chg_glue fr73.below g63 d72 (fun n => if n = 1 then 8 else 0)
   rw [← hg76] at ch77
   replace o75 := o75.glue (γ := g63) (ren := (fun n => if n = 1 then 8 else 0)) (k := 8) fr73.col rfl rfl
   rw [← hg76] at o75
   clear hg76
   refine l_val (v := Value.tuple (List.toArray [v74, Value.int .i64 ((canonR ((splitR g e).1) ((List.set r (Int.toNat ((gI g.2 e).2)) (List.set (gI r ((gI g.2 e).2)) (Int.toNat (idxS (gI r ((gI g.2 e).2)) ((2 * e) + 1))) ((2 * (List.length g.2 : Int)) + 1))) ++ [([(2 * e) + 1, 2 * (List.length g.2 : Int)] : List Int)])).2)])) rfl (e_move rfl) ?_
   refine l_val (v := v74) rfl (e_extract rfl rfl) ?_
   refine l_val (v := Value.int .i64 ((canonR ((splitR g e).1) ((List.set r (Int.toNat ((gI g.2 e).2)) (List.set (gI r ((gI g.2 e).2)) (Int.toNat (idxS (gI r ((gI g.2 e).2)) ((2 * e) + 1))) ((2 * (List.length g.2 : Int)) + 1))) ++ [([(2 * e) + 1, 2 * (List.length g.2 : Int)] : List Int)])).2)) rfl (e_extract rfl rfl) ?_
   refine l_val (v := v74) rfl (e_assign rfl) ?_
   refine l_nil (run_seq ?_)
   clear o67
   refine run_region rfl ?_
   replace bx27 := bx27.chg ch77 (not_no _)
   refine l_val (v := Value.agg (List.toArray [Value.int .i64 (((splitR g e).1).1), v16])) rfl (e_load_bxN (ds := [Value.int .i64 (((splitR g e).1).1), v16]) tp24_db rfl bx27 rfl rfl) ?_
   refine l_val (v := v74) rfl (e_move rfl) ?_
   refine l_op rfl ?_
   have C81 : Chg (inl [4, 5, 6]) _ _ _ _ := (hb12.n).seq ((ch19.n).seq ((ch21.n).seq ((ch26.l rfl).seq ((ch37.n).seq ((hb42.n).seq ((ch47.lr rfl).seq ((ch54.n).seq ((ch61.n).seq ((ch66.lx rfl rfl).seq (ch77.n))))))))))
   replace bx10 := bx10.chg C81 (is_nl rfl)
   replace o17 := o17.chg ch77 (not_no _) (not_no _)
   refine o_store_bx (cs' := [Value.int .i64 (((splitR g e).1).1), v16]) tp24_db rfl rfl bx10 rfl (Nat.le_of_ble_eq_true rfl) (AllOne.all (.cons rfl (.cons (sl_one o17.flat) .nil))) rfl ?_
   intro w78 ch79 bx80
   clear bx10
   refine l_val (v := v74) rfl (e_assign rfl) ?_
   refine l_val (v := Value.int .i64 0) rfl (e_assign rfl) ?_
   refine l_nil ?_
   refine run_ret (vs := [Value.agg (List.toArray [Value.int .i64 (((splitR g e).1).1), v16]), v74, Value.int .i64 0]) Try.func28 (.cell rfl (load_bxN (ds := [Value.int .i64 (((splitR g e).1).1), v16]) tp24_db bx80 rfl rfl) (.tmp rfl (.tmp rfl .nil))) ?_
   -- return 0
   have C82 : Chg (inl [2, 4, 5, 6]) _ _ _ _ := (ch2.n).seq ((ch7.n).seq ((hb12.n).seq ((ch19.n).seq ((ch21.n).seq ((ch26.l rfl).seq ((ch37.n).seq ((hb42.n).seq ((ch47.lr rfl).seq ((ch54.n).seq ((ch61.n).seq ((ch66.lx rfl rfl).seq ((ch77.n).seq (ch79.l rfl)))))))))))))
   replace hbase := hbase.chg C82 (is_nl rfl)
   replace o17 := o17.chg ch79 (is_ne rfl) (is_ne rfl)
   replace o75 := o75.chg ch79 (is_ne rfl)
   have e0 : (((splitR g e).1) : (Int) × (List ((Int) × (Int)))) = ((dsplitR g r e).1) := by
     first
       | (simp only [dsplitR, if_neg (show ¬ rmayR g r = 0 by assumption)]; done)
       | (simp only [dsplitR, if_pos (show rmayR g r = 0 by assumption), if_neg (show ¬ (splitR g e).2 = 0 by assumption)]; done)
       | (simp only [dsplitR, if_pos (show rmayR g r = 0 by assumption), if_pos (show (splitR g e).2 = 0 by assumption), dsplitS]; done)
       | (simp only [dsplitR, if_pos (show rmayR g r = 0 by assumption), if_pos (show (splitR g e).2 = 0 by assumption)]; done)
   have e1 : ((canonR ((splitR g e).1) ((List.set r (Int.toNat ((gI g.2 e).2)) (List.set (gI r ((gI g.2 e).2)) (Int.toNat (idxS (gI r ((gI g.2 e).2)) ((2 * e) + 1))) ((2 * (List.length g.2 : Int)) + 1))) ++ [([(2 * e) + 1, 2 * (List.length g.2 : Int)] : List Int)])).1 : List (List Int)) = ((dsplitR g r e).2.1) := by
     first
       | (simp only [dsplitR, if_neg (show ¬ rmayR g r = 0 by assumption)]; done)
       | (simp only [dsplitR, if_pos (show rmayR g r = 0 by assumption), if_neg (show ¬ (splitR g e).2 = 0 by assumption)]; done)
       | (simp only [dsplitR, if_pos (show rmayR g r = 0 by assumption), if_pos (show (splitR g e).2 = 0 by assumption), dsplitS]; done)
       | (simp only [dsplitR, if_pos (show rmayR g r = 0 by assumption), if_pos (show (splitR g e).2 = 0 by assumption)]; done)
   have e2 : (0 : Int) = ((dsplitR g r e).2.2) := by
     first
       | (simp only [dsplitR, if_neg (show ¬ rmayR g r = 0 by assumption)]; done)
       | (simp only [dsplitR, if_pos (show rmayR g r = 0 by assumption), if_neg (show ¬ (splitR g e).2 = 0 by assumption)]; done)
       | (simp only [dsplitR, if_pos (show rmayR g r = 0 by assumption), if_pos (show (splitR g e).2 = 0 by assumption), dsplitS]; done)
       | (simp only [dsplitR, if_pos (show rmayR g r = 0 by assumption), if_pos (show (splitR g e).2 = 0 by assumption)]; done)
   exact ⟨(fin w0 g76 (fun n => if n = 3 then 1 else if n = 8 then 2 else 0), v16, v74), (congr3 (a := ((splitR g e).1)) (b := (canonR ((splitR g e).1) ((List.set r (Int.toNat ((gI g.2 e).2)) (List.set (gI r ((gI g.2 e).2)) (Int.toNat (idxS (gI r ((gI g.2 e).2)) ((2 * e) + 1))) ((2 * (List.length g.2 : Int)) + 1))) ++ [([(2 * e) + 1, 2 * (List.length g.2 : Int)] : List Int)])).1) (c := 0) (fun (z0 : (Int) × (List ((Int) × (Int)))) (z1 : List (List Int)) (z2 : Int) => Ending.returned (Value.tuple (List.toArray [Value.agg (List.toArray [Value.int .i64 z0.1, v16]), v74, Value.int .i64 z2]))) e0 e1 e2), hbase.fresh _, ((congrArg (fun (z : (Int) × (List ((Int) × (Int)))) => z.2) e0) ▸ (o17.glue (γ := c0) (ren := (fun n => if n = 3 then 1 else if n = 8 then 2 else 0)) (k := 1) hbase.col rfl rfl)), (e1 ▸ (o75.glue (γ := c0) (ren := (fun n => if n = 3 then 1 else if n = 8 then 2 else 0)) (k := 2) hbase.col rfl rfl))⟩
  refine run_cond_t rfl (congrArg Bool.not (decide_eq_false p5)) ?_
  refine run_seq ?_
  clear bx5
  clear o17
  clear bx27
  refine run_region rfl ?_
  refine l_val (v := Value.agg (List.toArray [Value.int .i64 0, Value.slice none 0 0])) rfl (e_build (vs := []) rfl (by kernel_rfl)) ?_
  refine l_val (v := Value.int .i64 ((splitR g e).2)) rfl (e_move rfl) ?_
  refine l_op rfl ?_
  have C86 : Chg (inl [4]) _ _ _ _ := (hb12.n).seq ((ch19.n).seq ((ch21.n).seq (ch26.l rfl)))
  replace bx10 := bx10.chg C86 (is_nl rfl)
  refine o_store_bx (cs' := [Value.int .i64 0, Value.slice none 0 0]) tp24_db rfl rfl bx10 rfl (Nat.le_of_ble_eq_true rfl) (AllOne.all (.cons rfl (.cons rfl .nil))) rfl ?_
  intro w83 ch84 bx85
  clear bx10
  refine l_val (v := Value.slice none 0 0) rfl (e_assign rfl) ?_
  refine l_val (v := Value.int .i64 ((splitR g e).2)) rfl (e_assign rfl) ?_
  refine l_nil ?_
  refine run_ret (vs := [Value.agg (List.toArray [Value.int .i64 0, Value.slice none 0 0]), Value.slice none 0 0, Value.int .i64 ((splitR g e).2)]) Try.func28 (.cell rfl (load_bxN (ds := [Value.int .i64 0, Value.slice none 0 0]) tp24_db bx85 rfl rfl) (.tmp rfl (.tmp rfl .nil))) ?_
  -- return 1
  have C87 : Chg (inl [2, 4]) _ _ _ _ := (ch2.n).seq ((ch7.n).seq ((hb12.n).seq ((ch19.n).seq ((ch21.n).seq ((ch26.l rfl).seq (ch84.l rfl))))))
  replace hbase := hbase.chg C87 (is_nl rfl)
  have e0 : ((0, []) : (Int) × (List ((Int) × (Int)))) = ((dsplitR g r e).1) := by
    first
      | (simp only [dsplitR, if_neg (show ¬ rmayR g r = 0 by assumption)]; done)
      | (simp only [dsplitR, if_pos (show rmayR g r = 0 by assumption), if_neg (show ¬ (splitR g e).2 = 0 by assumption)]; done)
      | (simp only [dsplitR, if_pos (show rmayR g r = 0 by assumption), if_pos (show (splitR g e).2 = 0 by assumption), dsplitS]; done)
      | (simp only [dsplitR, if_pos (show rmayR g r = 0 by assumption), if_pos (show (splitR g e).2 = 0 by assumption)]; done)
  have e1 : ([] : List (List Int)) = ((dsplitR g r e).2.1) := by
    first
      | (simp only [dsplitR, if_neg (show ¬ rmayR g r = 0 by assumption)]; done)
      | (simp only [dsplitR, if_pos (show rmayR g r = 0 by assumption), if_neg (show ¬ (splitR g e).2 = 0 by assumption)]; done)
      | (simp only [dsplitR, if_pos (show rmayR g r = 0 by assumption), if_pos (show (splitR g e).2 = 0 by assumption), dsplitS]; done)
      | (simp only [dsplitR, if_pos (show rmayR g r = 0 by assumption), if_pos (show (splitR g e).2 = 0 by assumption)]; done)
  have e2 : ((splitR g e).2 : Int) = ((dsplitR g r e).2.2) := by
    first
      | (simp only [dsplitR, if_neg (show ¬ rmayR g r = 0 by assumption)]; done)
      | (simp only [dsplitR, if_pos (show rmayR g r = 0 by assumption), if_neg (show ¬ (splitR g e).2 = 0 by assumption)]; done)
      | (simp only [dsplitR, if_pos (show rmayR g r = 0 by assumption), if_pos (show (splitR g e).2 = 0 by assumption), dsplitS]; done)
      | (simp only [dsplitR, if_pos (show rmayR g r = 0 by assumption), if_pos (show (splitR g e).2 = 0 by assumption)]; done)
  exact ⟨(fin w0 g23 (fun n => 0), (Value.slice none 0 0), (Value.slice none 0 0)), (congr3 (a := (0, [])) (b := []) (c := (splitR g e).2) (fun (z0 : (Int) × (List ((Int) × (Int)))) (z1 : List (List Int)) (z2 : Int) => Ending.returned (Value.tuple (List.toArray [Value.agg (List.toArray [Value.int .i64 z0.1, Value.slice none 0 0]), Value.slice none 0 0, Value.int .i64 z2]))) e0 e1 e2), hbase.fresh _, ((congrArg (fun (z : (Int) × (List ((Int) × (Int)))) => z.2) e0) ▸ Ow.nil), (e1 ▸ Nst.nil)⟩
 refine run_cond_t rfl (congrArg Bool.not (decide_eq_false p2)) ?_
 refine run_seq ?_
 clear bx5
 refine run_region rfl ?_
 refine l_val (v := Value.agg (List.toArray [Value.int .i64 0, Value.slice none 0 0])) rfl (e_build (vs := []) rfl (by kernel_rfl)) ?_
 refine l_val (v := Value.int .i64 (rmayR g r)) rfl (e_move rfl) ?_
 refine l_op rfl ?_
 replace bx10 := bx10.chg hb12 (not_no _)
 refine o_store_bx (cs' := [Value.int .i64 0, Value.slice none 0 0]) tp24_db rfl rfl bx10 rfl (Nat.le_of_ble_eq_true rfl) (AllOne.all (.cons rfl (.cons rfl .nil))) rfl ?_
 intro w88 ch89 bx90
 clear bx10
 refine l_val (v := Value.slice none 0 0) rfl (e_assign rfl) ?_
 refine l_val (v := Value.int .i64 (rmayR g r)) rfl (e_assign rfl) ?_
 refine l_nil ?_
 refine run_ret (vs := [Value.agg (List.toArray [Value.int .i64 0, Value.slice none 0 0]), Value.slice none 0 0, Value.int .i64 (rmayR g r)]) Try.func28 (.cell rfl (load_bxN (ds := [Value.int .i64 0, Value.slice none 0 0]) tp24_db bx90 rfl rfl) (.tmp rfl (.tmp rfl .nil))) ?_
 -- return 2
 have C91 : Chg (inl [2]) _ _ _ _ := (ch2.n).seq ((ch7.n).seq ((hb12.n).seq (ch89.l rfl)))
 replace hbase := hbase.chg C91 (is_nl rfl)
 have e0 : ((0, []) : (Int) × (List ((Int) × (Int)))) = ((dsplitR g r e).1) := by
   first
     | (simp only [dsplitR, if_neg (show ¬ rmayR g r = 0 by assumption)]; done)
     | (simp only [dsplitR, if_pos (show rmayR g r = 0 by assumption), if_neg (show ¬ (splitR g e).2 = 0 by assumption)]; done)
     | (simp only [dsplitR, if_pos (show rmayR g r = 0 by assumption), if_pos (show (splitR g e).2 = 0 by assumption), dsplitS]; done)
     | (simp only [dsplitR, if_pos (show rmayR g r = 0 by assumption), if_pos (show (splitR g e).2 = 0 by assumption)]; done)
 have e1 : ([] : List (List Int)) = ((dsplitR g r e).2.1) := by
   first
     | (simp only [dsplitR, if_neg (show ¬ rmayR g r = 0 by assumption)]; done)
     | (simp only [dsplitR, if_pos (show rmayR g r = 0 by assumption), if_neg (show ¬ (splitR g e).2 = 0 by assumption)]; done)
     | (simp only [dsplitR, if_pos (show rmayR g r = 0 by assumption), if_pos (show (splitR g e).2 = 0 by assumption), dsplitS]; done)
     | (simp only [dsplitR, if_pos (show rmayR g r = 0 by assumption), if_pos (show (splitR g e).2 = 0 by assumption)]; done)
 have e2 : (rmayR g r : Int) = ((dsplitR g r e).2.2) := by
   first
     | (simp only [dsplitR, if_neg (show ¬ rmayR g r = 0 by assumption)]; done)
     | (simp only [dsplitR, if_pos (show rmayR g r = 0 by assumption), if_neg (show ¬ (splitR g e).2 = 0 by assumption)]; done)
     | (simp only [dsplitR, if_pos (show rmayR g r = 0 by assumption), if_pos (show (splitR g e).2 = 0 by assumption), dsplitS]; done)
     | (simp only [dsplitR, if_pos (show rmayR g r = 0 by assumption), if_pos (show (splitR g e).2 = 0 by assumption)]; done)
 exact ⟨(fin w0 g9 (fun n => 0), (Value.slice none 0 0), (Value.slice none 0 0)), (congr3 (a := (0, [])) (b := []) (c := rmayR g r) (fun (z0 : (Int) × (List ((Int) × (Int)))) (z1 : List (List Int)) (z2 : Int) => Ending.returned (Value.tuple (List.toArray [Value.agg (List.toArray [Value.int .i64 z0.1, Value.slice none 0 0]), Value.slice none 0 0, Value.int .i64 z2]))) e0 e1 e2), hbase.fresh _, ((congrArg (fun (z : (Int) × (List ((Int) × (Int)))) => z.2) e0) ▸ Ow.nil), (e1 ▸ Nst.nil)⟩
end TL
