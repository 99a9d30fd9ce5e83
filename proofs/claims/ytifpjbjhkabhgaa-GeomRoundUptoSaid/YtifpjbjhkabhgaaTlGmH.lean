import Derived.Test.YtifpjbjhkabhgaaTlGmA
import Derived.Test.YtifpjbjhkabhgaaTlGmM
import Derived.Test.YtifpjbjhkabhgaaTlGmG
import Derived.Test.YtifpjbjhkabhgaaTlSortA
import Derived.Test.YtifpjbjhkabhgaaProg
import Derived.Test.YtifpjbjhkabhgaaTlNet2
import Derived.Test.YtifpjbjhkabhgaaTlEq
import Derived.Test.YtifpjbjhkabhgaaTlHold
import Derived.Test.YtifpjbjhkabhgaaTlDraw
import Derived.Test.YtifpjbjhkabhgaaTlMap
set_option linter.all false
set_option maxRecDepth 20000
namespace TL
open Go Go.Proofs
theorem mixed_gh : Try.prog.follows .mixedOrders = true := by kernel_rfl
theorem tp3_gh : Tp Try.prog 3 false 1 8 (.int .i64 0) := Tp.of (by kernel_rfl)
theorem tp23_gh : Tp Try.prog 23 true 2 16 (.agg #[.int .i64 0, .int .i64 0]) := Tp.of (by kernel_rfl)
theorem tp25_gh : Tp Try.prog 25 false 1 24 (.slice none 0 0) := Tp.of (by kernel_rfl)
theorem bd25_gh : Try.f25.body.isNone = false := rfl
theorem nm25_gh : (Try.f25.name == "runtime.NumGoroutine") = false := by decide +kernel
theorem bd38_gh : Try.f38.body.isNone = false := rfl
theorem nm38_gh : (Try.f38.name == "runtime.NumGoroutine") = false := by decide +kernel

theorem Around_ok (w0 : World) (o : (Int) × (Int)) (ps : List ((Int) × (Int))) (ps_v : Value) (hps_v : Ro w0 ps_v ps) :
    Calls Try.prog 18 #[Value.agg (List.toArray [Value.int .i64 o.1, Value.int .i64 o.2]), ps_v] w0 (fun ee w => ∃ xx : Cmap × Value, ee = .returned ((fun ⟨δ, rv0⟩ => Value.tuple (List.toArray [rv0, Value.int .i64 ((arR o ps).2)])) xx) ∧ (fun (⟨δ, rv0⟩ : Cmap × Value) (w : World) => Fresh w0 δ w ∧ Ow δ (is 1) (is 1) w rv0 ((arR o ps).1)) xx w) := by
 refine calls_of_run Try.func18 rfl (Nat.le_of_ble_eq_true rfl) ?_
 have hbase := Base.start w0
 have r_ps_v := hps_v.sl
 refine run_seq (run_region rfl (l_op rfl ?_))
 refine o_box c0 (is 1) (1, 0) rfl rfl ?_
 intro g4 w1 b3 ch2 bx5
 replace bx5 : Bx g4 (is 1) w1 b3 [Value.int .i64 o.1, Value.int .i64 o.2] := bx5
 refine l_op rfl ?_
 replace r_ps_v := r_ps_v.chg ch2 (not_no _)
 have hc11 := sl_cells1 r_ps_v
 refine o_box (v := ps_v) g4 (is 2) (2, 0) rfl rfl ?_
 intro g9 w6 b8 ch7 bx10
 rw [hc11] at bx10
 replace bx10 : Bx g9 (is 2) w6 b8 [ps_v] := bx10
 refine l_val (v := Value.slice none 0 0) rfl (e_assign rfl) ?_
 refine l_val (v := Value.int .i64 0) rfl (e_assign rfl) ?_
 refine l_nil (run_seq (run_seq (run_region rfl ?_)))
 replace bx5 := bx5.chg ch7 (not_no _)
 refine l_val (v := Value.agg (List.toArray [Value.int .i64 o.1, Value.int .i64 o.2])) rfl (e_load_bxN (ds := [Value.int .i64 o.1, Value.int .i64 o.2]) tp23_gh rfl bx5 rfl rfl) ?_
 refine l_op rfl ?_
 refine o_buildSlice (α := (Int) × (Int)) g9 (is 3) (is 3) (3, 0) rfl [o] Try.underlying25 tp23_gh (by decide) (by decide) (vs := [(0, Value.agg (List.toArray [Value.int .i64 o.1, Value.int .i64 o.2]))]) rfl rfl (.cons rfl .nil) ?_
 intro g12 w13 v14 ch15 o16
 refine l_op rfl ?_
 refine o_call (v := Value.bool (decide (okL ([o])))) (e_call (vals := [v14]) Try.func25 bd25_gh nm25_gh rfl) (GMay_ok w13 ([o]) v14 (o16.flat).ro) ?_
 intro w17 hb18
 replace hb18 := chg_below hb18 g12
 refine l_val (v := Value.bool (!(decide (okL ([o]))))) rfl (e_not (b := (decide (okL ([o])))) rfl) ?_
 refine l_val (v := Value.bool (!(decide (okL ([o]))))) rfl (e_move rfl) ?_
 by_cases q13 : (decide (okL ([o]))) = true
 ·
  replace bx10 := (bx10.chg ch15 (not_no _)).chg hb18 (not_no _)
  refine l_val (v := ps_v) (want_y rfl rfl rfl (congrArg Bool.not q13)) (e_load_bx1 tp25_gh rfl bx10 rfl) ?_
  have C19 : Chg (inl []) _ _ _ _ := (ch7.n).seq ((ch15.n).seq (hb18.n))
  replace r_ps_v := r_ps_v.chg C19 (is_nl rfl)
  refine l_op (want_y rfl rfl rfl (congrArg Bool.not q13)) ?_
  refine o_call (v := Value.bool (decide (okL ps))) (e_call (vals := [ps_v]) Try.func25 bd25_gh nm25_gh rfl) (GMay_ok w17 ps ps_v (r_ps_v).ro) ?_
  intro w20 hb21
  replace hb21 := chg_below hb21 g12
  refine l_val (v := Value.bool (!(decide (okL ps)))) (want_y rfl rfl rfl (congrArg Bool.not q13)) (e_not (b := (decide (okL ps))) rfl) ?_
  refine l_val (v := Value.bool (!(decide (okL ps)))) rfl (e_pick_f rfl (congrArg Bool.not q13) rfl) ?_
  refine l_nil ?_
  by_cases p1 : (decide (okL ps)) = true
  ·
   refine run_cond_f rfl (congrArg Bool.not p1) ?_
   refine run_skip ?_
   refine run_seq ?_
   clear o16
   refine run_region rfl ?_
   refine l_val (v := Value.slice none 0 0) rfl (e_assign rfl) ?_
   refine l_nil (run_seq (run_seq (run_region rfl ?_)))
   replace bx10 := bx10.chg hb21 (not_no _)
   refine l_val (v := ps_v) rfl (e_load_bx1 tp25_gh rfl bx10 rfl) ?_
   replace r_ps_v := r_ps_v.chg hb21 (not_no _)
   have len22 := (r_ps_v).small
   refine l_val (v := Value.int .i64 (List.length ps : Int)) rfl (e_len Try.underlying25 rfl r_ps_v) ?_
   refine l_val (v := Value.int .i64 0) rfl (e_move rfl) ?_
   refine l_nil ?_
   refine run_block ?_
   refine run_loop (σ := Value × (List Int) × Nat × Cmap) (fun ⟨l1_v, l1, i, gq⟩ f w => Base w0 gq w ∧ f 2 = Value.pointer (some ⟨b3, 0, none⟩) ∧ f 3 = Value.pointer (some ⟨b8, 0, none⟩) ∧ f 6 = l1_v ∧ f 18 = ps_v ∧ f 19 = Value.int .i64 (List.length ps : Int) ∧ f 20 = Value.int .i64 (i : Int) ∧ Sl gq (is 0) w ps_v ps ∧ Bx gq (is 1) w b3 [Value.int .i64 o.1, Value.int .i64 o.2] ∧ Bx gq (is 2) w b8 [ps_v] ∧ Ow gq (is 6) (is 6) w l1_v l1 ∧ (i : Int) ≤ ((List.length ps : Int) : Int) ∧ (l1 = idxL i ∧ ∀ j : Nat, j < i → gI ps (j : Int) ≠ o)) (fun ⟨l1_v, l1, i, gq⟩ => Int.toNat (((List.length ps : Int) : Int) - (i : Int))) (Value.slice none 0 0, [], 0, g12) ?_ ?_
   have C23 : Chg (inl []) _ _ _ _ := (ch2.n).seq ((ch7.n).seq ((ch15.n).seq ((hb18.n).seq (hb21.n))))
   replace hbase := hbase.chg C23 (is_nl rfl)
   have C24 : Chg (inl []) _ _ _ _ := (ch15.n).seq ((hb18.n).seq (hb21.n))
   replace bx5 := bx5.chg C24 (is_nl rfl)
   · exact ⟨hbase, rfl, rfl, rfl, rfl, rfl, rfl, r_ps_v, bx5, bx10, Ow.nil, by omega, by exact ⟨rfl, fun j hj => by omega⟩⟩
   clear r_ps_v
   clear bx5
   clear bx10
   clear hbase
   rintro ⟨l1_v, l1, i, g27⟩ f25 w26 ⟨hbase, zs2, zs3, zs6, zs18, zs19, zs20, r_ps_v, bx5, bx10, o_l1, hle_i, hinv⟩ back5
   refine run_seq (run_region rfl ?_)
   refine l_val (v := Value.bool (decide ((i : Int) < (List.length ps : Int)))) rfl (e_lss (m := (i : Int)) (n := (List.length ps : Int)) (by exact zs20) (by exact zs19)) ?_
   refine l_nil (run_seq ?_)
   by_cases p5 : (i : Int) < (List.length ps : Int)
   ·
    refine run_cond_t rfl (decide_eq_true p5) ?_
    have hll : l1.length = i := by rw [hinv.1, idxL_len]
    refine run_skip ?_
    refine run_seq ?_
    refine run_block ?_
    refine run_seq (run_region rfl ?_)
    refine l_val (v := Value.int .i64 (i : Int)) rfl (e_move (by exact zs20)) ?_
    refine l_val (v := Value.pointer (some (eAddr ps_v 2 (Int.toNat (i : Int))))) rfl (e_indexAddr (α := (Int) × (Int)) (xs := ps) (v := ps_v) (i := (i : Int)) Try.underlying25 rfl (by exact zs18) r_ps_v (by exact zs20) (by omega) (by omega)) ?_
    refine l_val (v := Value.agg (List.toArray [Value.int .i64 ((gI ps (i : Int)).1), Value.int .i64 ((gI ps (i : Int)).2)])) rfl (e_load_elN (α := (Int) × (Int)) (xs := ps) (v := ps_v) (i := (i : Int)) tp23_gh rfl r_ps_v (by omega) (by omega) rfl) ?_
    refine l_op rfl ?_
    refine o_alloc g27 (is 4) (4, 0) rfl tp23_gh ?_
    intro g31 w28 b30 ch29 bx32
    replace bx32 : Bx g31 (is 4) w28 b30 [Value.int .i64 0, Value.int .i64 0] := bx32
    refine l_val (v := Value.int .i64 (i : Int)) rfl (e_assign rfl) ?_
    refine l_op rfl ?_
    refine o_store_bx (cs' := [Value.int .i64 ((gI ps (i : Int)).1), Value.int .i64 ((gI ps (i : Int)).2)]) tp23_gh rfl rfl bx32 rfl (Nat.le_of_ble_eq_true rfl) (AllOne.all (.cons rfl (.cons rfl .nil))) rfl ?_
    intro w33 ch34 bx35
    clear bx32
    refine l_nil (run_seq (run_seq (run_region rfl ?_)))
    refine l_val (v := Value.agg (List.toArray [Value.int .i64 ((gI ps (i : Int)).1), Value.int .i64 ((gI ps (i : Int)).2)])) rfl (e_load_bxN (ds := [Value.int .i64 ((gI ps (i : Int)).1), Value.int .i64 ((gI ps (i : Int)).2)]) tp23_gh rfl bx35 rfl rfl) ?_
    replace bx5 := (bx5.chg ch29 (not_no _)).chg ch34 (is_ne rfl)
    refine l_val (v := Value.agg (List.toArray [Value.int .i64 o.1, Value.int .i64 o.2])) rfl (e_load_bxN (ds := [Value.int .i64 o.1, Value.int .i64 o.2]) tp23_gh (by exact zs2) bx5 rfl rfl) ?_
    refine l_val (v := Value.bool (decide ((gI ps (i : Int)) = o))) rfl (e_eql_struct (bs := [decide (((gI ps (i : Int)).1) = o.1), decide (((gI ps (i : Int)).2) = o.2)]) Try.underlying23 (by kernel_rfl) (by kernel_rfl) rfl rfl (.cons (by decide +kernel) tp3_gh rfl rfl (.int Try.underlying3) (.cons (by decide +kernel) tp3_gh rfl rfl (.int Try.underlying3) .nil)) (by simp [Prod.ext_iff, Bool.decide_and, Bool.and_assoc])) ?_
    refine l_nil ?_
    by_cases p7 : (gI ps (i : Int)) = o
    ·
     refine run_cond_t rfl (decide_eq_true p7) ?_
     refine run_seq ?_
     clear bx5
     clear bx10
     clear o_l1
     clear bx35
     refine run_region rfl ?_
     refine l_val (v := Value.slice none 0 0) rfl (e_assign rfl) ?_
     refine l_val (v := Value.int .i64 1) rfl (e_assign rfl) ?_
     refine l_nil ?_
     refine run_ret (vs := [Value.slice none 0 0, Value.int .i64 1]) Try.func18 (.tmp rfl (.tmp rfl .nil)) ?_
     -- return 0
     replace hbase := hbase.chg ch29 (not_no _)
     replace hbase := hbase.chg ch34 (is_ne rfl)
     have e0 : ([] : List Int) = ((arR o ps).1) := by
       first
         | (rw [arR_no fun h => nzA_no (by assumption) (by assumption) h.2]; done)
         | (rw [arR_no fun h => q13 (decide_eq_true (okL1.2 h.1.1))]; done)
         | (rw [arR_no fun h => p1 (decide_eq_true h.1.2)]; done)
         | (rw [arR_ok hko hkl hnz]; done)
     have e1 : (1 : Int) = ((arR o ps).2) := by
       first
         | (rw [arR_no fun h => nzA_no (by assumption) (by assumption) h.2]; done)
         | (rw [arR_no fun h => q13 (decide_eq_true (okL1.2 h.1.1))]; done)
         | (rw [arR_no fun h => p1 (decide_eq_true h.1.2)]; done)
         | (rw [arR_ok hko hkl hnz]; done)
     exact ⟨(fin w0 g31 (fun n => 0), (Value.slice none 0 0)), (congr2 (a := []) (b := 1) (fun (z0 : List Int) (z1 : Int) => Ending.returned (Value.tuple (List.toArray [Value.slice none 0 0, Value.int .i64 z1]))) e0 e1), hbase.fresh _, (e0 ▸ Ow.nil)⟩
    refine run_cond_f rfl (decide_eq_false p7) ?_
    refine run_skip ?_
    clear bx35
    refine run_region rfl ?_
    refine l_val (v := l1_v) rfl (e_move (by exact zs6)) ?_
    refine l_val (v := Value.int .i64 (i : Int)) rfl (e_move rfl) ?_
    refine l_op rfl ?_
    refine o_buildSlice (α := Int) g31 (is 5) (is 5) (5, 0) rfl [(i : Int)] Try.underlying34 tp3_gh (by decide) (by decide) (vs := [(0, Value.int .i64 (i : Int))]) rfl rfl (.cons rfl .nil) ?_
    intro g36 w37 v38 ch39 o40
    refine l_op rfl ?_
    have C41 : Chg (inl [4]) _ _ _ _ := (ch29.n).seq ((ch34.l rfl).seq (ch39.n))
    replace o_l1 := o_l1.chg C41 (is_nl rfl) (is_nl rfl)
    refine o_append (α := Int) (xs := l1) (ys := ([(i : Int)])) g36 (J := is 6) (S := is 6) (6, 0) rfl Try.underlying34 tp3_gh (by decide) rfl rfl rfl o_l1 o40.flat (by decide) (by first | omega | (simp; done) | (simp; omega)) ?_
    intro g42 w43 v44 ch45 o46
    clear o_l1
    refine l_val (v := v44) rfl (e_assign rfl) ?_
    refine l_nil ?_
    refine run_inBlock ?_
    clear o40
    refine run_region rfl ?_
    refine l_val (v := Value.int .i64 ((i : Int) + 1)) rfl (e_add (m := (i : Int)) (n := 1) (by exact zs20) rfl (by omega)) ?_
    refine l_val (v := Value.int .i64 ((i : Int) + 1)) rfl (e_move rfl) ?_
    refine l_nil ?_
    have C47 : Chg (inl [4, 6]) _ _ _ _ := (ch29.n).seq ((ch34.l rfl).seq ((ch39.n).seq (ch45.l rfl)))
    replace hbase := hbase.chg C47 (is_nl rfl)
    replace r_ps_v := r_ps_v.chg C47 (is_nl rfl)
    replace bx5 := (bx5.chg ch39 (not_no _)).chg ch45 (is_ne rfl)
    replace bx10 := bx10.chg C47 (is_nl rfl)
    refine back5 (v44, (l1 ++ [(i : Int)]), i + 1, g42) _ _ ⟨hbase, (by exact zs2), (by exact zs3), rfl, (by exact zs18), (by exact zs19), rfl, r_ps_v, bx5, bx10, o46, by omega, ?_⟩ ?_
    · show (l1 ++ [(i : Int)]) = idxL (i + 1) ∧ ∀ j : Nat, j < (i + 1) → gI ps (j : Int) ≠ o
      refine ⟨by rw [idxL_succ, ← hinv.1], fun j hj => ?_⟩
      by_cases h1 : j = i
      · subst h1; assumption
      · exact hinv.2 j (by omega)
    · show Int.toNat (((List.length ps : Int) : Int) - ((i + 1) : Int)) < Int.toNat (((List.length ps : Int) : Int) - (i : Int))
      omega
   refine run_cond_f rfl (decide_eq_false p5) ?_
   refine run_exit rfl ?_
   refine run_seq ?_
   have hki : i = ps.length := by omega
   have hnz : nzA o ps := fun j hj => hinv.2 j (by omega)
   have hko := okL1.1 (by first | exact of_decide_eq_true q13 | exact q13)
   have hkl : okL ps := by first | exact of_decide_eq_true p1 | exact p1
   refine run_region rfl ?_
   refine l_val (v := l1_v) rfl (e_move (by exact zs6)) ?_
   refine l_val (v := Value.func (.func 39) #[] (List.toArray [Value.pointer (some ⟨b8, 0, none⟩), Value.pointer (some ⟨b3, 0, none⟩)])) rfl (e_makeFunc (vals := [Value.pointer (some ⟨b8, 0, none⟩), Value.pointer (some ⟨b3, 0, none⟩)]) (mapc (by exact zs3) (mapc (by exact zs2) rfl))) ?_
   refine l_op rfl ?_
   refine o_callx (σ := Unit) (V := fun _ => Value.tuple #[]) (e_call (vals := [l1_v, Value.func (.func 39) #[] (List.toArray [Value.pointer (some ⟨b8, 0, none⟩), Value.pointer (some ⟨b3, 0, none⟩)])]) Try.func38 bd38_gh nm38_gh rfl) (sortA_ok o_l1 bx10 r_ps_v bx5 (is_ne rfl) (is_ne rfl) (is_ne rfl) (by rw [hinv.1, hki]) hnz hko hkl) ?_
   rintro ⟨⟩ w48 ⟨ch49, o50⟩
   clear o_l1
   refine l_nil (run_seq ?_)
   clear bx5
   clear bx10
   refine run_region rfl ?_
   refine l_val (v := l1_v) rfl (e_move (by exact zs6)) ?_
   refine l_val (v := l1_v) rfl (e_assign rfl) ?_
   refine l_val (v := Value.int .i64 0) rfl (e_assign rfl) ?_
   refine l_nil ?_
   refine run_ret (vs := [l1_v, Value.int .i64 0]) Try.func18 (.tmp rfl (.tmp rfl .nil)) ?_
   -- return 1
   replace hbase := hbase.chg ch49 (is_ne rfl)
   have e0 : (arL o ps : List Int) = ((arR o ps).1) := by
     first
       | (rw [arR_no fun h => nzA_no (by assumption) (by assumption) h.2]; done)
       | (rw [arR_no fun h => q13 (decide_eq_true (okL1.2 h.1.1))]; done)
       | (rw [arR_no fun h => p1 (decide_eq_true h.1.2)]; done)
       | (rw [arR_ok hko hkl hnz]; done)
   have e1 : (0 : Int) = ((arR o ps).2) := by
     first
       | (rw [arR_no fun h => nzA_no (by assumption) (by assumption) h.2]; done)
       | (rw [arR_no fun h => q13 (decide_eq_true (okL1.2 h.1.1))]; done)
       | (rw [arR_no fun h => p1 (decide_eq_true h.1.2)]; done)
       | (rw [arR_ok hko hkl hnz]; done)
   exact ⟨(fin w0 g27 (fun n => if n = 6 then 1 else 0), l1_v), (congr2 (a := arL o ps) (b := 0) (fun (z0 : List Int) (z1 : Int) => Ending.returned (Value.tuple (List.toArray [l1_v, Value.int .i64 z1]))) e0 e1), hbase.fresh _, (e0 ▸ (o50.glue (γ := c0) (ren := (fun n => if n = 6 then 1 else 0)) (k := 1) hbase.col rfl rfl))⟩
  refine run_cond_t rfl (congrArg Bool.not (Bool.eq_false_iff.2 p1)) ?_
  refine run_seq ?_
  clear bx5
  clear bx10
  clear o16
  refine run_region rfl ?_
  refine l_val (v := Value.slice none 0 0) rfl (e_assign rfl) ?_
  refine l_val (v := Value.int .i64 1) rfl (e_assign rfl) ?_
  refine l_nil ?_
  refine run_ret (vs := [Value.slice none 0 0, Value.int .i64 1]) Try.func18 (.tmp rfl (.tmp rfl .nil)) ?_
  -- return 2
  have C51 : Chg (inl []) _ _ _ _ := (ch2.n).seq ((ch7.n).seq ((ch15.n).seq ((hb18.n).seq (hb21.n))))
  replace hbase := hbase.chg C51 (is_nl rfl)
  have e0 : ([] : List Int) = ((arR o ps).1) := by
    first
      | (rw [arR_no fun h => nzA_no (by assumption) (by assumption) h.2]; done)
      | (rw [arR_no fun h => q13 (decide_eq_true (okL1.2 h.1.1))]; done)
      | (rw [arR_no fun h => p1 (decide_eq_true h.1.2)]; done)
      | (rw [arR_ok hko hkl hnz]; done)
  have e1 : (1 : Int) = ((arR o ps).2) := by
    first
      | (rw [arR_no fun h => nzA_no (by assumption) (by assumption) h.2]; done)
      | (rw [arR_no fun h => q13 (decide_eq_true (okL1.2 h.1.1))]; done)
      | (rw [arR_no fun h => p1 (decide_eq_true h.1.2)]; done)
      | (rw [arR_ok hko hkl hnz]; done)
  exact ⟨(fin w0 g12 (fun n => 0), (Value.slice none 0 0)), (congr2 (a := []) (b := 1) (fun (z0 : List Int) (z1 : Int) => Ending.returned (Value.tuple (List.toArray [Value.slice none 0 0, Value.int .i64 z1]))) e0 e1), hbase.fresh _, (e0 ▸ Ow.nil)⟩
 refine l_skip (want_n rfl rfl rfl (congrArg Bool.not (Bool.eq_false_iff.2 q13))) ?_
 refine l_skip (want_n rfl rfl rfl (congrArg Bool.not (Bool.eq_false_iff.2 q13))) ?_
 refine l_skip (want_n rfl rfl rfl (congrArg Bool.not (Bool.eq_false_iff.2 q13))) ?_
 refine l_val (v := Value.bool true) rfl (e_pick_t rfl (congrArg Bool.not (Bool.eq_false_iff.2 q13)) rfl) ?_
 refine l_nil ?_
 refine run_cond_t rfl rfl ?_
 refine run_seq ?_
 clear bx5
 clear bx10
 clear o16
 refine run_region rfl ?_
 refine l_val (v := Value.slice none 0 0) rfl (e_assign rfl) ?_
 refine l_val (v := Value.int .i64 1) rfl (e_assign rfl) ?_
 refine l_nil ?_
 refine run_ret (vs := [Value.slice none 0 0, Value.int .i64 1]) Try.func18 (.tmp rfl (.tmp rfl .nil)) ?_
 -- return 3
 have C52 : Chg (inl []) _ _ _ _ := (ch2.n).seq ((ch7.n).seq ((ch15.n).seq (hb18.n)))
 replace hbase := hbase.chg C52 (is_nl rfl)
 have e0 : ([] : List Int) = ((arR o ps).1) := by
   first
     | (rw [arR_no fun h => nzA_no (by assumption) (by assumption) h.2]; done)
     | (rw [arR_no fun h => q13 (decide_eq_true (okL1.2 h.1.1))]; done)
     | (rw [arR_no fun h => p1 (decide_eq_true h.1.2)]; done)
     | (rw [arR_ok hko hkl hnz]; done)
 have e1 : (1 : Int) = ((arR o ps).2) := by
   first
     | (rw [arR_no fun h => nzA_no (by assumption) (by assumption) h.2]; done)
     | (rw [arR_no fun h => q13 (decide_eq_true (okL1.2 h.1.1))]; done)
     | (rw [arR_no fun h => p1 (decide_eq_true h.1.2)]; done)
     | (rw [arR_ok hko hkl hnz]; done)
 exact ⟨(fin w0 g12 (fun n => 0), (Value.slice none 0 0)), (congr2 (a := []) (b := 1) (fun (z0 : List Int) (z1 : Int) => Ending.returned (Value.tuple (List.toArray [Value.slice none 0 0, Value.int .i64 z1]))) e0 e1), hbase.fresh _, (e0 ▸ Ow.nil)⟩
end TL
