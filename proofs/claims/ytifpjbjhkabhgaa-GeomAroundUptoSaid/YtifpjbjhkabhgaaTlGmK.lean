import Derived.Test.YtifpjbjhkabhgaaTlGmA
import Derived.Test.YtifpjbjhkabhgaaTlGmM
import Derived.Test.YtifpjbjhkabhgaaTlGmB
import Derived.Test.YtifpjbjhkabhgaaTlGmD
import Derived.Test.YtifpjbjhkabhgaaTlGmH
import Derived.Test.YtifpjbjhkabhgaaTlGmI
import Derived.Test.YtifpjbjhkabhgaaTlGmV
import Derived.Test.YtifpjbjhkabhgaaTlGeomX
import Derived.Test.YtifpjbjhkabhgaaTlAround
import Derived.Test.YtifpjbjhkabhgaaProg
import Derived.Test.YtifpjbjhkabhgaaTlNet2
import Derived.Test.YtifpjbjhkabhgaaTlEq
import Derived.Test.YtifpjbjhkabhgaaTlHold
import Derived.Test.YtifpjbjhkabhgaaTlDraw
import Derived.Test.YtifpjbjhkabhgaaTlMap
set_option linter.all false
set_option maxRecDepth 20000
namespace TL
open Go Go.Proofs
theorem mixed_gk : Try.prog.follows .mixedOrders = true := by kernel_rfl
theorem tp3_gk : Tp Try.prog 3 false 1 8 (.int .i64 0) := Tp.of (by kernel_rfl)
theorem tp23_gk : Tp Try.prog 23 true 2 16 (.agg #[.int .i64 0, .int .i64 0]) := Tp.of (by kernel_rfl)
theorem bd12_gk : Try.f12.body.isNone = false := rfl
theorem nm12_gk : (Try.f12.name == "runtime.NumGoroutine") = false := by decide +kernel
theorem bd16_gk : Try.f16.body.isNone = false := rfl
theorem nm16_gk : (Try.f16.name == "runtime.NumGoroutine") = false := by decide +kernel
theorem bd17_gk : Try.f17.body.isNone = false := rfl
theorem nm17_gk : (Try.f17.name == "runtime.NumGoroutine") = false := by decide +kernel
theorem bd18_gk : Try.f18.body.isNone = false := rfl
theorem nm18_gk : (Try.f18.name == "runtime.NumGoroutine") = false := by decide +kernel
theorem bd19_gk : Try.f19.body.isNone = false := rfl
theorem nm19_gk : (Try.f19.name == "runtime.NumGoroutine") = false := by decide +kernel
theorem bd20_gk : Try.f20.body.isNone = false := rfl
theorem nm20_gk : (Try.f20.name == "runtime.NumGoroutine") = false := by decide +kernel

theorem GeomAround_ok (w0 : World) (o : (Int) × (Int)) (ps : List ((Int) × (Int))) (ps_v : Value) (hps_v : Ro w0 ps_v ps) :
    Calls Try.prog 4 #[Value.agg (List.toArray [Value.int .i64 o.1, Value.int .i64 o.2]), ps_v] w0 (fun ee w => ee = .returned (Value.bool true) ∧ Bel w0.heap.size w0 w) := by
 refine calls_of_run Try.func4 rfl (Nat.le_of_ble_eq_true rfl) ?_
 have hbase := Base.start w0
 have r_ps_v := hps_v.sl
 refine run_seq (run_region rfl (l_op rfl ?_))
 refine o_box c0 (is 1) (1, 0) rfl rfl ?_
 intro g4 w1 b3 ch2 bx5
 replace bx5 : Bx g4 (is 1) w1 b3 [Value.int .i64 o.1, Value.int .i64 o.2] := bx5
 refine l_val (v := Value.bool false) rfl (e_assign rfl) ?_
 refine l_nil (run_seq (run_seq (run_region rfl (l_op rfl ?_))))
 refine o_call (v := Value.bool true) (e_call (vals := []) Try.func12 bd12_gk nm12_gk rfl) (begun2_ok w1 ) ?_
 intro w6 hb7
 replace hb7 := chg_below hb7 g4
 refine l_val (v := Value.bool false) rfl (e_not (b := true) rfl) ?_
 refine l_nil ?_
 refine run_cond_f rfl rfl ?_
 refine run_skip ?_
 refine run_seq (run_seq (run_region rfl ?_))
 refine l_val (v := ps_v) rfl (e_move rfl) ?_
 replace r_ps_v := (r_ps_v.chg ch2 (not_no _)).chg hb7 (not_no _)
 have len8 := (r_ps_v).small
 refine l_val (v := Value.int .i64 (List.length ps : Int)) rfl (e_len Try.underlying25 rfl r_ps_v) ?_
 refine l_val (v := Value.bool (decide (200 < (List.length ps : Int)))) rfl (e_gtr (m := (List.length ps : Int)) (n := 200) rfl rfl) ?_
 refine l_nil ?_
 by_cases p3 : 200 < (List.length ps : Int)
 ·
  refine run_cond_t rfl (decide_eq_true p3) ?_
  refine run_seq ?_
  clear bx5
  refine run_region rfl ?_
  refine l_val (v := Value.bool true) rfl (e_assign rfl) ?_
  refine l_nil ?_
  refine run_ret (vs := [Value.bool true]) Try.func4 (.tmp rfl .nil) ?_
  -- return 0
  have e0 : (true : Bool) = (true) := by
    first | rfl | exact decide_eq_true (by rw [hW2]; rfl) | exact (decide_eq_true (by rw [hW2]; rfl)).symm
  replace hbase := hbase.chg ch2 (not_no _)
  replace hbase := hbase.chg hb7 (not_no _)
  exact ⟨(congrArg (a₁ := true) (fun (z0 : Bool) => Ending.returned (Value.bool z0)) e0), hbase.below⟩
 refine run_cond_f rfl (decide_eq_false p3) ?_
 refine run_skip ?_
 refine run_seq (run_region rfl ?_)
 replace bx5 := bx5.chg hb7 (not_no _)
 refine l_val (v := Value.agg (List.toArray [Value.int .i64 o.1, Value.int .i64 o.2])) rfl (e_load_bxN (ds := [Value.int .i64 o.1, Value.int .i64 o.2]) tp23_gk rfl bx5 rfl rfl) ?_
 refine l_op rfl ?_
 refine o_buildSlice (α := (Int) × (Int)) g4 (is 2) (is 2) (2, 0) rfl ([o] : List ((Int) × (Int))) Try.underlying25 tp23_gk (by decide) (by decide) (vs := [(0, Value.agg (List.toArray [Value.int .i64 o.1, Value.int .i64 o.2]))]) rfl rfl (.cons rfl .nil) ?_
 intro g9 w10 v11 ch12 o13
 refine l_val (v := ps_v) rfl (e_move rfl) ?_
 refine l_op rfl ?_
 replace r_ps_v := r_ps_v.chg ch12 (not_no _)
 refine o_append (α := (Int) × (Int)) (xs := ([o] : List ((Int) × (Int)))) (ys := ps) g9 (J := is 2) (S := is 2) (2, 0) rfl Try.underlying25 tp23_gk (by decide) rfl rfl rfl o13 r_ps_v (by decide) (by first | omega | (simp; done) | (simp; omega)) ?_
 intro g14 w15 v16 ch17 o18
 clear o13
 refine l_op rfl ?_
 refine o_call (v := Value.int .i64 (errS (([o] : List ((Int) × (Int))) ++ ps))) (e_call (vals := [v16]) Try.func16 bd16_gk nm16_gk rfl) (err_ok w15 (([o] : List ((Int) × (Int))) ++ ps) v16 (o18.flat).ro) ?_
 intro w19 hb20
 replace hb20 := chg_below hb20 g14
 refine l_val (v := Value.int .i64 (errS (([o] : List ((Int) × (Int))) ++ ps))) rfl (e_assign rfl) ?_
 refine l_nil (run_seq (run_seq ?_))
 clear o18
 refine run_region rfl ?_
 refine l_val (v := Value.int .i64 0) rfl (e_assign rfl) ?_
 refine l_nil ?_
 refine run_block ?_
 refine run_loop (σ := Int × Nat × Cmap) (fun ⟨e1, i, gq⟩ f w => Base w0 gq w ∧ f 1 = ps_v ∧ f 2 = Value.pointer (some ⟨b3, 0, none⟩) ∧ f 5 = Value.int .i64 e1 ∧ f 6 = Value.int .i64 (i : Int) ∧ Sl gq (is 0) w ps_v ps ∧ Bx gq (is 1) w b3 [Value.int .i64 o.1, Value.int .i64 o.2] ∧ (i : Int) ≤ ((List.length ps : Int) : Int) ∧ ((e1 = 0 ∧ okL ([o] ++ ps) ∧ ∀ j : Nat, j < i → gI ps (j : Int) ≠ o) ∨ (e1 = 1 ∧ ¬ (okL ([o] ++ ps) ∧ ∀ j : Nat, j < i → gI ps (j : Int) ≠ o)))) (fun ⟨e1, i, gq⟩ => Int.toNat (((List.length ps : Int) : Int) - (i : Int))) (errS (([o] : List ((Int) × (Int))) ++ ps), 0, g14) ?_ ?_
 have C21 : Chg (inl [2]) _ _ _ _ := (ch2.n).seq ((hb7.n).seq ((ch12.n).seq ((ch17.l rfl).seq (hb20.n))))
 replace hbase := hbase.chg C21 (is_nl rfl)
 replace r_ps_v := (r_ps_v.chg ch17 (is_ne rfl)).chg hb20 (not_no _)
 have C22 : Chg (inl [2]) _ _ _ _ := (ch12.n).seq ((ch17.l rfl).seq (hb20.n))
 replace bx5 := bx5.chg C22 (is_nl rfl)
 · exact ⟨hbase, rfl, rfl, rfl, rfl, r_ps_v, bx5, by omega, by exact ea_start⟩
 clear r_ps_v
 clear bx5
 clear hbase
 rintro ⟨e1, i, g25⟩ f23 w24 ⟨hbase, zs1, zs2, zs5, zs6, r_ps_v, bx5, hle_i, hE⟩ back7
 refine run_seq (run_seq (run_region rfl ?_))
 refine l_val (v := Value.int .i64 (i : Int)) rfl (e_move (by exact zs6)) ?_
 refine l_val (v := ps_v) rfl (e_move (by exact zs1)) ?_
 refine l_val (v := Value.int .i64 (List.length ps : Int)) rfl (e_len Try.underlying25 rfl r_ps_v) ?_
 refine l_val (v := Value.bool (decide ((i : Int) < (List.length ps : Int)))) rfl (e_lss (m := (i : Int)) (n := (List.length ps : Int)) rfl rfl) ?_
 refine l_nil ?_
 by_cases p7 : (i : Int) < (List.length ps : Int)
 ·
  refine run_cond_t rfl (decide_eq_true p7) ?_
  refine run_skip ?_
  refine run_seq ?_
  refine run_block ?_
  refine run_seq ?_
  refine region_q g25 rfl mixed_gk (by kernel_rfl) ?_
  intro w27 ch26
  refine q_val (v := ps_v) rfl (fun w' hw' => e_move (by exact zs1)) ?_
  refine q_val (v := Value.int .i64 (i : Int)) rfl (fun w' hw' => e_move (by exact zs6)) ?_
  replace r_ps_v := r_ps_v.chg ch26 (not_no _)
  refine q_val (v := Value.pointer (some (eAddr ps_v 2 (Int.toNat (i : Int))))) rfl (fun w' hw' => e_indexAddr (α := (Int) × (Int)) (xs := ps) (v := ps_v) (i := (i : Int)) Try.underlying25 rfl rfl (r_ps_v.bel hw') rfl (by omega) (by omega)) ?_
  refine q_val (v := Value.agg (List.toArray [Value.int .i64 ((gI ps (i : Int)).1), Value.int .i64 ((gI ps (i : Int)).2)])) rfl (fun w' hw' => e_load_elN (α := (Int) × (Int)) (xs := ps) (v := ps_v) (i := (i : Int)) tp23_gk rfl (r_ps_v.bel hw') (by omega) (by omega) rfl) ?_
  replace bx5 := bx5.chg ch26 (not_no _)
  refine q_val (v := Value.agg (List.toArray [Value.int .i64 o.1, Value.int .i64 o.2])) rfl (fun w' hw' => e_load_bxN (ds := [Value.int .i64 o.1, Value.int .i64 o.2]) tp23_gk (by exact zs2) (bx5.bel hw') rfl rfl) ?_
  refine q_val (v := Value.bool (decide ((gI ps (i : Int)) = o))) rfl (fun w' hw' => e_eql_struct (bs := [decide (((gI ps (i : Int)).1) = o.1), decide (((gI ps (i : Int)).2) = o.2)]) Try.underlying23 (by kernel_rfl) (by kernel_rfl) rfl rfl (.cons (by decide +kernel) tp3_gk rfl rfl (.int Try.underlying3) (.cons (by decide +kernel) tp3_gk rfl rfl (.int Try.underlying3) .nil)) (by simp [Prod.ext_iff, Bool.decide_and, Bool.and_assoc])) ?_
  refine q_nil ?_
  intro w28 hc29
  replace hc29 := chg_below hc29 g25
  by_cases p9 : (gI ps (i : Int)) = o
  ·
   refine run_cond_t rfl (decide_eq_true p9) ?_
   refine run_region rfl ?_
   refine l_val (v := Value.int .i64 1) rfl (e_assign rfl) ?_
   refine l_nil ?_
   refine run_inBlock ?_
   refine run_region rfl ?_
   refine l_val (v := Value.int .i64 (i : Int)) rfl (e_move (by exact zs6)) ?_
   refine l_val (v := Value.int .i64 ((i : Int) + 1)) rfl (e_add (m := (i : Int)) (n := 1) rfl rfl (by omega)) ?_
   refine l_val (v := Value.int .i64 ((i : Int) + 1)) rfl (e_assign rfl) ?_
   refine l_nil ?_
   replace hbase := hbase.chg ch26 (not_no _)
   replace hbase := hbase.chg hc29 (not_no _)
   replace r_ps_v := r_ps_v.chg hc29 (not_no _)
   replace bx5 := bx5.chg hc29 (not_no _)
   refine back7 (1, i + 1, g25) _ _ ⟨hbase, (by exact zs1), (by exact zs2), rfl, rfl, r_ps_v, bx5, by omega, ?_⟩ ?_
   · show (1 = 0 ∧ okL ([o] ++ ps) ∧ ∀ j : Nat, j < (i + 1) → gI ps (j : Int) ≠ o) ∨ (1 = 1 ∧ ¬ (okL ([o] ++ ps) ∧ ∀ j : Nat, j < (i + 1) → gI ps (j : Int) ≠ o))
     first
       | exact .inr ⟨rfl, fun h => h.2 i (by omega) (by assumption)⟩
       | (refine hE.imp (fun h => ⟨h.1, h.2.1, fun j hj => ?_⟩) (fun h => ⟨h.1, fun q => h.2 ⟨q.1, fun j hj => q.2 j (by omega)⟩⟩)
          by_cases e : j = i
          · subst e; assumption
          · exact h.2.2 j (by omega))
   · show Int.toNat (((List.length ps : Int) : Int) - ((i + 1) : Int)) < Int.toNat (((List.length ps : Int) : Int) - (i : Int))
     omega
  refine run_cond_f rfl (decide_eq_false p9) ?_
  refine run_skip ?_
  refine run_inBlock ?_
  refine run_region rfl ?_
  refine l_val (v := Value.int .i64 (i : Int)) rfl (e_move (by exact zs6)) ?_
  refine l_val (v := Value.int .i64 ((i : Int) + 1)) rfl (e_add (m := (i : Int)) (n := 1) rfl rfl (by omega)) ?_
  refine l_val (v := Value.int .i64 ((i : Int) + 1)) rfl (e_assign rfl) ?_
  refine l_nil ?_
  replace hbase := hbase.chg ch26 (not_no _)
  replace hbase := hbase.chg hc29 (not_no _)
  replace r_ps_v := r_ps_v.chg hc29 (not_no _)
  replace bx5 := bx5.chg hc29 (not_no _)
  refine back7 (e1, i + 1, g25) _ _ ⟨hbase, (by exact zs1), (by exact zs2), (by exact zs5), rfl, r_ps_v, bx5, by omega, ?_⟩ ?_
  · show (e1 = 0 ∧ okL ([o] ++ ps) ∧ ∀ j : Nat, j < (i + 1) → gI ps (j : Int) ≠ o) ∨ (e1 = 1 ∧ ¬ (okL ([o] ++ ps) ∧ ∀ j : Nat, j < (i + 1) → gI ps (j : Int) ≠ o))
    first
      | exact .inr ⟨rfl, fun h => h.2 i (by omega) (by assumption)⟩
      | (refine hE.imp (fun h => ⟨h.1, h.2.1, fun j hj => ?_⟩) (fun h => ⟨h.1, fun q => h.2 ⟨q.1, fun j hj => q.2 j (by omega)⟩⟩)
         by_cases e : j = i
         · subst e; assumption
         · exact h.2.2 j (by omega))
  · show Int.toNat (((List.length ps : Int) : Int) - ((i + 1) : Int)) < Int.toNat (((List.length ps : Int) : Int) - (i : Int))
    omega
 refine run_cond_f rfl (decide_eq_false p7) ?_
 refine run_exit rfl ?_
 refine run_seq ?_
 have hW := around_law (by omega) (by omega) hE
 refine run_region rfl ?_
 refine l_val (v := ps_v) rfl (e_move (by exact zs1)) ?_
 refine l_op rfl ?_
 refine o_callx (e_call (vals := [ps_v]) Try.func17 bd17_gk nm17_gk rfl) (GTwin_ok w24 ps ps_v (r_ps_v).ro (by omega)) ?_
 rintro ⟨d31, v33⟩ w30 ⟨fr32, o34⟩
 obtain ⟨g35, hg35⟩ : ∃ q, q = glue w24.heap.size g25 d31 (fun n => if n = 1 then 3 else 0) := ⟨_, rfl⟩
 have ch36 := chg_glue fr32.below g25 d31 (fun n => if n = 1 then 3 else 0)
 rw [← hg35] at ch36
 replace o34 := o34.glue (γ := g25) (ren := (fun n => if n = 1 then 3 else 0)) (k := 3) fr32.col rfl rfl
 rw [← hg35] at o34
 have r37 := mark_sl o34.flat
 clear hg35
 refine l_val (v := v33) rfl (e_assign rfl) ?_
 refine l_nil (run_seq (run_region rfl ?_))
 replace bx5 := bx5.chg ch36 (not_no _)
 refine l_val (v := Value.agg (List.toArray [Value.int .i64 o.1, Value.int .i64 o.2])) rfl (e_load_bxN (ds := [Value.int .i64 o.1, Value.int .i64 o.2]) tp23_gk (by exact zs2) bx5 rfl rfl) ?_
 refine l_val (v := v33) rfl (e_move rfl) ?_
 refine l_op rfl ?_
 refine o_callx (e_call (vals := [Value.agg (List.toArray [Value.int .i64 o.1, Value.int .i64 o.2]), v33]) Try.func18 bd18_gk nm18_gk rfl) (Around_ok w30 o ps v33 (r37).ro) ?_
 rintro ⟨d39, v41⟩ w38 ⟨fr40, o42⟩
 obtain ⟨g43, hg43⟩ : ∃ q, q = glue w30.heap.size g35 d39 (fun n => if n = 1 then 4 else 0) := ⟨_, rfl⟩
 have ch44 := chg_glue fr40.below g35 d39 (fun n => if n = 1 then 4 else 0)
 rw [← hg43] at ch44
 replace o42 := o42.glue (γ := g35) (ren := (fun n => if n = 1 then 4 else 0)) (k := 4) fr40.col rfl rfl
 rw [← hg43] at o42
 clear hg43
 refine l_val (v := Value.tuple (List.toArray [v41, Value.int .i64 ((arR o ps).2)])) rfl (e_move rfl) ?_
 refine l_val (v := v41) rfl (e_extract rfl rfl) ?_
 refine l_val (v := Value.int .i64 ((arR o ps).2)) rfl (e_extract rfl rfl) ?_
 refine l_val (v := v41) rfl (e_assign rfl) ?_
 refine l_val (v := Value.int .i64 ((arR o ps).2)) rfl (e_assign rfl) ?_
 refine l_nil (run_seq (run_seq (run_region rfl ?_)))
 refine l_val (v := Value.int .i64 ((arR o ps).2)) rfl (e_move rfl) ?_
 refine l_val (v := Value.int .i64 e1) rfl (e_move (by exact zs5)) ?_
 refine l_val (v := Value.bool (!(decide (((arR o ps).2) = e1)))) rfl (e_neq (m := (arR o ps).2) (n := e1) rfl rfl) ?_
 refine l_val (v := Value.bool (!(decide (((arR o ps).2) = e1)))) rfl (e_move rfl) ?_
 have q45 : ((arR o ps).2) = e1 := by first | (rw [hW3]; done) | (rcases hW with ⟨h1, h2, _⟩ | ⟨h1, h2⟩ <;> rw [h1, h2])
 refine l_val (v := v33) (want_y rfl rfl rfl (congrArg Bool.not (decide_eq_true q45))) (e_move rfl) ?_
 refine l_val (v := ps_v) (want_y rfl rfl rfl (congrArg Bool.not (decide_eq_true q45))) (e_move (by exact zs1)) ?_
 replace o34 := o34.chg ch44 (not_no _) (not_no _)
 replace r37 := r37.chg ch44 (not_no _)
 replace r_ps_v := (r_ps_v.chg ch36 (not_no _)).chg ch44 (not_no _)
 refine l_op (want_y rfl rfl rfl (congrArg Bool.not (decide_eq_true q45))) ?_
 refine o_call (v := Value.bool true) (e_call (vals := [v33, ps_v]) Try.func19 bd19_gk nm19_gk rfl) (GKept_ok w38 ps v33 (r37).ro ps ps_v (r_ps_v).ro (by first | exact Sl.ro (Sl.bel (Ow.flat (by assumption)) hw') | exact Sl.ro (Ow.flat (by assumption))) (by rfl)) ?_
 intro w45 hb46
 replace hb46 := chg_below hb46 g43
 refine l_val (v := Value.bool false) (want_y rfl rfl rfl (congrArg Bool.not (decide_eq_true q45))) (e_not (b := true) rfl) ?_
 refine l_val (v := Value.bool false) rfl (e_pick_f rfl (congrArg Bool.not (decide_eq_true q45)) rfl) ?_
 refine l_nil ?_
 refine run_cond_f rfl rfl ?_
 refine run_skip ?_
 refine run_seq (run_seq ?_)
 clear r37
 refine run_region rfl ?_
 refine l_val (v := Value.int .i64 e1) rfl (e_move (by exact zs5)) ?_
 refine l_val (v := Value.bool (!(decide (e1 = 0)))) rfl (e_neq (m := e1) (n := 0) rfl rfl) ?_
 refine l_nil ?_
 by_cases p15 : e1 = 0
 ·
  obtain ⟨_, hW2, hwo, hwp, hwz⟩ := hW.resolve_right (fun h => by omega)
  have hW3 : (arR o ps).1 = arL o ps := by rw [hW2]
  refine run_cond_f rfl (congrArg Bool.not (decide_eq_true p15)) ?_
  refine run_skip ?_
  refine run_seq (run_region rfl ?_)
  replace bx5 := (bx5.chg ch44 (not_no _)).chg hb46 (not_no _)
  refine l_val (v := Value.agg (List.toArray [Value.int .i64 o.1, Value.int .i64 o.2])) rfl (e_load_bxN (ds := [Value.int .i64 o.1, Value.int .i64 o.2]) tp23_gk (by exact zs2) bx5 rfl rfl) ?_
  refine l_val (v := ps_v) rfl (e_move (by exact zs1)) ?_
  replace r_ps_v := r_ps_v.chg hb46 (not_no _)
  refine l_op rfl ?_
  refine o_callx (e_call (vals := [Value.agg (List.toArray [Value.int .i64 o.1, Value.int .i64 o.2]), ps_v]) Try.func20 bd20_gk nm20_gk rfl) (D2Around_ok w45 o ps ps_v (r_ps_v).ro (by assumption) (by assumption) (by assumption)) ?_
  rintro ⟨d48, v50⟩ w47 ⟨fr49, o51⟩
  obtain ⟨g52, hg52⟩ : ∃ q, q = glue w45.heap.size g43 d48 (fun n => if n = 1 then 5 else 0) := ⟨_, rfl⟩
  have ch53 := chg_glue fr49.below g43 d48 (fun n => if n = 1 then 5 else 0)
  rw [← hg52] at ch53
  replace o51 := o51.glue (γ := g43) (ren := (fun n => if n = 1 then 5 else 0)) (k := 5) fr49.col rfl rfl
  rw [← hg52] at o51
  clear hg52
  refine l_val (v := v50) rfl (e_assign rfl) ?_
  refine l_nil (run_seq (run_seq ?_))
  clear bx5
  refine run_region rfl ?_
  refine l_val (v := v41) rfl (e_move rfl) ?_
  replace o42 := (o42.chg hb46 (not_no _) (not_no _)).chg ch53 (not_no _) (not_no _)
  have len54 := (o42.flat).small
  refine l_val (v := Value.int .i64 (List.length ((arR o ps).1) : Int)) rfl (e_len Try.underlying34 rfl o42.flat) ?_
  refine l_val (v := v50) rfl (e_move rfl) ?_
  have len55 := (o51.flat).small
  refine l_val (v := Value.int .i64 (List.length (arL o ps) : Int)) rfl (e_len Try.underlying34 rfl o51.flat) ?_
  refine l_val (v := Value.bool (!(decide ((List.length ((arR o ps).1) : Int) = (List.length (arL o ps) : Int))))) rfl (e_neq (m := (List.length ((arR o ps).1) : Int)) (n := (List.length (arL o ps) : Int)) rfl rfl) ?_
  refine l_nil ?_
  have p18 : (List.length ((arR o ps).1) : Int) = (List.length (arL o ps) : Int) := by first | (rw [hW3]; done) | (rcases hW with ⟨h1, h2, _⟩ | ⟨h1, h2⟩ <;> rw [h1, h2])
  refine run_cond_f rfl (congrArg Bool.not (decide_eq_true p18)) ?_
  refine run_skip ?_
  refine run_seq (run_seq (run_region rfl ?_))
  refine l_val (v := Value.int .i64 0) rfl (e_assign rfl) ?_
  refine l_nil ?_
  refine run_block ?_
  refine run_loop (σ := Nat × Cmap) (fun ⟨k, gq⟩ f w => Base w0 gq w ∧ f 8 = v41 ∧ f 10 = v50 ∧ f 11 = Value.int .i64 (k : Int) ∧ Sl gq (is 0) w ps_v ps ∧ Ow gq (is 3) (is 3) w (upV v33) (ps ++ [((-7 : Int), (7 : Int))]) ∧ Ow gq (is 4) (is 4) w v41 ((arR o ps).1) ∧ Ow gq (is 5) (is 5) w v50 (arL o ps) ∧ (k : Int) ≤ ((List.length ((arR o ps).1) : Int) : Int) ∧ True) (fun ⟨k, gq⟩ => Int.toNat (((List.length ((arR o ps).1) : Int) : Int) - (k : Int))) (0, g52) ?_ ?_
  have C56 : Chg (inl []) _ _ _ _ := (ch36.n).seq ((ch44.n).seq ((hb46.n).seq (ch53.n)))
  replace hbase := hbase.chg C56 (is_nl rfl)
  replace r_ps_v := r_ps_v.chg ch53 (not_no _)
  replace o34 := (o34.chg hb46 (not_no _) (not_no _)).chg ch53 (not_no _) (not_no _)
  · exact ⟨hbase, rfl, rfl, rfl, r_ps_v, o34, o42, o51, by omega, trivial⟩
  clear r_ps_v
  clear o34
  clear o42
  clear o51
  clear hbase
  rintro ⟨k, g59⟩ f57 w58 ⟨hbase, zs8, zs10, zs11, r_ps_v, o34, o42, o51, hle_k, hinv21⟩ back21
  refine run_seq (run_seq (run_region rfl ?_))
  refine l_val (v := Value.int .i64 (k : Int)) rfl (e_move (by exact zs11)) ?_
  refine l_val (v := v41) rfl (e_move (by exact zs8)) ?_
  refine l_val (v := Value.int .i64 (List.length ((arR o ps).1) : Int)) rfl (e_len Try.underlying34 rfl o42.flat) ?_
  refine l_val (v := Value.bool (decide ((k : Int) < (List.length ((arR o ps).1) : Int)))) rfl (e_lss (m := (k : Int)) (n := (List.length ((arR o ps).1) : Int)) rfl rfl) ?_
  refine l_nil ?_
  by_cases p21 : (k : Int) < (List.length ((arR o ps).1) : Int)
  ·
   refine run_cond_t rfl (decide_eq_true p21) ?_
   refine run_skip ?_
   refine run_seq ?_
   refine run_block ?_
   refine run_seq ?_
   refine region_q g59 rfl mixed_gk (by kernel_rfl) ?_
   intro w61 ch60
   refine q_val (v := v41) rfl (fun w' hw' => e_move (by exact zs8)) ?_
   refine q_val (v := Value.int .i64 (k : Int)) rfl (fun w' hw' => e_move (by exact zs11)) ?_
   replace o42 := o42.chg ch60 (not_no _) (not_no _)
   refine q_val (v := Value.pointer (some (eAddr v41 1 (Int.toNat (k : Int))))) rfl (fun w' hw' => e_indexAddr (α := Int) (xs := (arR o ps).1) (v := v41) (i := (k : Int)) Try.underlying34 rfl rfl (o42.flat.bel hw') rfl (by omega) (by omega)) ?_
   refine q_val (v := Value.int .i64 (gI ((arR o ps).1) (k : Int))) rfl (fun w' hw' => e_load_el1 (α := Int) (xs := (arR o ps).1) (v := v41) (i := (k : Int)) tp3_gk rfl (o42.flat.bel hw') (by omega) (by omega) (by decide) rfl) ?_
   refine q_val (v := v50) rfl (fun w' hw' => e_move (by exact zs10)) ?_
   refine q_val (v := Value.int .i64 (k : Int)) rfl (fun w' hw' => e_move (by exact zs11)) ?_
   replace o51 := o51.chg ch60 (not_no _) (not_no _)
   refine q_val (v := Value.pointer (some (eAddr v50 1 (Int.toNat (k : Int))))) rfl (fun w' hw' => e_indexAddr (α := Int) (xs := arL o ps) (v := v50) (i := (k : Int)) Try.underlying34 rfl rfl (o51.flat.bel hw') rfl (by omega) (by omega)) ?_
   refine q_val (v := Value.int .i64 (gI (arL o ps) (k : Int))) rfl (fun w' hw' => e_load_el1 (α := Int) (xs := arL o ps) (v := v50) (i := (k : Int)) tp3_gk rfl (o51.flat.bel hw') (by omega) (by omega) (by decide) rfl) ?_
   refine q_val (v := Value.bool (!(decide ((gI ((arR o ps).1) (k : Int)) = (gI (arL o ps) (k : Int)))))) rfl (fun w' hw' => e_neq (m := (gI ((arR o ps).1) (k : Int))) (n := (gI (arL o ps) (k : Int))) rfl rfl) ?_
   refine q_nil ?_
   intro w62 hc63
   replace hc63 := chg_below hc63 g59
   have p23 : (gI ((arR o ps).1) (k : Int)) = (gI (arL o ps) (k : Int)) := by first | (rw [hW3]; done) | (rcases hW with ⟨h1, h2, _⟩ | ⟨h1, h2⟩ <;> rw [h1, h2])
   refine run_cond_f rfl (congrArg Bool.not (decide_eq_true p23)) ?_
   refine run_skip ?_
   refine run_inBlock ?_
   refine run_region rfl ?_
   refine l_val (v := Value.int .i64 (k : Int)) rfl (e_move (by exact zs11)) ?_
   refine l_val (v := Value.int .i64 ((k : Int) + 1)) rfl (e_add (m := (k : Int)) (n := 1) rfl rfl (by omega)) ?_
   refine l_val (v := Value.int .i64 ((k : Int) + 1)) rfl (e_assign rfl) ?_
   refine l_nil ?_
   replace hbase := hbase.chg ch60 (not_no _)
   replace hbase := hbase.chg hc63 (not_no _)
   replace r_ps_v := (r_ps_v.chg ch60 (not_no _)).chg hc63 (not_no _)
   replace o34 := (o34.chg ch60 (not_no _) (not_no _)).chg hc63 (not_no _) (not_no _)
   replace o42 := o42.chg hc63 (not_no _) (not_no _)
   replace o51 := o51.chg hc63 (not_no _) (not_no _)
   refine back21 (k + 1, g59) _ _ ⟨hbase, (by exact zs8), (by exact zs10), rfl, r_ps_v, o34, o42, o51, by omega, ?_⟩ ?_
   · trivial
   · show Int.toNat (((List.length ((arR o ps).1) : Int) : Int) - ((k + 1) : Int)) < Int.toNat (((List.length ((arR o ps).1) : Int) : Int) - (k : Int))
     omega
  refine run_cond_f rfl (decide_eq_false p21) ?_
  refine run_exit rfl ?_
  refine run_seq ?_
  clear o42
  clear o51
  refine run_region rfl ?_
  refine l_val (v := Value.bool true) rfl (e_assign rfl) ?_
  refine l_nil ?_
  refine run_ret (vs := [Value.bool true]) Try.func4 (.tmp rfl .nil) ?_
  -- return 1
  have e0 : (true : Bool) = (true) := by
    first | rfl | exact decide_eq_true (by rw [hW2]; rfl) | exact (decide_eq_true (by rw [hW2]; rfl)).symm
  exact ⟨(congrArg (a₁ := true) (fun (z0 : Bool) => Ending.returned (Value.bool z0)) e0), hbase.below⟩
 have hW2 : arR o ps = ([], 1) := (hW.resolve_left (fun h => p15 h.1)).2
 refine run_cond_t rfl (congrArg Bool.not (decide_eq_false p15)) ?_
 refine run_seq ?_
 clear bx5
 refine run_region rfl ?_
 refine l_val (v := v41) rfl (e_move rfl) ?_
 replace o42 := o42.chg hb46 (not_no _) (not_no _)
 have len64 := (o42.flat).small
 refine l_val (v := Value.int .i64 (List.length ((arR o ps).1) : Int)) rfl (e_len Try.underlying34 rfl o42.flat) ?_
 refine l_val (v := Value.bool (decide ((List.length ((arR o ps).1) : Int) = 0))) rfl (e_eql (m := (List.length ((arR o ps).1) : Int)) (n := 0) rfl rfl) ?_
 refine l_val (v := Value.bool (decide ((List.length ((arR o ps).1) : Int) = 0))) rfl (e_assign rfl) ?_
 refine l_nil ?_
 refine run_ret (vs := [Value.bool (decide ((List.length ((arR o ps).1) : Int) = 0))]) Try.func4 (.tmp rfl .nil) ?_
 -- return 2
 have e0 : (decide ((List.length ((arR o ps).1) : Int) = 0) : Bool) = (true) := by
   first | rfl | exact decide_eq_true (by rw [hW2]; rfl) | exact (decide_eq_true (by rw [hW2]; rfl)).symm
 have C65 : Chg (inl []) _ _ _ _ := (ch36.n).seq ((ch44.n).seq (hb46.n))
 replace hbase := hbase.chg C65 (is_nl rfl)
 exact ⟨(congrArg (a₁ := decide ((List.length ((arR o ps).1) : Int) = 0)) (fun (z0 : Bool) => Ending.returned (Value.bool z0)) e0), hbase.below⟩
end TL
