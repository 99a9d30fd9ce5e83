import Derived.Test.YtilohhkbelkmdaaTlGdB
import Derived.Test.YtilohhkbelkmdaaTlGdF
import Derived.Test.YtilohhkbelkmdaaTlGenA
import Derived.Test.YtilohhkbelkmdaaTlGenD
import Derived.Test.YtilohhkbelkmdaaTlGenJ
import Derived.Test.YtilohhkbelkmdaaTlGenI
import Derived.Test.YtilohhkbelkmdaaTlGenV
import Derived.Test.YtilohhkbelkmdaaTlGenX
import Derived.Test.YtilohhkbelkmdaaTlP3
import Derived.Test.YtilohhkbelkmdaaProg
set_option linter.all false
set_option maxRecDepth 20000
namespace TL
open Go Go.Proofs
theorem mixed_dl : Try.prog.follows .mixedOrders = true := by kernel_rfl
theorem tp3_dl : Tp Try.prog 3 false 1 8 (.int .i64 0) := Tp.of (by kernel_rfl)
theorem tp22_dl : Tp Try.prog 22 false 1 24 (.slice none 0 0) := Tp.of (by kernel_rfl)
theorem tp24_dl : Tp Try.prog 24 true 2 32 (.agg #[.int .i64 0, .slice none 0 0]) := Tp.of (by kernel_rfl)
theorem tp55_dl : Tp Try.prog 55 true 2 16 (.agg #[.int .i64 0, .int .i64 0]) := Tp.of (by kernel_rfl)
theorem bd11_dl : Try.f11.body.isNone = false := rfl
theorem nm11_dl : (Try.f11.name == "runtime.NumGoroutine") = false := by decide +kernel
theorem bd21_dl : Try.f21.body.isNone = false := rfl
theorem nm21_dl : (Try.f21.name == "runtime.NumGoroutine") = false := by decide +kernel
theorem bd23_dl : Try.f23.body.isNone = false := rfl
theorem nm23_dl : (Try.f23.name == "runtime.NumGoroutine") = false := by decide +kernel
theorem bd29_dl : Try.f29.body.isNone = false := rfl
theorem nm29_dl : (Try.f29.name == "runtime.NumGoroutine") = false := by decide +kernel
theorem bd30_dl : Try.f30.body.isNone = false := rfl
theorem nm30_dl : (Try.f30.name == "runtime.NumGoroutine") = false := by decide +kernel
theorem bd31_dl : Try.f31.body.isNone = false := rfl
theorem nm31_dl : (Try.f31.name == "runtime.NumGoroutine") = false := by decide +kernel
theorem bd32_dl : Try.f32.body.isNone = false := rfl
theorem nm32_dl : (Try.f32.name == "runtime.NumGoroutine") = false := by decide +kernel
theorem bd33_dl : Try.f33.body.isNone = false := rfl
theorem nm33_dl : (Try.f33.name == "runtime.NumGoroutine") = false := by decide +kernel
theorem bd34_dl : Try.f34.body.isNone = false := rfl
theorem nm34_dl : (Try.f34.name == "runtime.NumGoroutine") = false := by decide +kernel
set_option maxHeartbeats 4000000 in
theorem DualLays_ok (w0 : World) (g : (Int) × (List ((Int) × (Int)))) (g_v : Value) (hg_v : Ro w0 g_v g.2) (r : List (List Int)) (r_v : Value) (hr_v : Ro w0 r_v r) (a : (Int) × (Int)) (b : (Int) × (Int)) (hb : (r.length : Int) ≤ 1048576 ∧ ∀ l_ ∈ r, l_.length ≤ 1048576) :
    Calls Try.prog 7 #[Value.agg (List.toArray [Value.int .i64 g.1, g_v]), r_v, Value.agg (List.toArray [Value.int .i64 a.1, Value.int .i64 a.2]), Value.agg (List.toArray [Value.int .i64 b.1, Value.int .i64 b.2])] w0 (fun ee w => ee = .returned (Value.bool true) ∧ Bel w0.heap.size w0 w) := by
 refine calls_of_run Try.func7 rfl (Nat.le_of_ble_eq_true rfl) ?_
 have hbase := Base.start w0
 have r_g_v := hg_v.sl
 have r_r_v := hr_v.sl
 refine run_seq (run_region rfl (l_op rfl ?_))
 refine o_box c0 (is 1) (1, 0) rfl rfl ?_
 intro g4 w1 b3 ch2 bx5
 replace bx5 : Bx g4 (is 1) w1 b3 [Value.int .i64 g.1, g_v] := bx5
 refine l_op rfl ?_
 refine o_box g4 (is 2) (2, 0) rfl rfl ?_
 intro g9 w6 b8 ch7 bx10
 replace bx10 : Bx g9 (is 2) w6 b8 [Value.int .i64 a.1, Value.int .i64 a.2] := bx10
 refine l_op rfl ?_
 refine o_box g9 (is 3) (3, 0) rfl rfl ?_
 intro g14 w11 b13 ch12 bx15
 replace bx15 : Bx g14 (is 3) w11 b13 [Value.int .i64 b.1, Value.int .i64 b.2] := bx15
 refine l_val (v := Value.bool false) rfl (e_assign rfl) ?_
 refine l_nil (run_seq (run_seq (run_region rfl (l_op rfl ?_))))
 refine o_call (v := Value.bool true) (e_call (vals := []) Try.func21 bd21_dl nm21_dl rfl) (begunD_ok w11 ) ?_
 intro w16 hb17
 replace hb17 := chg_below hb17 g14
 refine l_val (v := Value.bool false) rfl (e_not (b := true) rfl) ?_
 refine l_nil ?_
 refine run_cond_f rfl rfl ?_
 refine run_skip ?_
 refine run_seq (run_seq (run_region rfl ?_))
 have C18 : Chg (inl []) _ _ _ _ := (ch7.n).seq ((ch12.n).seq (hb17.n))
 replace bx5 := bx5.chg C18 (is_nl rfl)
 refine l_val (v := Value.agg (List.toArray [Value.int .i64 g.1, g_v])) rfl (e_load_bxN (ds := [Value.int .i64 g.1, g_v]) tp24_dl rfl bx5 rfl rfl) ?_
 refine l_val (v := r_v) rfl (e_move rfl) ?_
 have C19 : Chg (inl []) _ _ _ _ := (ch2.n).seq ((ch7.n).seq ((ch12.n).seq (hb17.n)))
 replace r_g_v := r_g_v.chg C19 (is_nl rfl)
 replace r_r_v := r_r_v.chg C19 (is_nl rfl)
 refine l_op rfl ?_
 refine o_call (v := Value.bool (decide ((g.2.length ≤ 300 ∧ (g.1 ≤ 300 ∨ ¬ MayP g)) ∧ g.1 ≤ 200 ∧ r.length + r.flatten.length ≤ 1000))) (e_call (vals := [Value.agg (List.toArray [Value.int .i64 g.1, g_v]), r_v]) Try.func11 bd11_dl nm11_dl rfl) (Light9_ok w16 g g_v (r_g_v).ro r r_v (r_r_v).ro (by assumption)) ?_
 intro w20 hb21
 replace hb21 := chg_below hb21 g14
 refine l_val (v := Value.bool (!(decide ((g.2.length ≤ 300 ∧ (g.1 ≤ 300 ∨ ¬ MayP g)) ∧ g.1 ≤ 200 ∧ r.length + r.flatten.length ≤ 1000)))) rfl (e_not (b := (decide ((g.2.length ≤ 300 ∧ (g.1 ≤ 300 ∨ ¬ MayP g)) ∧ g.1 ≤ 200 ∧ r.length + r.flatten.length ≤ 1000))) rfl) ?_
 refine l_nil ?_
 by_cases p3 : (decide ((g.2.length ≤ 300 ∧ (g.1 ≤ 300 ∨ ¬ MayP g)) ∧ g.1 ≤ 200 ∧ r.length + r.flatten.length ≤ 1000)) = true
 ·
  refine run_cond_f rfl (congrArg Bool.not p3) ?_
  refine run_skip ?_
  refine run_seq (run_region rfl ?_)
  replace bx5 := bx5.chg hb21 (not_no _)
  refine l_val (v := Value.agg (List.toArray [Value.int .i64 g.1, g_v])) rfl (e_load_bxN (ds := [Value.int .i64 g.1, g_v]) tp24_dl rfl bx5 rfl rfl) ?_
  refine l_val (v := r_v) rfl (e_move rfl) ?_
  have C22 : Chg (inl []) _ _ _ _ := (ch12.n).seq ((hb17.n).seq (hb21.n))
  replace bx10 := bx10.chg C22 (is_nl rfl)
  refine l_val (v := Value.agg (List.toArray [Value.int .i64 a.1, Value.int .i64 a.2])) rfl (e_load_bxN (ds := [Value.int .i64 a.1, Value.int .i64 a.2]) tp55_dl rfl bx10 rfl rfl) ?_
  replace bx15 := (bx15.chg hb17 (not_no _)).chg hb21 (not_no _)
  refine l_val (v := Value.agg (List.toArray [Value.int .i64 b.1, Value.int .i64 b.2])) rfl (e_load_bxN (ds := [Value.int .i64 b.1, Value.int .i64 b.2]) tp55_dl rfl bx15 rfl rfl) ?_
  replace r_g_v := r_g_v.chg hb21 (not_no _)
  replace r_r_v := r_r_v.chg hb21 (not_no _)
  refine l_op rfl ?_
  refine o_callx (e_call (vals := [Value.agg (List.toArray [Value.int .i64 g.1, g_v]), r_v, Value.agg (List.toArray [Value.int .i64 a.1, Value.int .i64 a.2]), Value.agg (List.toArray [Value.int .i64 b.1, Value.int .i64 b.2])]) Try.func30 bd30_dl nm30_dl rfl) (Lay_ok w20 g g_v (r_g_v).ro r r_v (r_r_v).ro a b) ?_
  rintro ⟨d24, v26, v28⟩ w23 ⟨fr25, o27, o29⟩
  obtain ⟨g30, hg30⟩ : ∃ q, q = glue w20.heap.size g14 d24 (fun n => if n = 1 then 4 else if n = 2 then 5 else 0) := ⟨_, rfl⟩
  have ch31 := chg_glue fr25.below g14 d24 (fun n => if n = 1 then 4 else if n = 2 then 5 else 0)
  rw [← hg30] at ch31
  replace o27 := o27.glue (γ := g14) (ren := (fun n => if n = 1 then 4 else if n = 2 then 5 else 0)) (k := 4) fr25.col rfl rfl
  rw [← hg30] at o27
  replace o29 := o29.glue (γ := g14) (ren := (fun n => if n = 1 then 4 else if n = 2 then 5 else 0)) (k := 5) fr25.col rfl rfl
  rw [← hg30] at o29
  clear hg30
  refine l_val (v := Value.tuple (List.toArray [Value.agg (List.toArray [Value.int .i64 (((layR g r a b).1).1), v26]), v28, Value.int .i64 ((layR g r a b).2.2)])) rfl (e_move rfl) ?_
  refine l_val (v := Value.agg (List.toArray [Value.int .i64 (((layR g r a b).1).1), v26])) rfl (e_extract rfl rfl) ?_
  refine l_val (v := v28) rfl (e_extract rfl rfl) ?_
  refine l_val (v := Value.int .i64 ((layR g r a b).2.2)) rfl (e_extract rfl rfl) ?_
  refine l_op rfl ?_
  refine o_alloc g30 (is 6) (6, 0) rfl tp24_dl ?_
  intro g35 w32 b34 ch33 bx36
  replace bx36 : Bx g35 (is 6) w32 b34 [Value.int .i64 0, Value.slice none 0 0] := bx36
  refine l_op rfl ?_
  replace o27 := o27.chg ch33 (not_no _) (not_no _)
  refine o_store_bx (cs' := [Value.int .i64 (((layR g r a b).1).1), v26]) tp24_dl rfl rfl bx36 rfl (Nat.le_of_ble_eq_true rfl) (AllOne.all (.cons rfl (.cons (sl_one o27.flat) .nil))) rfl ?_
  intro w37 ch38 bx39
  clear bx36
  refine l_val (v := v28) rfl (e_assign rfl) ?_
  refine l_val (v := Value.int .i64 ((layR g r a b).2.2)) rfl (e_assign rfl) ?_
  refine l_nil (run_seq (run_seq (run_region rfl ?_)))
  refine l_val (v := Value.int .i64 ((layR g r a b).2.2)) rfl (e_move rfl) ?_
  refine l_val (v := Value.bool (!(decide (((layR g r a b).2.2) = 0)))) rfl (e_neq (m := (layR g r a b).2.2) (n := 0) rfl rfl) ?_
  refine l_nil ?_
  by_cases p6 : ((layR g r a b).2.2) = 0
  ·
   have hY := lay_law p6
   have hm := hY.may
   have hrp := hY.rot
   have hm0 := hm
   obtain ⟨hm1, hm2, hm3, hm4⟩ := hm0
   obtain ⟨⟨hx1, hx2⟩, hy1, hy2⟩ := hY.nd
   have hpl := partsR_len hm
   have hpb := partsR_bd g hm
   have hpb' := partsR_bd (layR g r a b).1 hY.may'
   have hmg := hY.may'.2.1
   refine run_cond_f rfl (congrArg Bool.not (decide_eq_true p6)) ?_
   refine run_skip ?_
   refine run_seq (run_region rfl ?_)
   have C40 : Chg (inl [6]) _ _ _ _ := (ch31.n).seq ((ch33.n).seq (ch38.l rfl))
   replace bx5 := bx5.chg C40 (is_nl rfl)
   refine l_val (v := Value.agg (List.toArray [Value.int .i64 g.1, g_v])) rfl (e_load_bxN (ds := [Value.int .i64 g.1, g_v]) tp24_dl rfl bx5 rfl rfl) ?_
   replace r_g_v := r_g_v.chg C40 (is_nl rfl)
   refine l_op rfl ?_
   refine o_callx (e_call (vals := [Value.agg (List.toArray [Value.int .i64 g.1, g_v]), Value.slice none 0 0, Value.slice none 0 0]) Try.func31 bd31_dl nm31_dl rfl) (rParts_ok w37 g g_v (r_g_v).ro (by first | exact hm | exact hY.may')) ?_
   rintro ⟨d42, v44⟩ w41 ⟨fr43, o45⟩
   obtain ⟨g46, hg46⟩ : ∃ q, q = glue w37.heap.size g35 d42 (fun n => if n = 1 then 7 else 0) := ⟨_, rfl⟩
   have ch47 := chg_glue fr43.below g35 d42 (fun n => if n = 1 then 7 else 0)
   rw [← hg46] at ch47
   replace o45 := o45.glue (γ := g35) (ren := (fun n => if n = 1 then 7 else 0)) (k := 7) fr43.col rfl rfl
   rw [← hg46] at o45
   clear hg46
   refine l_val (v := Value.tuple (List.toArray [v44, Value.int .i64 ((partsR g).2.1)])) rfl (e_move rfl) ?_
   refine l_val (v := v44) rfl (e_extract rfl rfl) ?_
   refine l_val (v := Value.int .i64 ((partsR g).2.1)) rfl (e_extract rfl rfl) ?_
   refine l_val (v := v44) rfl (e_assign rfl) ?_
   refine l_val (v := Value.int .i64 ((partsR g).2.1)) rfl (e_assign rfl) ?_
   refine l_nil (run_seq ?_)
   refine run_region_h g46 (inl []) mixed_dl ?_
   intro w49 ch48
   replace bx5 := (bx5.chg ch47 (not_no _)).chg ch48 (not_no _)
   refine h_take (v := Value.agg (List.toArray [Value.int .i64 g.1, g_v])) 0 rfl (by kernel_rfl) (by kernel_rfl) rfl (Chg.refl _ _ _) (fun w' hw' => e_load_bxN (ds := [Value.int .i64 g.1, g_v]) tp24_dl rfl (bx5.chg hw' (is_nl rfl)) rfl rfl) ?_
   refine h_take (v := r_v) 1 rfl (by kernel_rfl) (by kernel_rfl) rfl (Chg.refl _ _ _) (fun w' hw' => e_move rfl) ?_
   replace bx39 := (bx39.chg ch47 (not_no _)).chg ch48 (not_no _)
   refine h_take (v := Value.agg (List.toArray [Value.int .i64 (((layR g r a b).1).1), v26])) 4 rfl (by kernel_rfl) (by kernel_rfl) rfl (Chg.refl _ _ _) (fun w' hw' => e_load_bxN (ds := [Value.int .i64 (((layR g r a b).1).1), v26]) tp24_dl rfl (bx39.chg hw' (is_nl rfl)) rfl rfl) ?_
   refine h_take (v := v28) 5 rfl (by kernel_rfl) (by kernel_rfl) rfl (Chg.refl _ _ _) (fun w' hw' => e_move rfl) ?_
   refine h_one 2 rfl (by kernel_rfl) rfl ?_
   replace r_g_v := (r_g_v.chg ch47 (not_no _)).chg ch48 (not_no _)
   have C50 : Chg (inl [6]) _ _ _ _ := (ch31.n).seq ((ch33.n).seq ((ch38.l rfl).seq ((ch47.n).seq (ch48.n))))
   replace r_r_v := r_r_v.chg C50 (is_nl rfl)
   refine o_callx (e_call (vals := [Value.agg (List.toArray [Value.int .i64 g.1, g_v]), r_v]) Try.func29 bd29_dl nm29_dl rfl) (rFaces_ok w49 g g_v (r_g_v).ro r r_v (r_r_v).ro (by first | exact hm | exact hY.may') (by first | exact hrp | exact hY.rot')) ?_
   rintro ⟨d52, v54⟩ w51 ⟨fr53, o55⟩
   obtain ⟨g56, hg56⟩ : ∃ q, q = glue w49.heap.size g46 d52 (fun n => if n = 1 then 8 else 0) := ⟨_, rfl⟩
   have ch57 := chg_glue fr53.below g46 d52 (fun n => if n = 1 then 8 else 0)
   rw [← hg56] at ch57
   replace o55 := o55.glue (γ := g46) (ren := (fun n => if n = 1 then 8 else 0)) (k := 8) fr53.col rfl rfl
   rw [← hg56] at o55
   clear hg56
   have hs58 : Chg (inl []) _ _ _ _ := ch57.n
   refine ⟨hs58.same, ?_⟩
   have len59 := (o55.sl).small
   refine h_take (v := Value.int .i64 (List.length (facesS (nextS g r) r) : Int)) 3 rfl (by kernel_rfl) (by kernel_rfl) rfl hs58.same (fun w' hw' => e_len Try.underlying25 rfl o55.sl) ?_
   refine h_one 6 rfl (by kernel_rfl) rfl ?_
   have C60 : Chg (inl [6]) _ _ _ _ := (ch38.l rfl).seq ((ch47.n).seq (ch48.n))
   replace o27 := o27.chg C60 (is_nl rfl) (is_nl rfl)
   have C61 : Chg (inl [6]) _ _ _ _ := (ch33.n).seq ((ch38.l rfl).seq ((ch47.n).seq (ch48.n)))
   replace o29 := o29.chg C61 (is_nl rfl)
   refine o_callx (e_call (vals := [Value.agg (List.toArray [Value.int .i64 (((layR g r a b).1).1), v26]), v28]) Try.func29 bd29_dl nm29_dl rfl) (rFaces_ok w51 ((layR g r a b).1) v26 ((o27.chg hs58 (is_nl rfl) (is_nl rfl)).flat).ro ((layR g r a b).2.1) v28 ((o29.chg hs58 (is_nl rfl)).sl).ro (by first | exact hm | exact hY.may') (by first | exact hrp | exact hY.rot')) ?_
   rintro ⟨d63, v65⟩ w62 ⟨fr64, o66⟩
   obtain ⟨g67, hg67⟩ : ∃ q, q = glue w51.heap.size g56 d63 (fun n => if n = 1 then 9 else 0) := ⟨_, rfl⟩
   have ch68 := chg_glue fr64.below g56 d63 (fun n => if n = 1 then 9 else 0)
   rw [← hg67] at ch68
   replace o66 := o66.glue (γ := g56) (ren := (fun n => if n = 1 then 9 else 0)) (k := 9) fr64.col rfl rfl
   rw [← hg67] at o66
   clear hg67
   have hs69 := hs58.seq (ch68.n)
   refine ⟨hs69.same, ?_⟩
   have len70 := (o66.sl).small
   refine h_take (v := Value.int .i64 (List.length (facesS (nextS ((layR g r a b).1) ((layR g r a b).2.1)) ((layR g r a b).2.1)) : Int)) 7 rfl (by kernel_rfl) (by kernel_rfl) rfl hs69.same (fun w' hw' => e_len Try.underlying25 rfl o66.sl) ?_
   refine h_take (v := Value.int .i64 (List.length (facesS (nextS g r) r) : Int)) 8 rfl (by kernel_rfl) (by kernel_rfl) rfl hs69.same (fun w' hw' => e_assign rfl) ?_
   refine h_take (v := Value.int .i64 (List.length (facesS (nextS ((layR g r a b).1) ((layR g r a b).2.1)) ((layR g r a b).2.1)) : Int)) 9 rfl (by kernel_rfl) (by kernel_rfl) rfl hs69.same (fun w' hw' => e_assign rfl) ?_
   refine h_nil (by kernel_rfl) ?_
   refine run_seq ?_
   clear o55
   clear o66
   refine region_q g67 rfl mixed_dl (by kernel_rfl) ?_
   intro w72 ch71
   refine q_val (v := v44) rfl (fun w' hw' => e_move rfl) ?_
   refine q_val (v := Value.pointer (some ⟨b8, 0, none⟩)) rfl (fun w' hw' => e_fieldAddr Try.underlying55 rfl rfl rfl rfl) ?_
   have C73 : Chg (inl [6]) _ _ _ _ := (ch31.n).seq ((ch33.n).seq ((ch38.l rfl).seq ((ch47.n).seq ((ch48.n).seq ((ch57.n).seq ((ch68.n).seq (ch71.n)))))))
   replace bx10 := bx10.chg C73 (is_nl rfl)
   refine q_val (v := Value.int .i64 a.1) rfl (fun w' hw' => e_load_bx1 tp3_dl rfl (bx10.bel hw') rfl) ?_
   have C74 : Chg (inl []) _ _ _ _ := (ch48.n).seq ((ch57.n).seq ((ch68.n).seq (ch71.n)))
   replace o45 := o45.chg C74 (is_nl rfl) (is_nl rfl)
   refine q_val (v := Value.pointer (some (eAddr v44 1 (Int.toNat a.1)))) rfl (fun w' hw' => e_indexAddr (α := Int) (xs := (partsR g).1) (v := v44) (i := a.1) Try.underlying27 rfl rfl (o45.flat.bel hw') rfl (by omega) (by omega)) ?_
   refine q_val (v := Value.int .i64 (gI ((partsR g).1) a.1)) rfl (fun w' hw' => e_load_el1 (α := Int) (xs := (partsR g).1) (v := v44) (i := a.1) tp3_dl rfl (o45.flat.bel hw') (by omega) (by omega) (by decide) rfl) ?_
   refine q_val (v := v44) rfl (fun w' hw' => e_move rfl) ?_
   refine q_val (v := Value.pointer (some ⟨b13, 0, none⟩)) rfl (fun w' hw' => e_fieldAddr Try.underlying55 rfl rfl rfl rfl) ?_
   replace bx15 := bx15.chg C73 (is_nl rfl)
   refine q_val (v := Value.int .i64 b.1) rfl (fun w' hw' => e_load_bx1 tp3_dl rfl (bx15.bel hw') rfl) ?_
   refine q_val (v := Value.pointer (some (eAddr v44 1 (Int.toNat b.1)))) rfl (fun w' hw' => e_indexAddr (α := Int) (xs := (partsR g).1) (v := v44) (i := b.1) Try.underlying27 rfl rfl (o45.flat.bel hw') rfl (by omega) (by omega)) ?_
   refine q_val (v := Value.int .i64 (gI ((partsR g).1) b.1)) rfl (fun w' hw' => e_load_el1 (α := Int) (xs := (partsR g).1) (v := v44) (i := b.1) tp3_dl rfl (o45.flat.bel hw') (by omega) (by omega) (by decide) rfl) ?_
   refine q_val (v := Value.bool (decide ((gI ((partsR g).1) a.1) = (gI ((partsR g).1) b.1)))) rfl (fun w' hw' => e_eql (m := (gI ((partsR g).1) a.1)) (n := (gI ((partsR g).1) b.1)) rfl rfl) ?_
   refine q_val (v := Value.bool (decide ((gI ((partsR g).1) a.1) = (gI ((partsR g).1) b.1)))) rfl (fun w' hw' => e_assign rfl) ?_
   refine q_nil ?_
   intro w75 hc76
   replace hc76 := chg_below hc76 g67
   refine run_seq ?_
   clear bx10
   clear bx15
   clear o45
   refine run_region rfl ?_
   have C77 : Chg (inl []) _ _ _ _ := (ch57.n).seq ((ch68.n).seq ((ch71.n).seq (hc76.n)))
   replace bx39 := bx39.chg C77 (is_nl rfl)
   refine l_val (v := Value.agg (List.toArray [Value.int .i64 (((layR g r a b).1).1), v26])) rfl (e_load_bxN (ds := [Value.int .i64 (((layR g r a b).1).1), v26]) tp24_dl rfl bx39 rfl rfl) ?_
   replace o27 := o27.chg C77 (is_nl rfl) (is_nl rfl)
   refine l_op rfl ?_
   refine o_callx (e_call (vals := [Value.agg (List.toArray [Value.int .i64 (((layR g r a b).1).1), v26]), Value.slice none 0 0, Value.slice none 0 0]) Try.func31 bd31_dl nm31_dl rfl) (rParts_ok w75 ((layR g r a b).1) v26 (o27.flat).ro (by first | exact hm | exact hY.may')) ?_
   rintro ⟨d79, v81⟩ w78 ⟨fr80, o82⟩
   obtain ⟨g83, hg83⟩ : ∃ q, q = glue w75.heap.size g67 d79 (fun n => if n = 1 then 10 else 0) := ⟨_, rfl⟩
   have ch84 := chg_glue fr80.below g67 d79 (fun n => if n = 1 then 10 else 0)
   rw [← hg83] at ch84
   replace o82 := o82.glue (γ := g67) (ren := (fun n => if n = 1 then 10 else 0)) (k := 10) fr80.col rfl rfl
   rw [← hg83] at o82
   clear hg83
   refine l_val (v := Value.tuple (List.toArray [v81, Value.int .i64 ((partsR ((layR g r a b).1)).2.1)])) rfl (e_move rfl) ?_
   refine l_val (v := v81) rfl (e_extract rfl rfl) ?_
   refine l_val (v := Value.int .i64 ((partsR ((layR g r a b).1)).2.1)) rfl (e_extract rfl rfl) ?_
   refine l_val (v := v81) rfl (e_assign rfl) ?_
   refine l_val (v := Value.int .i64 ((partsR ((layR g r a b).1)).2.1)) rfl (e_assign rfl) ?_
   refine l_nil (run_seq (run_seq ?_))
   clear o82
   refine region_q g83 rfl mixed_dl (by kernel_rfl) ?_
   intro w86 ch85
   replace bx39 := (bx39.chg ch84 (not_no _)).chg ch85 (not_no _)
   refine q_val (v := Value.agg (List.toArray [Value.int .i64 (((layR g r a b).1).1), v26])) rfl (fun w' hw' => e_load_bxN (ds := [Value.int .i64 (((layR g r a b).1).1), v26]) tp24_dl rfl (bx39.bel hw') rfl rfl) ?_
   refine q_val (v := v28) rfl (fun w' hw' => e_move rfl) ?_
   replace o27 := (o27.chg ch84 (not_no _) (not_no _)).chg ch85 (not_no _) (not_no _)
   have C87 : Chg (inl []) _ _ _ _ := (ch57.n).seq ((ch68.n).seq ((ch71.n).seq ((hc76.n).seq ((ch84.n).seq (ch85.n)))))
   replace o29 := o29.chg C87 (is_nl rfl)
   refine q_call (v := Value.int .i64 (genusS ((layR g r a b).1) ((layR g r a b).2.1))) rfl (fun w' hw' => e_call (vals := [Value.agg (List.toArray [Value.int .i64 (((layR g r a b).1).1), v26]), v28]) Try.func23 bd23_dl nm23_dl rfl) (fun w' hw' => (rGenus_ok w' ((layR g r a b).1) v26 ((o27.flat.bel hw')).ro ((layR g r a b).2.1) v28 ((o29.sl.bel hw')).ro (by first | exact hm | exact hY.may') (by first | exact hrp | exact hY.rot')).mono fun e w2 h2 => ⟨h2.1, hw'.trans (h2.2.mono hw'.size)⟩) ?_
   replace bx5 := bx5.chg C87 (is_nl rfl)
   refine q_val (v := Value.agg (List.toArray [Value.int .i64 g.1, g_v])) rfl (fun w' hw' => e_load_bxN (ds := [Value.int .i64 g.1, g_v]) tp24_dl rfl (bx5.bel hw') rfl rfl) ?_
   refine q_val (v := r_v) rfl (fun w' hw' => e_move rfl) ?_
   replace r_g_v := r_g_v.chg C87 (is_nl rfl)
   replace r_r_v := r_r_v.chg C87 (is_nl rfl)
   refine q_call (v := Value.int .i64 (genusS g r)) rfl (fun w' hw' => e_call (vals := [Value.agg (List.toArray [Value.int .i64 g.1, g_v]), r_v]) Try.func23 bd23_dl nm23_dl rfl) (fun w' hw' => (rGenus_ok w' g g_v ((r_g_v.bel hw')).ro r r_v ((r_r_v.bel hw')).ro (by first | exact hm | exact hY.may') (by first | exact hrp | exact hY.rot')).mono fun e w2 h2 => ⟨h2.1, hw'.trans (h2.2.mono hw'.size)⟩) ?_
   refine q_val (v := Value.bool (!(decide ((genusS ((layR g r a b).1) ((layR g r a b).2.1)) = (genusS g r))))) rfl (fun w' hw' => e_neq (m := genusS ((layR g r a b).1) ((layR g r a b).2.1)) (n := genusS g r) rfl rfl) ?_
   refine q_val (v := Value.bool (!(decide ((genusS ((layR g r a b).1) ((layR g r a b).2.1)) = (genusS g r))))) rfl (fun w' hw' => e_move rfl) ?_
   have q82 : (genusS ((layR g r a b).1) ((layR g r a b).2.1)) = (genusS g r) := by first | exact hb1 | exact hY.gen | exact (hY.win (by assumption)).1 | exact (hY.win (by assumption)).2 | exact (hY.nwin (by assumption)).1 | exact (hY.nwin (by assumption)).2 | exact hY.tk | exact decide_eq_true hY.tk1
   refine q_val (v := Value.bool (decide ((gI ((partsR g).1) a.1) = (gI ((partsR g).1) b.1)))) (want_y rfl rfl rfl (congrArg Bool.not (decide_eq_true q82))) (fun w' hw' => e_move rfl) ?_
   refine q_val (v := Value.bool (decide ((gI ((partsR g).1) a.1) = (gI ((partsR g).1) b.1)))) (want_y rfl rfl rfl (congrArg Bool.not (decide_eq_true q82))) (fun w' hw' => e_move rfl) ?_
   by_cases q84 : (gI ((partsR g).1) a.1) = (gI ((partsR g).1) b.1)
   ·
    refine q_val (v := Value.int .i64 (List.length (facesS (nextS ((layR g r a b).1) ((layR g r a b).2.1)) ((layR g r a b).2.1)) : Int)) (want_y rfl rfl rfl (decide_eq_true q84)) (fun w' hw' => e_move rfl) ?_
    refine q_val (v := Value.int .i64 (List.length (facesS (nextS g r) r) : Int)) (want_y rfl rfl rfl (decide_eq_true q84)) (fun w' hw' => e_move rfl) ?_
    refine q_val (v := Value.int .i64 ((List.length (facesS (nextS g r) r) : Int) + 1)) (want_y rfl rfl rfl (decide_eq_true q84)) (fun w' hw' => e_add (m := (List.length (facesS (nextS g r) r) : Int)) (n := 1) rfl rfl (by omega)) ?_
    refine q_val (v := Value.bool (!(decide ((List.length (facesS (nextS ((layR g r a b).1) ((layR g r a b).2.1)) ((layR g r a b).2.1)) : Int) = ((List.length (facesS (nextS g r) r) : Int) + 1))))) (want_y rfl rfl rfl (decide_eq_true q84)) (fun w' hw' => e_neq (m := (List.length (facesS (nextS ((layR g r a b).1) ((layR g r a b).2.1)) ((layR g r a b).2.1)) : Int)) (n := (List.length (facesS (nextS g r) r) : Int) + 1) rfl rfl) ?_
    refine q_val (v := Value.bool (!(decide ((List.length (facesS (nextS ((layR g r a b).1) ((layR g r a b).2.1)) ((layR g r a b).2.1)) : Int) = ((List.length (facesS (nextS g r) r) : Int) + 1))))) (want_y rfl rfl rfl (decide_eq_true q84)) (fun w' hw' => e_move rfl) ?_
    have q89 : (List.length (facesS (nextS ((layR g r a b).1) ((layR g r a b).2.1)) ((layR g r a b).2.1)) : Int) = ((List.length (facesS (nextS g r) r) : Int) + 1) := by first | exact hb1 | exact hY.gen | exact (hY.win (by assumption)).1 | exact (hY.win (by assumption)).2 | exact (hY.nwin (by assumption)).1 | exact (hY.nwin (by assumption)).2 | exact hY.tk | exact decide_eq_true hY.tk1
    refine q_val (v := Value.int .i64 ((partsR ((layR g r a b).1)).2.1)) (want_y rfl rfl rfl (congrArg Bool.not (decide_eq_true q89))) (fun w' hw' => e_move rfl) ?_
    refine q_val (v := Value.int .i64 ((partsR g).2.1)) (want_y rfl rfl rfl (congrArg Bool.not (decide_eq_true q89))) (fun w' hw' => e_move rfl) ?_
    refine q_val (v := Value.bool (!(decide (((partsR ((layR g r a b).1)).2.1) = ((partsR g).2.1))))) (want_y rfl rfl rfl (congrArg Bool.not (decide_eq_true q89))) (fun w' hw' => e_neq (m := (partsR ((layR g r a b).1)).2.1) (n := (partsR g).2.1) rfl rfl) ?_
    refine q_val (v := Value.bool (!(decide (((partsR ((layR g r a b).1)).2.1) = ((partsR g).2.1))))) (want_y rfl rfl rfl (decide_eq_true q84)) (fun w' hw' => e_pick_f rfl (congrArg Bool.not (decide_eq_true q89)) rfl) ?_
    refine q_val (v := Value.bool (!(decide (((partsR ((layR g r a b).1)).2.1) = ((partsR g).2.1))))) (want_y rfl rfl rfl (congrArg Bool.not (decide_eq_true q82))) (fun w' hw' => e_pick_t rfl (decide_eq_true q84) rfl) ?_
    refine q_val (v := Value.bool (!(decide (((partsR ((layR g r a b).1)).2.1) = ((partsR g).2.1))))) rfl (fun w' hw' => e_pick_f rfl (congrArg Bool.not (decide_eq_true q82)) rfl) ?_
    refine q_val (v := Value.bool (!(decide (((partsR ((layR g r a b).1)).2.1) = ((partsR g).2.1))))) rfl (fun w' hw' => e_move rfl) ?_
    have q96 : ((partsR ((layR g r a b).1)).2.1) = ((partsR g).2.1) := by first | exact hb1 | exact hY.gen | exact (hY.win (by assumption)).1 | exact (hY.win (by assumption)).2 | exact (hY.nwin (by assumption)).1 | exact (hY.nwin (by assumption)).2 | exact hY.tk | exact decide_eq_true hY.tk1
    refine q_val (v := Value.bool (decide ((gI ((partsR g).1) a.1) = (gI ((partsR g).1) b.1)))) (want_y rfl rfl rfl (congrArg Bool.not (decide_eq_true q96))) (fun w' hw' => e_move rfl) ?_
    refine q_val (v := Value.bool (!(decide ((gI ((partsR g).1) a.1) = (gI ((partsR g).1) b.1))))) (want_y rfl rfl rfl (congrArg Bool.not (decide_eq_true q96))) (fun w' hw' => e_not (b := decide ((gI ((partsR g).1) a.1) = (gI ((partsR g).1) b.1))) rfl) ?_
    refine q_val (v := Value.bool (!(decide ((gI ((partsR g).1) a.1) = (gI ((partsR g).1) b.1))))) (want_y rfl rfl rfl (congrArg Bool.not (decide_eq_true q96))) (fun w' hw' => e_move rfl) ?_
    refine q_skip (want_n rfl rfl rfl (congrArg Bool.not (decide_eq_true q84))) ?_
    refine q_skip (want_n rfl rfl rfl (congrArg Bool.not (decide_eq_true q84))) ?_
    refine q_skip (want_n rfl rfl rfl (congrArg Bool.not (decide_eq_true q84))) ?_
    refine q_skip (want_n rfl rfl rfl (congrArg Bool.not (decide_eq_true q84))) ?_
    refine q_skip (want_n rfl rfl rfl (congrArg Bool.not (decide_eq_true q84))) ?_
    refine q_skip (want_u rfl rfl rfl) ?_
    refine q_skip (want_u rfl rfl rfl) ?_
    refine q_skip (want_u rfl rfl rfl) ?_
    refine q_skip (want_u rfl rfl rfl) ?_
    refine q_skip (want_n rfl rfl rfl (congrArg Bool.not (decide_eq_true q84))) ?_
    refine q_val (v := Value.bool false) (want_y rfl rfl rfl (congrArg Bool.not (decide_eq_true q96))) (fun w' hw' => e_pick_f rfl (congrArg Bool.not (decide_eq_true q84)) rfl) ?_
    refine q_val (v := Value.bool false) rfl (fun w' hw' => e_pick_f rfl (congrArg Bool.not (decide_eq_true q96)) rfl) ?_
    refine q_nil ?_
    intro w88 hc89
    replace hc89 := chg_below hc89 g83
    refine run_cond_f rfl rfl ?_
    refine run_skip ?_
    refine run_seq (run_region rfl ?_)
    replace bx39 := bx39.chg hc89 (not_no _)
    refine l_val (v := Value.agg (List.toArray [Value.int .i64 (((layR g r a b).1).1), v26])) rfl (e_load_bxN (ds := [Value.int .i64 (((layR g r a b).1).1), v26]) tp24_dl rfl bx39 rfl rfl) ?_
    refine l_val (v := v28) rfl (e_move rfl) ?_
    refine l_val (v := Value.pointer (some ⟨b3, 1, none⟩)) rfl (e_fieldAddr Try.underlying24 rfl rfl rfl rfl) ?_
    replace bx5 := bx5.chg hc89 (not_no _)
    refine l_val (v := g_v) rfl (e_load_bx1 tp22_dl rfl bx5 rfl) ?_
    replace r_g_v := r_g_v.chg hc89 (not_no _)
    have len90 := (r_g_v).small
    refine l_val (v := Value.int .i64 (List.length g.2 : Int)) rfl (e_len Try.underlying22 rfl r_g_v) ?_
    replace o27 := o27.chg hc89 (not_no _) (not_no _)
    replace o29 := o29.chg hc89 (not_no _)
    refine l_op rfl ?_
    refine o_callx (e_call (vals := [Value.agg (List.toArray [Value.int .i64 (((layR g r a b).1).1), v26]), v28, Value.int .i64 (List.length g.2 : Int)]) Try.func32 bd32_dl nm32_dl rfl) (Take_ok w88 ((layR g r a b).1) v26 (o27.flat).ro ((layR g r a b).2.1) v28 (o29.sl).ro (List.length g.2 : Int)) ?_
    rintro ⟨d92, v94, v96⟩ w91 ⟨fr93, o95, o97⟩
    obtain ⟨g98, hg98⟩ : ∃ q, q = glue w88.heap.size g83 d92 (fun n => if n = 1 then 11 else if n = 2 then 12 else 0) := ⟨_, rfl⟩
    have ch99 := chg_glue fr93.below g83 d92 (fun n => if n = 1 then 11 else if n = 2 then 12 else 0)
    rw [← hg98] at ch99
    replace o95 := o95.glue (γ := g83) (ren := (fun n => if n = 1 then 11 else if n = 2 then 12 else 0)) (k := 11) fr93.col rfl rfl
    rw [← hg98] at o95
    replace o97 := o97.glue (γ := g83) (ren := (fun n => if n = 1 then 11 else if n = 2 then 12 else 0)) (k := 12) fr93.col rfl rfl
    rw [← hg98] at o97
    clear hg98
    refine l_val (v := Value.tuple (List.toArray [Value.agg (List.toArray [Value.int .i64 (((takeR ((layR g r a b).1) ((layR g r a b).2.1) (List.length g.2 : Int)).1).1), v94]), v96, Value.int .i64 ((takeR ((layR g r a b).1) ((layR g r a b).2.1) (List.length g.2 : Int)).2.2)])) rfl (e_move rfl) ?_
    refine l_val (v := Value.agg (List.toArray [Value.int .i64 (((takeR ((layR g r a b).1) ((layR g r a b).2.1) (List.length g.2 : Int)).1).1), v94])) rfl (e_extract rfl rfl) ?_
    refine l_val (v := v96) rfl (e_extract rfl rfl) ?_
    refine l_val (v := Value.int .i64 ((takeR ((layR g r a b).1) ((layR g r a b).2.1) (List.length g.2 : Int)).2.2)) rfl (e_extract rfl rfl) ?_
    refine l_op rfl ?_
    refine o_alloc g98 (is 13) (13, 0) rfl tp24_dl ?_
    intro g103 w100 b102 ch101 bx104
    replace bx104 : Bx g103 (is 13) w100 b102 [Value.int .i64 0, Value.slice none 0 0] := bx104
    refine l_op rfl ?_
    replace o95 := o95.chg ch101 (not_no _) (not_no _)
    refine o_store_bx (cs' := [Value.int .i64 (((takeR ((layR g r a b).1) ((layR g r a b).2.1) (List.length g.2 : Int)).1).1), v94]) tp24_dl rfl rfl bx104 rfl (Nat.le_of_ble_eq_true rfl) (AllOne.all (.cons rfl (.cons (sl_one o95.flat) .nil))) rfl ?_
    intro w105 ch106 bx107
    clear bx104
    refine l_val (v := v96) rfl (e_assign rfl) ?_
    refine l_val (v := Value.int .i64 ((takeR ((layR g r a b).1) ((layR g r a b).2.1) (List.length g.2 : Int)).2.2)) rfl (e_assign rfl) ?_
    refine l_nil (run_seq ?_)
    clear o27
    clear o29
    clear bx39
    refine run_region rfl ?_
    refine l_val (v := Value.int .i64 ((takeR ((layR g r a b).1) ((layR g r a b).2.1) (List.length g.2 : Int)).2.2)) rfl (e_move rfl) ?_
    refine l_val (v := Value.bool (decide (((takeR ((layR g r a b).1) ((layR g r a b).2.1) (List.length g.2 : Int)).2.2) = 0))) rfl (e_eql (m := (takeR ((layR g r a b).1) ((layR g r a b).2.1) (List.length g.2 : Int)).2.2) (n := 0) rfl rfl) ?_
    refine l_val (v := Value.bool (decide (((takeR ((layR g r a b).1) ((layR g r a b).2.1) (List.length g.2 : Int)).2.2) = 0))) rfl (e_move rfl) ?_
    have q124 : ((takeR ((layR g r a b).1) ((layR g r a b).2.1) (List.length g.2 : Int)).2.2) = 0 := by first | exact hb1 | exact hY.gen | exact (hY.win (by assumption)).1 | exact (hY.win (by assumption)).2 | exact (hY.nwin (by assumption)).1 | exact (hY.nwin (by assumption)).2 | exact hY.tk | exact decide_eq_true hY.tk1
    refine l_val (v := Value.agg (List.toArray [Value.int .i64 (((takeR ((layR g r a b).1) ((layR g r a b).2.1) (List.length g.2 : Int)).1).1), v94])) (want_y rfl rfl rfl (decide_eq_true q124)) (e_load_bxN (ds := [Value.int .i64 (((takeR ((layR g r a b).1) ((layR g r a b).2.1) (List.length g.2 : Int)).1).1), v94]) tp24_dl rfl bx107 rfl rfl) ?_
    have C108 : Chg (inl [13]) _ _ _ _ := (ch99.n).seq ((ch101.n).seq (ch106.l rfl))
    replace bx5 := bx5.chg C108 (is_nl rfl)
    refine l_val (v := Value.agg (List.toArray [Value.int .i64 g.1, g_v])) (want_y rfl rfl rfl (decide_eq_true q124)) (e_load_bxN (ds := [Value.int .i64 g.1, g_v]) tp24_dl rfl bx5 rfl rfl) ?_
    replace o95 := o95.chg ch106 (is_ne rfl) (is_ne rfl)
    replace r_g_v := r_g_v.chg C108 (is_nl rfl)
    refine l_op (want_y rfl rfl rfl (decide_eq_true q124)) ?_
    refine o_call (v := Value.bool (decide (((takeR ((layR g r a b).1) ((layR g r a b).2.1) (List.length g.2 : Int)).1) = g))) (e_call (vals := [Value.agg (List.toArray [Value.int .i64 (((takeR ((layR g r a b).1) ((layR g r a b).2.1) (List.length g.2 : Int)).1).1), v94]), Value.agg (List.toArray [Value.int .i64 g.1, g_v])]) Try.func33 bd33_dl nm33_dl rfl) (rSame_ok w105 ((takeR ((layR g r a b).1) ((layR g r a b).2.1) (List.length g.2 : Int)).1) v94 (o95.flat).ro g g_v (r_g_v).ro) ?_
    intro w109 hb110
    replace hb110 := chg_below hb110 g103
    refine l_val (v := Value.bool (decide (((takeR ((layR g r a b).1) ((layR g r a b).2.1) (List.length g.2 : Int)).1) = g))) rfl (e_pick_t rfl (decide_eq_true q124) rfl) ?_
    refine l_val (v := Value.bool (decide (((takeR ((layR g r a b).1) ((layR g r a b).2.1) (List.length g.2 : Int)).1) = g))) rfl (e_move rfl) ?_
    have q129 : (decide (((takeR ((layR g r a b).1) ((layR g r a b).2.1) (List.length g.2 : Int)).1) = g)) = true := by first | exact hb1 | exact hY.gen | exact (hY.win (by assumption)).1 | exact (hY.win (by assumption)).2 | exact (hY.nwin (by assumption)).1 | exact (hY.nwin (by assumption)).2 | exact hY.tk | exact decide_eq_true hY.tk1
    refine l_val (v := v96) (want_y rfl rfl rfl q129) (e_move rfl) ?_
    refine l_val (v := r_v) (want_y rfl rfl rfl q129) (e_move rfl) ?_
    have C111 : Chg (inl [13]) _ _ _ _ := (ch101.n).seq ((ch106.l rfl).seq (hb110.n))
    replace o97 := o97.chg C111 (is_nl rfl)
    have C112 : Chg (inl [13]) _ _ _ _ := (hc89.n).seq ((ch99.n).seq ((ch101.n).seq ((ch106.l rfl).seq (hb110.n))))
    replace r_r_v := r_r_v.chg C112 (is_nl rfl)
    refine l_op (want_y rfl rfl rfl q129) ?_
    refine o_call (v := Value.bool (decide (canonS ((takeR ((layR g r a b).1) ((layR g r a b).2.1) (List.length g.2 : Int)).2.1) = canonS r))) (e_call (vals := [v96, r_v]) Try.func34 bd34_dl nm34_dl rfl) (rRSame_ok w109 ((takeR ((layR g r a b).1) ((layR g r a b).2.1) (List.length g.2 : Int)).2.1) v96 (o97.sl).ro r r_v (r_r_v).ro) ?_
    intro w113 hb114
    replace hb114 := chg_below hb114 g103
    refine l_val (v := Value.bool (decide (canonS ((takeR ((layR g r a b).1) ((layR g r a b).2.1) (List.length g.2 : Int)).2.1) = canonS r))) rfl (e_pick_t rfl q129 rfl) ?_
    refine l_val (v := Value.bool (decide (canonS ((takeR ((layR g r a b).1) ((layR g r a b).2.1) (List.length g.2 : Int)).2.1) = canonS r))) rfl (e_assign rfl) ?_
    refine l_nil ?_
    refine run_ret (vs := [Value.bool (decide (canonS ((takeR ((layR g r a b).1) ((layR g r a b).2.1) (List.length g.2 : Int)).2.1) = canonS r))]) Try.func7 (.tmp rfl .nil) ?_
    -- return 0
    have e0 : ((decide (canonS ((takeR ((layR g r a b).1) ((layR g r a b).2.1) (List.length g.2 : Int)).2.1) = canonS r)) : Bool) = (true) := by
      first
        | rfl
        | (rw [hb2]; rfl)
        | exact decide_eq_true hY.tk2
        | exact (decide_eq_true hY.tk2).symm
    have C115 : Chg (inl [6, 13]) _ _ _ _ := (ch2.n).seq ((ch7.n).seq ((ch12.n).seq ((hb17.n).seq ((hb21.n).seq ((ch31.n).seq ((ch33.n).seq ((ch38.l rfl).seq ((ch47.n).seq ((ch48.n).seq ((ch57.n).seq ((ch68.n).seq ((ch71.n).seq ((hc76.n).seq ((ch84.n).seq ((ch85.n).seq ((hc89.n).seq ((ch99.n).seq ((ch101.n).seq ((ch106.l rfl).seq ((hb110.n).seq (hb114.n)))))))))))))))))))))
    replace hbase := hbase.chg C115 (is_nl rfl)
    exact ⟨(congrArg (a₁ := (decide (canonS ((takeR ((layR g r a b).1) ((layR g r a b).2.1) (List.length g.2 : Int)).2.1) = canonS r))) (fun (z0 : Bool) => Ending.returned (Value.bool z0)) e0), hbase.below⟩
   refine q_skip (want_n rfl rfl rfl (decide_eq_false q84)) ?_
   refine q_skip (want_n rfl rfl rfl (decide_eq_false q84)) ?_
   refine q_skip (want_n rfl rfl rfl (decide_eq_false q84)) ?_
   refine q_skip (want_n rfl rfl rfl (decide_eq_false q84)) ?_
   refine q_skip (want_n rfl rfl rfl (decide_eq_false q84)) ?_
   refine q_skip (want_u rfl rfl rfl) ?_
   refine q_skip (want_u rfl rfl rfl) ?_
   refine q_skip (want_u rfl rfl rfl) ?_
   refine q_skip (want_n rfl rfl rfl (decide_eq_false q84)) ?_
   refine q_val (v := Value.bool false) (want_y rfl rfl rfl (congrArg Bool.not (decide_eq_true q82))) (fun w' hw' => e_pick_f rfl (decide_eq_false q84) rfl) ?_
   refine q_val (v := Value.bool false) rfl (fun w' hw' => e_pick_f rfl (congrArg Bool.not (decide_eq_true q82)) rfl) ?_
   refine q_val (v := Value.bool false) rfl (fun w' hw' => e_move rfl) ?_
   refine q_val (v := Value.bool (decide ((gI ((partsR g).1) a.1) = (gI ((partsR g).1) b.1)))) (want_y rfl rfl rfl rfl) (fun w' hw' => e_move rfl) ?_
   refine q_val (v := Value.bool (!(decide ((gI ((partsR g).1) a.1) = (gI ((partsR g).1) b.1))))) (want_y rfl rfl rfl rfl) (fun w' hw' => e_not (b := decide ((gI ((partsR g).1) a.1) = (gI ((partsR g).1) b.1))) rfl) ?_
   refine q_val (v := Value.bool (!(decide ((gI ((partsR g).1) a.1) = (gI ((partsR g).1) b.1))))) (want_y rfl rfl rfl rfl) (fun w' hw' => e_move rfl) ?_
   refine q_val (v := Value.int .i64 (List.length (facesS (nextS ((layR g r a b).1) ((layR g r a b).2.1)) ((layR g r a b).2.1)) : Int)) (want_y rfl rfl rfl (congrArg Bool.not (decide_eq_false q84))) (fun w' hw' => e_move rfl) ?_
   refine q_val (v := Value.int .i64 (List.length (facesS (nextS g r) r) : Int)) (want_y rfl rfl rfl (congrArg Bool.not (decide_eq_false q84))) (fun w' hw' => e_move rfl) ?_
   refine q_val (v := Value.int .i64 ((List.length (facesS (nextS g r) r) : Int) - 1)) (want_y rfl rfl rfl (congrArg Bool.not (decide_eq_false q84))) (fun w' hw' => e_sub (m := (List.length (facesS (nextS g r) r) : Int)) (n := 1) rfl rfl (by omega)) ?_
   refine q_val (v := Value.bool (!(decide ((List.length (facesS (nextS ((layR g r a b).1) ((layR g r a b).2.1)) ((layR g r a b).2.1)) : Int) = ((List.length (facesS (nextS g r) r) : Int) - 1))))) (want_y rfl rfl rfl (congrArg Bool.not (decide_eq_false q84))) (fun w' hw' => e_neq (m := (List.length (facesS (nextS ((layR g r a b).1) ((layR g r a b).2.1)) ((layR g r a b).2.1)) : Int)) (n := (List.length (facesS (nextS g r) r) : Int) - 1) rfl rfl) ?_
   refine q_val (v := Value.bool (!(decide ((List.length (facesS (nextS ((layR g r a b).1) ((layR g r a b).2.1)) ((layR g r a b).2.1)) : Int) = ((List.length (facesS (nextS g r) r) : Int) - 1))))) (want_y rfl rfl rfl (congrArg Bool.not (decide_eq_false q84))) (fun w' hw' => e_move rfl) ?_
   have q104 : (List.length (facesS (nextS ((layR g r a b).1) ((layR g r a b).2.1)) ((layR g r a b).2.1)) : Int) = ((List.length (facesS (nextS g r) r) : Int) - 1) := by first | exact hb1 | exact hY.gen | exact (hY.win (by assumption)).1 | exact (hY.win (by assumption)).2 | exact (hY.nwin (by assumption)).1 | exact (hY.nwin (by assumption)).2 | exact hY.tk | exact decide_eq_true hY.tk1
   refine q_val (v := Value.int .i64 ((partsR ((layR g r a b).1)).2.1)) (want_y rfl rfl rfl (congrArg Bool.not (decide_eq_true q104))) (fun w' hw' => e_move rfl) ?_
   refine q_val (v := Value.int .i64 ((partsR g).2.1)) (want_y rfl rfl rfl (congrArg Bool.not (decide_eq_true q104))) (fun w' hw' => e_move rfl) ?_
   refine q_val (v := Value.int .i64 (((partsR g).2.1) - 1)) (want_y rfl rfl rfl (congrArg Bool.not (decide_eq_true q104))) (fun w' hw' => e_sub (m := (partsR g).2.1) (n := 1) rfl rfl (by omega)) ?_
   refine q_val (v := Value.bool (!(decide (((partsR ((layR g r a b).1)).2.1) = (((partsR g).2.1) - 1))))) (want_y rfl rfl rfl (congrArg Bool.not (decide_eq_true q104))) (fun w' hw' => e_neq (m := (partsR ((layR g r a b).1)).2.1) (n := ((partsR g).2.1) - 1) rfl rfl) ?_
   refine q_val (v := Value.bool (!(decide (((partsR ((layR g r a b).1)).2.1) = (((partsR g).2.1) - 1))))) (want_y rfl rfl rfl (congrArg Bool.not (decide_eq_false q84))) (fun w' hw' => e_pick_f rfl (congrArg Bool.not (decide_eq_true q104)) rfl) ?_
   refine q_val (v := Value.bool (!(decide (((partsR ((layR g r a b).1)).2.1) = (((partsR g).2.1) - 1))))) (want_y rfl rfl rfl rfl) (fun w' hw' => e_pick_t rfl (congrArg Bool.not (decide_eq_false q84)) rfl) ?_
   refine q_val (v := Value.bool (!(decide (((partsR ((layR g r a b).1)).2.1) = (((partsR g).2.1) - 1))))) rfl (fun w' hw' => e_pick_f rfl rfl rfl) ?_
   refine q_nil ?_
   intro w116 hc117
   replace hc117 := chg_below hc117 g83
   have p12 : ((partsR ((layR g r a b).1)).2.1) = (((partsR g).2.1) - 1) := by first | exact hb1 | exact hY.gen | exact (hY.win (by assumption)).1 | exact (hY.win (by assumption)).2 | exact (hY.nwin (by assumption)).1 | exact (hY.nwin (by assumption)).2 | exact hY.tk | exact decide_eq_true hY.tk1
   refine run_cond_f rfl (congrArg Bool.not (decide_eq_true p12)) ?_
   refine run_skip ?_
   refine run_seq (run_region rfl ?_)
   replace bx39 := bx39.chg hc117 (not_no _)
   refine l_val (v := Value.agg (List.toArray [Value.int .i64 (((layR g r a b).1).1), v26])) rfl (e_load_bxN (ds := [Value.int .i64 (((layR g r a b).1).1), v26]) tp24_dl rfl bx39 rfl rfl) ?_
   refine l_val (v := v28) rfl (e_move rfl) ?_
   refine l_val (v := Value.pointer (some ⟨b3, 1, none⟩)) rfl (e_fieldAddr Try.underlying24 rfl rfl rfl rfl) ?_
   replace bx5 := bx5.chg hc117 (not_no _)
   refine l_val (v := g_v) rfl (e_load_bx1 tp22_dl rfl bx5 rfl) ?_
   replace r_g_v := r_g_v.chg hc117 (not_no _)
   have len118 := (r_g_v).small
   refine l_val (v := Value.int .i64 (List.length g.2 : Int)) rfl (e_len Try.underlying22 rfl r_g_v) ?_
   replace o27 := o27.chg hc117 (not_no _) (not_no _)
   replace o29 := o29.chg hc117 (not_no _)
   refine l_op rfl ?_
   refine o_callx (e_call (vals := [Value.agg (List.toArray [Value.int .i64 (((layR g r a b).1).1), v26]), v28, Value.int .i64 (List.length g.2 : Int)]) Try.func32 bd32_dl nm32_dl rfl) (Take_ok w116 ((layR g r a b).1) v26 (o27.flat).ro ((layR g r a b).2.1) v28 (o29.sl).ro (List.length g.2 : Int)) ?_
   rintro ⟨d120, v122, v124⟩ w119 ⟨fr121, o123, o125⟩
   obtain ⟨g126, hg126⟩ : ∃ q, q = glue w116.heap.size g83 d120 (fun n => if n = 1 then 11 else if n = 2 then 12 else 0) := ⟨_, rfl⟩
   have ch127 := chg_glue fr121.below g83 d120 (fun n => if n = 1 then 11 else if n = 2 then 12 else 0)
   rw [← hg126] at ch127
   replace o123 := o123.glue (γ := g83) (ren := (fun n => if n = 1 then 11 else if n = 2 then 12 else 0)) (k := 11) fr121.col rfl rfl
   rw [← hg126] at o123
   replace o125 := o125.glue (γ := g83) (ren := (fun n => if n = 1 then 11 else if n = 2 then 12 else 0)) (k := 12) fr121.col rfl rfl
   rw [← hg126] at o125
   clear hg126
   refine l_val (v := Value.tuple (List.toArray [Value.agg (List.toArray [Value.int .i64 (((takeR ((layR g r a b).1) ((layR g r a b).2.1) (List.length g.2 : Int)).1).1), v122]), v124, Value.int .i64 ((takeR ((layR g r a b).1) ((layR g r a b).2.1) (List.length g.2 : Int)).2.2)])) rfl (e_move rfl) ?_
   refine l_val (v := Value.agg (List.toArray [Value.int .i64 (((takeR ((layR g r a b).1) ((layR g r a b).2.1) (List.length g.2 : Int)).1).1), v122])) rfl (e_extract rfl rfl) ?_
   refine l_val (v := v124) rfl (e_extract rfl rfl) ?_
   refine l_val (v := Value.int .i64 ((takeR ((layR g r a b).1) ((layR g r a b).2.1) (List.length g.2 : Int)).2.2)) rfl (e_extract rfl rfl) ?_
   refine l_op rfl ?_
   refine o_alloc g126 (is 13) (13, 0) rfl tp24_dl ?_
   intro g131 w128 b130 ch129 bx132
   replace bx132 : Bx g131 (is 13) w128 b130 [Value.int .i64 0, Value.slice none 0 0] := bx132
   refine l_op rfl ?_
   replace o123 := o123.chg ch129 (not_no _) (not_no _)
   refine o_store_bx (cs' := [Value.int .i64 (((takeR ((layR g r a b).1) ((layR g r a b).2.1) (List.length g.2 : Int)).1).1), v122]) tp24_dl rfl rfl bx132 rfl (Nat.le_of_ble_eq_true rfl) (AllOne.all (.cons rfl (.cons (sl_one o123.flat) .nil))) rfl ?_
   intro w133 ch134 bx135
   clear bx132
   refine l_val (v := v124) rfl (e_assign rfl) ?_
   refine l_val (v := Value.int .i64 ((takeR ((layR g r a b).1) ((layR g r a b).2.1) (List.length g.2 : Int)).2.2)) rfl (e_assign rfl) ?_
   refine l_nil (run_seq ?_)
   clear o27
   clear o29
   clear bx39
   refine run_region rfl ?_
   refine l_val (v := Value.int .i64 ((takeR ((layR g r a b).1) ((layR g r a b).2.1) (List.length g.2 : Int)).2.2)) rfl (e_move rfl) ?_
   refine l_val (v := Value.bool (decide (((takeR ((layR g r a b).1) ((layR g r a b).2.1) (List.length g.2 : Int)).2.2) = 0))) rfl (e_eql (m := (takeR ((layR g r a b).1) ((layR g r a b).2.1) (List.length g.2 : Int)).2.2) (n := 0) rfl rfl) ?_
   refine l_val (v := Value.bool (decide (((takeR ((layR g r a b).1) ((layR g r a b).2.1) (List.length g.2 : Int)).2.2) = 0))) rfl (e_move rfl) ?_
   have q124_136 : ((takeR ((layR g r a b).1) ((layR g r a b).2.1) (List.length g.2 : Int)).2.2) = 0 := by first | exact hb1 | exact hY.gen | exact (hY.win (by assumption)).1 | exact (hY.win (by assumption)).2 | exact (hY.nwin (by assumption)).1 | exact (hY.nwin (by assumption)).2 | exact hY.tk | exact decide_eq_true hY.tk1
   refine l_val (v := Value.agg (List.toArray [Value.int .i64 (((takeR ((layR g r a b).1) ((layR g r a b).2.1) (List.length g.2 : Int)).1).1), v122])) (want_y rfl rfl rfl (decide_eq_true q124_136)) (e_load_bxN (ds := [Value.int .i64 (((takeR ((layR g r a b).1) ((layR g r a b).2.1) (List.length g.2 : Int)).1).1), v122]) tp24_dl rfl bx135 rfl rfl) ?_
   have C137 : Chg (inl [13]) _ _ _ _ := (ch127.n).seq ((ch129.n).seq (ch134.l rfl))
   replace bx5 := bx5.chg C137 (is_nl rfl)
   refine l_val (v := Value.agg (List.toArray [Value.int .i64 g.1, g_v])) (want_y rfl rfl rfl (decide_eq_true q124_136)) (e_load_bxN (ds := [Value.int .i64 g.1, g_v]) tp24_dl rfl bx5 rfl rfl) ?_
   replace o123 := o123.chg ch134 (is_ne rfl) (is_ne rfl)
   replace r_g_v := r_g_v.chg C137 (is_nl rfl)
   refine l_op (want_y rfl rfl rfl (decide_eq_true q124_136)) ?_
   refine o_call (v := Value.bool (decide (((takeR ((layR g r a b).1) ((layR g r a b).2.1) (List.length g.2 : Int)).1) = g))) (e_call (vals := [Value.agg (List.toArray [Value.int .i64 (((takeR ((layR g r a b).1) ((layR g r a b).2.1) (List.length g.2 : Int)).1).1), v122]), Value.agg (List.toArray [Value.int .i64 g.1, g_v])]) Try.func33 bd33_dl nm33_dl rfl) (rSame_ok w133 ((takeR ((layR g r a b).1) ((layR g r a b).2.1) (List.length g.2 : Int)).1) v122 (o123.flat).ro g g_v (r_g_v).ro) ?_
   intro w138 hb139
   replace hb139 := chg_below hb139 g131
   refine l_val (v := Value.bool (decide (((takeR ((layR g r a b).1) ((layR g r a b).2.1) (List.length g.2 : Int)).1) = g))) rfl (e_pick_t rfl (decide_eq_true q124_136) rfl) ?_
   refine l_val (v := Value.bool (decide (((takeR ((layR g r a b).1) ((layR g r a b).2.1) (List.length g.2 : Int)).1) = g))) rfl (e_move rfl) ?_
   have q129_140 : (decide (((takeR ((layR g r a b).1) ((layR g r a b).2.1) (List.length g.2 : Int)).1) = g)) = true := by first | exact hb1 | exact hY.gen | exact (hY.win (by assumption)).1 | exact (hY.win (by assumption)).2 | exact (hY.nwin (by assumption)).1 | exact (hY.nwin (by assumption)).2 | exact hY.tk | exact decide_eq_true hY.tk1
   refine l_val (v := v124) (want_y rfl rfl rfl q129_140) (e_move rfl) ?_
   refine l_val (v := r_v) (want_y rfl rfl rfl q129_140) (e_move rfl) ?_
   have C141 : Chg (inl [13]) _ _ _ _ := (ch129.n).seq ((ch134.l rfl).seq (hb139.n))
   replace o125 := o125.chg C141 (is_nl rfl)
   have C142 : Chg (inl [13]) _ _ _ _ := (hc117.n).seq ((ch127.n).seq ((ch129.n).seq ((ch134.l rfl).seq (hb139.n))))
   replace r_r_v := r_r_v.chg C142 (is_nl rfl)
   refine l_op (want_y rfl rfl rfl q129_140) ?_
   refine o_call (v := Value.bool (decide (canonS ((takeR ((layR g r a b).1) ((layR g r a b).2.1) (List.length g.2 : Int)).2.1) = canonS r))) (e_call (vals := [v124, r_v]) Try.func34 bd34_dl nm34_dl rfl) (rRSame_ok w138 ((takeR ((layR g r a b).1) ((layR g r a b).2.1) (List.length g.2 : Int)).2.1) v124 (o125.sl).ro r r_v (r_r_v).ro) ?_
   intro w143 hb144
   replace hb144 := chg_below hb144 g131
   refine l_val (v := Value.bool (decide (canonS ((takeR ((layR g r a b).1) ((layR g r a b).2.1) (List.length g.2 : Int)).2.1) = canonS r))) rfl (e_pick_t rfl q129_140 rfl) ?_
   refine l_val (v := Value.bool (decide (canonS ((takeR ((layR g r a b).1) ((layR g r a b).2.1) (List.length g.2 : Int)).2.1) = canonS r))) rfl (e_assign rfl) ?_
   refine l_nil ?_
   refine run_ret (vs := [Value.bool (decide (canonS ((takeR ((layR g r a b).1) ((layR g r a b).2.1) (List.length g.2 : Int)).2.1) = canonS r))]) Try.func7 (.tmp rfl .nil) ?_
   -- return 1
   have e0 : ((decide (canonS ((takeR ((layR g r a b).1) ((layR g r a b).2.1) (List.length g.2 : Int)).2.1) = canonS r)) : Bool) = (true) := by
     first
       | rfl
       | (rw [hb2]; rfl)
       | exact decide_eq_true hY.tk2
       | exact (decide_eq_true hY.tk2).symm
   have C145 : Chg (inl [6, 13]) _ _ _ _ := (ch2.n).seq ((ch7.n).seq ((ch12.n).seq ((hb17.n).seq ((hb21.n).seq ((ch31.n).seq ((ch33.n).seq ((ch38.l rfl).seq ((ch47.n).seq ((ch48.n).seq ((ch57.n).seq ((ch68.n).seq ((ch71.n).seq ((hc76.n).seq ((ch84.n).seq ((ch85.n).seq ((hc117.n).seq ((ch127.n).seq ((ch129.n).seq ((ch134.l rfl).seq ((hb139.n).seq (hb144.n)))))))))))))))))))))
   replace hbase := hbase.chg C145 (is_nl rfl)
   exact ⟨(congrArg (a₁ := (decide (canonS ((takeR ((layR g r a b).1) ((layR g r a b).2.1) (List.length g.2 : Int)).2.1) = canonS r))) (fun (z0 : Bool) => Ending.returned (Value.bool z0)) e0), hbase.below⟩
  obtain ⟨hb1, hb2⟩ := layR_bad p6
  refine run_cond_t rfl (congrArg Bool.not (decide_eq_false p6)) ?_
  refine run_seq ?_
  clear bx5
  clear bx10
  clear bx15
  refine run_region rfl ?_
  refine l_val (v := Value.pointer (some ⟨b34, 0, none⟩)) rfl (e_fieldAddr Try.underlying24 rfl rfl rfl rfl) ?_
  refine l_val (v := Value.int .i64 (((layR g r a b).1).1)) rfl (e_load_bx1 tp3_dl rfl bx39 rfl) ?_
  refine l_val (v := Value.bool (decide ((((layR g r a b).1).1) = 0))) rfl (e_eql (m := ((layR g r a b).1).1) (n := 0) rfl rfl) ?_
  refine l_val (v := Value.bool (decide ((((layR g r a b).1).1) = 0))) rfl (e_move rfl) ?_
  have q41 : (((layR g r a b).1).1) = 0 := by first | exact hb1 | exact hY.gen | exact (hY.win (by assumption)).1 | exact (hY.win (by assumption)).2 | exact (hY.nwin (by assumption)).1 | exact (hY.nwin (by assumption)).2 | exact hY.tk | exact decide_eq_true hY.tk1
  refine l_val (v := v28) (want_y rfl rfl rfl (decide_eq_true q41)) (e_move rfl) ?_
  replace o29 := (o29.chg ch33 (not_no _)).chg ch38 (is_ne rfl)
  have len146 := (o29.sl).small
  refine l_val (v := Value.int .i64 (List.length ((layR g r a b).2.1) : Int)) (want_y rfl rfl rfl (decide_eq_true q41)) (e_len Try.underlying26 rfl o29.sl) ?_
  refine l_val (v := Value.bool (decide ((List.length ((layR g r a b).2.1) : Int) = 0))) (want_y rfl rfl rfl (decide_eq_true q41)) (e_eql (m := (List.length ((layR g r a b).2.1) : Int)) (n := 0) rfl rfl) ?_
  refine l_val (v := Value.bool (decide ((List.length ((layR g r a b).2.1) : Int) = 0))) rfl (e_pick_t rfl (decide_eq_true q41) rfl) ?_
  refine l_val (v := Value.bool (decide ((List.length ((layR g r a b).2.1) : Int) = 0))) rfl (e_assign rfl) ?_
  refine l_nil ?_
  refine run_ret (vs := [Value.bool (decide ((List.length ((layR g r a b).2.1) : Int) = 0))]) Try.func7 (.tmp rfl .nil) ?_
  -- return 2
  have e0 : (decide ((List.length ((layR g r a b).2.1) : Int) = 0) : Bool) = (true) := by
    first
      | rfl
      | (rw [hb2]; rfl)
      | exact decide_eq_true hY.tk2
      | exact (decide_eq_true hY.tk2).symm
  have C147 : Chg (inl [6]) _ _ _ _ := (ch2.n).seq ((ch7.n).seq ((ch12.n).seq ((hb17.n).seq ((hb21.n).seq ((ch31.n).seq ((ch33.n).seq (ch38.l rfl)))))))
  replace hbase := hbase.chg C147 (is_nl rfl)
  exact ⟨(congrArg (a₁ := decide ((List.length ((layR g r a b).2.1) : Int) = 0)) (fun (z0 : Bool) => Ending.returned (Value.bool z0)) e0), hbase.below⟩
 refine run_cond_t rfl (congrArg Bool.not (Bool.eq_false_iff.2 p3)) ?_
 refine run_seq ?_
 clear bx5
 clear bx10
 clear bx15
 refine run_region rfl ?_
 refine l_val (v := Value.bool true) rfl (e_assign rfl) ?_
 refine l_nil ?_
 refine run_ret (vs := [Value.bool true]) Try.func7 (.tmp rfl .nil) ?_
 -- return 3
 have e0 : (true : Bool) = (true) := by
   first
     | rfl
     | (rw [hb2]; rfl)
     | exact decide_eq_true hY.tk2
     | exact (decide_eq_true hY.tk2).symm
 have C148 : Chg (inl []) _ _ _ _ := (ch2.n).seq ((ch7.n).seq ((ch12.n).seq ((hb17.n).seq (hb21.n))))
 replace hbase := hbase.chg C148 (is_nl rfl)
 exact ⟨(congrArg (a₁ := true) (fun (z0 : Bool) => Ending.returned (Value.bool z0)) e0), hbase.below⟩
end TL
