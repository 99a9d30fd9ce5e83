import Derived.Test.YtilohhkbelkmdaaTlGdA
import Derived.Test.YtilohhkbelkmdaaTlGenO
import Derived.Test.YtilohhkbelkmdaaTlGenZ
import Derived.Test.YtilohhkbelkmdaaTlInsA
import Derived.Test.YtilohhkbelkmdaaTlP3
import Derived.Test.YtilohhkbelkmdaaProg
set_option linter.all false
set_option maxRecDepth 20000
namespace TL
open Go Go.Proofs
theorem mixed_dd : Try.prog.follows .mixedOrders = true := by kernel_rfl
theorem tp3_dd : Tp Try.prog 3 false 1 8 (.int .i64 0) := Tp.of (by kernel_rfl)
theorem tp22_dd : Tp Try.prog 22 false 1 24 (.slice none 0 0) := Tp.of (by kernel_rfl)
theorem tp24_dd : Tp Try.prog 24 true 2 32 (.agg #[.int .i64 0, .slice none 0 0]) := Tp.of (by kernel_rfl)
theorem tp27_dd : Tp Try.prog 27 false 1 24 (.slice none 0 0) := Tp.of (by kernel_rfl)
theorem tp55_dd : Tp Try.prog 55 true 2 16 (.agg #[.int .i64 0, .int .i64 0]) := Tp.of (by kernel_rfl)
theorem tp60_dd : Tp Try.prog 60 true 2 16 (.agg #[.int .i64 0, .int .i64 0]) := Tp.of (by kernel_rfl)
theorem bd47_dd : Try.f47.body.isNone = false := rfl
theorem nm47_dd : (Try.f47.name == "runtime.NumGoroutine") = false := by decide +kernel
theorem bd54_dd : Try.f54.body.isNone = false := rfl
theorem nm54_dd : (Try.f54.name == "runtime.NumGoroutine") = false := by decide +kernel
theorem bd55_dd : Try.f55.body.isNone = false := rfl
theorem nm55_dd : (Try.f55.name == "runtime.NumGoroutine") = false := by decide +kernel
theorem bd70_dd : Try.f70.body.isNone = false := rfl
theorem nm70_dd : (Try.f70.name == "runtime.NumGoroutine") = false := by decide +kernel
theorem bd71_dd : Try.f71.body.isNone = false := rfl
theorem nm71_dd : (Try.f71.name == "runtime.NumGoroutine") = false := by decide +kernel
theorem bd73_dd : Try.f73.body.isNone = false := rfl
theorem nm73_dd : (Try.f73.name == "runtime.NumGoroutine") = false := by decide +kernel
theorem bd74_dd : Try.f74.body.isNone = false := rfl
theorem nm74_dd : (Try.f74.name == "runtime.NumGoroutine") = false := by decide +kernel
theorem bd75_dd : Try.f75.body.isNone = false := rfl
theorem nm75_dd : (Try.f75.name == "runtime.NumGoroutine") = false := by decide +kernel
theorem bd76_dd : Try.f76.body.isNone = false := rfl
theorem nm76_dd : (Try.f76.name == "runtime.NumGoroutine") = false := by decide +kernel
theorem bd77_dd : Try.f77.body.isNone = false := rfl
theorem nm77_dd : (Try.f77.name == "runtime.NumGoroutine") = false := by decide +kernel
theorem bd100_dd : Try.f100.body.isNone = false := rfl
theorem nm100_dd : (Try.f100.name == "runtime.NumGoroutine") = false := by decide +kernel
set_option maxHeartbeats 1000000 in
theorem Lay_ok (w0 : World) (g : (Int) × (List ((Int) × (Int)))) (g_v : Value) (hg_v : Ro w0 g_v g.2) (r : List (List Int)) (r_v : Value) (hr_v : Ro w0 r_v r) (a : (Int) × (Int)) (b : (Int) × (Int)) :
    Calls Try.prog 30 #[Value.agg (List.toArray [Value.int .i64 g.1, g_v]), r_v, Value.agg (List.toArray [Value.int .i64 a.1, Value.int .i64 a.2]), Value.agg (List.toArray [Value.int .i64 b.1, Value.int .i64 b.2])] w0 (fun ee w => ∃ xx : Cmap × Value × Value, ee = .returned ((fun ⟨δ, rv0, rv1⟩ => Value.tuple (List.toArray [Value.agg (List.toArray [Value.int .i64 (((layR g r a b).1).1), rv0]), rv1, Value.int .i64 ((layR g r a b).2.2)])) xx) ∧ (fun (⟨δ, rv0, rv1⟩ : Cmap × Value × Value) (w : World) => Fresh w0 δ w ∧ Ow δ (is 1) (is 1) w rv0 (((layR g r a b).1).2) ∧ Nst δ 2 w rv1 ((layR g r a b).2.1)) xx w) := by
 refine calls_of_run Try.func30 rfl (Nat.le_of_ble_eq_true rfl) ?_
 have hbase := Base.start w0
 have r_g_v := hg_v.sl
 have r_r_v := hr_v.sl
 refine run_seq (run_region rfl (l_op rfl ?_))
 refine o_box c0 (is 1) (1, 0) rfl rfl ?_
 intro g4 w1 b3 ch2 bx5
 replace bx5 : Bx g4 (is 1) w1 b3 [Value.int .i64 g.1, g_v] := bx5
 refine l_op rfl ?_
 refine o_box g4 (is 2) (2, 0) rfl rfl ?_
 intro g9 w6 b8 ch7 bx10
 replace bx10 : Bx g9 (is 2) w6 b8 [Value.int .i64 a.1, Value.int .i64 a.2] := bx10
 refine l_op rfl ?_
 refine o_box g9 (is 3) (3, 0) rfl rfl ?_
 intro g14 w11 b13 ch12 bx15
 replace bx15 : Bx g14 (is 3) w11 b13 [Value.int .i64 b.1, Value.int .i64 b.2] := bx15
 refine l_op rfl ?_
 refine o_alloc g14 (is 4) (4, 0) rfl tp24_dd ?_
 intro g19 w16 b18 ch17 bx20
 replace bx20 : Bx g19 (is 4) w16 b18 [Value.int .i64 0, Value.slice none 0 0] := bx20
 refine l_val (v := Value.slice none 0 0) rfl (e_assign rfl) ?_
 refine l_val (v := Value.int .i64 0) rfl (e_assign rfl) ?_
 refine l_nil (run_seq (run_region rfl ?_))
 have C21 : Chg (inl []) _ _ _ _ := (ch7.n).seq ((ch12.n).seq (ch17.n))
 replace bx5 := bx5.chg C21 (is_nl rfl)
 refine l_val (v := Value.agg (List.toArray [Value.int .i64 g.1, g_v])) rfl (e_load_bxN (ds := [Value.int .i64 g.1, g_v]) tp24_dd rfl bx5 rfl rfl) ?_
 refine l_val (v := r_v) rfl (e_move rfl) ?_
 have C22 : Chg (inl []) _ _ _ _ := (ch2.n).seq ((ch7.n).seq ((ch12.n).seq (ch17.n)))
 replace r_g_v := r_g_v.chg C22 (is_nl rfl)
 replace r_r_v := r_r_v.chg C22 (is_nl rfl)
 refine l_op rfl ?_
 refine o_callx (e_call (vals := [Value.agg (List.toArray [Value.int .i64 g.1, g_v]), r_v]) Try.func47 bd47_dd nm47_dd rfl) (Faces_ok w16 g g_v (r_g_v).ro r r_v (r_r_v).ro) ?_
 rintro ⟨d24, v26⟩ w23 ⟨fr25, o27⟩
 obtain ⟨g28, hg28⟩ : ∃ q, q = glue w16.heap.size g19 d24 (fun n => if n = 1 then 5 else 0) := ⟨_, rfl⟩
 have ch29 := chg_glue fr25.below g19 d24 (fun n => if n = 1 then 5 else 0)
 rw [← hg28] at ch29
 replace o27 := o27.glue (γ := g19) (ren := (fun n => if n = 1 then 5 else 0)) (k := 5) fr25.col rfl rfl
 rw [← hg28] at o27
 clear hg28
 refine l_val (v := Value.tuple (List.toArray [v26, Value.int .i64 ((facesR g r).2)])) rfl (e_move rfl) ?_
 refine l_val (v := v26) rfl (e_extract rfl rfl) ?_
 refine l_val (v := Value.int .i64 ((facesR g r).2)) rfl (e_extract rfl rfl) ?_
 refine l_val (v := v26) rfl (e_assign rfl) ?_
 refine l_val (v := Value.int .i64 ((facesR g r).2)) rfl (e_assign rfl) ?_
 refine l_nil (run_seq ?_)
 refine run_block ?_
 refine run_seq (run_region rfl ?_)
 refine l_val (v := Value.int .i64 ((facesR g r).2)) rfl (e_move rfl) ?_
 refine l_val (v := Value.bool (!(decide (((facesR g r).2) = 0)))) rfl (e_neq (m := (facesR g r).2) (n := 0) rfl rfl) ?_
 refine l_val (v := Value.bool (!(decide (((facesR g r).2) = 0)))) rfl (e_assign rfl) ?_
 refine l_nil ?_
 by_cases p2 : ((facesR g r).2) = 0
 ·
  obtain ⟨hm, hrp⟩ := rmay_ok (facesR_may p2)
  have hm0 := hm
  obtain ⟨hm1, hm2, hm3, hm4⟩ := hm0
  have hrl := hrp.1
  have hFe := facesR_yes (rmay_yes hm hrp)
  have hOe := ofR_yes (rmay_yes hm hrp)
  have hFl := facesR_len g r hm hrp
  have hol0 : ((ofR g r).1.length : Int) = 2 * (g.2.length : Int) := by rw [hOe]; exact ofS_len g r
  refine run_cond_f rfl (congrArg Bool.not (decide_eq_true p2)) ?_
  refine run_seq (run_region rfl ?_)
  replace bx5 := bx5.chg ch29 (not_no _)
  refine l_val (v := Value.agg (List.toArray [Value.int .i64 g.1, g_v])) rfl (e_load_bxN (ds := [Value.int .i64 g.1, g_v]) tp24_dd rfl bx5 rfl rfl) ?_
  refine l_val (v := r_v) rfl (e_move rfl) ?_
  have C30 : Chg (inl []) _ _ _ _ := (ch12.n).seq ((ch17.n).seq (ch29.n))
  replace bx10 := bx10.chg C30 (is_nl rfl)
  refine l_val (v := Value.agg (List.toArray [Value.int .i64 a.1, Value.int .i64 a.2])) rfl (e_load_bxN (ds := [Value.int .i64 a.1, Value.int .i64 a.2]) tp55_dd rfl bx10 rfl rfl) ?_
  replace r_g_v := r_g_v.chg ch29 (not_no _)
  replace r_r_v := r_r_v.chg ch29 (not_no _)
  refine l_op rfl ?_
  refine o_call (v := Value.bool (decide (cornP g r a))) (e_call (vals := [Value.agg (List.toArray [Value.int .i64 g.1, g_v]), r_v, Value.agg (List.toArray [Value.int .i64 a.1, Value.int .i64 a.2])]) Try.func73 bd73_dd nm73_dd rfl) (corner_ok w23 g g_v (r_g_v).ro r r_v (r_r_v).ro a (by exact hm) (by exact hrp)) ?_
  intro w31 hb32
  replace hb32 := chg_below hb32 g28
  refine l_val (v := Value.bool (!(decide (cornP g r a)))) rfl (e_not (b := (decide (cornP g r a))) rfl) ?_
  refine l_val (v := Value.bool (!(decide (cornP g r a)))) rfl (e_move rfl) ?_
  by_cases q39 : (decide (cornP g r a)) = true
  ·
   replace bx5 := bx5.chg hb32 (not_no _)
   refine l_val (v := Value.agg (List.toArray [Value.int .i64 g.1, g_v])) (want_y rfl rfl rfl (congrArg Bool.not q39)) (e_load_bxN (ds := [Value.int .i64 g.1, g_v]) tp24_dd rfl bx5 rfl rfl) ?_
   refine l_val (v := r_v) (want_y rfl rfl rfl (congrArg Bool.not q39)) (e_move rfl) ?_
   have C33 : Chg (inl []) _ _ _ _ := (ch17.n).seq ((ch29.n).seq (hb32.n))
   replace bx15 := bx15.chg C33 (is_nl rfl)
   refine l_val (v := Value.agg (List.toArray [Value.int .i64 b.1, Value.int .i64 b.2])) (want_y rfl rfl rfl (congrArg Bool.not q39)) (e_load_bxN (ds := [Value.int .i64 b.1, Value.int .i64 b.2]) tp55_dd rfl bx15 rfl rfl) ?_
   replace r_g_v := r_g_v.chg hb32 (not_no _)
   replace r_r_v := r_r_v.chg hb32 (not_no _)
   refine l_op (want_y rfl rfl rfl (congrArg Bool.not q39)) ?_
   refine o_call (v := Value.bool (decide (cornP g r b))) (e_call (vals := [Value.agg (List.toArray [Value.int .i64 g.1, g_v]), r_v, Value.agg (List.toArray [Value.int .i64 b.1, Value.int .i64 b.2])]) Try.func73 bd73_dd nm73_dd rfl) (corner_ok w31 g g_v (r_g_v).ro r r_v (r_r_v).ro b (by exact hm) (by exact hrp)) ?_
   intro w34 hb35
   replace hb35 := chg_below hb35 g28
   refine l_val (v := Value.bool (!(decide (cornP g r b)))) (want_y rfl rfl rfl (congrArg Bool.not q39)) (e_not (b := (decide (cornP g r b))) rfl) ?_
   refine l_val (v := Value.bool (!(decide (cornP g r b)))) rfl (e_pick_f rfl (congrArg Bool.not q39) rfl) ?_
   refine l_val (v := Value.bool (!(decide (cornP g r b)))) rfl (e_assign rfl) ?_
   refine l_nil ?_
   by_cases p4 : (decide (cornP g r b)) = true
   ·
    refine run_cond_f rfl (congrArg Bool.not p4) ?_
    refine run_seq (run_region rfl ?_)
    refine l_val (v := Value.pointer (some ⟨b3, 1, none⟩)) rfl (e_fieldAddr Try.underlying24 rfl rfl rfl rfl) ?_
    replace bx5 := bx5.chg hb35 (not_no _)
    refine l_val (v := g_v) rfl (e_load_bx1 tp22_dd rfl bx5 rfl) ?_
    replace r_g_v := r_g_v.chg hb35 (not_no _)
    have len36 := (r_g_v).small
    refine l_val (v := Value.int .i64 (List.length g.2 : Int)) rfl (e_len Try.underlying22 rfl r_g_v) ?_
    refine l_val (v := Value.bool (decide (3072 ≤ (List.length g.2 : Int)))) rfl (e_geq (m := (List.length g.2 : Int)) (n := 3072) rfl rfl) ?_
    refine l_val (v := Value.bool (decide (3072 ≤ (List.length g.2 : Int)))) rfl (e_assign rfl) ?_
    refine l_nil ?_
    by_cases p6 : 3072 ≤ (List.length g.2 : Int)
    ·
     refine run_cond_t rfl (decide_eq_true p6) ?_
     refine run_seq ?_
     clear bx5
     clear bx10
     clear bx15
     clear o27
     refine run_region rfl ?_
     refine l_val (v := Value.agg (List.toArray [Value.int .i64 0, Value.slice none 0 0])) rfl (e_build (vs := []) rfl (by kernel_rfl)) ?_
     refine l_op rfl ?_
     have C40 : Chg (inl []) _ _ _ _ := (ch29.n).seq ((hb32.n).seq (hb35.n))
     replace bx20 := bx20.chg C40 (is_nl rfl)
     refine o_store_bx (cs' := [Value.int .i64 0, Value.slice none 0 0]) tp24_dd rfl rfl bx20 rfl (Nat.le_of_ble_eq_true rfl) (AllOne.all (.cons rfl (.cons rfl .nil))) rfl ?_
     intro w37 ch38 bx39
     clear bx20
     refine l_val (v := Value.slice none 0 0) rfl (e_assign rfl) ?_
     refine l_val (v := Value.int .i64 3) rfl (e_assign rfl) ?_
     refine l_nil ?_
     refine run_ret (vs := [Value.agg (List.toArray [Value.int .i64 0, Value.slice none 0 0]), Value.slice none 0 0, Value.int .i64 3]) Try.func30 (.cell rfl (load_bxN (ds := [Value.int .i64 0, Value.slice none 0 0]) tp24_dd bx39 rfl rfl) (.tmp rfl (.tmp rfl .nil))) ?_
     -- return 0
     have C41 : Chg (inl [4]) _ _ _ _ := (ch2.n).seq ((ch7.n).seq ((ch12.n).seq ((ch17.n).seq ((ch29.n).seq ((hb32.n).seq ((hb35.n).seq (ch38.l rfl)))))))
     replace hbase := hbase.chg C41 (is_nl rfl)
     have e0 : ((0, []) : (Int) × (List ((Int) × (Int)))) = ((layR g r a b).1) := by
       first
         | (rw [layR_no (by assumption)]; done)
         | (rw [layR_bd (by assumption) (by first | exact .inl (by assumption) | exact .inr (by assumption))]; done)
         | (rw [layR_lim (by assumption) (by assumption) (by assumption) (by assumption)]; done)
         | (rw [layR_gen (by assumption) (by assumption) (by assumption) (by assumption) (by assumption) (by assumption)]; done)
         | (rw [layR_ok (by assumption) (by assumption) (by assumption) (by assumption) (by first | assumption | exact .inl (by assumption) | exact .inr (by assumption))]
            first
              | done
              | (unfold laidS; rw [if_pos (by assumption)]; done)
              | (unfold laidS; rw [if_neg (by assumption)]; done)
              | (unfold laidS; rw [if_pos (by assumption)]; rfl)
              | (unfold laidS; rw [if_neg (by assumption)]; rfl))
     have e1 : ([] : List (List Int)) = ((layR g r a b).2.1) := by
       first
         | (rw [layR_no (by assumption)]; done)
         | (rw [layR_bd (by assumption) (by first | exact .inl (by assumption) | exact .inr (by assumption))]; done)
         | (rw [layR_lim (by assumption) (by assumption) (by assumption) (by assumption)]; done)
         | (rw [layR_gen (by assumption) (by assumption) (by assumption) (by assumption) (by assumption) (by assumption)]; done)
         | (rw [layR_ok (by assumption) (by assumption) (by assumption) (by assumption) (by first | assumption | exact .inl (by assumption) | exact .inr (by assumption))]
            first
              | done
              | (unfold laidS; rw [if_pos (by assumption)]; done)
              | (unfold laidS; rw [if_neg (by assumption)]; done)
              | (unfold laidS; rw [if_pos (by assumption)]; rfl)
              | (unfold laidS; rw [if_neg (by assumption)]; rfl))
     have e2 : (3 : Int) = ((layR g r a b).2.2) := by
       first
         | (rw [layR_no (by assumption)]; done)
         | (rw [layR_bd (by assumption) (by first | exact .inl (by assumption) | exact .inr (by assumption))]; done)
         | (rw [layR_lim (by assumption) (by assumption) (by assumption) (by assumption)]; done)
         | (rw [layR_gen (by assumption) (by assumption) (by assumption) (by assumption) (by assumption) (by assumption)]; done)
         | (rw [layR_ok (by assumption) (by assumption) (by assumption) (by assumption) (by first | assumption | exact .inl (by assumption) | exact .inr (by assumption))]
            first
              | done
              | (unfold laidS; rw [if_pos (by assumption)]; done)
              | (unfold laidS; rw [if_neg (by assumption)]; done)
              | (unfold laidS; rw [if_pos (by assumption)]; rfl)
              | (unfold laidS; rw [if_neg (by assumption)]; rfl))
     exact ⟨(fin w0 g28 (fun n => 0), (Value.slice none 0 0), (Value.slice none 0 0)), (congr3 (a := (0, [])) (b := []) (c := 3) (fun (z0 : (Int) × (List ((Int) × (Int)))) (z1 : List (List Int)) (z2 : Int) => Ending.returned (Value.tuple (List.toArray [Value.agg (List.toArray [Value.int .i64 z0.1, Value.slice none 0 0]), Value.slice none 0 0, Value.int .i64 z2]))) e0 e1 e2), hbase.fresh _, ((congrArg (fun (z : (Int) × (List ((Int) × (Int)))) => z.2) e0) ▸ Ow.nil), (e1 ▸ Nst.nil)⟩
    refine run_cond_f rfl (decide_eq_false p6) ?_
    refine run_skip ?_
    refine run_inBlock ?_
    refine run_seq (run_region rfl ?_)
    refine l_val (v := Value.agg (List.toArray [Value.int .i64 g.1, g_v])) rfl (e_load_bxN (ds := [Value.int .i64 g.1, g_v]) tp24_dd rfl bx5 rfl rfl) ?_
    refine l_val (v := r_v) rfl (e_move rfl) ?_
    replace r_r_v := r_r_v.chg hb35 (not_no _)
    refine l_op rfl ?_
    refine o_callx (e_call (vals := [Value.agg (List.toArray [Value.int .i64 g.1, g_v]), r_v]) Try.func54 bd54_dd nm54_dd rfl) (ROf_ok w34 g g_v (r_g_v).ro r r_v (r_r_v).ro) ?_
    rintro ⟨d43, v45⟩ w42 ⟨fr44, o46⟩
    obtain ⟨g47, hg47⟩ : ∃ q, q = glue w34.heap.size g28 d43 (fun n => if n = 1 then 6 else 0) := ⟨_, rfl⟩
    have ch48 := chg_glue fr44.below g28 d43 (fun n => if n = 1 then 6 else 0)
    rw [← hg47] at ch48
    replace o46 := o46.glue (γ := g28) (ren := (fun n => if n = 1 then 6 else 0)) (k := 6) fr44.col rfl rfl
    rw [← hg47] at o46
    clear hg47
    refine l_val (v := Value.tuple (List.toArray [v45, Value.int .i64 ((ofR g r).2)])) rfl (e_move rfl) ?_
    refine l_val (v := v45) rfl (e_extract rfl rfl) ?_
    refine l_val (v := Value.int .i64 ((ofR g r).2)) rfl (e_extract rfl rfl) ?_
    refine l_val (v := v45) rfl (e_assign rfl) ?_
    refine l_val (v := Value.int .i64 ((ofR g r).2)) rfl (e_assign rfl) ?_
    refine l_nil (run_seq (run_region rfl ?_))
    replace bx5 := bx5.chg ch48 (not_no _)
    refine l_val (v := Value.agg (List.toArray [Value.int .i64 g.1, g_v])) rfl (e_load_bxN (ds := [Value.int .i64 g.1, g_v]) tp24_dd rfl bx5 rfl rfl) ?_
    replace r_g_v := r_g_v.chg ch48 (not_no _)
    refine l_op rfl ?_
    refine o_callx (e_call (vals := [Value.agg (List.toArray [Value.int .i64 g.1, g_v])]) Try.func74 bd74_dd nm74_dd rfl) (Parts_ok w42 g g_v (r_g_v).ro) ?_
    rintro ⟨d50, v52⟩ w49 ⟨fr51, o53⟩
    obtain ⟨g54, hg54⟩ : ∃ q, q = glue w42.heap.size g47 d50 (fun n => if n = 1 then 7 else 0) := ⟨_, rfl⟩
    have ch55 := chg_glue fr51.below g47 d50 (fun n => if n = 1 then 7 else 0)
    rw [← hg54] at ch55
    replace o53 := o53.glue (γ := g47) (ren := (fun n => if n = 1 then 7 else 0)) (k := 7) fr51.col rfl rfl
    rw [← hg54] at o53
    clear hg54
    refine l_val (v := Value.tuple (List.toArray [v52, Value.int .i64 ((partsR g).2.1), Value.int .i64 ((partsR g).2.2)])) rfl (e_move rfl) ?_
    refine l_val (v := v52) rfl (e_extract rfl rfl) ?_
    refine l_val (v := Value.int .i64 ((partsR g).2.1)) rfl (e_extract rfl rfl) ?_
    refine l_val (v := Value.int .i64 ((partsR g).2.2)) rfl (e_extract rfl rfl) ?_
    refine l_val (v := v52) rfl (e_assign rfl) ?_
    refine l_val (v := Value.int .i64 ((partsR g).2.1)) rfl (e_assign rfl) ?_
    refine l_val (v := Value.int .i64 ((partsR g).2.2)) rfl (e_assign rfl) ?_
    refine l_nil (run_seq (run_region rfl ?_))
    refine l_val (v := v26) rfl (e_move rfl) ?_
    have C56 : Chg (inl []) _ _ _ _ := (hb32.n).seq ((hb35.n).seq ((ch48.n).seq (ch55.n)))
    replace o27 := o27.chg C56 (is_nl rfl)
    refine l_op rfl ?_
    refine o_call (v := Value.int .i64 (filledS ((facesR g r).1))) (e_call (vals := [v26]) Try.func75 bd75_dd nm75_dd rfl) (dfilled_ok w49 ((facesR g r).1) v26 (o27.sl).ro (by omega)) ?_
    intro w57 hb58
    replace hb58 := chg_below hb58 g54
    refine l_val (v := Value.int .i64 (filledS ((facesR g r).1))) rfl (e_assign rfl) ?_
    refine l_nil (run_seq (run_seq ?_))
    clear o27
    refine run_mid [false, false, true] (σ := Cmap) (fun gq f w => Base w0 gq w ∧ f 1 = r_v ∧ f 4 = Value.pointer (some ⟨b3, 0, none⟩) ∧ f 6 = Value.pointer (some ⟨b8, 0, none⟩) ∧ f 7 = Value.pointer (some ⟨b13, 0, none⟩) ∧ f 8 = Value.pointer (some ⟨b18, 0, none⟩) ∧ Sl gq (is 0) w g_v g.2 ∧ Sl gq (is 0) w r_v r ∧ Bx gq (is 1) w b3 [Value.int .i64 g.1, g_v] ∧ Bx gq (is 2) w b8 [Value.int .i64 a.1, Value.int .i64 a.2] ∧ Bx gq (is 3) w b13 [Value.int .i64 b.1, Value.int .i64 b.2] ∧ Bx gq (is 4) w b18 [Value.int .i64 0, Value.slice none 0 0] ∧ (¬ gI (partsR g).1 a.1 = gI (partsR g).1 b.1 ∨ cfaceS r (ofR g r).1 (filledS (facesR g r).1) a = cfaceS r (ofR g r).1 (filledS (facesR g r).1) b)) ?_ ?_
    ·
     intro mid_j1
     obtain ⟨hca1, hca2, hca3, hca4⟩ := corn_pre hm hrp (c := a) (of_decide_eq_true (by assumption))
     obtain ⟨hcb1, hcb2, hcb3, hcb4⟩ := corn_pre hm hrp (c := b) (of_decide_eq_true (by assumption))
     have hca0 := hca1.1
     have hca9 := hca1.2
     have hcb0 := hcb1.1
     have hcb9 := hcb1.2
     have hpl := partsR_len hm
     have hfb := filled_le (facesR g r).1
     refine region_q g54 rfl mixed_dd (by kernel_rfl) ?_
     intro w60 ch59
     refine q_val (v := v52) rfl (fun w' hw' => e_move rfl) ?_
     refine q_val (v := Value.pointer (some ⟨b8, 0, none⟩)) rfl (fun w' hw' => e_fieldAddr Try.underlying55 rfl rfl rfl rfl) ?_
     have C61 : Chg (inl []) _ _ _ _ := (hb32.n).seq ((hb35.n).seq ((ch48.n).seq ((ch55.n).seq ((hb58.n).seq (ch59.n)))))
     replace bx10 := bx10.chg C61 (is_nl rfl)
     refine q_val (v := Value.int .i64 a.1) rfl (fun w' hw' => e_load_bx1 tp3_dd rfl (bx10.bel hw') rfl) ?_
     replace o53 := (o53.chg hb58 (not_no _) (not_no _)).chg ch59 (not_no _) (not_no _)
     refine q_val (v := Value.pointer (some (eAddr v52 1 (Int.toNat a.1)))) rfl (fun w' hw' => e_indexAddr (α := Int) (xs := (partsR g).1) (v := v52) (i := a.1) Try.underlying27 rfl rfl (o53.flat.bel hw') rfl (by omega) (by omega)) ?_
     refine q_val (v := Value.int .i64 (gI ((partsR g).1) a.1)) rfl (fun w' hw' => e_load_el1 (α := Int) (xs := (partsR g).1) (v := v52) (i := a.1) tp3_dd rfl (o53.flat.bel hw') (by omega) (by omega) (by decide) rfl) ?_
     refine q_val (v := v52) rfl (fun w' hw' => e_move rfl) ?_
     refine q_val (v := Value.pointer (some ⟨b13, 0, none⟩)) rfl (fun w' hw' => e_fieldAddr Try.underlying55 rfl rfl rfl rfl) ?_
     have C62 : Chg (inl []) _ _ _ _ := (hb35.n).seq ((ch48.n).seq ((ch55.n).seq ((hb58.n).seq (ch59.n))))
     replace bx15 := bx15.chg C62 (is_nl rfl)
     refine q_val (v := Value.int .i64 b.1) rfl (fun w' hw' => e_load_bx1 tp3_dd rfl (bx15.bel hw') rfl) ?_
     refine q_val (v := Value.pointer (some (eAddr v52 1 (Int.toNat b.1)))) rfl (fun w' hw' => e_indexAddr (α := Int) (xs := (partsR g).1) (v := v52) (i := b.1) Try.underlying27 rfl rfl (o53.flat.bel hw') rfl (by omega) (by omega)) ?_
     refine q_val (v := Value.int .i64 (gI ((partsR g).1) b.1)) rfl (fun w' hw' => e_load_el1 (α := Int) (xs := (partsR g).1) (v := v52) (i := b.1) tp3_dd rfl (o53.flat.bel hw') (by omega) (by omega) (by decide) rfl) ?_
     refine q_val (v := Value.bool (decide ((gI ((partsR g).1) a.1) = (gI ((partsR g).1) b.1)))) rfl (fun w' hw' => e_eql (m := (gI ((partsR g).1) a.1)) (n := (gI ((partsR g).1) b.1)) rfl rfl) ?_
     refine q_val (v := Value.bool (decide ((gI ((partsR g).1) a.1) = (gI ((partsR g).1) b.1)))) rfl (fun w' hw' => e_move rfl) ?_
     by_cases q78 : (gI ((partsR g).1) a.1) = (gI ((partsR g).1) b.1)
     ·
      refine q_val (v := r_v) (want_y rfl rfl rfl (decide_eq_true q78)) (fun w' hw' => e_move rfl) ?_
      refine q_val (v := v45) (want_y rfl rfl rfl (decide_eq_true q78)) (fun w' hw' => e_move rfl) ?_
      refine q_val (v := Value.int .i64 (filledS ((facesR g r).1))) (want_y rfl rfl rfl (decide_eq_true q78)) (fun w' hw' => e_move rfl) ?_
      refine q_val (v := Value.agg (List.toArray [Value.int .i64 a.1, Value.int .i64 a.2])) (want_y rfl rfl rfl (decide_eq_true q78)) (fun w' hw' => e_load_bxN (ds := [Value.int .i64 a.1, Value.int .i64 a.2]) tp55_dd rfl (bx10.bel hw') rfl rfl) ?_
      have C63 : Chg (inl []) _ _ _ _ := (ch48.n).seq ((ch55.n).seq ((hb58.n).seq (ch59.n)))
      replace r_r_v := r_r_v.chg C63 (is_nl rfl)
      have C64 : Chg (inl []) _ _ _ _ := (ch55.n).seq ((hb58.n).seq (ch59.n))
      replace o46 := o46.chg C64 (is_nl rfl) (is_nl rfl)
      refine q_call (v := Value.int .i64 (cfaceS r ((ofR g r).1) (filledS ((facesR g r).1)) a)) (want_y rfl rfl rfl (decide_eq_true q78)) (fun w' hw' => e_call (vals := [r_v, v45, Value.int .i64 (filledS ((facesR g r).1)), Value.agg (List.toArray [Value.int .i64 a.1, Value.int .i64 a.2])]) Try.func76 bd76_dd nm76_dd rfl) (fun w' hw' => (face_ok w' r r_v ((r_r_v.bel hw')).ro ((ofR g r).1) v45 ((o46.flat.bel hw')).ro (filledS ((facesR g r).1)) a (by first | exact hca1 | exact hcb1) (by first | exact hca2 | exact hcb2) (by first | (rw [hol0]; exact hca3) | (rw [hol0]; exact hcb3)) (by omega) (by omega)).mono fun e w2 h2 => ⟨h2.1, hw'.trans (h2.2.mono hw'.size)⟩) ?_
      refine q_val (v := r_v) (want_y rfl rfl rfl (decide_eq_true q78)) (fun w' hw' => e_move rfl) ?_
      refine q_val (v := v45) (want_y rfl rfl rfl (decide_eq_true q78)) (fun w' hw' => e_move rfl) ?_
      refine q_val (v := Value.int .i64 (filledS ((facesR g r).1))) (want_y rfl rfl rfl (decide_eq_true q78)) (fun w' hw' => e_move rfl) ?_
      refine q_val (v := Value.agg (List.toArray [Value.int .i64 b.1, Value.int .i64 b.2])) (want_y rfl rfl rfl (decide_eq_true q78)) (fun w' hw' => e_load_bxN (ds := [Value.int .i64 b.1, Value.int .i64 b.2]) tp55_dd rfl (bx15.bel hw') rfl rfl) ?_
      refine q_call (v := Value.int .i64 (cfaceS r ((ofR g r).1) (filledS ((facesR g r).1)) b)) (want_y rfl rfl rfl (decide_eq_true q78)) (fun w' hw' => e_call (vals := [r_v, v45, Value.int .i64 (filledS ((facesR g r).1)), Value.agg (List.toArray [Value.int .i64 b.1, Value.int .i64 b.2])]) Try.func76 bd76_dd nm76_dd rfl) (fun w' hw' => (face_ok w' r r_v ((r_r_v.bel hw')).ro ((ofR g r).1) v45 ((o46.flat.bel hw')).ro (filledS ((facesR g r).1)) b (by first | exact hca1 | exact hcb1) (by first | exact hca2 | exact hcb2) (by first | (rw [hol0]; exact hca3) | (rw [hol0]; exact hcb3)) (by omega) (by omega)).mono fun e w2 h2 => ⟨h2.1, hw'.trans (h2.2.mono hw'.size)⟩) ?_
      refine q_val (v := Value.bool (!(decide ((cfaceS r ((ofR g r).1) (filledS ((facesR g r).1)) a) = (cfaceS r ((ofR g r).1) (filledS ((facesR g r).1)) b))))) (want_y rfl rfl rfl (decide_eq_true q78)) (fun w' hw' => e_neq (m := cfaceS r ((ofR g r).1) (filledS ((facesR g r).1)) a) (n := cfaceS r ((ofR g r).1) (filledS ((facesR g r).1)) b) rfl rfl) ?_
      refine q_val (v := Value.bool (!(decide ((cfaceS r ((ofR g r).1) (filledS ((facesR g r).1)) a) = (cfaceS r ((ofR g r).1) (filledS ((facesR g r).1)) b))))) rfl (fun w' hw' => e_pick_t rfl (decide_eq_true q78) rfl) ?_
      refine q_nil ?_
      intro w65 hc66
      replace hc66 := chg_below hc66 g54
      by_cases p11 : (cfaceS r ((ofR g r).1) (filledS ((facesR g r).1)) a) = (cfaceS r ((ofR g r).1) (filledS ((facesR g r).1)) b)
      ·
       refine run_cond_f rfl (congrArg Bool.not (decide_eq_true p11)) ?_
       refine run_skip ?_
       refine run_seq ?_
       clear o46
       clear o53
       have C67 : Chg (inl []) _ _ _ _ := (ch2.n).seq ((ch7.n).seq ((ch12.n).seq ((ch17.n).seq ((ch29.n).seq ((hb32.n).seq ((hb35.n).seq ((ch48.n).seq ((ch55.n).seq ((hb58.n).seq ((ch59.n).seq (hc66.n)))))))))))
       replace hbase := hbase.chg C67 (is_nl rfl)
       have C68 : Chg (inl []) _ _ _ _ := (ch55.n).seq ((hb58.n).seq ((ch59.n).seq (hc66.n)))
       replace r_g_v := r_g_v.chg C68 (is_nl rfl)
       replace r_r_v := r_r_v.chg hc66 (not_no _)
       replace bx5 := bx5.chg C68 (is_nl rfl)
       replace bx10 := bx10.chg hc66 (not_no _)
       replace bx15 := bx15.chg hc66 (not_no _)
       have C69 : Chg (inl []) _ _ _ _ := (ch29.n).seq ((hb32.n).seq ((hb35.n).seq ((ch48.n).seq ((ch55.n).seq ((hb58.n).seq ((ch59.n).seq (hc66.n)))))))
       replace bx20 := bx20.chg C69 (is_nl rfl)
       refine mid_j1 (g54) _ _ ⟨hbase, rfl, rfl, rfl, rfl, rfl, r_g_v, r_r_v, bx5, bx10, bx15, bx20, ?_⟩
       show ¬ gI (partsR g).1 a.1 = gI (partsR g).1 b.1 ∨ cfaceS r (ofR g r).1 (filledS (facesR g r).1) a = cfaceS r (ofR g r).1 (filledS (facesR g r).1) b
       first | exact .inl (by assumption) | exact .inr (by assumption)
      refine run_cond_t rfl (congrArg Bool.not (decide_eq_false p11)) ?_
      refine run_seq ?_
      clear bx5
      clear bx10
      clear bx15
      clear o46
      clear o53
      refine run_region rfl ?_
      refine l_val (v := Value.agg (List.toArray [Value.int .i64 0, Value.slice none 0 0])) rfl (e_build (vs := []) rfl (by kernel_rfl)) ?_
      refine l_op rfl ?_
      have C73 : Chg (inl []) _ _ _ _ := (ch29.n).seq ((hb32.n).seq ((hb35.n).seq ((ch48.n).seq ((ch55.n).seq ((hb58.n).seq ((ch59.n).seq (hc66.n)))))))
      replace bx20 := bx20.chg C73 (is_nl rfl)
      refine o_store_bx (cs' := [Value.int .i64 0, Value.slice none 0 0]) tp24_dd rfl rfl bx20 rfl (Nat.le_of_ble_eq_true rfl) (AllOne.all (.cons rfl (.cons rfl .nil))) rfl ?_
      intro w70 ch71 bx72
      clear bx20
      refine l_val (v := Value.slice none 0 0) rfl (e_assign rfl) ?_
      refine l_val (v := Value.int .i64 5) rfl (e_assign rfl) ?_
      refine l_nil ?_
      refine run_ret (vs := [Value.agg (List.toArray [Value.int .i64 0, Value.slice none 0 0]), Value.slice none 0 0, Value.int .i64 5]) Try.func30 (.cell rfl (load_bxN (ds := [Value.int .i64 0, Value.slice none 0 0]) tp24_dd bx72 rfl rfl) (.tmp rfl (.tmp rfl .nil))) ?_
      -- return 1
      have C74 : Chg (inl [4]) _ _ _ _ := (ch2.n).seq ((ch7.n).seq ((ch12.n).seq ((ch17.n).seq ((ch29.n).seq ((hb32.n).seq ((hb35.n).seq ((ch48.n).seq ((ch55.n).seq ((hb58.n).seq ((ch59.n).seq ((hc66.n).seq (ch71.l rfl))))))))))))
      replace hbase := hbase.chg C74 (is_nl rfl)
      have e0 : ((0, []) : (Int) × (List ((Int) × (Int)))) = ((layR g r a b).1) := by
        first
          | (rw [layR_no (by assumption)]; done)
          | (rw [layR_bd (by assumption) (by first | exact .inl (by assumption) | exact .inr (by assumption))]; done)
          | (rw [layR_lim (by assumption) (by assumption) (by assumption) (by assumption)]; done)
          | (rw [layR_gen (by assumption) (by assumption) (by assumption) (by assumption) (by assumption) (by assumption)]; done)
          | (rw [layR_ok (by assumption) (by assumption) (by assumption) (by assumption) (by first | assumption | exact .inl (by assumption) | exact .inr (by assumption))]
             first
               | done
               | (unfold laidS; rw [if_pos (by assumption)]; done)
               | (unfold laidS; rw [if_neg (by assumption)]; done)
               | (unfold laidS; rw [if_pos (by assumption)]; rfl)
               | (unfold laidS; rw [if_neg (by assumption)]; rfl))
      have e1 : ([] : List (List Int)) = ((layR g r a b).2.1) := by
        first
          | (rw [layR_no (by assumption)]; done)
          | (rw [layR_bd (by assumption) (by first | exact .inl (by assumption) | exact .inr (by assumption))]; done)
          | (rw [layR_lim (by assumption) (by assumption) (by assumption) (by assumption)]; done)
          | (rw [layR_gen (by assumption) (by assumption) (by assumption) (by assumption) (by assumption) (by assumption)]; done)
          | (rw [layR_ok (by assumption) (by assumption) (by assumption) (by assumption) (by first | assumption | exact .inl (by assumption) | exact .inr (by assumption))]
             first
               | done
               | (unfold laidS; rw [if_pos (by assumption)]; done)
               | (unfold laidS; rw [if_neg (by assumption)]; done)
               | (unfold laidS; rw [if_pos (by assumption)]; rfl)
               | (unfold laidS; rw [if_neg (by assumption)]; rfl))
      have e2 : (5 : Int) = ((layR g r a b).2.2) := by
        first
          | (rw [layR_no (by assumption)]; done)
          | (rw [layR_bd (by assumption) (by first | exact .inl (by assumption) | exact .inr (by assumption))]; done)
          | (rw [layR_lim (by assumption) (by assumption) (by assumption) (by assumption)]; done)
          | (rw [layR_gen (by assumption) (by assumption) (by assumption) (by assumption) (by assumption) (by assumption)]; done)
          | (rw [layR_ok (by assumption) (by assumption) (by assumption) (by assumption) (by first | assumption | exact .inl (by assumption) | exact .inr (by assumption))]
             first
               | done
               | (unfold laidS; rw [if_pos (by assumption)]; done)
               | (unfold laidS; rw [if_neg (by assumption)]; done)
               | (unfold laidS; rw [if_pos (by assumption)]; rfl)
               | (unfold laidS; rw [if_neg (by assumption)]; rfl))
      exact ⟨(fin w0 g54 (fun n => 0), (Value.slice none 0 0), (Value.slice none 0 0)), (congr3 (a := (0, [])) (b := []) (c := 5) (fun (z0 : (Int) × (List ((Int) × (Int)))) (z1 : List (List Int)) (z2 : Int) => Ending.returned (Value.tuple (List.toArray [Value.agg (List.toArray [Value.int .i64 z0.1, Value.slice none 0 0]), Value.slice none 0 0, Value.int .i64 z2]))) e0 e1 e2), hbase.fresh _, ((congrArg (fun (z : (Int) × (List ((Int) × (Int)))) => z.2) e0) ▸ Ow.nil), (e1 ▸ Nst.nil)⟩
     refine q_skip (want_n rfl rfl rfl (decide_eq_false q78)) ?_
     refine q_skip (want_n rfl rfl rfl (decide_eq_false q78)) ?_
     refine q_skip (want_n rfl rfl rfl (decide_eq_false q78)) ?_
     refine q_skip (want_n rfl rfl rfl (decide_eq_false q78)) ?_
     refine q_skip (want_n rfl rfl rfl (decide_eq_false q78)) ?_
     refine q_skip (want_n rfl rfl rfl (decide_eq_false q78)) ?_
     refine q_skip (want_n rfl rfl rfl (decide_eq_false q78)) ?_
     refine q_skip (want_n rfl rfl rfl (decide_eq_false q78)) ?_
     refine q_skip (want_n rfl rfl rfl (decide_eq_false q78)) ?_
     refine q_skip (want_n rfl rfl rfl (decide_eq_false q78)) ?_
     refine q_skip (want_n rfl rfl rfl (decide_eq_false q78)) ?_
     refine q_val (v := Value.bool false) rfl (fun w' hw' => e_pick_f rfl (decide_eq_false q78) rfl) ?_
     refine q_nil ?_
     intro w75 hc76
     replace hc76 := chg_below hc76 g54
     refine run_cond_f rfl rfl ?_
     refine run_skip ?_
     refine run_seq ?_
     clear o46
     clear o53
     have C77 : Chg (inl []) _ _ _ _ := (ch2.n).seq ((ch7.n).seq ((ch12.n).seq ((ch17.n).seq ((ch29.n).seq ((hb32.n).seq ((hb35.n).seq ((ch48.n).seq ((ch55.n).seq ((hb58.n).seq ((ch59.n).seq (hc76.n)))))))))))
     replace hbase := hbase.chg C77 (is_nl rfl)
     have C78 : Chg (inl []) _ _ _ _ := (ch55.n).seq ((hb58.n).seq ((ch59.n).seq (hc76.n)))
     replace r_g_v := r_g_v.chg C78 (is_nl rfl)
     have C79 : Chg (inl []) _ _ _ _ := (ch48.n).seq ((ch55.n).seq ((hb58.n).seq ((ch59.n).seq (hc76.n))))
     replace r_r_v := r_r_v.chg C79 (is_nl rfl)
     replace bx5 := bx5.chg C78 (is_nl rfl)
     replace bx10 := bx10.chg hc76 (not_no _)
     replace bx15 := bx15.chg hc76 (not_no _)
     have C80 : Chg (inl []) _ _ _ _ := (ch29.n).seq ((hb32.n).seq ((hb35.n).seq ((ch48.n).seq ((ch55.n).seq ((hb58.n).seq ((ch59.n).seq (hc76.n)))))))
     replace bx20 := bx20.chg C80 (is_nl rfl)
     refine mid_j1 (g54) _ _ ⟨hbase, rfl, rfl, rfl, rfl, rfl, r_g_v, r_r_v, bx5, bx10, bx15, bx20, ?_⟩
     show ¬ gI (partsR g).1 a.1 = gI (partsR g).1 b.1 ∨ cfaceS r (ofR g r).1 (filledS (facesR g r).1) a = cfaceS r (ofR g r).1 (filledS (facesR g r).1) b
     first | exact .inl (by assumption) | exact .inr (by assumption)
    clear r_g_v
    clear r_r_v
    clear bx5
    clear bx10
    clear bx15
    clear bx20
    clear o46
    clear o53
    clear hbase
    rintro g83 f81 w82 ⟨hbase, z84_1, z84_4, z84_6, z84_7, z84_8, r_g_v, r_r_v, bx5, bx10, bx15, bx20, hj_j1⟩
    obtain ⟨hca1, hca2, hca3, hca4⟩ := corn_pre hm hrp (c := a) (of_decide_eq_true (by assumption))
    obtain ⟨hcb1, hcb2, hcb3, hcb4⟩ := corn_pre hm hrp (c := b) (of_decide_eq_true (by assumption))
    have hca0 := hca1.1
    have hca9 := hca1.2
    have hcb0 := hcb1.1
    have hcb9 := hcb1.2
    have hpl := partsR_len hm
    have hfb := filled_le (facesR g r).1
    refine region_midh (σ := Nat × Value × Cmap) (fun ⟨b107, v101, gq⟩ f w => Base w0 gq w ∧ f 1 = r_v ∧ f 4 = Value.pointer (some ⟨b3, 0, none⟩) ∧ f 6 = Value.pointer (some ⟨b8, 0, none⟩) ∧ f 7 = Value.pointer (some ⟨b13, 0, none⟩) ∧ f 8 = Value.pointer (some ⟨b18, 0, none⟩) ∧ f 19 = Value.pointer (some ⟨b107, 0, none⟩) ∧ Sl gq (is 0) w g_v g.2 ∧ Sl gq (is 0) w r_v r ∧ Bx gq (is 1) w b3 [Value.int .i64 g.1, g_v] ∧ Bx gq (is 2) w b8 [Value.int .i64 a.1, Value.int .i64 a.2] ∧ Bx gq (is 3) w b13 [Value.int .i64 b.1, Value.int .i64 b.2] ∧ Bx gq (is 4) w b18 [Value.int .i64 0, Value.slice none 0 0] ∧ Ow gq (is 8) (is 8) w v101 (g.2 ++ ([(a.1, b.1)] : List ((Int) × (Int)))) ∧ Bx gq (is 10) w b107 [Value.int .i64 g.1, v101]) g83 (inl [8, 10]) mixed_dd ?_ ?_
    ·
     intro mid
     intro w86 ch85
     refine h_take (v := Value.pointer (some ⟨b3, 0, none⟩)) 0 rfl (by kernel_rfl) (by kernel_rfl) rfl (Chg.refl _ _ _) (fun w' hw' => e_fieldAddr Try.underlying24 rfl rfl (by exact z84_4) rfl) ?_
     replace bx5 := bx5.chg ch85 (not_no _)
     refine h_take (v := Value.int .i64 g.1) 1 rfl (by kernel_rfl) (by kernel_rfl) rfl (Chg.refl _ _ _) (fun w' hw' => e_load_bx1 tp3_dd rfl (bx5.chg hw' (is_nl rfl)) rfl) ?_
     refine h_take (v := Value.pointer (some ⟨b3, 1, none⟩)) 2 rfl (by kernel_rfl) (by kernel_rfl) rfl (Chg.refl _ _ _) (fun w' hw' => e_fieldAddr Try.underlying24 rfl rfl (by exact z84_4) rfl) ?_
     refine h_take (v := g_v) 3 rfl (by kernel_rfl) (by kernel_rfl) rfl (Chg.refl _ _ _) (fun w' hw' => e_load_bx1 tp22_dd rfl (bx5.chg hw' (is_nl rfl)) rfl) ?_
     refine h_take (v := Value.pointer (some ⟨b8, 0, none⟩)) 5 rfl (by kernel_rfl) (by kernel_rfl) rfl (Chg.refl _ _ _) (fun w' hw' => e_fieldAddr Try.underlying55 rfl rfl (by exact z84_6) rfl) ?_
     replace bx10 := bx10.chg ch85 (not_no _)
     refine h_take (v := Value.int .i64 a.1) 6 rfl (by kernel_rfl) (by kernel_rfl) rfl (Chg.refl _ _ _) (fun w' hw' => e_load_bx1 tp3_dd rfl (bx10.chg hw' (is_nl rfl)) rfl) ?_
     refine h_take (v := Value.pointer (some ⟨b13, 0, none⟩)) 7 rfl (by kernel_rfl) (by kernel_rfl) rfl (Chg.refl _ _ _) (fun w' hw' => e_fieldAddr Try.underlying55 rfl rfl (by exact z84_7) rfl) ?_
     replace bx15 := bx15.chg ch85 (not_no _)
     refine h_take (v := Value.int .i64 b.1) 8 rfl (by kernel_rfl) (by kernel_rfl) rfl (Chg.refl _ _ _) (fun w' hw' => e_load_bx1 tp3_dd rfl (bx15.chg hw' (is_nl rfl)) rfl) ?_
     refine h_take (v := Value.agg (List.toArray [Value.int .i64 a.1, Value.int .i64 b.1])) 9 rfl (by kernel_rfl) (by kernel_rfl) rfl (Chg.refl _ _ _) (fun w' hw' => e_build (vs := [(0, Value.int .i64 a.1), (1, Value.int .i64 b.1)]) rfl (by kernel_rfl)) ?_
     refine h_many 4 [10, 13] (by kernel_rfl) ⟨h_of 4 rfl (by kernel_rfl) rfl ?_, h_of 10 rfl (by kernel_rfl) rfl ?_, h_of 13 rfl (by kernel_rfl) rfl ?_, trivial⟩
     ·
      replace r_g_v := r_g_v.chg ch85 (not_no _)
      refine o_append (α := (Int) × (Int)) (xs := ([])) (ys := g.2) g83 (J := is 8) (S := is 8) (8, 0) rfl Try.underlying22 tp60_dd (by decide) rfl rfl rfl Ow.nil r_g_v (by decide) (by first | omega | (simp; done) | (simp; omega)) ?_
      intro g87 w88 v89 ch90 o91
      replace o91 : Ow g87 (is 8) (is 8) w88 v89 (g.2 : List ((Int) × (Int))) := o91
      have hs92 : Chg (inl [8, 10]) _ _ _ _ := ch90.l rfl
      refine ⟨hs92.same, ?_⟩
      refine h_many 10 [13] (by kernel_rfl) ⟨h_of 10 rfl (by kernel_rfl) rfl ?_, h_of 13 rfl (by kernel_rfl) rfl ?_, trivial⟩
      ·
       refine o_buildSlice (α := (Int) × (Int)) g87 (is 9) (is 9) (9, 0) rfl ([(a.1, b.1)] : List ((Int) × (Int))) Try.underlying22 tp60_dd (by decide) (by decide) (vs := [(0, Value.agg (List.toArray [Value.int .i64 a.1, Value.int .i64 b.1]))]) rfl rfl (.cons rfl .nil) ?_
       intro g93 w94 v95 ch96 o97
       have hs98 := hs92.seq (ch96.n)
       refine ⟨hs98.same, ?_⟩
       refine h_many 11 [13] (by kernel_rfl) ⟨h_of 11 rfl (by kernel_rfl) rfl ?_, h_of 13 rfl (by kernel_rfl) rfl ?_, trivial⟩
       ·
        replace o91 := o91.chg ch96 (not_no _) (not_no _)
        refine o_append (α := (Int) × (Int)) (xs := g.2) (ys := ([(a.1, b.1)] : List ((Int) × (Int)))) g93 (J := is 8) (S := is 8) (8, 0) rfl Try.underlying22 tp60_dd (by decide) rfl rfl rfl o91 o97.flat (by decide) (by first | omega | (simp; done) | (simp; omega)) ?_
        intro g99 w100 v101 ch102 o103
        clear o91
        have hs104 := hs98.seq (ch102.l rfl)
        refine ⟨hs104.same, ?_⟩
        refine h_take (v := Value.agg (List.toArray [Value.int .i64 g.1, v101])) 12 rfl (by kernel_rfl) (by kernel_rfl) rfl hs104.same (fun w' hw' => e_build (vs := [(0, Value.int .i64 g.1), (1, v101)]) rfl (by rw [Sl.form o103.flat]; kernel_rfl)) ?_
        refine h_one 13 rfl (by kernel_rfl) rfl ?_
        refine o_alloc g99 (is 10) (10, 0) rfl tp24_dd ?_
        intro g108 w105 b107 ch106 bx109
        replace bx109 : Bx g108 (is 10) w105 b107 [Value.int .i64 0, Value.slice none 0 0] := bx109
        have hs110 := hs104.seq (ch106.n)
        refine ⟨hs110.same, ?_⟩
        refine h_one 14 rfl (by kernel_rfl) rfl ?_
        replace o103 := o103.chg ch106 (not_no _) (not_no _)
        refine o_store_bx (cs' := [Value.int .i64 g.1, v101]) tp24_dd rfl rfl bx109 rfl (Nat.le_of_ble_eq_true rfl) (AllOne.all (.cons rfl (.cons (sl_one o103.flat) .nil))) rfl ?_
        intro w111 ch112 bx113
        clear bx109
        have hs114 := hs110.seq (ch112.l rfl)
        refine ⟨hs114.same, ?_⟩
        refine h_nil (by kernel_rfl) ?_
        have C115 : Chg (inl [8, 10]) _ _ _ _ := (ch85.n).seq ((ch90.l rfl).seq ((ch96.n).seq ((ch102.l rfl).seq ((ch106.n).seq (ch112.l rfl)))))
        replace hbase := hbase.chg C115 (is_nl rfl)
        replace r_r_v := r_r_v.chg ch85 (not_no _)
        replace bx20 := bx20.chg ch85 (not_no _)
        replace o103 := o103.chg ch112 (is_ne rfl) (is_ne rfl)
        exact mid (b107, v101, g108) _ _ ⟨hbase, (by exact z84_1), (by exact z84_4), (by exact z84_6), (by exact z84_7), (by exact z84_8), rfl, (r_g_v.chg hs114 (is_nl rfl)), (r_r_v.chg hs114 (is_nl rfl)), (bx5.chg hs114 (is_nl rfl)), (bx10.chg hs114 (is_nl rfl)), (bx15.chg hs114 (is_nl rfl)), (bx20.chg hs114 (is_nl rfl)), o103, bx113⟩
       ·
        refine o_alloc g93 (is 10) (10, 0) rfl tp24_dd ?_
        intro g119 w116 b118 ch117 bx120
        replace bx120 : Bx g119 (is 10) w116 b118 [Value.int .i64 0, Value.slice none 0 0] := bx120
        have hs121 := hs98.seq (ch117.n)
        refine ⟨hs121.same, ?_⟩
        refine h_one 11 rfl (by kernel_rfl) rfl ?_
        replace o97 := o97.chg ch117 (not_no _) (not_no _)
        replace o91 := (o91.chg ch96 (not_no _) (not_no _)).chg ch117 (not_no _) (not_no _)
        refine o_append (α := (Int) × (Int)) (xs := g.2) (ys := ([(a.1, b.1)] : List ((Int) × (Int)))) g119 (J := is 8) (S := is 8) (8, 0) rfl Try.underlying22 tp60_dd (by decide) rfl rfl rfl o91 o97.flat (by decide) (by first | omega | (simp; done) | (simp; omega)) ?_
        intro g122 w123 v124 ch125 o126
        clear o91
        have hs127 := hs121.seq (ch125.l rfl)
        refine ⟨hs127.same, ?_⟩
        refine h_take (v := Value.agg (List.toArray [Value.int .i64 g.1, v124])) 12 rfl (by kernel_rfl) (by kernel_rfl) rfl hs127.same (fun w' hw' => e_build (vs := [(0, Value.int .i64 g.1), (1, v124)]) rfl (by rw [Sl.form o126.flat]; kernel_rfl)) ?_
        refine h_one 14 rfl (by kernel_rfl) rfl ?_
        replace bx120 := bx120.chg ch125 (is_ne rfl)
        refine o_store_bx (cs' := [Value.int .i64 g.1, v124]) tp24_dd rfl rfl bx120 rfl (Nat.le_of_ble_eq_true rfl) (AllOne.all (.cons rfl (.cons (sl_one o126.flat) .nil))) rfl ?_
        intro w128 ch129 bx130
        clear bx120
        have hs131 := hs127.seq (ch129.l rfl)
        refine ⟨hs131.same, ?_⟩
        refine h_nil (by kernel_rfl) ?_
        have C132 : Chg (inl [8, 10]) _ _ _ _ := (ch85.n).seq ((ch90.l rfl).seq ((ch96.n).seq ((ch117.n).seq ((ch125.l rfl).seq (ch129.l rfl)))))
        replace hbase := hbase.chg C132 (is_nl rfl)
        replace r_r_v := r_r_v.chg ch85 (not_no _)
        replace bx20 := bx20.chg ch85 (not_no _)
        replace o126 := o126.chg ch129 (is_ne rfl) (is_ne rfl)
        exact mid (b118, v124, g122) _ _ ⟨hbase, (by exact z84_1), (by exact z84_4), (by exact z84_6), (by exact z84_7), (by exact z84_8), rfl, (r_g_v.chg hs131 (is_nl rfl)), (r_r_v.chg hs131 (is_nl rfl)), (bx5.chg hs131 (is_nl rfl)), (bx10.chg hs131 (is_nl rfl)), (bx15.chg hs131 (is_nl rfl)), (bx20.chg hs131 (is_nl rfl)), o126, bx130⟩
      ·
       refine o_alloc g87 (is 10) (10, 0) rfl tp24_dd ?_
       intro g136 w133 b135 ch134 bx137
       replace bx137 : Bx g136 (is 10) w133 b135 [Value.int .i64 0, Value.slice none 0 0] := bx137
       have hs138 := hs92.seq (ch134.n)
       refine ⟨hs138.same, ?_⟩
       refine h_one 10 rfl (by kernel_rfl) rfl ?_
       refine o_buildSlice (α := (Int) × (Int)) g136 (is 9) (is 9) (9, 0) rfl ([(a.1, b.1)] : List ((Int) × (Int))) Try.underlying22 tp60_dd (by decide) (by decide) (vs := [(0, Value.agg (List.toArray [Value.int .i64 a.1, Value.int .i64 b.1]))]) rfl rfl (.cons rfl .nil) ?_
       intro g139 w140 v141 ch142 o143
       have hs144 := hs138.seq (ch142.n)
       refine ⟨hs144.same, ?_⟩
       refine h_one 11 rfl (by kernel_rfl) rfl ?_
       replace o91 := (o91.chg ch134 (not_no _) (not_no _)).chg ch142 (not_no _) (not_no _)
       refine o_append (α := (Int) × (Int)) (xs := g.2) (ys := ([(a.1, b.1)] : List ((Int) × (Int)))) g139 (J := is 8) (S := is 8) (8, 0) rfl Try.underlying22 tp60_dd (by decide) rfl rfl rfl o91 o143.flat (by decide) (by first | omega | (simp; done) | (simp; omega)) ?_
       intro g145 w146 v147 ch148 o149
       clear o91
       have hs150 := hs144.seq (ch148.l rfl)
       refine ⟨hs150.same, ?_⟩
       refine h_take (v := Value.agg (List.toArray [Value.int .i64 g.1, v147])) 12 rfl (by kernel_rfl) (by kernel_rfl) rfl hs150.same (fun w' hw' => e_build (vs := [(0, Value.int .i64 g.1), (1, v147)]) rfl (by rw [Sl.form o149.flat]; kernel_rfl)) ?_
       refine h_one 14 rfl (by kernel_rfl) rfl ?_
       replace bx137 := (bx137.chg ch142 (not_no _)).chg ch148 (is_ne rfl)
       refine o_store_bx (cs' := [Value.int .i64 g.1, v147]) tp24_dd rfl rfl bx137 rfl (Nat.le_of_ble_eq_true rfl) (AllOne.all (.cons rfl (.cons (sl_one o149.flat) .nil))) rfl ?_
       intro w151 ch152 bx153
       clear bx137
       have hs154 := hs150.seq (ch152.l rfl)
       refine ⟨hs154.same, ?_⟩
       refine h_nil (by kernel_rfl) ?_
       have C155 : Chg (inl [8, 10]) _ _ _ _ := (ch85.n).seq ((ch90.l rfl).seq ((ch134.n).seq ((ch142.n).seq ((ch148.l rfl).seq (ch152.l rfl)))))
       replace hbase := hbase.chg C155 (is_nl rfl)
       replace r_r_v := r_r_v.chg ch85 (not_no _)
       replace bx20 := bx20.chg ch85 (not_no _)
       replace o149 := o149.chg ch152 (is_ne rfl) (is_ne rfl)
       exact mid (b135, v147, g145) _ _ ⟨hbase, (by exact z84_1), (by exact z84_4), (by exact z84_6), (by exact z84_7), (by exact z84_8), rfl, (r_g_v.chg hs154 (is_nl rfl)), (r_r_v.chg hs154 (is_nl rfl)), (bx5.chg hs154 (is_nl rfl)), (bx10.chg hs154 (is_nl rfl)), (bx15.chg hs154 (is_nl rfl)), (bx20.chg hs154 (is_nl rfl)), o149, bx153⟩
     ·
      refine o_buildSlice (α := (Int) × (Int)) g83 (is 9) (is 9) (9, 0) rfl ([(a.1, b.1)] : List ((Int) × (Int))) Try.underlying22 tp60_dd (by decide) (by decide) (vs := [(0, Value.agg (List.toArray [Value.int .i64 a.1, Value.int .i64 b.1]))]) rfl rfl (.cons rfl .nil) ?_
      intro g156 w157 v158 ch159 o160
      have hs161 : Chg (inl [8, 10]) _ _ _ _ := ch159.n
      refine ⟨hs161.same, ?_⟩
      refine h_many 4 [13] (by kernel_rfl) ⟨h_of 4 rfl (by kernel_rfl) rfl ?_, h_of 13 rfl (by kernel_rfl) rfl ?_, trivial⟩
      ·
       replace r_g_v := r_g_v.chg ch85 (not_no _)
       refine o_append (α := (Int) × (Int)) (xs := ([])) (ys := g.2) g156 (J := is 8) (S := is 8) (8, 0) rfl Try.underlying22 tp60_dd (by decide) rfl rfl rfl Ow.nil (r_g_v.chg hs161 (is_nl rfl)) (by decide) (by first | omega | (simp; done) | (simp; omega)) ?_
       intro g162 w163 v164 ch165 o166
       replace o166 : Ow g162 (is 8) (is 8) w163 v164 (g.2 : List ((Int) × (Int))) := o166
       have hs167 := hs161.seq (ch165.l rfl)
       refine ⟨hs167.same, ?_⟩
       refine h_many 11 [13] (by kernel_rfl) ⟨h_of 11 rfl (by kernel_rfl) rfl ?_, h_of 13 rfl (by kernel_rfl) rfl ?_, trivial⟩
       ·
        replace o160 := o160.chg ch165 (is_ne rfl) (is_ne rfl)
        refine o_append (α := (Int) × (Int)) (xs := g.2) (ys := ([(a.1, b.1)] : List ((Int) × (Int)))) g162 (J := is 8) (S := is 8) (8, 0) rfl Try.underlying22 tp60_dd (by decide) rfl rfl rfl o166 o160.flat (by decide) (by first | omega | (simp; done) | (simp; omega)) ?_
        intro g168 w169 v170 ch171 o172
        clear o166
        have hs173 := hs167.seq (ch171.l rfl)
        refine ⟨hs173.same, ?_⟩
        refine h_take (v := Value.agg (List.toArray [Value.int .i64 g.1, v170])) 12 rfl (by kernel_rfl) (by kernel_rfl) rfl hs173.same (fun w' hw' => e_build (vs := [(0, Value.int .i64 g.1), (1, v170)]) rfl (by rw [Sl.form o172.flat]; kernel_rfl)) ?_
        refine h_one 13 rfl (by kernel_rfl) rfl ?_
        refine o_alloc g168 (is 10) (10, 0) rfl tp24_dd ?_
        intro g177 w174 b176 ch175 bx178
        replace bx178 : Bx g177 (is 10) w174 b176 [Value.int .i64 0, Value.slice none 0 0] := bx178
        have hs179 := hs173.seq (ch175.n)
        refine ⟨hs179.same, ?_⟩
        refine h_one 14 rfl (by kernel_rfl) rfl ?_
        replace o172 := o172.chg ch175 (not_no _) (not_no _)
        refine o_store_bx (cs' := [Value.int .i64 g.1, v170]) tp24_dd rfl rfl bx178 rfl (Nat.le_of_ble_eq_true rfl) (AllOne.all (.cons rfl (.cons (sl_one o172.flat) .nil))) rfl ?_
        intro w180 ch181 bx182
        clear bx178
        have hs183 := hs179.seq (ch181.l rfl)
        refine ⟨hs183.same, ?_⟩
        refine h_nil (by kernel_rfl) ?_
        have C184 : Chg (inl [8, 10]) _ _ _ _ := (ch85.n).seq ((ch159.n).seq ((ch165.l rfl).seq ((ch171.l rfl).seq ((ch175.n).seq (ch181.l rfl)))))
        replace hbase := hbase.chg C184 (is_nl rfl)
        replace r_r_v := r_r_v.chg ch85 (not_no _)
        replace bx20 := bx20.chg ch85 (not_no _)
        replace o172 := o172.chg ch181 (is_ne rfl) (is_ne rfl)
        exact mid (b176, v170, g177) _ _ ⟨hbase, (by exact z84_1), (by exact z84_4), (by exact z84_6), (by exact z84_7), (by exact z84_8), rfl, (r_g_v.chg hs183 (is_nl rfl)), (r_r_v.chg hs183 (is_nl rfl)), (bx5.chg hs183 (is_nl rfl)), (bx10.chg hs183 (is_nl rfl)), (bx15.chg hs183 (is_nl rfl)), (bx20.chg hs183 (is_nl rfl)), o172, bx182⟩
       ·
        refine o_alloc g162 (is 10) (10, 0) rfl tp24_dd ?_
        intro g188 w185 b187 ch186 bx189
        replace bx189 : Bx g188 (is 10) w185 b187 [Value.int .i64 0, Value.slice none 0 0] := bx189
        have hs190 := hs167.seq (ch186.n)
        refine ⟨hs190.same, ?_⟩
        refine h_one 11 rfl (by kernel_rfl) rfl ?_
        replace o160 := (o160.chg ch165 (is_ne rfl) (is_ne rfl)).chg ch186 (not_no _) (not_no _)
        replace o166 := o166.chg ch186 (not_no _) (not_no _)
        refine o_append (α := (Int) × (Int)) (xs := g.2) (ys := ([(a.1, b.1)] : List ((Int) × (Int)))) g188 (J := is 8) (S := is 8) (8, 0) rfl Try.underlying22 tp60_dd (by decide) rfl rfl rfl o166 o160.flat (by decide) (by first | omega | (simp; done) | (simp; omega)) ?_
        intro g191 w192 v193 ch194 o195
        clear o166
        have hs196 := hs190.seq (ch194.l rfl)
        refine ⟨hs196.same, ?_⟩
        refine h_take (v := Value.agg (List.toArray [Value.int .i64 g.1, v193])) 12 rfl (by kernel_rfl) (by kernel_rfl) rfl hs196.same (fun w' hw' => e_build (vs := [(0, Value.int .i64 g.1), (1, v193)]) rfl (by rw [Sl.form o195.flat]; kernel_rfl)) ?_
        refine h_one 14 rfl (by kernel_rfl) rfl ?_
        replace bx189 := bx189.chg ch194 (is_ne rfl)
        refine o_store_bx (cs' := [Value.int .i64 g.1, v193]) tp24_dd rfl rfl bx189 rfl (Nat.le_of_ble_eq_true rfl) (AllOne.all (.cons rfl (.cons (sl_one o195.flat) .nil))) rfl ?_
        intro w197 ch198 bx199
        clear bx189
        have hs200 := hs196.seq (ch198.l rfl)
        refine ⟨hs200.same, ?_⟩
        refine h_nil (by kernel_rfl) ?_
        have C201 : Chg (inl [8, 10]) _ _ _ _ := (ch85.n).seq ((ch159.n).seq ((ch165.l rfl).seq ((ch186.n).seq ((ch194.l rfl).seq (ch198.l rfl)))))
        replace hbase := hbase.chg C201 (is_nl rfl)
        replace r_r_v := r_r_v.chg ch85 (not_no _)
        replace bx20 := bx20.chg ch85 (not_no _)
        replace o195 := o195.chg ch198 (is_ne rfl) (is_ne rfl)
        exact mid (b187, v193, g191) _ _ ⟨hbase, (by exact z84_1), (by exact z84_4), (by exact z84_6), (by exact z84_7), (by exact z84_8), rfl, (r_g_v.chg hs200 (is_nl rfl)), (r_r_v.chg hs200 (is_nl rfl)), (bx5.chg hs200 (is_nl rfl)), (bx10.chg hs200 (is_nl rfl)), (bx15.chg hs200 (is_nl rfl)), (bx20.chg hs200 (is_nl rfl)), o195, bx199⟩
      ·
       refine o_alloc g156 (is 10) (10, 0) rfl tp24_dd ?_
       intro g205 w202 b204 ch203 bx206
       replace bx206 : Bx g205 (is 10) w202 b204 [Value.int .i64 0, Value.slice none 0 0] := bx206
       have hs207 := hs161.seq (ch203.n)
       refine ⟨hs207.same, ?_⟩
       refine h_one 4 rfl (by kernel_rfl) rfl ?_
       replace r_g_v := r_g_v.chg ch85 (not_no _)
       refine o_append (α := (Int) × (Int)) (xs := ([])) (ys := g.2) g205 (J := is 8) (S := is 8) (8, 0) rfl Try.underlying22 tp60_dd (by decide) rfl rfl rfl Ow.nil (r_g_v.chg hs207 (is_nl rfl)) (by decide) (by first | omega | (simp; done) | (simp; omega)) ?_
       intro g208 w209 v210 ch211 o212
       replace o212 : Ow g208 (is 8) (is 8) w209 v210 (g.2 : List ((Int) × (Int))) := o212
       have hs213 := hs207.seq (ch211.l rfl)
       refine ⟨hs213.same, ?_⟩
       refine h_one 11 rfl (by kernel_rfl) rfl ?_
       replace o160 := (o160.chg ch203 (not_no _) (not_no _)).chg ch211 (is_ne rfl) (is_ne rfl)
       refine o_append (α := (Int) × (Int)) (xs := g.2) (ys := ([(a.1, b.1)] : List ((Int) × (Int)))) g208 (J := is 8) (S := is 8) (8, 0) rfl Try.underlying22 tp60_dd (by decide) rfl rfl rfl o212 o160.flat (by decide) (by first | omega | (simp; done) | (simp; omega)) ?_
       intro g214 w215 v216 ch217 o218
       clear o212
       have hs219 := hs213.seq (ch217.l rfl)
       refine ⟨hs219.same, ?_⟩
       refine h_take (v := Value.agg (List.toArray [Value.int .i64 g.1, v216])) 12 rfl (by kernel_rfl) (by kernel_rfl) rfl hs219.same (fun w' hw' => e_build (vs := [(0, Value.int .i64 g.1), (1, v216)]) rfl (by rw [Sl.form o218.flat]; kernel_rfl)) ?_
       refine h_one 14 rfl (by kernel_rfl) rfl ?_
       replace bx206 := (bx206.chg ch211 (is_ne rfl)).chg ch217 (is_ne rfl)
       refine o_store_bx (cs' := [Value.int .i64 g.1, v216]) tp24_dd rfl rfl bx206 rfl (Nat.le_of_ble_eq_true rfl) (AllOne.all (.cons rfl (.cons (sl_one o218.flat) .nil))) rfl ?_
       intro w220 ch221 bx222
       clear bx206
       have hs223 := hs219.seq (ch221.l rfl)
       refine ⟨hs223.same, ?_⟩
       refine h_nil (by kernel_rfl) ?_
       have C224 : Chg (inl [8, 10]) _ _ _ _ := (ch85.n).seq ((ch159.n).seq ((ch203.n).seq ((ch211.l rfl).seq ((ch217.l rfl).seq (ch221.l rfl)))))
       replace hbase := hbase.chg C224 (is_nl rfl)
       replace r_r_v := r_r_v.chg ch85 (not_no _)
       replace bx20 := bx20.chg ch85 (not_no _)
       replace o218 := o218.chg ch221 (is_ne rfl) (is_ne rfl)
       exact mid (b204, v216, g214) _ _ ⟨hbase, (by exact z84_1), (by exact z84_4), (by exact z84_6), (by exact z84_7), (by exact z84_8), rfl, (r_g_v.chg hs223 (is_nl rfl)), (r_r_v.chg hs223 (is_nl rfl)), (bx5.chg hs223 (is_nl rfl)), (bx10.chg hs223 (is_nl rfl)), (bx15.chg hs223 (is_nl rfl)), (bx20.chg hs223 (is_nl rfl)), o218, bx222⟩
     ·
      refine o_alloc g83 (is 10) (10, 0) rfl tp24_dd ?_
      intro g228 w225 b227 ch226 bx229
      replace bx229 : Bx g228 (is 10) w225 b227 [Value.int .i64 0, Value.slice none 0 0] := bx229
      have hs230 : Chg (inl [8, 10]) _ _ _ _ := ch226.n
      refine ⟨hs230.same, ?_⟩
      refine h_many 4 [10] (by kernel_rfl) ⟨h_of 4 rfl (by kernel_rfl) rfl ?_, h_of 10 rfl (by kernel_rfl) rfl ?_, trivial⟩
      ·
       replace r_g_v := r_g_v.chg ch85 (not_no _)
       refine o_append (α := (Int) × (Int)) (xs := ([])) (ys := g.2) g228 (J := is 8) (S := is 8) (8, 0) rfl Try.underlying22 tp60_dd (by decide) rfl rfl rfl Ow.nil (r_g_v.chg hs230 (is_nl rfl)) (by decide) (by first | omega | (simp; done) | (simp; omega)) ?_
       intro g231 w232 v233 ch234 o235
       replace o235 : Ow g231 (is 8) (is 8) w232 v233 (g.2 : List ((Int) × (Int))) := o235
       have hs236 := hs230.seq (ch234.l rfl)
       refine ⟨hs236.same, ?_⟩
       refine h_one 10 rfl (by kernel_rfl) rfl ?_
       refine o_buildSlice (α := (Int) × (Int)) g231 (is 9) (is 9) (9, 0) rfl ([(a.1, b.1)] : List ((Int) × (Int))) Try.underlying22 tp60_dd (by decide) (by decide) (vs := [(0, Value.agg (List.toArray [Value.int .i64 a.1, Value.int .i64 b.1]))]) rfl rfl (.cons rfl .nil) ?_
       intro g237 w238 v239 ch240 o241
       have hs242 := hs236.seq (ch240.n)
       refine ⟨hs242.same, ?_⟩
       refine h_one 11 rfl (by kernel_rfl) rfl ?_
       replace o235 := o235.chg ch240 (not_no _) (not_no _)
       refine o_append (α := (Int) × (Int)) (xs := g.2) (ys := ([(a.1, b.1)] : List ((Int) × (Int)))) g237 (J := is 8) (S := is 8) (8, 0) rfl Try.underlying22 tp60_dd (by decide) rfl rfl rfl o235 o241.flat (by decide) (by first | omega | (simp; done) | (simp; omega)) ?_
       intro g243 w244 v245 ch246 o247
       clear o235
       have hs248 := hs242.seq (ch246.l rfl)
       refine ⟨hs248.same, ?_⟩
       refine h_take (v := Value.agg (List.toArray [Value.int .i64 g.1, v245])) 12 rfl (by kernel_rfl) (by kernel_rfl) rfl hs248.same (fun w' hw' => e_build (vs := [(0, Value.int .i64 g.1), (1, v245)]) rfl (by rw [Sl.form o247.flat]; kernel_rfl)) ?_
       refine h_one 14 rfl (by kernel_rfl) rfl ?_
       have C252 : Chg (inl [8]) _ _ _ _ := (ch234.l rfl).seq ((ch240.n).seq (ch246.l rfl))
       replace bx229 := bx229.chg C252 (is_nl rfl)
       refine o_store_bx (cs' := [Value.int .i64 g.1, v245]) tp24_dd rfl rfl bx229 rfl (Nat.le_of_ble_eq_true rfl) (AllOne.all (.cons rfl (.cons (sl_one o247.flat) .nil))) rfl ?_
       intro w249 ch250 bx251
       clear bx229
       have hs253 := hs248.seq (ch250.l rfl)
       refine ⟨hs253.same, ?_⟩
       refine h_nil (by kernel_rfl) ?_
       have C254 : Chg (inl [8, 10]) _ _ _ _ := (ch85.n).seq ((ch226.n).seq ((ch234.l rfl).seq ((ch240.n).seq ((ch246.l rfl).seq (ch250.l rfl)))))
       replace hbase := hbase.chg C254 (is_nl rfl)
       replace r_r_v := r_r_v.chg ch85 (not_no _)
       replace bx20 := bx20.chg ch85 (not_no _)
       replace o247 := o247.chg ch250 (is_ne rfl) (is_ne rfl)
       exact mid (b227, v245, g243) _ _ ⟨hbase, (by exact z84_1), (by exact z84_4), (by exact z84_6), (by exact z84_7), (by exact z84_8), rfl, (r_g_v.chg hs253 (is_nl rfl)), (r_r_v.chg hs253 (is_nl rfl)), (bx5.chg hs253 (is_nl rfl)), (bx10.chg hs253 (is_nl rfl)), (bx15.chg hs253 (is_nl rfl)), (bx20.chg hs253 (is_nl rfl)), o247, bx251⟩
      ·
       refine o_buildSlice (α := (Int) × (Int)) g228 (is 9) (is 9) (9, 0) rfl ([(a.1, b.1)] : List ((Int) × (Int))) Try.underlying22 tp60_dd (by decide) (by decide) (vs := [(0, Value.agg (List.toArray [Value.int .i64 a.1, Value.int .i64 b.1]))]) rfl rfl (.cons rfl .nil) ?_
       intro g255 w256 v257 ch258 o259
       have hs260 := hs230.seq (ch258.n)
       refine ⟨hs260.same, ?_⟩
       refine h_one 4 rfl (by kernel_rfl) rfl ?_
       replace r_g_v := r_g_v.chg ch85 (not_no _)
       refine o_append (α := (Int) × (Int)) (xs := ([])) (ys := g.2) g255 (J := is 8) (S := is 8) (8, 0) rfl Try.underlying22 tp60_dd (by decide) rfl rfl rfl Ow.nil (r_g_v.chg hs260 (is_nl rfl)) (by decide) (by first | omega | (simp; done) | (simp; omega)) ?_
       intro g261 w262 v263 ch264 o265
       replace o265 : Ow g261 (is 8) (is 8) w262 v263 (g.2 : List ((Int) × (Int))) := o265
       have hs266 := hs260.seq (ch264.l rfl)
       refine ⟨hs266.same, ?_⟩
       refine h_one 11 rfl (by kernel_rfl) rfl ?_
       replace o259 := o259.chg ch264 (is_ne rfl) (is_ne rfl)
       refine o_append (α := (Int) × (Int)) (xs := g.2) (ys := ([(a.1, b.1)] : List ((Int) × (Int)))) g261 (J := is 8) (S := is 8) (8, 0) rfl Try.underlying22 tp60_dd (by decide) rfl rfl rfl o265 o259.flat (by decide) (by first | omega | (simp; done) | (simp; omega)) ?_
       intro g267 w268 v269 ch270 o271
       clear o265
       have hs272 := hs266.seq (ch270.l rfl)
       refine ⟨hs272.same, ?_⟩
       refine h_take (v := Value.agg (List.toArray [Value.int .i64 g.1, v269])) 12 rfl (by kernel_rfl) (by kernel_rfl) rfl hs272.same (fun w' hw' => e_build (vs := [(0, Value.int .i64 g.1), (1, v269)]) rfl (by rw [Sl.form o271.flat]; kernel_rfl)) ?_
       refine h_one 14 rfl (by kernel_rfl) rfl ?_
       have C276 : Chg (inl [8]) _ _ _ _ := (ch258.n).seq ((ch264.l rfl).seq (ch270.l rfl))
       replace bx229 := bx229.chg C276 (is_nl rfl)
       refine o_store_bx (cs' := [Value.int .i64 g.1, v269]) tp24_dd rfl rfl bx229 rfl (Nat.le_of_ble_eq_true rfl) (AllOne.all (.cons rfl (.cons (sl_one o271.flat) .nil))) rfl ?_
       intro w273 ch274 bx275
       clear bx229
       have hs277 := hs272.seq (ch274.l rfl)
       refine ⟨hs277.same, ?_⟩
       refine h_nil (by kernel_rfl) ?_
       have C278 : Chg (inl [8, 10]) _ _ _ _ := (ch85.n).seq ((ch226.n).seq ((ch258.n).seq ((ch264.l rfl).seq ((ch270.l rfl).seq (ch274.l rfl)))))
       replace hbase := hbase.chg C278 (is_nl rfl)
       replace r_r_v := r_r_v.chg ch85 (not_no _)
       replace bx20 := bx20.chg ch85 (not_no _)
       replace o271 := o271.chg ch274 (is_ne rfl) (is_ne rfl)
       exact mid (b227, v269, g267) _ _ ⟨hbase, (by exact z84_1), (by exact z84_4), (by exact z84_6), (by exact z84_7), (by exact z84_8), rfl, (r_g_v.chg hs277 (is_nl rfl)), (r_r_v.chg hs277 (is_nl rfl)), (bx5.chg hs277 (is_nl rfl)), (bx10.chg hs277 (is_nl rfl)), (bx15.chg hs277 (is_nl rfl)), (bx20.chg hs277 (is_nl rfl)), o271, bx275⟩
    clear r_g_v
    clear r_r_v
    clear bx5
    clear bx10
    clear bx15
    clear bx20
    clear hbase
    rintro ⟨b107, v101, g281⟩ f279 w280 ⟨hbase, zs1, zs4, zs6, zs7, zs8, zs19, r_g_v, r_r_v, bx5, bx10, bx15, bx20, o103, bx113⟩
    refine run_seq (run_region rfl ?_)
    refine l_val (v := Value.pointer (some ⟨b3, 1, none⟩)) rfl (e_fieldAddr Try.underlying24 rfl rfl (by exact zs4) rfl) ?_
    refine l_val (v := g_v) rfl (e_load_bx1 tp22_dd rfl bx5 rfl) ?_
    refine l_val (v := Value.int .i64 (List.length g.2 : Int)) rfl (e_len Try.underlying22 rfl r_g_v) ?_
    refine l_val (v := Value.int .i64 (2 * (List.length g.2 : Int))) rfl (e_mul (m := 2) (n := (List.length g.2 : Int)) rfl rfl (by omega)) ?_
    refine l_val (v := Value.int .i64 (2 * (List.length g.2 : Int))) rfl (e_assign rfl) ?_
    refine l_nil (run_seq ?_)
    clear bx5
    refine run_region rfl ?_
    refine l_val (v := r_v) rfl (e_move (by exact zs1)) ?_
    refine l_op rfl ?_
    refine o_callx (e_call (vals := [r_v]) Try.func70 bd70_dd nm70_dd rfl) (dcopied_ok w280 r r_v (r_r_v).ro (by omega) (by exact rot_rows hm hrp)) ?_
    rintro ⟨d283, v285⟩ w282 ⟨fr284, o286⟩
    obtain ⟨g287, hg287⟩ : ∃ q, q = glue w280.heap.size g281 d283 (fun n => if n = 1 then 11 else 0) := ⟨_, rfl⟩
    have ch288 := chg_glue fr284.below g281 d283 (fun n => if n = 1 then 11 else 0)
    rw [← hg287] at ch288
    replace o286 := o286.glue (γ := g281) (ren := (fun n => if n = 1 then 11 else 0)) (k := 11) fr284.col rfl rfl
    rw [← hg287] at o286
    clear hg287
    refine l_val (v := v285) rfl (e_assign rfl) ?_
    refine l_nil (run_seq (run_seq (run_region rfl ?_)))
    replace bx10 := bx10.chg ch288 (not_no _)
    refine l_val (v := Value.agg (List.toArray [Value.int .i64 a.1, Value.int .i64 a.2])) rfl (e_load_bxN (ds := [Value.int .i64 a.1, Value.int .i64 a.2]) tp55_dd (by exact zs6) bx10 rfl rfl) ?_
    replace bx15 := bx15.chg ch288 (not_no _)
    refine l_val (v := Value.agg (List.toArray [Value.int .i64 b.1, Value.int .i64 b.2])) rfl (e_load_bxN (ds := [Value.int .i64 b.1, Value.int .i64 b.2]) tp55_dd (by exact zs7) bx15 rfl rfl) ?_
    refine l_val (v := Value.bool (decide (a = b))) rfl (e_eql_struct (bs := [decide (a.1 = b.1), decide (a.2 = b.2)]) Try.underlying55 (by kernel_rfl) (by kernel_rfl) rfl rfl (.cons (by decide +kernel) tp3_dd rfl rfl (.int Try.underlying3) (.cons (by decide +kernel) tp3_dd rfl rfl (.int Try.underlying3) .nil)) (by simp [Prod.ext_iff, Bool.decide_and, Bool.and_assoc])) ?_
    refine l_nil ?_
    by_cases p16 : a = b
    ·
     refine run_cond_t rfl (decide_eq_true p16) ?_
     clear bx15
     refine run_region rfl ?_
     refine l_val (v := v285) rfl (e_move rfl) ?_
     refine l_val (v := Value.agg (List.toArray [Value.int .i64 a.1, Value.int .i64 a.2])) rfl (e_load_bxN (ds := [Value.int .i64 a.1, Value.int .i64 a.2]) tp55_dd (by exact zs6) bx10 rfl rfl) ?_
     refine l_val (v := Value.int .i64 (2 * (List.length g.2 : Int))) rfl (e_move rfl) ?_
     refine l_val (v := Value.int .i64 (2 * (List.length g.2 : Int))) rfl (e_move rfl) ?_
     refine l_val (v := Value.int .i64 ((2 * (List.length g.2 : Int)) + 1)) rfl (e_add (m := 2 * (List.length g.2 : Int)) (n := 1) rfl rfl (by omega)) ?_
     refine l_op rfl ?_
     refine o_buildSlice (α := Int) g287 (is 12) (is 12) (12, 0) rfl ([2 * (List.length g.2 : Int), (2 * (List.length g.2 : Int)) + 1] : List Int) Try.underlying27 tp3_dd (by decide) (by decide) (vs := [(0, Value.int .i64 (2 * (List.length g.2 : Int))), (1, Value.int .i64 ((2 * (List.length g.2 : Int)) + 1))]) rfl rfl (.cons rfl (.cons rfl .nil)) ?_
     intro g289 w290 v291 ch292 o293
     refine l_op rfl ?_
     refine o_inline (e_call (vals := [v285, Value.agg (List.toArray [Value.int .i64 a.1, Value.int .i64 a.2]), v291]) Try.func77 bd77_dd nm77_dd rfl) ?_
     refine calls_of_run Try.func77 rfl (Nat.le_of_ble_eq_true rfl) ?_
     replace o286 := o286.chg ch292 (not_no _)
     have hix_c1 := idx_bd (gI r a.1) a.2
     refine run_seq (run_region rfl (l_op rfl ?_))
     refine o_box g289 (is 13) (13, 0) rfl rfl ?_
     intro g297 w294 b296 ch295 bx298
     replace bx298 : Bx g297 (is 13) w294 b296 [Value.int .i64 a.1, Value.int .i64 a.2] := bx298
     refine l_nil (run_seq ?_)
     refine region_q g297 rfl mixed_dd (by kernel_rfl) ?_
     intro w300 ch299
     refine q_val (v := v285) rfl (fun w' hw' => e_move rfl) ?_
     refine q_val (v := Value.pointer (some ⟨b296, 0, none⟩)) rfl (fun w' hw' => e_fieldAddr Try.underlying55 rfl rfl rfl rfl) ?_
     replace bx298 := bx298.chg ch299 (not_no _)
     refine q_val (v := Value.int .i64 a.1) rfl (fun w' hw' => e_load_bx1 tp3_dd rfl (bx298.bel hw') rfl) ?_
     replace o286 := (o286.chg ch295 (not_no _)).chg ch299 (not_no _)
     refine q_val (v := Value.pointer (some (eAddr v285 1 (Int.toNat a.1)))) rfl (fun w' hw' => e_indexAddr (α := List Int) (xs := r) (v := v285) (i := a.1) Try.underlying26 rfl rfl (o286.sl.bel hw') rfl (by omega) (by omega)) ?_
     obtain ⟨v301, cel302, r303⟩ := nst_row (r := a.1) o286 (by omega) (by omega)
     refine q_val (v := v301) rfl (fun w' hw' => e_load1 tp27_dd rfl (cel_bel cel302 hw')) ?_
     refine q_val (v := Value.pointer (some ⟨b296, 1, none⟩)) rfl (fun w' hw' => e_fieldAddr Try.underlying55 rfl rfl rfl rfl) ?_
     refine q_val (v := Value.int .i64 a.2) rfl (fun w' hw' => e_load_bx1 tp3_dd rfl (bx298.bel hw') rfl) ?_
     refine q_call (v := Value.int .i64 (idxS (gI r a.1) a.2)) rfl (fun w' hw' => e_call (vals := [v301, Value.int .i64 a.2]) Try.func71 bd71_dd nm71_dd rfl) (fun w' hw' => (Index_ok w' (gI r a.1) v301 ((r303.row_sl.bel hw')).ro a.2).mono fun e w2 h2 => ⟨h2.1, hw'.trans (h2.2.mono hw'.size)⟩) ?_
     refine q_val (v := Value.int .i64 ((idxS (gI r a.1) a.2) + 1)) rfl (fun w' hw' => e_add (m := idxS (gI r a.1) a.2) (n := 1) rfl rfl (by first | omega | (have h7 := putS_row (r := r) (c := a) (hs := [2 * (g.2.length : Int)]) hca0 hca9 (v := b.1) hcb0; unfold putS at h7; simp only [List.length_cons, List.length_nil] at h7 ⊢; omega))) ?_
     refine q_val (v := Value.int .i64 ((idxS (gI r a.1) a.2) + 1)) rfl (fun w' hw' => e_assign rfl) ?_
     refine q_nil ?_
     intro w304 hc305
     replace hc305 := chg_below hc305 g297
     clear cel302
     clear r303
     refine run_region_h g297 (inl [11]) mixed_dd ?_
     intro w307 ch306
     refine h_take (v := v285) 0 rfl (by kernel_rfl) (by kernel_rfl) rfl (Chg.refl _ _ _) (fun w' hw' => e_move rfl) ?_
     refine h_take (v := Value.pointer (some ⟨b296, 0, none⟩)) 1 rfl (by kernel_rfl) (by kernel_rfl) rfl (Chg.refl _ _ _) (fun w' hw' => e_fieldAddr Try.underlying55 rfl rfl rfl rfl) ?_
     replace bx298 := (bx298.chg hc305 (not_no _)).chg ch306 (not_no _)
     refine h_take (v := Value.int .i64 a.1) 2 rfl (by kernel_rfl) (by kernel_rfl) rfl (Chg.refl _ _ _) (fun w' hw' => e_load_bx1 tp3_dd rfl (bx298.chg hw' (is_nl rfl)) rfl) ?_
     refine h_take (v := v285) 3 rfl (by kernel_rfl) (by kernel_rfl) rfl (Chg.refl _ _ _) (fun w' hw' => e_move rfl) ?_
     refine h_take (v := Value.pointer (some ⟨b296, 0, none⟩)) 4 rfl (by kernel_rfl) (by kernel_rfl) rfl (Chg.refl _ _ _) (fun w' hw' => e_fieldAddr Try.underlying55 rfl rfl rfl rfl) ?_
     refine h_take (v := Value.int .i64 a.1) 5 rfl (by kernel_rfl) (by kernel_rfl) rfl (Chg.refl _ _ _) (fun w' hw' => e_load_bx1 tp3_dd rfl (bx298.chg hw' (is_nl rfl)) rfl) ?_
     refine h_take (v := Value.int .i64 ((idxS (gI r a.1) a.2) + 1)) 8 rfl (by kernel_rfl) (by kernel_rfl) rfl (Chg.refl _ _ _) (fun w' hw' => e_move rfl) ?_
     refine h_take (v := v291) 9 rfl (by kernel_rfl) (by kernel_rfl) rfl (Chg.refl _ _ _) (fun w' hw' => e_move rfl) ?_
     refine h_one 6 rfl (by kernel_rfl) rfl ?_
     replace o286 := (o286.chg hc305 (not_no _)).chg ch306 (not_no _)
     refine o_of_val (v := Value.pointer (some (eAddr v285 1 (Int.toNat a.1)))) (e_indexAddr (α := List Int) (xs := r) (v := v285) (i := a.1) Try.underlying26 rfl rfl o286.sl rfl (by omega) (by omega)) ?_
     refine ⟨(Chg.refl _ _ _), ?_⟩
     refine h_one 7 rfl (by kernel_rfl) rfl ?_
     obtain ⟨v308, cel309, r310⟩ := nst_row (r := a.1) o286 (by omega) (by omega)
     refine o_of_val (v := v308) (e_load1 tp27_dd rfl cel309) ?_
     refine ⟨(Chg.refl _ _ _), ?_⟩
     refine h_one 10 rfl (by kernel_rfl) rfl ?_
     have C317 : Chg (inl []) _ _ _ _ := (ch295.n).seq ((ch299.n).seq ((hc305.n).seq (ch306.n)))
     replace o293 := o293.chg C317 (is_nl rfl) (is_nl rfl)
     refine o_callx (σ := Cmap × Value) (V := fun x => x.2) (e_call (vals := [v308, Value.int .i64 ((idxS (gI r a.1) a.2) + 1), v291]) Try.func100 bd100_dd nm100_dd rfl) (ins_calls insL (γ := g297) (J := row 11 (Int.toNat a.1 + 1)) (K := is 12) (S := row 11 (Int.toNat a.1 + 1)) (xs := gI r a.1) (ys := ([2 * (List.length g.2 : Int), (2 * (List.length g.2 : Int)) + 1] : List Int)) (i := (idxS (gI r a.1) a.2) + 1) (11, Int.toNat a.1 + 1) rfl r310 o293 (row_ne rfl) (by omega) (by omega) (by simp) (by first | (simp only [List.length_cons, List.length_nil]; omega) | (have h7 := putS_row (r := r) (c := a) (hs := [2 * (g.2.length : Int)]) hca0 hca9 (v := b.1) hcb0; unfold putS at h7; simp only [List.length_cons, List.length_nil] at h7 ⊢; omega))) ?_
     rintro ⟨g311, v313⟩ w312 ⟨ch314, o315⟩
     have o316 := o286.rowchg ch314
     clear o286
     clear cel309
     clear r310
     have hs318 : Chg (inl [11]) _ _ _ _ := ch314.lr rfl
     refine ⟨hs318.same, ?_⟩
     refine h_one 11 rfl (by kernel_rfl) rfl ?_
     obtain ⟨us319, hl320, r321⟩ := o316.vc
     try simp only [List.length_set, List.length_append, List.length_cons, List.length_nil] at hl320
     refine o_of_val (v := Value.pointer (some (eAddr v285 1 (Int.toNat a.1)))) (e_indexAddr (α := Vc) (xs := us319) (v := v285) (i := a.1) Try.underlying26 rfl rfl r321 rfl (by omega) (by omega)) ?_
     refine ⟨hs318.same, ?_⟩
     refine h_one 12 rfl (by kernel_rfl) rfl ?_
     refine o_store_row (r := a.1) tp27_dd rfl rfl o316 o315 (by omega) (by omega) ?_
     intro w325 ch326 o327
     clear o316
     clear o315
     have hs328 := hs318.seq (ch326.l rfl)
     refine ⟨hs328.same, ?_⟩
     refine h_nil (by kernel_rfl) ?_
     refine run_end (vs := []) Try.func77 .nil ?_
     refine ⟨Value.tuple (List.toArray []), rfl, ?_⟩
     refine l_nil (run_seq ?_)
     clear bx10
     clear o293
     clear bx298
     refine run_region rfl ?_
     have C329 : Chg (inl [11]) _ _ _ _ := (ch288.n).seq ((ch292.n).seq ((ch295.n).seq ((ch299.n).seq ((hc305.n).seq ((ch306.n).seq ((ch314.lr rfl).seq (ch326.l rfl)))))))
     replace bx113 := bx113.chg C329 (is_nl rfl)
     refine l_val (v := Value.agg (List.toArray [Value.int .i64 g.1, v101])) rfl (e_load_bxN (ds := [Value.int .i64 g.1, v101]) tp24_dd (by exact zs19) bx113 rfl rfl) ?_
     refine l_val (v := v285) rfl (e_move rfl) ?_
     replace o103 := o103.chg C329 (is_nl rfl) (is_nl rfl)
     refine l_op rfl ?_
     refine o_callx (e_call (vals := [Value.agg (List.toArray [Value.int .i64 g.1, v101]), v285]) Try.func55 bd55_dd nm55_dd rfl) (RCanon_ok w325 (g.1, (g.2 ++ ([(a.1, b.1)] : List ((Int) × (Int))))) v101 (o103.flat).ro (List.set r (Int.toNat a.1) (List.take (Int.toNat ((idxS (gI r a.1) a.2) + 1)) (gI r a.1) ++ ([2 * (List.length g.2 : Int), (2 * (List.length g.2 : Int)) + 1] : List Int) ++ List.drop (Int.toNat ((idxS (gI r a.1) a.2) + 1)) (gI r a.1))) v285 (o327.sl).ro) ?_
     rintro ⟨d331, v333⟩ w330 ⟨fr332, o334⟩
     obtain ⟨g335, hg335⟩ : ∃ q, q = glue w325.heap.size g311 d331 (fun n => if n = 1 then 14 else 0) := ⟨_, rfl⟩
     have ch336 := chg_glue fr332.below g311 d331 (fun n => if n = 1 then 14 else 0)
     rw [← hg335] at ch336
     replace o334 := o334.glue (γ := g311) (ren := (fun n => if n = 1 then 14 else 0)) (k := 14) fr332.col rfl rfl
     rw [← hg335] at o334
     clear hg335
     refine l_val (v := Value.tuple (List.toArray [v333, Value.int .i64 ((canonR (g.1, (g.2 ++ ([(a.1, b.1)] : List ((Int) × (Int))))) (List.set r (Int.toNat a.1) (List.take (Int.toNat ((idxS (gI r a.1) a.2) + 1)) (gI r a.1) ++ ([2 * (List.length g.2 : Int), (2 * (List.length g.2 : Int)) + 1] : List Int) ++ List.drop (Int.toNat ((idxS (gI r a.1) a.2) + 1)) (gI r a.1)))).2)])) rfl (e_move rfl) ?_
     refine l_val (v := v333) rfl (e_extract rfl rfl) ?_
     refine l_val (v := Value.int .i64 ((canonR (g.1, (g.2 ++ ([(a.1, b.1)] : List ((Int) × (Int))))) (List.set r (Int.toNat a.1) (List.take (Int.toNat ((idxS (gI r a.1) a.2) + 1)) (gI r a.1) ++ ([2 * (List.length g.2 : Int), (2 * (List.length g.2 : Int)) + 1] : List Int) ++ List.drop (Int.toNat ((idxS (gI r a.1) a.2) + 1)) (gI r a.1)))).2)) rfl (e_extract rfl rfl) ?_
     refine l_val (v := v333) rfl (e_assign rfl) ?_
     refine l_nil (run_seq ?_)
     clear o327
     refine run_region rfl ?_
     replace bx113 := bx113.chg ch336 (not_no _)
     refine l_val (v := Value.agg (List.toArray [Value.int .i64 g.1, v101])) rfl (e_load_bxN (ds := [Value.int .i64 g.1, v101]) tp24_dd (by exact zs19) bx113 rfl rfl) ?_
     refine l_val (v := v333) rfl (e_move rfl) ?_
     refine l_op rfl ?_
     have C340 : Chg (inl [11]) _ _ _ _ := (ch288.n).seq ((ch292.n).seq ((ch295.n).seq ((ch299.n).seq ((hc305.n).seq ((ch306.n).seq ((ch314.lr rfl).seq ((ch326.l rfl).seq (ch336.n))))))))
     replace bx20 := bx20.chg C340 (is_nl rfl)
     replace o103 := o103.chg ch336 (not_no _) (not_no _)
     refine o_store_bx (cs' := [Value.int .i64 g.1, v101]) tp24_dd (by exact zs8) rfl bx20 rfl (Nat.le_of_ble_eq_true rfl) (AllOne.all (.cons rfl (.cons (sl_one o103.flat) .nil))) rfl ?_
     intro w337 ch338 bx339
     clear bx20
     refine l_val (v := v333) rfl (e_assign rfl) ?_
     refine l_val (v := Value.int .i64 0) rfl (e_assign rfl) ?_
     refine l_nil ?_
     refine run_ret (vs := [Value.agg (List.toArray [Value.int .i64 g.1, v101]), v333, Value.int .i64 0]) Try.func30 (.cell (by exact zs8) (load_bxN (ds := [Value.int .i64 g.1, v101]) tp24_dd bx339 rfl rfl) (.tmp rfl (.tmp rfl .nil))) ?_
     -- return 2
     have C341 : Chg (inl [4, 11]) _ _ _ _ := (ch288.n).seq ((ch292.n).seq ((ch295.n).seq ((ch299.n).seq ((hc305.n).seq ((ch306.n).seq ((ch314.lr rfl).seq ((ch326.l rfl).seq ((ch336.n).seq (ch338.l rfl)))))))))
     replace hbase := hbase.chg C341 (is_nl rfl)
     replace o103 := o103.chg ch338 (is_ne rfl) (is_ne rfl)
     replace o334 := o334.chg ch338 (is_ne rfl)
     have e0 : ((g.1, (g.2 ++ ([(a.1, b.1)] : List ((Int) × (Int))))) : (Int) × (List ((Int) × (Int)))) = ((layR g r a b).1) := by
       first
         | (rw [layR_no (by assumption)]; done)
         | (rw [layR_bd (by assumption) (by first | exact .inl (by assumption) | exact .inr (by assumption))]; done)
         | (rw [layR_lim (by assumption) (by assumption) (by assumption) (by assumption)]; done)
         | (rw [layR_gen (by assumption) (by assumption) (by assumption) (by assumption) (by assumption) (by assumption)]; done)
         | (rw [layR_ok (by assumption) (by assumption) (by assumption) (by assumption) (by first | assumption | exact .inl (by assumption) | exact .inr (by assumption))]
            first
              | done
              | (unfold laidS; rw [if_pos (by assumption)]; done)
              | (unfold laidS; rw [if_neg (by assumption)]; done)
              | (unfold laidS; rw [if_pos (by assumption)]; rfl)
              | (unfold laidS; rw [if_neg (by assumption)]; rfl))
     have e1 : ((canonR (g.1, (g.2 ++ ([(a.1, b.1)] : List ((Int) × (Int))))) (List.set r (Int.toNat a.1) (List.take (Int.toNat ((idxS (gI r a.1) a.2) + 1)) (gI r a.1) ++ ([2 * (List.length g.2 : Int), (2 * (List.length g.2 : Int)) + 1] : List Int) ++ List.drop (Int.toNat ((idxS (gI r a.1) a.2) + 1)) (gI r a.1)))).1 : List (List Int)) = ((layR g r a b).2.1) := by
       first
         | (rw [layR_no (by assumption)]; done)
         | (rw [layR_bd (by assumption) (by first | exact .inl (by assumption) | exact .inr (by assumption))]; done)
         | (rw [layR_lim (by assumption) (by assumption) (by assumption) (by assumption)]; done)
         | (rw [layR_gen (by assumption) (by assumption) (by assumption) (by assumption) (by assumption) (by assumption)]; done)
         | (rw [layR_ok (by assumption) (by assumption) (by assumption) (by assumption) (by first | assumption | exact .inl (by assumption) | exact .inr (by assumption))]
            first
              | done
              | (unfold laidS; rw [if_pos (by assumption)]; done)
              | (unfold laidS; rw [if_neg (by assumption)]; done)
              | (unfold laidS; rw [if_pos (by assumption)]; rfl)
              | (unfold laidS; rw [if_neg (by assumption)]; rfl))
     have e2 : (0 : Int) = ((layR g r a b).2.2) := by
       first
         | (rw [layR_no (by assumption)]; done)
         | (rw [layR_bd (by assumption) (by first | exact .inl (by assumption) | exact .inr (by assumption))]; done)
         | (rw [layR_lim (by assumption) (by assumption) (by assumption) (by assumption)]; done)
         | (rw [layR_gen (by assumption) (by assumption) (by assumption) (by assumption) (by assumption) (by assumption)]; done)
         | (rw [layR_ok (by assumption) (by assumption) (by assumption) (by assumption) (by first | assumption | exact .inl (by assumption) | exact .inr (by assumption))]
            first
              | done
              | (unfold laidS; rw [if_pos (by assumption)]; done)
              | (unfold laidS; rw [if_neg (by assumption)]; done)
              | (unfold laidS; rw [if_pos (by assumption)]; rfl)
              | (unfold laidS; rw [if_neg (by assumption)]; rfl))
     exact ⟨(fin w0 g335 (fun n => if n = 8 then 1 else if n = 14 then 2 else 0), v101, v333), (congr3 (a := (g.1, (g.2 ++ ([(a.1, b.1)] : List ((Int) × (Int)))))) (b := (canonR (g.1, (g.2 ++ ([(a.1, b.1)] : List ((Int) × (Int))))) (List.set r (Int.toNat a.1) (List.take (Int.toNat ((idxS (gI r a.1) a.2) + 1)) (gI r a.1) ++ ([2 * (List.length g.2 : Int), (2 * (List.length g.2 : Int)) + 1] : List Int) ++ List.drop (Int.toNat ((idxS (gI r a.1) a.2) + 1)) (gI r a.1)))).1) (c := 0) (fun (z0 : (Int) × (List ((Int) × (Int)))) (z1 : List (List Int)) (z2 : Int) => Ending.returned (Value.tuple (List.toArray [Value.agg (List.toArray [Value.int .i64 z0.1, v101]), v333, Value.int .i64 z2]))) e0 e1 e2), hbase.fresh _, ((congrArg (fun (z : (Int) × (List ((Int) × (Int)))) => z.2) e0) ▸ (o103.glue (γ := c0) (ren := (fun n => if n = 8 then 1 else if n = 14 then 2 else 0)) (k := 1) hbase.col rfl rfl)), (e1 ▸ (o334.glue (γ := c0) (ren := (fun n => if n = 8 then 1 else if n = 14 then 2 else 0)) (k := 2) hbase.col rfl rfl))⟩
    refine run_cond_f rfl (decide_eq_false p16) ?_
    refine run_seq (run_region rfl ?_)
    refine l_val (v := v285) rfl (e_move rfl) ?_
    refine l_val (v := Value.agg (List.toArray [Value.int .i64 a.1, Value.int .i64 a.2])) rfl (e_load_bxN (ds := [Value.int .i64 a.1, Value.int .i64 a.2]) tp55_dd (by exact zs6) bx10 rfl rfl) ?_
    refine l_val (v := Value.int .i64 (2 * (List.length g.2 : Int))) rfl (e_move rfl) ?_
    refine l_op rfl ?_
    refine o_buildSlice (α := Int) g287 (is 15) (is 15) (15, 0) rfl ([2 * (List.length g.2 : Int)] : List Int) Try.underlying27 tp3_dd (by decide) (by decide) (vs := [(0, Value.int .i64 (2 * (List.length g.2 : Int)))]) rfl rfl (.cons rfl .nil) ?_
    intro g342 w343 v344 ch345 o346
    refine l_op rfl ?_
    refine o_inline (e_call (vals := [v285, Value.agg (List.toArray [Value.int .i64 a.1, Value.int .i64 a.2]), v344]) Try.func77 bd77_dd nm77_dd rfl) ?_
    refine calls_of_run Try.func77 rfl (Nat.le_of_ble_eq_true rfl) ?_
    replace o286 := o286.chg ch345 (not_no _)
    have hix_c2 := idx_bd (gI r a.1) a.2
    refine run_seq (run_region rfl (l_op rfl ?_))
    refine o_box g342 (is 16) (16, 0) rfl rfl ?_
    intro g350 w347 b349 ch348 bx351
    replace bx351 : Bx g350 (is 16) w347 b349 [Value.int .i64 a.1, Value.int .i64 a.2] := bx351
    refine l_nil (run_seq ?_)
    refine region_q g350 rfl mixed_dd (by kernel_rfl) ?_
    intro w353 ch352
    refine q_val (v := v285) rfl (fun w' hw' => e_move rfl) ?_
    refine q_val (v := Value.pointer (some ⟨b349, 0, none⟩)) rfl (fun w' hw' => e_fieldAddr Try.underlying55 rfl rfl rfl rfl) ?_
    replace bx351 := bx351.chg ch352 (not_no _)
    refine q_val (v := Value.int .i64 a.1) rfl (fun w' hw' => e_load_bx1 tp3_dd rfl (bx351.bel hw') rfl) ?_
    replace o286 := (o286.chg ch348 (not_no _)).chg ch352 (not_no _)
    refine q_val (v := Value.pointer (some (eAddr v285 1 (Int.toNat a.1)))) rfl (fun w' hw' => e_indexAddr (α := List Int) (xs := r) (v := v285) (i := a.1) Try.underlying26 rfl rfl (o286.sl.bel hw') rfl (by omega) (by omega)) ?_
    obtain ⟨v354, cel355, r356⟩ := nst_row (r := a.1) o286 (by omega) (by omega)
    refine q_val (v := v354) rfl (fun w' hw' => e_load1 tp27_dd rfl (cel_bel cel355 hw')) ?_
    refine q_val (v := Value.pointer (some ⟨b349, 1, none⟩)) rfl (fun w' hw' => e_fieldAddr Try.underlying55 rfl rfl rfl rfl) ?_
    refine q_val (v := Value.int .i64 a.2) rfl (fun w' hw' => e_load_bx1 tp3_dd rfl (bx351.bel hw') rfl) ?_
    refine q_call (v := Value.int .i64 (idxS (gI r a.1) a.2)) rfl (fun w' hw' => e_call (vals := [v354, Value.int .i64 a.2]) Try.func71 bd71_dd nm71_dd rfl) (fun w' hw' => (Index_ok w' (gI r a.1) v354 ((r356.row_sl.bel hw')).ro a.2).mono fun e w2 h2 => ⟨h2.1, hw'.trans (h2.2.mono hw'.size)⟩) ?_
    refine q_val (v := Value.int .i64 ((idxS (gI r a.1) a.2) + 1)) rfl (fun w' hw' => e_add (m := idxS (gI r a.1) a.2) (n := 1) rfl rfl (by first | omega | (have h7 := putS_row (r := r) (c := a) (hs := [2 * (g.2.length : Int)]) hca0 hca9 (v := b.1) hcb0; unfold putS at h7; simp only [List.length_cons, List.length_nil] at h7 ⊢; omega))) ?_
    refine q_val (v := Value.int .i64 ((idxS (gI r a.1) a.2) + 1)) rfl (fun w' hw' => e_assign rfl) ?_
    refine q_nil ?_
    intro w357 hc358
    replace hc358 := chg_below hc358 g350
    clear cel355
    clear r356
    refine run_region_h g350 (inl [11]) mixed_dd ?_
    intro w360 ch359
    refine h_take (v := v285) 0 rfl (by kernel_rfl) (by kernel_rfl) rfl (Chg.refl _ _ _) (fun w' hw' => e_move rfl) ?_
    refine h_take (v := Value.pointer (some ⟨b349, 0, none⟩)) 1 rfl (by kernel_rfl) (by kernel_rfl) rfl (Chg.refl _ _ _) (fun w' hw' => e_fieldAddr Try.underlying55 rfl rfl rfl rfl) ?_
    replace bx351 := (bx351.chg hc358 (not_no _)).chg ch359 (not_no _)
    refine h_take (v := Value.int .i64 a.1) 2 rfl (by kernel_rfl) (by kernel_rfl) rfl (Chg.refl _ _ _) (fun w' hw' => e_load_bx1 tp3_dd rfl (bx351.chg hw' (is_nl rfl)) rfl) ?_
    refine h_take (v := v285) 3 rfl (by kernel_rfl) (by kernel_rfl) rfl (Chg.refl _ _ _) (fun w' hw' => e_move rfl) ?_
    refine h_take (v := Value.pointer (some ⟨b349, 0, none⟩)) 4 rfl (by kernel_rfl) (by kernel_rfl) rfl (Chg.refl _ _ _) (fun w' hw' => e_fieldAddr Try.underlying55 rfl rfl rfl rfl) ?_
    refine h_take (v := Value.int .i64 a.1) 5 rfl (by kernel_rfl) (by kernel_rfl) rfl (Chg.refl _ _ _) (fun w' hw' => e_load_bx1 tp3_dd rfl (bx351.chg hw' (is_nl rfl)) rfl) ?_
    refine h_take (v := Value.int .i64 ((idxS (gI r a.1) a.2) + 1)) 8 rfl (by kernel_rfl) (by kernel_rfl) rfl (Chg.refl _ _ _) (fun w' hw' => e_move rfl) ?_
    refine h_take (v := v344) 9 rfl (by kernel_rfl) (by kernel_rfl) rfl (Chg.refl _ _ _) (fun w' hw' => e_move rfl) ?_
    refine h_one 6 rfl (by kernel_rfl) rfl ?_
    replace o286 := (o286.chg hc358 (not_no _)).chg ch359 (not_no _)
    refine o_of_val (v := Value.pointer (some (eAddr v285 1 (Int.toNat a.1)))) (e_indexAddr (α := List Int) (xs := r) (v := v285) (i := a.1) Try.underlying26 rfl rfl o286.sl rfl (by omega) (by omega)) ?_
    refine ⟨(Chg.refl _ _ _), ?_⟩
    refine h_one 7 rfl (by kernel_rfl) rfl ?_
    obtain ⟨v361, cel362, r363⟩ := nst_row (r := a.1) o286 (by omega) (by omega)
    refine o_of_val (v := v361) (e_load1 tp27_dd rfl cel362) ?_
    refine ⟨(Chg.refl _ _ _), ?_⟩
    refine h_one 10 rfl (by kernel_rfl) rfl ?_
    have C370 : Chg (inl []) _ _ _ _ := (ch348.n).seq ((ch352.n).seq ((hc358.n).seq (ch359.n)))
    replace o346 := o346.chg C370 (is_nl rfl) (is_nl rfl)
    refine o_callx (σ := Cmap × Value) (V := fun x => x.2) (e_call (vals := [v361, Value.int .i64 ((idxS (gI r a.1) a.2) + 1), v344]) Try.func100 bd100_dd nm100_dd rfl) (ins_calls insL (γ := g350) (J := row 11 (Int.toNat a.1 + 1)) (K := is 15) (S := row 11 (Int.toNat a.1 + 1)) (xs := gI r a.1) (ys := ([2 * (List.length g.2 : Int)] : List Int)) (i := (idxS (gI r a.1) a.2) + 1) (11, Int.toNat a.1 + 1) rfl r363 o346 (row_ne rfl) (by omega) (by omega) (by simp) (by first | (simp only [List.length_cons, List.length_nil]; omega) | (have h7 := putS_row (r := r) (c := a) (hs := [2 * (g.2.length : Int)]) hca0 hca9 (v := b.1) hcb0; unfold putS at h7; simp only [List.length_cons, List.length_nil] at h7 ⊢; omega))) ?_
    rintro ⟨g364, v366⟩ w365 ⟨ch367, o368⟩
    have o369 := o286.rowchg ch367
    clear o286
    clear cel362
    clear r363
    have hs371 : Chg (inl [11]) _ _ _ _ := ch367.lr rfl
    refine ⟨hs371.same, ?_⟩
    refine h_one 11 rfl (by kernel_rfl) rfl ?_
    obtain ⟨us372, hl373, r374⟩ := o369.vc
    try simp only [List.length_set, List.length_append, List.length_cons, List.length_nil] at hl373
    refine o_of_val (v := Value.pointer (some (eAddr v285 1 (Int.toNat a.1)))) (e_indexAddr (α := Vc) (xs := us372) (v := v285) (i := a.1) Try.underlying26 rfl rfl r374 rfl (by omega) (by omega)) ?_
    refine ⟨hs371.same, ?_⟩
    refine h_one 12 rfl (by kernel_rfl) rfl ?_
    refine o_store_row (r := a.1) tp27_dd rfl rfl o369 o368 (by omega) (by omega) ?_
    intro w378 ch379 o380
    clear o369
    clear o368
    have hs381 := hs371.seq (ch379.l rfl)
    refine ⟨hs381.same, ?_⟩
    refine h_nil (by kernel_rfl) ?_
    refine run_end (vs := []) Try.func77 .nil ?_
    refine ⟨Value.tuple (List.toArray []), rfl, ?_⟩
    refine l_nil ?_
    clear bx10
    clear o346
    clear bx351
    refine run_region rfl ?_
    refine l_val (v := v285) rfl (e_move rfl) ?_
    have C382 : Chg (inl [11]) _ _ _ _ := (ch345.n).seq ((ch348.n).seq ((ch352.n).seq ((hc358.n).seq ((ch359.n).seq ((ch367.lr rfl).seq (ch379.l rfl))))))
    replace bx15 := bx15.chg C382 (is_nl rfl)
    refine l_val (v := Value.agg (List.toArray [Value.int .i64 b.1, Value.int .i64 b.2])) rfl (e_load_bxN (ds := [Value.int .i64 b.1, Value.int .i64 b.2]) tp55_dd (by exact zs7) bx15 rfl rfl) ?_
    refine l_val (v := Value.int .i64 (2 * (List.length g.2 : Int))) rfl (e_move rfl) ?_
    refine l_val (v := Value.int .i64 ((2 * (List.length g.2 : Int)) + 1)) rfl (e_add (m := 2 * (List.length g.2 : Int)) (n := 1) rfl rfl (by omega)) ?_
    refine l_op rfl ?_
    refine o_buildSlice (α := Int) g364 (is 17) (is 17) (17, 0) rfl ([(2 * (List.length g.2 : Int)) + 1] : List Int) Try.underlying27 tp3_dd (by decide) (by decide) (vs := [(0, Value.int .i64 ((2 * (List.length g.2 : Int)) + 1))]) rfl rfl (.cons rfl .nil) ?_
    intro g383 w384 v385 ch386 o387
    refine l_op rfl ?_
    refine o_inline (e_call (vals := [v285, Value.agg (List.toArray [Value.int .i64 b.1, Value.int .i64 b.2]), v385]) Try.func77 bd77_dd nm77_dd rfl) ?_
    refine calls_of_run Try.func77 rfl (Nat.le_of_ble_eq_true rfl) ?_
    replace o380 := o380.chg ch386 (not_no _)
    have hix_c3 := idx_bd (gI (List.set r (Int.toNat a.1) (List.take (Int.toNat ((idxS (gI r a.1) a.2) + 1)) (gI r a.1) ++ ([2 * (List.length g.2 : Int)] : List Int) ++ List.drop (Int.toNat ((idxS (gI r a.1) a.2) + 1)) (gI r a.1))) b.1) b.2
    refine run_seq (run_region rfl (l_op rfl ?_))
    refine o_box g383 (is 18) (18, 0) rfl rfl ?_
    intro g391 w388 b390 ch389 bx392
    replace bx392 : Bx g391 (is 18) w388 b390 [Value.int .i64 b.1, Value.int .i64 b.2] := bx392
    refine l_nil (run_seq ?_)
    refine region_q g391 rfl mixed_dd (by kernel_rfl) ?_
    intro w394 ch393
    refine q_val (v := v285) rfl (fun w' hw' => e_move rfl) ?_
    refine q_val (v := Value.pointer (some ⟨b390, 0, none⟩)) rfl (fun w' hw' => e_fieldAddr Try.underlying55 rfl rfl rfl rfl) ?_
    replace bx392 := bx392.chg ch393 (not_no _)
    refine q_val (v := Value.int .i64 b.1) rfl (fun w' hw' => e_load_bx1 tp3_dd rfl (bx392.bel hw') rfl) ?_
    replace o380 := (o380.chg ch389 (not_no _)).chg ch393 (not_no _)
    refine q_val (v := Value.pointer (some (eAddr v285 1 (Int.toNat b.1)))) rfl (fun w' hw' => e_indexAddr (α := List Int) (xs := (List.set r (Int.toNat a.1) (List.take (Int.toNat ((idxS (gI r a.1) a.2) + 1)) (gI r a.1) ++ ([2 * (List.length g.2 : Int)] : List Int) ++ List.drop (Int.toNat ((idxS (gI r a.1) a.2) + 1)) (gI r a.1)))) (v := v285) (i := b.1) Try.underlying26 rfl rfl (o380.sl.bel hw') rfl (by omega) (by first | omega | (simp only [List.length_set, List.length_append, List.length_cons, List.length_nil, List.length_replicate, List.length_map, List.length_take, List.length_drop]; omega) | (simp; done) | (simp; omega))) ?_
    obtain ⟨v395, cel396, r397⟩ := nst_row (r := b.1) o380 (by omega) (by first | omega | (simp only [List.length_set, List.length_append, List.length_cons, List.length_nil, List.length_replicate, List.length_map, List.length_take, List.length_drop]; omega) | (simp; done) | (simp; omega))
    refine q_val (v := v395) rfl (fun w' hw' => e_load1 tp27_dd rfl (cel_bel cel396 hw')) ?_
    refine q_val (v := Value.pointer (some ⟨b390, 1, none⟩)) rfl (fun w' hw' => e_fieldAddr Try.underlying55 rfl rfl rfl rfl) ?_
    refine q_val (v := Value.int .i64 b.2) rfl (fun w' hw' => e_load_bx1 tp3_dd rfl (bx392.bel hw') rfl) ?_
    refine q_call (v := Value.int .i64 (idxS (gI (List.set r (Int.toNat a.1) (List.take (Int.toNat ((idxS (gI r a.1) a.2) + 1)) (gI r a.1) ++ ([2 * (List.length g.2 : Int)] : List Int) ++ List.drop (Int.toNat ((idxS (gI r a.1) a.2) + 1)) (gI r a.1))) b.1) b.2)) rfl (fun w' hw' => e_call (vals := [v395, Value.int .i64 b.2]) Try.func71 bd71_dd nm71_dd rfl) (fun w' hw' => (Index_ok w' (gI (List.set r (Int.toNat a.1) (List.take (Int.toNat ((idxS (gI r a.1) a.2) + 1)) (gI r a.1) ++ ([2 * (List.length g.2 : Int)] : List Int) ++ List.drop (Int.toNat ((idxS (gI r a.1) a.2) + 1)) (gI r a.1))) b.1) v395 ((r397.row_sl.bel hw')).ro b.2).mono fun e w2 h2 => ⟨h2.1, hw'.trans (h2.2.mono hw'.size)⟩) ?_
    refine q_val (v := Value.int .i64 ((idxS (gI (List.set r (Int.toNat a.1) (List.take (Int.toNat ((idxS (gI r a.1) a.2) + 1)) (gI r a.1) ++ ([2 * (List.length g.2 : Int)] : List Int) ++ List.drop (Int.toNat ((idxS (gI r a.1) a.2) + 1)) (gI r a.1))) b.1) b.2) + 1)) rfl (fun w' hw' => e_add (m := idxS (gI (List.set r (Int.toNat a.1) (List.take (Int.toNat ((idxS (gI r a.1) a.2) + 1)) (gI r a.1) ++ ([2 * (List.length g.2 : Int)] : List Int) ++ List.drop (Int.toNat ((idxS (gI r a.1) a.2) + 1)) (gI r a.1))) b.1) b.2) (n := 1) rfl rfl (by first | omega | (have h7 := putS_row (r := r) (c := a) (hs := [2 * (g.2.length : Int)]) hca0 hca9 (v := b.1) hcb0; unfold putS at h7; simp only [List.length_cons, List.length_nil] at h7 ⊢; omega))) ?_
    refine q_val (v := Value.int .i64 ((idxS (gI (List.set r (Int.toNat a.1) (List.take (Int.toNat ((idxS (gI r a.1) a.2) + 1)) (gI r a.1) ++ ([2 * (List.length g.2 : Int)] : List Int) ++ List.drop (Int.toNat ((idxS (gI r a.1) a.2) + 1)) (gI r a.1))) b.1) b.2) + 1)) rfl (fun w' hw' => e_assign rfl) ?_
    refine q_nil ?_
    intro w398 hc399
    replace hc399 := chg_below hc399 g391
    clear cel396
    clear r397
    refine run_region_h g391 (inl [11]) mixed_dd ?_
    intro w401 ch400
    refine h_take (v := v285) 0 rfl (by kernel_rfl) (by kernel_rfl) rfl (Chg.refl _ _ _) (fun w' hw' => e_move rfl) ?_
    refine h_take (v := Value.pointer (some ⟨b390, 0, none⟩)) 1 rfl (by kernel_rfl) (by kernel_rfl) rfl (Chg.refl _ _ _) (fun w' hw' => e_fieldAddr Try.underlying55 rfl rfl rfl rfl) ?_
    replace bx392 := (bx392.chg hc399 (not_no _)).chg ch400 (not_no _)
    refine h_take (v := Value.int .i64 b.1) 2 rfl (by kernel_rfl) (by kernel_rfl) rfl (Chg.refl _ _ _) (fun w' hw' => e_load_bx1 tp3_dd rfl (bx392.chg hw' (is_nl rfl)) rfl) ?_
    refine h_take (v := v285) 3 rfl (by kernel_rfl) (by kernel_rfl) rfl (Chg.refl _ _ _) (fun w' hw' => e_move rfl) ?_
    refine h_take (v := Value.pointer (some ⟨b390, 0, none⟩)) 4 rfl (by kernel_rfl) (by kernel_rfl) rfl (Chg.refl _ _ _) (fun w' hw' => e_fieldAddr Try.underlying55 rfl rfl rfl rfl) ?_
    refine h_take (v := Value.int .i64 b.1) 5 rfl (by kernel_rfl) (by kernel_rfl) rfl (Chg.refl _ _ _) (fun w' hw' => e_load_bx1 tp3_dd rfl (bx392.chg hw' (is_nl rfl)) rfl) ?_
    refine h_take (v := Value.int .i64 ((idxS (gI (List.set r (Int.toNat a.1) (List.take (Int.toNat ((idxS (gI r a.1) a.2) + 1)) (gI r a.1) ++ ([2 * (List.length g.2 : Int)] : List Int) ++ List.drop (Int.toNat ((idxS (gI r a.1) a.2) + 1)) (gI r a.1))) b.1) b.2) + 1)) 8 rfl (by kernel_rfl) (by kernel_rfl) rfl (Chg.refl _ _ _) (fun w' hw' => e_move rfl) ?_
    refine h_take (v := v385) 9 rfl (by kernel_rfl) (by kernel_rfl) rfl (Chg.refl _ _ _) (fun w' hw' => e_move rfl) ?_
    refine h_one 6 rfl (by kernel_rfl) rfl ?_
    replace o380 := (o380.chg hc399 (not_no _)).chg ch400 (not_no _)
    refine o_of_val (v := Value.pointer (some (eAddr v285 1 (Int.toNat b.1)))) (e_indexAddr (α := List Int) (xs := (List.set r (Int.toNat a.1) (List.take (Int.toNat ((idxS (gI r a.1) a.2) + 1)) (gI r a.1) ++ ([2 * (List.length g.2 : Int)] : List Int) ++ List.drop (Int.toNat ((idxS (gI r a.1) a.2) + 1)) (gI r a.1)))) (v := v285) (i := b.1) Try.underlying26 rfl rfl o380.sl rfl (by omega) (by first | omega | (simp only [List.length_set, List.length_append, List.length_cons, List.length_nil, List.length_replicate, List.length_map, List.length_take, List.length_drop]; omega) | (simp; done) | (simp; omega))) ?_
    refine ⟨(Chg.refl _ _ _), ?_⟩
    refine h_one 7 rfl (by kernel_rfl) rfl ?_
    obtain ⟨v402, cel403, r404⟩ := nst_row (r := b.1) o380 (by omega) (by first | omega | (simp only [List.length_set, List.length_append, List.length_cons, List.length_nil, List.length_replicate, List.length_map, List.length_take, List.length_drop]; omega) | (simp; done) | (simp; omega))
    refine o_of_val (v := v402) (e_load1 tp27_dd rfl cel403) ?_
    refine ⟨(Chg.refl _ _ _), ?_⟩
    refine h_one 10 rfl (by kernel_rfl) rfl ?_
    have C411 : Chg (inl []) _ _ _ _ := (ch389.n).seq ((ch393.n).seq ((hc399.n).seq (ch400.n)))
    replace o387 := o387.chg C411 (is_nl rfl) (is_nl rfl)
    refine o_callx (σ := Cmap × Value) (V := fun x => x.2) (e_call (vals := [v402, Value.int .i64 ((idxS (gI (List.set r (Int.toNat a.1) (List.take (Int.toNat ((idxS (gI r a.1) a.2) + 1)) (gI r a.1) ++ ([2 * (List.length g.2 : Int)] : List Int) ++ List.drop (Int.toNat ((idxS (gI r a.1) a.2) + 1)) (gI r a.1))) b.1) b.2) + 1), v385]) Try.func100 bd100_dd nm100_dd rfl) (ins_calls insL (γ := g391) (J := row 11 (Int.toNat b.1 + 1)) (K := is 17) (S := row 11 (Int.toNat b.1 + 1)) (xs := gI (List.set r (Int.toNat a.1) (List.take (Int.toNat ((idxS (gI r a.1) a.2) + 1)) (gI r a.1) ++ ([2 * (List.length g.2 : Int)] : List Int) ++ List.drop (Int.toNat ((idxS (gI r a.1) a.2) + 1)) (gI r a.1))) b.1) (ys := ([(2 * (List.length g.2 : Int)) + 1] : List Int)) (i := (idxS (gI (List.set r (Int.toNat a.1) (List.take (Int.toNat ((idxS (gI r a.1) a.2) + 1)) (gI r a.1) ++ ([2 * (List.length g.2 : Int)] : List Int) ++ List.drop (Int.toNat ((idxS (gI r a.1) a.2) + 1)) (gI r a.1))) b.1) b.2) + 1) (11, Int.toNat b.1 + 1) rfl r404 o387 (row_ne rfl) (by omega) (by omega) (by simp) (by first | (simp only [List.length_cons, List.length_nil]; omega) | (have h7 := putS_row (r := r) (c := a) (hs := [2 * (g.2.length : Int)]) hca0 hca9 (v := b.1) hcb0; unfold putS at h7; simp only [List.length_cons, List.length_nil] at h7 ⊢; omega))) ?_
    rintro ⟨g405, v407⟩ w406 ⟨ch408, o409⟩
    have o410 := o380.rowchg ch408
    clear o380
    clear cel403
    clear r404
    have hs412 : Chg (inl [11]) _ _ _ _ := ch408.lr rfl
    refine ⟨hs412.same, ?_⟩
    refine h_one 11 rfl (by kernel_rfl) rfl ?_
    obtain ⟨us413, hl414, r415⟩ := o410.vc
    try simp only [List.length_set, List.length_append, List.length_cons, List.length_nil] at hl414
    refine o_of_val (v := Value.pointer (some (eAddr v285 1 (Int.toNat b.1)))) (e_indexAddr (α := Vc) (xs := us413) (v := v285) (i := b.1) Try.underlying26 rfl rfl r415 rfl (by omega) (by omega)) ?_
    refine ⟨hs412.same, ?_⟩
    refine h_one 12 rfl (by kernel_rfl) rfl ?_
    refine o_store_row (r := b.1) tp27_dd rfl rfl o410 o409 (by omega) (by first | omega | (simp only [List.length_set, List.length_append, List.length_cons, List.length_nil, List.length_replicate, List.length_map, List.length_take, List.length_drop]; omega) | (simp; done) | (simp; omega)) ?_
    intro w419 ch420 o421
    clear o410
    clear o409
    have hs422 := hs412.seq (ch420.l rfl)
    refine ⟨hs422.same, ?_⟩
    refine h_nil (by kernel_rfl) ?_
    refine run_end (vs := []) Try.func77 .nil ?_
    refine ⟨Value.tuple (List.toArray []), rfl, ?_⟩
    refine l_nil (run_seq ?_)
    clear bx15
    clear o387
    clear bx392
    refine run_region rfl ?_
    have C423 : Chg (inl [11]) _ _ _ _ := (ch288.n).seq ((ch345.n).seq ((ch348.n).seq ((ch352.n).seq ((hc358.n).seq ((ch359.n).seq ((ch367.lr rfl).seq ((ch379.l rfl).seq ((ch386.n).seq ((ch389.n).seq ((ch393.n).seq ((hc399.n).seq ((ch400.n).seq ((ch408.lr rfl).seq (ch420.l rfl))))))))))))))
    replace bx113 := bx113.chg C423 (is_nl rfl)
    refine l_val (v := Value.agg (List.toArray [Value.int .i64 g.1, v101])) rfl (e_load_bxN (ds := [Value.int .i64 g.1, v101]) tp24_dd (by exact zs19) bx113 rfl rfl) ?_
    refine l_val (v := v285) rfl (e_move rfl) ?_
    replace o103 := o103.chg C423 (is_nl rfl) (is_nl rfl)
    refine l_op rfl ?_
    refine o_callx (e_call (vals := [Value.agg (List.toArray [Value.int .i64 g.1, v101]), v285]) Try.func55 bd55_dd nm55_dd rfl) (RCanon_ok w419 (g.1, (g.2 ++ ([(a.1, b.1)] : List ((Int) × (Int))))) v101 (o103.flat).ro (List.set (List.set r (Int.toNat a.1) (List.take (Int.toNat ((idxS (gI r a.1) a.2) + 1)) (gI r a.1) ++ ([2 * (List.length g.2 : Int)] : List Int) ++ List.drop (Int.toNat ((idxS (gI r a.1) a.2) + 1)) (gI r a.1))) (Int.toNat b.1) (List.take (Int.toNat ((idxS (gI (List.set r (Int.toNat a.1) (List.take (Int.toNat ((idxS (gI r a.1) a.2) + 1)) (gI r a.1) ++ ([2 * (List.length g.2 : Int)] : List Int) ++ List.drop (Int.toNat ((idxS (gI r a.1) a.2) + 1)) (gI r a.1))) b.1) b.2) + 1)) (gI (List.set r (Int.toNat a.1) (List.take (Int.toNat ((idxS (gI r a.1) a.2) + 1)) (gI r a.1) ++ ([2 * (List.length g.2 : Int)] : List Int) ++ List.drop (Int.toNat ((idxS (gI r a.1) a.2) + 1)) (gI r a.1))) b.1) ++ ([(2 * (List.length g.2 : Int)) + 1] : List Int) ++ List.drop (Int.toNat ((idxS (gI (List.set r (Int.toNat a.1) (List.take (Int.toNat ((idxS (gI r a.1) a.2) + 1)) (gI r a.1) ++ ([2 * (List.length g.2 : Int)] : List Int) ++ List.drop (Int.toNat ((idxS (gI r a.1) a.2) + 1)) (gI r a.1))) b.1) b.2) + 1)) (gI (List.set r (Int.toNat a.1) (List.take (Int.toNat ((idxS (gI r a.1) a.2) + 1)) (gI r a.1) ++ ([2 * (List.length g.2 : Int)] : List Int) ++ List.drop (Int.toNat ((idxS (gI r a.1) a.2) + 1)) (gI r a.1))) b.1))) v285 (o421.sl).ro) ?_
    rintro ⟨d425, v427⟩ w424 ⟨fr426, o428⟩
    obtain ⟨g429, hg429⟩ : ∃ q, q = glue w419.heap.size g405 d425 (fun n => if n = 1 then 14 else 0) := ⟨_, rfl⟩
    have ch430 := chg_glue fr426.below g405 d425 (fun n => if n = 1 then 14 else 0)
    rw [← hg429] at ch430
    replace o428 := o428.glue (γ := g405) (ren := (fun n => if n = 1 then 14 else 0)) (k := 14) fr426.col rfl rfl
    rw [← hg429] at o428
    clear hg429
    refine l_val (v := Value.tuple (List.toArray [v427, Value.int .i64 ((canonR (g.1, (g.2 ++ ([(a.1, b.1)] : List ((Int) × (Int))))) (List.set (List.set r (Int.toNat a.1) (List.take (Int.toNat ((idxS (gI r a.1) a.2) + 1)) (gI r a.1) ++ ([2 * (List.length g.2 : Int)] : List Int) ++ List.drop (Int.toNat ((idxS (gI r a.1) a.2) + 1)) (gI r a.1))) (Int.toNat b.1) (List.take (Int.toNat ((idxS (gI (List.set r (Int.toNat a.1) (List.take (Int.toNat ((idxS (gI r a.1) a.2) + 1)) (gI r a.1) ++ ([2 * (List.length g.2 : Int)] : List Int) ++ List.drop (Int.toNat ((idxS (gI r a.1) a.2) + 1)) (gI r a.1))) b.1) b.2) + 1)) (gI (List.set r (Int.toNat a.1) (List.take (Int.toNat ((idxS (gI r a.1) a.2) + 1)) (gI r a.1) ++ ([2 * (List.length g.2 : Int)] : List Int) ++ List.drop (Int.toNat ((idxS (gI r a.1) a.2) + 1)) (gI r a.1))) b.1) ++ ([(2 * (List.length g.2 : Int)) + 1] : List Int) ++ List.drop (Int.toNat ((idxS (gI (List.set r (Int.toNat a.1) (List.take (Int.toNat ((idxS (gI r a.1) a.2) + 1)) (gI r a.1) ++ ([2 * (List.length g.2 : Int)] : List Int) ++ List.drop (Int.toNat ((idxS (gI r a.1) a.2) + 1)) (gI r a.1))) b.1) b.2) + 1)) (gI (List.set r (Int.toNat a.1) (List.take (Int.toNat ((idxS (gI r a.1) a.2) + 1)) (gI r a.1) ++ ([2 * (List.length g.2 : Int)] : List Int) ++ List.drop (Int.toNat ((idxS (gI r a.1) a.2) + 1)) (gI r a.1))) b.1)))).2)])) rfl (e_move rfl) ?_
    refine l_val (v := v427) rfl (e_extract rfl rfl) ?_
    refine l_val (v := Value.int .i64 ((canonR (g.1, (g.2 ++ ([(a.1, b.1)] : List ((Int) × (Int))))) (List.set (List.set r (Int.toNat a.1) (List.take (Int.toNat ((idxS (gI r a.1) a.2) + 1)) (gI r a.1) ++ ([2 * (List.length g.2 : Int)] : List Int) ++ List.drop (Int.toNat ((idxS (gI r a.1) a.2) + 1)) (gI r a.1))) (Int.toNat b.1) (List.take (Int.toNat ((idxS (gI (List.set r (Int.toNat a.1) (List.take (Int.toNat ((idxS (gI r a.1) a.2) + 1)) (gI r a.1) ++ ([2 * (List.length g.2 : Int)] : List Int) ++ List.drop (Int.toNat ((idxS (gI r a.1) a.2) + 1)) (gI r a.1))) b.1) b.2) + 1)) (gI (List.set r (Int.toNat a.1) (List.take (Int.toNat ((idxS (gI r a.1) a.2) + 1)) (gI r a.1) ++ ([2 * (List.length g.2 : Int)] : List Int) ++ List.drop (Int.toNat ((idxS (gI r a.1) a.2) + 1)) (gI r a.1))) b.1) ++ ([(2 * (List.length g.2 : Int)) + 1] : List Int) ++ List.drop (Int.toNat ((idxS (gI (List.set r (Int.toNat a.1) (List.take (Int.toNat ((idxS (gI r a.1) a.2) + 1)) (gI r a.1) ++ ([2 * (List.length g.2 : Int)] : List Int) ++ List.drop (Int.toNat ((idxS (gI r a.1) a.2) + 1)) (gI r a.1))) b.1) b.2) + 1)) (gI (List.set r (Int.toNat a.1) (List.take (Int.toNat ((idxS (gI r a.1) a.2) + 1)) (gI r a.1) ++ ([2 * (List.length g.2 : Int)] : List Int) ++ List.drop (Int.toNat ((idxS (gI r a.1) a.2) + 1)) (gI r a.1))) b.1)))).2)) rfl (e_extract rfl rfl) ?_
    refine l_val (v := v427) rfl (e_assign rfl) ?_
    refine l_nil (run_seq ?_)
    clear o421
    refine run_region rfl ?_
    replace bx113 := bx113.chg ch430 (not_no _)
    refine l_val (v := Value.agg (List.toArray [Value.int .i64 g.1, v101])) rfl (e_load_bxN (ds := [Value.int .i64 g.1, v101]) tp24_dd (by exact zs19) bx113 rfl rfl) ?_
    refine l_val (v := v427) rfl (e_move rfl) ?_
    refine l_op rfl ?_
    have C434 : Chg (inl [11]) _ _ _ _ := (ch288.n).seq ((ch345.n).seq ((ch348.n).seq ((ch352.n).seq ((hc358.n).seq ((ch359.n).seq ((ch367.lr rfl).seq ((ch379.l rfl).seq ((ch386.n).seq ((ch389.n).seq ((ch393.n).seq ((hc399.n).seq ((ch400.n).seq ((ch408.lr rfl).seq ((ch420.l rfl).seq (ch430.n)))))))))))))))
    replace bx20 := bx20.chg C434 (is_nl rfl)
    replace o103 := o103.chg ch430 (not_no _) (not_no _)
    refine o_store_bx (cs' := [Value.int .i64 g.1, v101]) tp24_dd (by exact zs8) rfl bx20 rfl (Nat.le_of_ble_eq_true rfl) (AllOne.all (.cons rfl (.cons (sl_one o103.flat) .nil))) rfl ?_
    intro w431 ch432 bx433
    clear bx20
    refine l_val (v := v427) rfl (e_assign rfl) ?_
    refine l_val (v := Value.int .i64 0) rfl (e_assign rfl) ?_
    refine l_nil ?_
    refine run_ret (vs := [Value.agg (List.toArray [Value.int .i64 g.1, v101]), v427, Value.int .i64 0]) Try.func30 (.cell (by exact zs8) (load_bxN (ds := [Value.int .i64 g.1, v101]) tp24_dd bx433 rfl rfl) (.tmp rfl (.tmp rfl .nil))) ?_
    -- return 3
    have C435 : Chg (inl [4, 11]) _ _ _ _ := (ch288.n).seq ((ch345.n).seq ((ch348.n).seq ((ch352.n).seq ((hc358.n).seq ((ch359.n).seq ((ch367.lr rfl).seq ((ch379.l rfl).seq ((ch386.n).seq ((ch389.n).seq ((ch393.n).seq ((hc399.n).seq ((ch400.n).seq ((ch408.lr rfl).seq ((ch420.l rfl).seq ((ch430.n).seq (ch432.l rfl))))))))))))))))
    replace hbase := hbase.chg C435 (is_nl rfl)
    replace o103 := o103.chg ch432 (is_ne rfl) (is_ne rfl)
    replace o428 := o428.chg ch432 (is_ne rfl)
    have e0 : ((g.1, (g.2 ++ ([(a.1, b.1)] : List ((Int) × (Int))))) : (Int) × (List ((Int) × (Int)))) = ((layR g r a b).1) := by
      first
        | (rw [layR_no (by assumption)]; done)
        | (rw [layR_bd (by assumption) (by first | exact .inl (by assumption) | exact .inr (by assumption))]; done)
        | (rw [layR_lim (by assumption) (by assumption) (by assumption) (by assumption)]; done)
        | (rw [layR_gen (by assumption) (by assumption) (by assumption) (by assumption) (by assumption) (by assumption)]; done)
        | (rw [layR_ok (by assumption) (by assumption) (by assumption) (by assumption) (by first | assumption | exact .inl (by assumption) | exact .inr (by assumption))]
           first
             | done
             | (unfold laidS; rw [if_pos (by assumption)]; done)
             | (unfold laidS; rw [if_neg (by assumption)]; done)
             | (unfold laidS; rw [if_pos (by assumption)]; rfl)
             | (unfold laidS; rw [if_neg (by assumption)]; rfl))
    have e1 : ((canonR (g.1, (g.2 ++ ([(a.1, b.1)] : List ((Int) × (Int))))) (List.set (List.set r (Int.toNat a.1) (List.take (Int.toNat ((idxS (gI r a.1) a.2) + 1)) (gI r a.1) ++ ([2 * (List.length g.2 : Int)] : List Int) ++ List.drop (Int.toNat ((idxS (gI r a.1) a.2) + 1)) (gI r a.1))) (Int.toNat b.1) (List.take (Int.toNat ((idxS (gI (List.set r (Int.toNat a.1) (List.take (Int.toNat ((idxS (gI r a.1) a.2) + 1)) (gI r a.1) ++ ([2 * (List.length g.2 : Int)] : List Int) ++ List.drop (Int.toNat ((idxS (gI r a.1) a.2) + 1)) (gI r a.1))) b.1) b.2) + 1)) (gI (List.set r (Int.toNat a.1) (List.take (Int.toNat ((idxS (gI r a.1) a.2) + 1)) (gI r a.1) ++ ([2 * (List.length g.2 : Int)] : List Int) ++ List.drop (Int.toNat ((idxS (gI r a.1) a.2) + 1)) (gI r a.1))) b.1) ++ ([(2 * (List.length g.2 : Int)) + 1] : List Int) ++ List.drop (Int.toNat ((idxS (gI (List.set r (Int.toNat a.1) (List.take (Int.toNat ((idxS (gI r a.1) a.2) + 1)) (gI r a.1) ++ ([2 * (List.length g.2 : Int)] : List Int) ++ List.drop (Int.toNat ((idxS (gI r a.1) a.2) + 1)) (gI r a.1))) b.1) b.2) + 1)) (gI (List.set r (Int.toNat a.1) (List.take (Int.toNat ((idxS (gI r a.1) a.2) + 1)) (gI r a.1) ++ ([2 * (List.length g.2 : Int)] : List Int) ++ List.drop (Int.toNat ((idxS (gI r a.1) a.2) + 1)) (gI r a.1))) b.1)))).1 : List (List Int)) = ((layR g r a b).2.1) := by
      first
        | (rw [layR_no (by assumption)]; done)
        | (rw [layR_bd (by assumption) (by first | exact .inl (by assumption) | exact .inr (by assumption))]; done)
        | (rw [layR_lim (by assumption) (by assumption) (by assumption) (by assumption)]; done)
        | (rw [layR_gen (by assumption) (by assumption) (by assumption) (by assumption) (by assumption) (by assumption)]; done)
        | (rw [layR_ok (by assumption) (by assumption) (by assumption) (by assumption) (by first | assumption | exact .inl (by assumption) | exact .inr (by assumption))]
           first
             | done
             | (unfold laidS; rw [if_pos (by assumption)]; done)
             | (unfold laidS; rw [if_neg (by assumption)]; done)
             | (unfold laidS; rw [if_pos (by assumption)]; rfl)
             | (unfold laidS; rw [if_neg (by assumption)]; rfl))
    have e2 : (0 : Int) = ((layR g r a b).2.2) := by
      first
        | (rw [layR_no (by assumption)]; done)
        | (rw [layR_bd (by assumption) (by first | exact .inl (by assumption) | exact .inr (by assumption))]; done)
        | (rw [layR_lim (by assumption) (by assumption) (by assumption) (by assumption)]; done)
        | (rw [layR_gen (by assumption) (by assumption) (by assumption) (by assumption) (by assumption) (by assumption)]; done)
        | (rw [layR_ok (by assumption) (by assumption) (by assumption) (by assumption) (by first | assumption | exact .inl (by assumption) | exact .inr (by assumption))]
           first
             | done
             | (unfold laidS; rw [if_pos (by assumption)]; done)
             | (unfold laidS; rw [if_neg (by assumption)]; done)
             | (unfold laidS; rw [if_pos (by assumption)]; rfl)
             | (unfold laidS; rw [if_neg (by assumption)]; rfl))
    exact ⟨(fin w0 g429 (fun n => if n = 8 then 1 else if n = 14 then 2 else 0), v101, v427), (congr3 (a := (g.1, (g.2 ++ ([(a.1, b.1)] : List ((Int) × (Int)))))) (b := (canonR (g.1, (g.2 ++ ([(a.1, b.1)] : List ((Int) × (Int))))) (List.set (List.set r (Int.toNat a.1) (List.take (Int.toNat ((idxS (gI r a.1) a.2) + 1)) (gI r a.1) ++ ([2 * (List.length g.2 : Int)] : List Int) ++ List.drop (Int.toNat ((idxS (gI r a.1) a.2) + 1)) (gI r a.1))) (Int.toNat b.1) (List.take (Int.toNat ((idxS (gI (List.set r (Int.toNat a.1) (List.take (Int.toNat ((idxS (gI r a.1) a.2) + 1)) (gI r a.1) ++ ([2 * (List.length g.2 : Int)] : List Int) ++ List.drop (Int.toNat ((idxS (gI r a.1) a.2) + 1)) (gI r a.1))) b.1) b.2) + 1)) (gI (List.set r (Int.toNat a.1) (List.take (Int.toNat ((idxS (gI r a.1) a.2) + 1)) (gI r a.1) ++ ([2 * (List.length g.2 : Int)] : List Int) ++ List.drop (Int.toNat ((idxS (gI r a.1) a.2) + 1)) (gI r a.1))) b.1) ++ ([(2 * (List.length g.2 : Int)) + 1] : List Int) ++ List.drop (Int.toNat ((idxS (gI (List.set r (Int.toNat a.1) (List.take (Int.toNat ((idxS (gI r a.1) a.2) + 1)) (gI r a.1) ++ ([2 * (List.length g.2 : Int)] : List Int) ++ List.drop (Int.toNat ((idxS (gI r a.1) a.2) + 1)) (gI r a.1))) b.1) b.2) + 1)) (gI (List.set r (Int.toNat a.1) (List.take (Int.toNat ((idxS (gI r a.1) a.2) + 1)) (gI r a.1) ++ ([2 * (List.length g.2 : Int)] : List Int) ++ List.drop (Int.toNat ((idxS (gI r a.1) a.2) + 1)) (gI r a.1))) b.1)))).1) (c := 0) (fun (z0 : (Int) × (List ((Int) × (Int)))) (z1 : List (List Int)) (z2 : Int) => Ending.returned (Value.tuple (List.toArray [Value.agg (List.toArray [Value.int .i64 z0.1, v101]), v427, Value.int .i64 z2]))) e0 e1 e2), hbase.fresh _, ((congrArg (fun (z : (Int) × (List ((Int) × (Int)))) => z.2) e0) ▸ (o103.glue (γ := c0) (ren := (fun n => if n = 8 then 1 else if n = 14 then 2 else 0)) (k := 1) hbase.col rfl rfl)), (e1 ▸ (o428.glue (γ := c0) (ren := (fun n => if n = 8 then 1 else if n = 14 then 2 else 0)) (k := 2) hbase.col rfl rfl))⟩
   refine run_cond_t rfl (congrArg Bool.not (Bool.eq_false_iff.2 p4)) ?_
   refine run_seq ?_
   clear bx5
   clear bx10
   clear bx15
   clear o27
   refine run_region rfl ?_
   refine l_val (v := Value.agg (List.toArray [Value.int .i64 0, Value.slice none 0 0])) rfl (e_build (vs := []) rfl (by kernel_rfl)) ?_
   refine l_op rfl ?_
   have C439 : Chg (inl []) _ _ _ _ := (ch29.n).seq ((hb32.n).seq (hb35.n))
   replace bx20 := bx20.chg C439 (is_nl rfl)
   refine o_store_bx (cs' := [Value.int .i64 0, Value.slice none 0 0]) tp24_dd rfl rfl bx20 rfl (Nat.le_of_ble_eq_true rfl) (AllOne.all (.cons rfl (.cons rfl .nil))) rfl ?_
   intro w436 ch437 bx438
   clear bx20
   refine l_val (v := Value.slice none 0 0) rfl (e_assign rfl) ?_
   refine l_val (v := Value.int .i64 2) rfl (e_assign rfl) ?_
   refine l_nil ?_
   refine run_ret (vs := [Value.agg (List.toArray [Value.int .i64 0, Value.slice none 0 0]), Value.slice none 0 0, Value.int .i64 2]) Try.func30 (.cell rfl (load_bxN (ds := [Value.int .i64 0, Value.slice none 0 0]) tp24_dd bx438 rfl rfl) (.tmp rfl (.tmp rfl .nil))) ?_
   -- return 4
   have C440 : Chg (inl [4]) _ _ _ _ := (ch2.n).seq ((ch7.n).seq ((ch12.n).seq ((ch17.n).seq ((ch29.n).seq ((hb32.n).seq ((hb35.n).seq (ch437.l rfl)))))))
   replace hbase := hbase.chg C440 (is_nl rfl)
   have e0 : ((0, []) : (Int) × (List ((Int) × (Int)))) = ((layR g r a b).1) := by
     first
       | (rw [layR_no (by assumption)]; done)
       | (rw [layR_bd (by assumption) (by first | exact .inl (by assumption) | exact .inr (by assumption))]; done)
       | (rw [layR_lim (by assumption) (by assumption) (by assumption) (by assumption)]; done)
       | (rw [layR_gen (by assumption) (by assumption) (by assumption) (by assumption) (by assumption) (by assumption)]; done)
       | (rw [layR_ok (by assumption) (by assumption) (by assumption) (by assumption) (by first | assumption | exact .inl (by assumption) | exact .inr (by assumption))]
          first
            | done
            | (unfold laidS; rw [if_pos (by assumption)]; done)
            | (unfold laidS; rw [if_neg (by assumption)]; done)
            | (unfold laidS; rw [if_pos (by assumption)]; rfl)
            | (unfold laidS; rw [if_neg (by assumption)]; rfl))
   have e1 : ([] : List (List Int)) = ((layR g r a b).2.1) := by
     first
       | (rw [layR_no (by assumption)]; done)
       | (rw [layR_bd (by assumption) (by first | exact .inl (by assumption) | exact .inr (by assumption))]; done)
       | (rw [layR_lim (by assumption) (by assumption) (by assumption) (by assumption)]; done)
       | (rw [layR_gen (by assumption) (by assumption) (by assumption) (by assumption) (by assumption) (by assumption)]; done)
       | (rw [layR_ok (by assumption) (by assumption) (by assumption) (by assumption) (by first | assumption | exact .inl (by assumption) | exact .inr (by assumption))]
          first
            | done
            | (unfold laidS; rw [if_pos (by assumption)]; done)
            | (unfold laidS; rw [if_neg (by assumption)]; done)
            | (unfold laidS; rw [if_pos (by assumption)]; rfl)
            | (unfold laidS; rw [if_neg (by assumption)]; rfl))
   have e2 : (2 : Int) = ((layR g r a b).2.2) := by
     first
       | (rw [layR_no (by assumption)]; done)
       | (rw [layR_bd (by assumption) (by first | exact .inl (by assumption) | exact .inr (by assumption))]; done)
       | (rw [layR_lim (by assumption) (by assumption) (by assumption) (by assumption)]; done)
       | (rw [layR_gen (by assumption) (by assumption) (by assumption) (by assumption) (by assumption) (by assumption)]; done)
       | (rw [layR_ok (by assumption) (by assumption) (by assumption) (by assumption) (by first | assumption | exact .inl (by assumption) | exact .inr (by assumption))]
          first
            | done
            | (unfold laidS; rw [if_pos (by assumption)]; done)
            | (unfold laidS; rw [if_neg (by assumption)]; done)
            | (unfold laidS; rw [if_pos (by assumption)]; rfl)
            | (unfold laidS; rw [if_neg (by assumption)]; rfl))
   exact ⟨(fin w0 g28 (fun n => 0), (Value.slice none 0 0), (Value.slice none 0 0)), (congr3 (a := (0, [])) (b := []) (c := 2) (fun (z0 : (Int) × (List ((Int) × (Int)))) (z1 : List (List Int)) (z2 : Int) => Ending.returned (Value.tuple (List.toArray [Value.agg (List.toArray [Value.int .i64 z0.1, Value.slice none 0 0]), Value.slice none 0 0, Value.int .i64 z2]))) e0 e1 e2), hbase.fresh _, ((congrArg (fun (z : (Int) × (List ((Int) × (Int)))) => z.2) e0) ▸ Ow.nil), (e1 ▸ Nst.nil)⟩
  refine l_skip (want_n rfl rfl rfl (congrArg Bool.not (Bool.eq_false_iff.2 q39))) ?_
  refine l_skip (want_n rfl rfl rfl (congrArg Bool.not (Bool.eq_false_iff.2 q39))) ?_
  refine l_skip (want_n rfl rfl rfl (congrArg Bool.not (Bool.eq_false_iff.2 q39))) ?_
  refine l_skip (want_n rfl rfl rfl (congrArg Bool.not (Bool.eq_false_iff.2 q39))) ?_
  refine l_skip (want_n rfl rfl rfl (congrArg Bool.not (Bool.eq_false_iff.2 q39))) ?_
  refine l_val (v := Value.bool true) rfl (e_pick_t rfl (congrArg Bool.not (Bool.eq_false_iff.2 q39)) rfl) ?_
  refine l_val (v := Value.bool true) rfl (e_assign rfl) ?_
  refine l_nil ?_
  refine run_cond_t rfl rfl ?_
  refine run_seq ?_
  clear bx5
  clear bx10
  clear bx15
  clear o27
  refine run_region rfl ?_
  refine l_val (v := Value.agg (List.toArray [Value.int .i64 0, Value.slice none 0 0])) rfl (e_build (vs := []) rfl (by kernel_rfl)) ?_
  refine l_op rfl ?_
  replace bx20 := (bx20.chg ch29 (not_no _)).chg hb32 (not_no _)
  refine o_store_bx (cs' := [Value.int .i64 0, Value.slice none 0 0]) tp24_dd rfl rfl bx20 rfl (Nat.le_of_ble_eq_true rfl) (AllOne.all (.cons rfl (.cons rfl .nil))) rfl ?_
  intro w441 ch442 bx443
  clear bx20
  refine l_val (v := Value.slice none 0 0) rfl (e_assign rfl) ?_
  refine l_val (v := Value.int .i64 2) rfl (e_assign rfl) ?_
  refine l_nil ?_
  refine run_ret (vs := [Value.agg (List.toArray [Value.int .i64 0, Value.slice none 0 0]), Value.slice none 0 0, Value.int .i64 2]) Try.func30 (.cell rfl (load_bxN (ds := [Value.int .i64 0, Value.slice none 0 0]) tp24_dd bx443 rfl rfl) (.tmp rfl (.tmp rfl .nil))) ?_
  -- return 5
  have C444 : Chg (inl [4]) _ _ _ _ := (ch2.n).seq ((ch7.n).seq ((ch12.n).seq ((ch17.n).seq ((ch29.n).seq ((hb32.n).seq (ch442.l rfl))))))
  replace hbase := hbase.chg C444 (is_nl rfl)
  have e0 : ((0, []) : (Int) × (List ((Int) × (Int)))) = ((layR g r a b).1) := by
    first
      | (rw [layR_no (by assumption)]; done)
      | (rw [layR_bd (by assumption) (by first | exact .inl (by assumption) | exact .inr (by assumption))]; done)
      | (rw [layR_lim (by assumption) (by assumption) (by assumption) (by assumption)]; done)
      | (rw [layR_gen (by assumption) (by assumption) (by assumption) (by assumption) (by assumption) (by assumption)]; done)
      | (rw [layR_ok (by assumption) (by assumption) (by assumption) (by assumption) (by first | assumption | exact .inl (by assumption) | exact .inr (by assumption))]
         first
           | done
           | (unfold laidS; rw [if_pos (by assumption)]; done)
           | (unfold laidS; rw [if_neg (by assumption)]; done)
           | (unfold laidS; rw [if_pos (by assumption)]; rfl)
           | (unfold laidS; rw [if_neg (by assumption)]; rfl))
  have e1 : ([] : List (List Int)) = ((layR g r a b).2.1) := by
    first
      | (rw [layR_no (by assumption)]; done)
      | (rw [layR_bd (by assumption) (by first | exact .inl (by assumption) | exact .inr (by assumption))]; done)
      | (rw [layR_lim (by assumption) (by assumption) (by assumption) (by assumption)]; done)
      | (rw [layR_gen (by assumption) (by assumption) (by assumption) (by assumption) (by assumption) (by assumption)]; done)
      | (rw [layR_ok (by assumption) (by assumption) (by assumption) (by assumption) (by first | assumption | exact .inl (by assumption) | exact .inr (by assumption))]
         first
           | done
           | (unfold laidS; rw [if_pos (by assumption)]; done)
           | (unfold laidS; rw [if_neg (by assumption)]; done)
           | (unfold laidS; rw [if_pos (by assumption)]; rfl)
           | (unfold laidS; rw [if_neg (by assumption)]; rfl))
  have e2 : (2 : Int) = ((layR g r a b).2.2) := by
    first
      | (rw [layR_no (by assumption)]; done)
      | (rw [layR_bd (by assumption) (by first | exact .inl (by assumption) | exact .inr (by assumption))]; done)
      | (rw [layR_lim (by assumption) (by assumption) (by assumption) (by assumption)]; done)
      | (rw [layR_gen (by assumption) (by assumption) (by assumption) (by assumption) (by assumption) (by assumption)]; done)
      | (rw [layR_ok (by assumption) (by assumption) (by assumption) (by assumption) (by first | assumption | exact .inl (by assumption) | exact .inr (by assumption))]
         first
           | done
           | (unfold laidS; rw [if_pos (by assumption)]; done)
           | (unfold laidS; rw [if_neg (by assumption)]; done)
           | (unfold laidS; rw [if_pos (by assumption)]; rfl)
           | (unfold laidS; rw [if_neg (by assumption)]; rfl))
  exact ⟨(fin w0 g28 (fun n => 0), (Value.slice none 0 0), (Value.slice none 0 0)), (congr3 (a := (0, [])) (b := []) (c := 2) (fun (z0 : (Int) × (List ((Int) × (Int)))) (z1 : List (List Int)) (z2 : Int) => Ending.returned (Value.tuple (List.toArray [Value.agg (List.toArray [Value.int .i64 z0.1, Value.slice none 0 0]), Value.slice none 0 0, Value.int .i64 z2]))) e0 e1 e2), hbase.fresh _, ((congrArg (fun (z : (Int) × (List ((Int) × (Int)))) => z.2) e0) ▸ Ow.nil), (e1 ▸ Nst.nil)⟩
 refine run_cond_t rfl (congrArg Bool.not (decide_eq_false p2)) ?_
 refine run_seq ?_
 clear bx5
 clear bx10
 clear bx15
 clear o27
 refine run_region rfl ?_
 refine l_val (v := Value.agg (List.toArray [Value.int .i64 0, Value.slice none 0 0])) rfl (e_build (vs := []) rfl (by kernel_rfl)) ?_
 refine l_val (v := Value.int .i64 ((facesR g r).2)) rfl (e_move rfl) ?_
 refine l_op rfl ?_
 replace bx20 := bx20.chg ch29 (not_no _)
 refine o_store_bx (cs' := [Value.int .i64 0, Value.slice none 0 0]) tp24_dd rfl rfl bx20 rfl (Nat.le_of_ble_eq_true rfl) (AllOne.all (.cons rfl (.cons rfl .nil))) rfl ?_
 intro w445 ch446 bx447
 clear bx20
 refine l_val (v := Value.slice none 0 0) rfl (e_assign rfl) ?_
 refine l_val (v := Value.int .i64 ((facesR g r).2)) rfl (e_assign rfl) ?_
 refine l_nil ?_
 refine run_ret (vs := [Value.agg (List.toArray [Value.int .i64 0, Value.slice none 0 0]), Value.slice none 0 0, Value.int .i64 ((facesR g r).2)]) Try.func30 (.cell rfl (load_bxN (ds := [Value.int .i64 0, Value.slice none 0 0]) tp24_dd bx447 rfl rfl) (.tmp rfl (.tmp rfl .nil))) ?_
 -- return 6
 have C448 : Chg (inl [4]) _ _ _ _ := (ch2.n).seq ((ch7.n).seq ((ch12.n).seq ((ch17.n).seq ((ch29.n).seq (ch446.l rfl)))))
 replace hbase := hbase.chg C448 (is_nl rfl)
 have e0 : ((0, []) : (Int) × (List ((Int) × (Int)))) = ((layR g r a b).1) := by
   first
     | (rw [layR_no (by assumption)]; done)
     | (rw [layR_bd (by assumption) (by first | exact .inl (by assumption) | exact .inr (by assumption))]; done)
     | (rw [layR_lim (by assumption) (by assumption) (by assumption) (by assumption)]; done)
     | (rw [layR_gen (by assumption) (by assumption) (by assumption) (by assumption) (by assumption) (by assumption)]; done)
     | (rw [layR_ok (by assumption) (by assumption) (by assumption) (by assumption) (by first | assumption | exact .inl (by assumption) | exact .inr (by assumption))]
        first
          | done
          | (unfold laidS; rw [if_pos (by assumption)]; done)
          | (unfold laidS; rw [if_neg (by assumption)]; done)
          | (unfold laidS; rw [if_pos (by assumption)]; rfl)
          | (unfold laidS; rw [if_neg (by assumption)]; rfl))
 have e1 : ([] : List (List Int)) = ((layR g r a b).2.1) := by
   first
     | (rw [layR_no (by assumption)]; done)
     | (rw [layR_bd (by assumption) (by first | exact .inl (by assumption) | exact .inr (by assumption))]; done)
     | (rw [layR_lim (by assumption) (by assumption) (by assumption) (by assumption)]; done)
     | (rw [layR_gen (by assumption) (by assumption) (by assumption) (by assumption) (by assumption) (by assumption)]; done)
     | (rw [layR_ok (by assumption) (by assumption) (by assumption) (by assumption) (by first | assumption | exact .inl (by assumption) | exact .inr (by assumption))]
        first
          | done
          | (unfold laidS; rw [if_pos (by assumption)]; done)
          | (unfold laidS; rw [if_neg (by assumption)]; done)
          | (unfold laidS; rw [if_pos (by assumption)]; rfl)
          | (unfold laidS; rw [if_neg (by assumption)]; rfl))
 have e2 : ((facesR g r).2 : Int) = ((layR g r a b).2.2) := by
   first
     | (rw [layR_no (by assumption)]; done)
     | (rw [layR_bd (by assumption) (by first | exact .inl (by assumption) | exact .inr (by assumption))]; done)
     | (rw [layR_lim (by assumption) (by assumption) (by assumption) (by assumption)]; done)
     | (rw [layR_gen (by assumption) (by assumption) (by assumption) (by assumption) (by assumption) (by assumption)]; done)
     | (rw [layR_ok (by assumption) (by assumption) (by assumption) (by assumption) (by first | assumption | exact .inl (by assumption) | exact .inr (by assumption))]
        first
          | done
          | (unfold laidS; rw [if_pos (by assumption)]; done)
          | (unfold laidS; rw [if_neg (by assumption)]; done)
          | (unfold laidS; rw [if_pos (by assumption)]; rfl)
          | (unfold laidS; rw [if_neg (by assumption)]; rfl))
 exact ⟨(fin w0 g28 (fun n => 0), (Value.slice none 0 0), (Value.slice none 0 0)), (congr3 (a := (0, [])) (b := []) (c := (facesR g r).2) (fun (z0 : (Int) × (List ((Int) × (Int)))) (z1 : List (List Int)) (z2 : Int) => Ending.returned (Value.tuple (List.toArray [Value.agg (List.toArray [Value.int .i64 z0.1, Value.slice none 0 0]), Value.slice none 0 0, Value.int .i64 z2]))) e0 e1 e2), hbase.fresh _, ((congrArg (fun (z : (Int) × (List ((Int) × (Int)))) => z.2) e0) ▸ Ow.nil), (e1 ▸ Nst.nil)⟩
end TL
