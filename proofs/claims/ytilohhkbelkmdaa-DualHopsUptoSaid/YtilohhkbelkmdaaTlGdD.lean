import Derived.Test.YtilohhkbelkmdaaTlGdA
import Derived.Test.YtilohhkbelkmdaaTlGenO
import Derived.Test.YtilohhkbelkmdaaTlGenZ
import Derived.Test.YtilohhkbelkmdaaTlInsA
import Derived.Test.YtilohhkbelkmdaaTlP3
import Derived.Test.YtilohhkbelkmdaaProg
set_option linter.all false
set_option maxRecDepth 20000
namespace TL
open Go Go.Proofs
theorem mixed_dd : Try.prog.follows .mixedOrders = true := by kernel_rfl
theorem tp3_dd : Tp Try.prog 3 false 1 8 (.int .i64 0) := Tp.of (by kernel_rfl)
theorem tp22_dd : Tp Try.prog 22 false 1 24 (.slice none 0 0) := Tp.of (by kernel_rfl)
theorem tp24_dd : Tp Try.prog 24 true 2 32 (.agg #[.int .i64 0, .slice none 0 0]) := Tp.of (by kernel_rfl)
theorem tp27_dd : Tp Try.prog 27 false 1 24 (.slice none 0 0) := Tp.of (by kernel_rfl)
theorem tp55_dd : Tp Try.prog 55 true 2 16 (.agg #[.int .i64 0, .int .i64 0]) := Tp.of (by kernel_rfl)
theorem tp60_dd : Tp Try.prog 60 true 2 16 (.agg #[.int .i64 0, .int .i64 0]) := Tp.of (by kernel_rfl)
theorem bd47_dd : Try.f47.body.isNone = false := rfl
theorem nm47_dd : (Try.f47.name == "runtime.NumGoroutine") = false := by decide +kernel
theorem bd54_dd : Try.f54.body.isNone = false := rfl
theorem nm54_dd : (Try.f54.name == "runtime.NumGoroutine") = false := by decide +kernel
theorem bd55_dd : Try.f55.body.isNone = false := rfl
theorem nm55_dd : (Try.f55.name == "runtime.NumGoroutine") = false := by decide +kernel
theorem bd70_dd : Try.f70.body.isNone = false := rfl
theorem nm70_dd : (Try.f70.name == "runtime.NumGoroutine") = false := by decide +kernel
theorem bd71_dd : Try.f71.body.isNone = false := rfl
theorem nm71_dd : (Try.f71.name == "runtime.NumGoroutine") = false := by decide +kernel
theorem bd73_dd : Try.f73.body.isNone = false := rfl
theorem nm73_dd : (Try.f73.name == "runtime.NumGoroutine") = false := by decide +kernel
theorem bd74_dd : Try.f74.body.isNone = false := rfl
theorem nm74_dd : (Try.f74.name == "runtime.NumGoroutine") = false := by decide +kernel
theorem bd75_dd : Try.f75.body.isNone = false := rfl
theorem nm75_dd : (Try.f75.name == "runtime.NumGoroutine") = false := by decide +kernel
theorem bd76_dd : Try.f76.body.isNone = false := rfl
theorem nm76_dd : (Try.f76.name == "runtime.NumGoroutine") = false := by decide +kernel
theorem bd77_dd : Try.f77.body.isNone = false := rfl
theorem nm77_dd : (Try.f77.name == "runtime.NumGoroutine") = false := by decide +kernel
theorem bd100_dd : Try.f100.body.isNone = false := rfl
theorem nm100_dd : (Try.f100.name == "runtime.NumGoroutine") = false := by decide +kernel
set_option maxHeartbeats 1000000 in
theorem Lay_ok (w0 : World) (g : (Int) × (List ((Int) × (Int)))) (g_v : Value) (hg_v : Ro w0 g_v g.2) (r : List (List Int)) (r_v : Value) (hr_v : Ro w0 r_v r) (a : (Int) × (Int)) (b : (Int) × (Int)) :
    Calls Try.prog 30 #[Value.agg (List.toArray [Value.int .i64 g.1, g_v]), r_v, Value.agg (List.toArray [Value.int .i64 a.1, Value.int .i64 a.2]), Value.agg (List.toArray [Value.int .i64 b.1, Value.int .i64 b.2])] w0 (fun ee w => ∃ xx : Cmap × Value × Value, ee = .returned ((fun ⟨δ, rv0, rv1⟩ => Value.tuple (List.toArray [Value.agg (List.toArray [Value.int .i64 (((layR g r a b).1).1), rv0]), rv1, Value.int .i64 ((layR g r a b).2.2)])) xx) ∧ (fun (⟨δ, rv0, rv1⟩ : Cmap × Value × Value) (w : World) => Fresh w0 δ w ∧ Ow δ (is 1) (is 1) w rv0 (((layR g r a b).1).2) ∧ Nst δ 2 w rv1 ((layR g r a b).2.1)) xx w) := by
 refine calls_of_run Try.func30 rfl (Nat.le_of_ble_eq_true rfl) ?_
 have hbase := Base.start w0
 have r_g_v := hg_v.sl
 have r_r_v := hr_v.sl
 refine run_seq (run_region rfl (l_op rfl ?_))
 refine o_box c0 (is 1) (1, 0) rfl rfl ?_
 intro g4 w1 b3 ch2 bx5
 replace bx5 : Bx g4 (is 1) w1 b3 [Value.int .i64 g.1, g_v] := bx5
 refine l_op rfl ?_
 refine o_box g4 (is 2) (2, 0) rfl rfl ?_
 intro g9 w6 b8 ch7 bx10
 replace bx10 : Bx g9 (is 2) w6 b8 [Value.int .i64 a.1, Value.int .i64 a.2] := bx10
 refine l_op rfl ?_
 refine o_box g9 (is 3) (3, 0) rfl rfl ?_
 intro g14 w11 b13 ch12 bx15
 replace bx15 : Bx g14 (is 3) w11 b13 [Value.int .i64 b.1, Value.int .i64 b.2] := bx15
 refine l_op rfl ?_
 refine o_alloc g14 (is 4) (4, 0) rfl tp24_dd ?_
 intro g19 w16 b18 ch17 bx20
 replace bx20 : Bx g19 (is 4) w16 b18 [Value.int .i64 0, Value.slice none 0 0] := bx20
 refine l_val (v := Value.slice none 0 0) rfl (e_assign rfl) ?_
 refine l_val (v := Value.int .i64 0) rfl (e_assign rfl) ?_
 refine l_nil (run_seq (run_region rfl ?_))
 have C21 : Chg (inl []) _ _ _ _ := (ch7.n).seq ((ch12.n).seq (ch17.n))
 replace bx5 := bx5.chg C21 (is_nl rfl)
 refine l_val (v := Value.agg (List.toArray [Value.int .i64 g.1, g_v])) rfl (e_load_bxN (ds := [Value.int .i64 g.1, g_v]) tp24_dd rfl bx5 rfl rfl) ?_
 refine l_val (v := r_v) rfl (e_move rfl) ?_
 have C22 : Chg (inl []) _ _ _ _ := (ch2.n).seq ((ch7.n).seq ((ch12.n).seq (ch17.n)))
 replace r_g_v := r_g_v.chg C22 (is_nl rfl)
 replace r_r_v := r_r_v.chg C22 (is_nl rfl)
 refine l_op rfl ?_
 refine o_callx (e_call (vals := [Value.agg (List.toArray [Value.int .i64 g.1, g_v]), r_v]) Try.func47 bd47_dd nm47_dd rfl) (Faces_ok w16 g g_v (r_g_v).ro r r_v (r_r_v).ro) ?_
 rintro ⟨d24, v26⟩ w23 ⟨fr25, o27⟩
 obtain ⟨g28, hg28⟩ : ∃ q, q = glue w16.heap.size g19 d24 (fun n => if n = 1 then 5 else 0) := ⟨_, rfl⟩
 have ch29 := chg_glue fr25.below g19 d24 (fun n => if n = 1 then 5 else 0)
 rw [← hg28] at ch29
 replace o27 := o27.glue (γ := g19) (ren := (fun n => if n = 1 then 5 else 0)) (k := 5) fr25.col rfl rfl
 rw [← hg28] at o27
 clear hg28
 refine l_val (v := Value.tuple (List.toArray [v26, Value.int .i64 ((facesR g r).2)])) rfl (e_move rfl) ?_
 refine l_val (v := v26) rfl (e_extract rfl rfl) ?_
 refine l_val (v := Value.int .i64 ((facesR g r).2)) rfl (e_extract rfl rfl) ?_
 refine l_val (v := v26) rfl (e_assign rfl) ?_
 refine l_val (v := Value.int .i64 ((facesR g r).2)) rfl (e_assign rfl) ?_
 refine l_nil (run_seq ?_)
 refine run_block ?_
 refine run_seq (run_region rfl ?_)
 refine l_val (v := Value.int .i64 ((facesR g r).2)) rfl (e_move rfl) ?_
 refine l_val (v := Value.bool (!(decide (((facesR g r).2) = 0)))) rfl (e_neq (m := (facesR g r).2) (n := 0) rfl rfl) ?_
 refine l_val (v := Value.bool (!(decide (((facesR g r).2) = 0)))) rfl (e_assign rfl) ?_
 refine l_nil ?_
 by_cases p2 : ((facesR g r).2) = 0
 ·
  obtain ⟨hm, hrp⟩ := rmay_ok (facesR_may p2)
  have hm0 := hm
  obtain ⟨hm1, hm2, hm3, hm4⟩ := hm0
  have hrl := hrp.1
  have hFe := facesR_yes (rmay_yes hm hrp)
  have hOe := ofR_yes (rmay_yes hm hrp)
  have hFl := facesR_len g r hm hrp
  have hol0 : ((ofR g r).1.length : Int) = 2 * (g.2.length : Int) := by rw [hOe]; exact ofS_len g r
  refine run_cond_f rfl (congrArg Bool.not (decide_eq_true p2)) ?_
  refine run_seq (run_region rfl ?_)
  replace bx5 := bx5.chg ch29 (not_no _)
  refine l_val (v := Value.agg (List.toArray [Value.int .i64 g.1, g_v])) rfl (e_load_bxN (ds := [Value.int .i64 g.1, g_v]) tp24_dd rfl bx5 rfl rfl) ?_
  refine l_val (v := r_v) rfl (e_move rfl) ?_
  have C30 : Chg (inl []) _ _ _ _ := (ch12.n).seq ((ch17.n).seq (ch29.n))
  replace bx10 := bx10.chg C30 (is_nl rfl)
  refine l_val (v := Value.agg (List.toArray [Value.int .i64 a.1, Value.int .i64 a.2])) rfl (e_load_bxN (ds := [Value.int .i64 a.1, Value.int .i64 a.2]) tp55_dd rfl bx10 rfl rfl) ?_
  replace r_g_v := r_g_v.chg ch29 (not_no _)
  replace r_r_v := r_r_v.chg ch29 (not_no _)
  refine l_op rfl ?_
  refine o_call (v := Value.bool (decide (cornP g r a))) (e_call (vals := [Value.agg (List.toArray [Value.int .i64 g.1, g_v]), r_v, Value.agg (List.toArray [Value.int .i64 a.1, Value.int .i64 a.2])]) Try.func73 bd73_dd nm73_dd rfl) (corner_ok w23 g g_v (r_g_v).ro r r_v (r_r_v).ro a (by exact hm) (by exact hrp)) ?_
  intro w31 hb32
  replace hb32 := chg_below hb32 g28
  refine l_val (v := Value.bool (!(decide (cornP g r a)))) rfl (e_not (b := (decide (cornP g r a))) rfl) ?_
  refine l_val (v := Value.bool (!(decide (cornP g r a)))) rfl (e_move rfl) ?_
  by_cases q39 : (decide (cornP g r a)) = true
  ·
   replace bx5 := bx5.chg hb32 (not_no _)
   refine l_val (v := Value.agg (List.toArray [Value.int .i64 g.1, g_v])) (want_y rfl rfl rfl (congrArg Bool.not q39)) (e_load_bxN (ds := [Value.int .i64 g.1, g_v]) tp24_dd rfl bx5 rfl rfl) ?_
   refine l_val (v := r_v) (want_y rfl rfl rfl (congrArg Bool.not q39)) (e_move rfl) ?_
   have C33 : Chg (inl []) _ _ _ _ := (ch17.n).seq ((ch29.n).seq (hb32.n))
   replace bx15 := bx15.chg C33 (is_nl rfl)
   refine l_val (v := Value.agg (List.toArray [Value.int .i64 b.1, Value.int .i64 b.2])) (want_y rfl rfl rfl (congrArg Bool.not q39)) (e_load_bxN (ds := [Value.int .i64 b.1, Value.int .i64 b.2]) tp55_dd rfl bx15 rfl rfl) ?_
   replace r_g_v := r_g_v.chg hb32 (not_no _)
   replace r_r_v := r_r_v.chg hb32 (not_no _)
   refine l_op (want_y rfl rfl rfl (congrArg Bool.not q39)) ?_
   refine o_call (v := Value.bool (decide (cornP g r b))) (e_call (vals := [Value.agg (List.toArray [Value.int .i64 g.1, g_v]), r_v, Value.agg (List.toArray [Value.int .i64 b.1, Value.int .i64 b.2])]) Try.func73 bd73_dd nm73_dd rfl) (corner_ok w31 g g_v (r_g_v).ro r r_v (r_r_v).ro b (by exact hm) (by exact hrp)) ?_
   intro w34 hb35
   replace hb35 := chg_below hb35 g28
   refine l_val (v := Value.bool (!(decide (cornP g r b)))) (want_y rfl rfl rfl (congrArg Bool.not q39)) (e_not (b := (decide (cornP g r b))) rfl) ?_
   refine l_val (v := Value.bool (!(decide (cornP g r b)))) rfl (e_pick_f rfl (congrArg Bool.not q39) rfl) ?_
   refine l_val (v := Value.bool (!(decide (cornP g r b)))) rfl (e_assign rfl) ?_
   refine l_nil ?_
   by_cases p4 : (decide (cornP g r b)) = true
   ·
    refine run_cond_f rfl (congrArg Bool.not p4) ?_
    refine run_seq (run_region rfl ?_)
    refine l_val (v := Value.pointer (some ⟨b3, 1, none⟩)) rfl (e_fieldAddr Try.underlying24 rfl rfl rfl rfl) ?_
    replace bx5 := bx5.chg hb35 (not_no _)
    refine l_val (v := g_v) rfl (e_load_bx1 tp22_dd rfl bx5 rfl) ?_
    replace r_g_v := r_g_v.chg hb35 (not_no _)
    have len36 := (r_g_v).small
    refine l_val (v := Value.int .i64 (List.length g.2 : Int)) rfl (e_len Try.underlying22 rfl r_g_v) ?_
    refine l_val (v := Value.bool (decide (3072 ≤ (List.length g.2 : Int)))) rfl (e_geq (m := (List.length g.2 : Int)) (n := 3072) rfl rfl) ?_
    refine l_val (v := Value.bool (decide (3072 ≤ (List.length g.2 : Int)))) rfl (e_assign rfl) ?_
    refine l_nil ?_
    by_cases p6 : 3072 ≤ (List.length g.2 : Int)
    ·
     refine run_cond_t rfl (decide_eq_true p6) ?_
     refine run_seq ?_
     clear bx5
     clear bx10
     clear bx15
     clear o27
     refine run_region rfl ?_
     refine l_val (v := Value.agg (List.toArray [Value.int .i64 0, Value.slice none 0 0])) rfl (e_build (vs := []) rfl (by kernel_rfl)) ?_
     refine l_op rfl ?_
     have C40 : Chg (inl []) _ _ _ _ := (ch29.n).seq ((hb32.n).seq (hb35.n))
     replace bx20 := bx20.chg C40 (is_nl rfl)
     refine o_store_bx (cs' := [Value.int .i64 0, Value.slice none 0 0]) tp24_dd rfl rfl bx20 rfl (Nat.le_of_ble_eq_true rfl) (AllOne.all (.cons rfl (.cons rfl .nil))) rfl ?_
     intro w37 ch38 bx39
     clear bx20
     refine l_val (v := Value.slice none 0 0) rfl (e_assign rfl) ?_
     refine l_val (v := Value.int .i64 3) rfl (e_assign rfl) ?_
     refine l_nil ?_
     refine run_ret (vs := [Value.agg (List.toArray [Value.int .i64 0, Value.slice none 0 0]), Value.slice none 0 0, Value.int .i64 3]) Try.func30 (.cell rfl (load_bxN (ds := [Value.int .i64 0, Value.slice none 0 0]) tp24_dd bx39 rfl rfl) (.tmp rfl (.tmp rfl .nil))) ?_
     -- return 0
     have C41 : Chg (inl [4]) _ _ _ _ := (ch2.n).seq ((ch7.n).seq ((ch12.n).seq ((ch17.n).seq ((ch29.n).seq ((hb32.n).seq ((hb35.n).seq (ch38.l rfl)))))))
     replace hbase := hbase.chg C41 (is_nl rfl)
     have e0 : ((0, []) : (Int) × (List ((Int) × (Int)))) = ((layR g r a b).1) := by
       first
         | (rw [layR_no (by assumption)]; done)
         | (rw [layR_bd (by assumption) (by first | exact .inl (by assumption) | exact .inr (by assumption))]; done)
         | (rw [layR_lim (by assumption) (by assumption) (by assumption) (by assumption)]; done)
         | (rw [layR_gen (by assumption) (by assumption) (by assumption) (by assumption) (by assumption) (by assumption)]; done)
         | (rw [layR_ok (by assumption) (by assumption) (by assumption) (by assumption) (by first | exact .inl (by assumption) | exact .inr (by assumption))]
            first
              | done
              | (unfold laidS; rw [if_pos (by assumption)]; done)
              | (unfold laidS; rw [if_neg (by assumption)]; done)
              | (unfold laidS; rw [if_pos (by assumption)]; rfl)
              | (unfold laidS; rw [if_neg (by assumption)]; rfl))
     have e1 : ([] : List (List Int)) = ((layR g r a b).2.1) := by
       first
         | (rw [layR_no (by assumption)]; done)
         | (rw [layR_bd (by assumption) (by first | exact .inl (by assumption) | exact .inr (by assumption))]; done)
         | (rw [layR_lim (by assumption) (by assumption) (by assumption) (by assumption)]; done)
         | (rw [layR_gen (by assumption) (by assumption) (by assumption) (by assumption) (by assumption) (by assumption)]; done)
         | (rw [layR_ok (by assumption) (by assumption) (by assumption) (by assumption) (by first | exact .inl (by assumption) | exact .inr (by assumption))]
            first
              | done
              | (unfold laidS; rw [if_pos (by assumption)]; done)
              | (unfold laidS; rw [if_neg (by assumption)]; done)
              | (unfold laidS; rw [if_pos (by assumption)]; rfl)
              | (unfold laidS; rw [if_neg (by assumption)]; rfl))
     have e2 : (3 : Int) = ((layR g r a b).2.2) := by
       first
         | (rw [layR_no (by assumption)]; done)
         | (rw [layR_bd (by assumption) (by first | exact .inl (by assumption) | exact .inr (by assumption))]; done)
         | (rw [layR_lim (by assumption) (by assumption) (by assumption) (by assumption)]; done)
         | (rw [layR_gen (by assumption) (by assumption) (by assumption) (by assumption) (by assumption) (by assumption)]; done)
         | (rw [layR_ok (by assumption) (by assumption) (by assumption) (by assumption) (by first | exact .inl (by assumption) | exact .inr (by assumption))]
            first
              | done
              | (unfold laidS; rw [if_pos (by assumption)]; done)
              | (unfold laidS; rw [if_neg (by assumption)]; done)
              | (unfold laidS; rw [if_pos (by assumption)]; rfl)
              | (unfold laidS; rw [if_neg (by assumption)]; rfl))
     exact ⟨(fin w0 g28 (fun n => 0), (Value.slice none 0 0), (Value.slice none 0 0)), (congr3 (a := (0, [])) (b := []) (c := 3) (fun (z0 : (Int) × (List ((Int) × (Int)))) (z1 : List (List Int)) (z2 : Int) => Ending.returned (Value.tuple (List.toArray [Value.agg (List.toArray [Value.int .i64 z0.1, Value.slice none 0 0]), Value.slice none 0 0, Value.int .i64 z2]))) e0 e1 e2), hbase.fresh _, ((congrArg (fun (z : (Int) × (List ((Int) × (Int)))) => z.2) e0) ▸ Ow.nil), (e1 ▸ Nst.nil)⟩
    refine run_cond_f rfl (decide_eq_false p6) ?_
    refine run_skip ?_
    refine run_inBlock ?_
    refine run_seq (run_region rfl ?_)
    refine l_val (v := Value.agg (List.toArray [Value.int .i64 g.1, g_v])) rfl (e_load_bxN (ds := [Value.int .i64 g.1, g_v]) tp24_dd rfl bx5 rfl rfl) ?_
    refine l_val (v := r_v) rfl (e_move rfl) ?_
    replace r_r_v := r_r_v.chg hb35 (not_no _)
    refine l_op rfl ?_
    refine o_callx (e_call (vals := [Value.agg (List.toArray [Value.int .i64 g.1, g_v]), r_v]) Try.func54 bd54_dd nm54_dd rfl) (ROf_ok w34 g g_v (r_g_v).ro r r_v (r_r_v).ro) ?_
    rintro ⟨d43, v45⟩ w42 ⟨fr44, o46⟩
    obtain ⟨g47, hg47⟩ : ∃ q, q = glue w34.heap.size g28 d43 (fun n => if n = 1 then 6 else 0) := ⟨_, rfl⟩
    have ch48 := chg_glue fr44.below g28 d43 (fun n => if n = 1 then 6 else 0)
    rw [← hg47] at ch48
    replace o46 := o46.glue (γ := g28) (ren := (fun n => if n = 1 then 6 else 0)) (k := 6) fr44.col rfl rfl
    rw [← hg47] at o46
    clear hg47
    refine l_val (v := Value.tuple (List.toArray [v45, Value.int .i64 ((ofR g r).2)])) rfl (e_move rfl) ?_
    refine l_val (v := v45) rfl (e_extract rfl rfl) ?_
    refine l_val (v := Value.int .i64 ((ofR g r).2)) rfl (e_extract rfl rfl) ?_
    refine l_val (v := v45) rfl (e_assign rfl) ?_
    refine l_val (v := Value.int .i64 ((ofR g r).2)) rfl (e_assign rfl) ?_
    refine l_nil (run_seq (run_region rfl ?_))
    replace bx5 := bx5.chg ch48 (not_no _)
    refine l_val (v := Value.agg (List.toArray [Value.int .i64 g.1, g_v])) rfl (e_load_bxN (ds := [Value.int .i64 g.1, g_v]) tp24_dd rfl bx5 rfl rfl) ?_
    replace r_g_v := r_g_v.chg ch48 (not_no _)
    refine l_op rfl ?_
    refine o_callx (e_call (vals := [Value.agg (List.toArray [Value.int .i64 g.1, g_v])]) Try.func74 bd74_dd nm74_dd rfl) (Parts_ok w42 g g_v (r_g_v).ro) ?_
    rintro ⟨d50, v52⟩ w49 ⟨fr51, o53⟩
    obtain ⟨g54, hg54⟩ : ∃ q, q = glue w42.heap.size g47 d50 (fun n => if n = 1 then 7 else 0) := ⟨_, rfl⟩
    have ch55 := chg_glue fr51.below g47 d50 (fun n => if n = 1 then 7 else 0)
    rw [← hg54] at ch55
    replace o53 := o53.glue (γ := g47) (ren := (fun n => if n = 1 then 7 else 0)) (k := 7) fr51.col rfl rfl
    rw [← hg54] at o53
    clear hg54
    refine l_val (v := Value.tuple (List.toArray [v52, Value.int .i64 ((partsR g).2.1), Value.int .i64 ((partsR g).2.2)])) rfl (e_move rfl) ?_
    refine l_val (v := v52) rfl (e_extract rfl rfl) ?_
    refine l_val (v := Value.int .i64 ((partsR g).2.1)) rfl (e_extract rfl rfl) ?_
    refine l_val (v := Value.int .i64 ((partsR g).2.2)) rfl (e_extract rfl rfl) ?_
    refine l_val (v := v52) rfl (e_assign rfl) ?_
    refine l_val (v := Value.int .i64 ((partsR g).2.1)) rfl (e_assign rfl) ?_
    refine l_val (v := Value.int .i64 ((partsR g).2.2)) rfl (e_assign rfl) ?_
    refine l_nil (run_seq (run_region rfl ?_))
    refine l_val (v := v26) rfl (e_move rfl) ?_
    have C56 : Chg (inl []) _ _ _ _ := (hb32.n).seq ((hb35.n).seq ((ch48.n).seq (ch55.n)))
    replace o27 := o27.chg C56 (is_nl rfl)
    refine l_op rfl ?_
    refine o_call (v := Value.int .i64 (filledS ((facesR g r).1))) (e_call (vals := [v26]) Try.func75 bd75_dd nm75_dd rfl) (dfilled_ok w49 ((facesR g r).1) v26 (o27.sl).ro (by omega)) ?_
    intro w57 hb58
    replace hb58 := chg_below hb58 g54
    refine l_val (v := Value.int .i64 (filledS ((facesR g r).1))) rfl (e_assign rfl) ?_
    refine l_nil (run_seq (run_seq ?_))
    clear o27
    obtain ⟨hca1, hca2, hca3, hca4⟩ := corn_pre hm hrp (c := a) (of_decide_eq_true (by assumption))
    obtain ⟨hcb1, hcb2, hcb3, hcb4⟩ := corn_pre hm hrp (c := b) (of_decide_eq_true (by assumption))
    have hca0 := hca1.1
    have hca9 := hca1.2
    have hcb0 := hcb1.1
    have hcb9 := hcb1.2
    have hpl := partsR_len hm
    have hfb := filled_le (facesR g r).1
    refine region_q g54 rfl mixed_dd (by kernel_rfl) ?_
    intro w60 ch59
    refine q_val (v := v52) rfl (fun w' hw' => e_move rfl) ?_
    refine q_val (v := Value.pointer (some ⟨b8, 0, none⟩)) rfl (fun w' hw' => e_fieldAddr Try.underlying55 rfl rfl rfl rfl) ?_
    have C61 : Chg (inl []) _ _ _ _ := (hb32.n).seq ((hb35.n).seq ((ch48.n).seq ((ch55.n).seq ((hb58.n).seq (ch59.n)))))
    replace bx10 := bx10.chg C61 (is_nl rfl)
    refine q_val (v := Value.int .i64 a.1) rfl (fun w' hw' => e_load_bx1 tp3_dd rfl (bx10.bel hw') rfl) ?_
    replace o53 := (o53.chg hb58 (not_no _) (not_no _)).chg ch59 (not_no _) (not_no _)
    refine q_val (v := Value.pointer (some (eAddr v52 1 (Int.toNat a.1)))) rfl (fun w' hw' => e_indexAddr (α := Int) (xs := (partsR g).1) (v := v52) (i := a.1) Try.underlying27 rfl rfl (o53.flat.bel hw') rfl (by omega) (by omega)) ?_
    refine q_val (v := Value.int .i64 (gI ((partsR g).1) a.1)) rfl (fun w' hw' => e_load_el1 (α := Int) (xs := (partsR g).1) (v := v52) (i := a.1) tp3_dd rfl (o53.flat.bel hw') (by omega) (by omega) (by decide) rfl) ?_
    refine q_val (v := v52) rfl (fun w' hw' => e_move rfl) ?_
    refine q_val (v := Value.pointer (some ⟨b13, 0, none⟩)) rfl (fun w' hw' => e_fieldAddr Try.underlying55 rfl rfl rfl rfl) ?_
    have C62 : Chg (inl []) _ _ _ _ := (hb35.n).seq ((ch48.n).seq ((ch55.n).seq ((hb58.n).seq (ch59.n))))
    replace bx15 := bx15.chg C62 (is_nl rfl)
    refine q_val (v := Value.int .i64 b.1) rfl (fun w' hw' => e_load_bx1 tp3_dd rfl (bx15.bel hw') rfl) ?_
    refine q_val (v := Value.pointer (some (eAddr v52 1 (Int.toNat b.1)))) rfl (fun w' hw' => e_indexAddr (α := Int) (xs := (partsR g).1) (v := v52) (i := b.1) Try.underlying27 rfl rfl (o53.flat.bel hw') rfl (by omega) (by omega)) ?_
    refine q_val (v := Value.int .i64 (gI ((partsR g).1) b.1)) rfl (fun w' hw' => e_load_el1 (α := Int) (xs := (partsR g).1) (v := v52) (i := b.1) tp3_dd rfl (o53.flat.bel hw') (by omega) (by omega) (by decide) rfl) ?_
    refine q_val (v := Value.bool (decide ((gI ((partsR g).1) a.1) = (gI ((partsR g).1) b.1)))) rfl (fun w' hw' => e_eql (m := (gI ((partsR g).1) a.1)) (n := (gI ((partsR g).1) b.1)) rfl rfl) ?_
    refine q_val (v := Value.bool (decide ((gI ((partsR g).1) a.1) = (gI ((partsR g).1) b.1)))) rfl (fun w' hw' => e_move rfl) ?_
    by_cases q78 : (gI ((partsR g).1) a.1) = (gI ((partsR g).1) b.1)
    ·
     refine q_val (v := r_v) (want_y rfl rfl rfl (decide_eq_true q78)) (fun w' hw' => e_move rfl) ?_
     refine q_val (v := v45) (want_y rfl rfl rfl (decide_eq_true q78)) (fun w' hw' => e_move rfl) ?_
     refine q_val (v := Value.int .i64 (filledS ((facesR g r).1))) (want_y rfl rfl rfl (decide_eq_true q78)) (fun w' hw' => e_move rfl) ?_
     refine q_val (v := Value.agg (List.toArray [Value.int .i64 a.1, Value.int .i64 a.2])) (want_y rfl rfl rfl (decide_eq_true q78)) (fun w' hw' => e_load_bxN (ds := [Value.int .i64 a.1, Value.int .i64 a.2]) tp55_dd rfl (bx10.bel hw') rfl rfl) ?_
     have C63 : Chg (inl []) _ _ _ _ := (ch48.n).seq ((ch55.n).seq ((hb58.n).seq (ch59.n)))
     replace r_r_v := r_r_v.chg C63 (is_nl rfl)
     have C64 : Chg (inl []) _ _ _ _ := (ch55.n).seq ((hb58.n).seq (ch59.n))
     replace o46 := o46.chg C64 (is_nl rfl) (is_nl rfl)
     refine q_call (v := Value.int .i64 (cfaceS r ((ofR g r).1) (filledS ((facesR g r).1)) a)) (want_y rfl rfl rfl (decide_eq_true q78)) (fun w' hw' => e_call (vals := [r_v, v45, Value.int .i64 (filledS ((facesR g r).1)), Value.agg (List.toArray [Value.int .i64 a.1, Value.int .i64 a.2])]) Try.func76 bd76_dd nm76_dd rfl) (fun w' hw' => (face_ok w' r r_v ((r_r_v.bel hw')).ro ((ofR g r).1) v45 ((o46.flat.bel hw')).ro (filledS ((facesR g r).1)) a (by first | exact hca1 | exact hcb1) (by first | exact hca2 | exact hcb2) (by first | (rw [hol0]; exact hca3) | (rw [hol0]; exact hcb3)) (by omega) (by omega)).mono fun e w2 h2 => ⟨h2.1, hw'.trans (h2.2.mono hw'.size)⟩) ?_
     refine q_val (v := r_v) (want_y rfl rfl rfl (decide_eq_true q78)) (fun w' hw' => e_move rfl) ?_
     refine q_val (v := v45) (want_y rfl rfl rfl (decide_eq_true q78)) (fun w' hw' => e_move rfl) ?_
     refine q_val (v := Value.int .i64 (filledS ((facesR g r).1))) (want_y rfl rfl rfl (decide_eq_true q78)) (fun w' hw' => e_move rfl) ?_
     refine q_val (v := Value.agg (List.toArray [Value.int .i64 b.1, Value.int .i64 b.2])) (want_y rfl rfl rfl (decide_eq_true q78)) (fun w' hw' => e_load_bxN (ds := [Value.int .i64 b.1, Value.int .i64 b.2]) tp55_dd rfl (bx15.bel hw') rfl rfl) ?_
     refine q_call (v := Value.int .i64 (cfaceS r ((ofR g r).1) (filledS ((facesR g r).1)) b)) (want_y rfl rfl rfl (decide_eq_true q78)) (fun w' hw' => e_call (vals := [r_v, v45, Value.int .i64 (filledS ((facesR g r).1)), Value.agg (List.toArray [Value.int .i64 b.1, Value.int .i64 b.2])]) Try.func76 bd76_dd nm76_dd rfl) (fun w' hw' => (face_ok w' r r_v ((r_r_v.bel hw')).ro ((ofR g r).1) v45 ((o46.flat.bel hw')).ro (filledS ((facesR g r).1)) b (by first | exact hca1 | exact hcb1) (by first | exact hca2 | exact hcb2) (by first | (rw [hol0]; exact hca3) | (rw [hol0]; exact hcb3)) (by omega) (by omega)).mono fun e w2 h2 => ⟨h2.1, hw'.trans (h2.2.mono hw'.size)⟩) ?_
     refine q_val (v := Value.bool (!(decide ((cfaceS r ((ofR g r).1) (filledS ((facesR g r).1)) a) = (cfaceS r ((ofR g r).1) (filledS ((facesR g r).1)) b))))) (want_y rfl rfl rfl (decide_eq_true q78)) (fun w' hw' => e_neq (m := cfaceS r ((ofR g r).1) (filledS ((facesR g r).1)) a) (n := cfaceS r ((ofR g r).1) (filledS ((facesR g r).1)) b) rfl rfl) ?_
     refine q_val (v := Value.bool (!(decide ((cfaceS r ((ofR g r).1) (filledS ((facesR g r).1)) a) = (cfaceS r ((ofR g r).1) (filledS ((facesR g r).1)) b))))) rfl (fun w' hw' => e_pick_t rfl (decide_eq_true q78) rfl) ?_
     refine q_nil ?_
     intro w65 hc66
     replace hc66 := chg_below hc66 g54
     by_cases p11 : (cfaceS r ((ofR g r).1) (filledS ((facesR g r).1)) a) = (cfaceS r ((ofR g r).1) (filledS ((facesR g r).1)) b)
     ·
      refine run_cond_f rfl (congrArg Bool.not (decide_eq_true p11)) ?_
      refine run_skip ?_
      refine run_seq ?_
      clear o46
      clear o53
      refine region_midh (σ := Nat × Value × Cmap) (fun ⟨b90, v84, gq⟩ f w => Base w0 gq w ∧ f 1 = r_v ∧ f 4 = Value.pointer (some ⟨b3, 0, none⟩) ∧ f 6 = Value.pointer (some ⟨b8, 0, none⟩) ∧ f 7 = Value.pointer (some ⟨b13, 0, none⟩) ∧ f 8 = Value.pointer (some ⟨b18, 0, none⟩) ∧ f 19 = Value.pointer (some ⟨b90, 0, none⟩) ∧ Sl gq (is 0) w g_v g.2 ∧ Sl gq (is 0) w r_v r ∧ Bx gq (is 1) w b3 [Value.int .i64 g.1, g_v] ∧ Bx gq (is 2) w b8 [Value.int .i64 a.1, Value.int .i64 a.2] ∧ Bx gq (is 3) w b13 [Value.int .i64 b.1, Value.int .i64 b.2] ∧ Bx gq (is 4) w b18 [Value.int .i64 0, Value.slice none 0 0] ∧ Ow gq (is 8) (is 8) w v84 (g.2 ++ ([(a.1, b.1)] : List ((Int) × (Int)))) ∧ Bx gq (is 10) w b90 [Value.int .i64 g.1, v84]) g54 (inl [8, 10]) mixed_dd ?_ ?_
      ·
       intro mid
       intro w68 ch67
       refine h_take (v := Value.pointer (some ⟨b3, 0, none⟩)) 0 rfl (by kernel_rfl) (by kernel_rfl) rfl (Chg.refl _ _ _) (fun w' hw' => e_fieldAddr Try.underlying24 rfl rfl rfl rfl) ?_
       have C69 : Chg (inl []) _ _ _ _ := (ch55.n).seq ((hb58.n).seq ((ch59.n).seq ((hc66.n).seq (ch67.n))))
       replace bx5 := bx5.chg C69 (is_nl rfl)
       refine h_take (v := Value.int .i64 g.1) 1 rfl (by kernel_rfl) (by kernel_rfl) rfl (Chg.refl _ _ _) (fun w' hw' => e_load_bx1 tp3_dd rfl (bx5.chg hw' (is_nl rfl)) rfl) ?_
       refine h_take (v := Value.pointer (some ⟨b3, 1, none⟩)) 2 rfl (by kernel_rfl) (by kernel_rfl) rfl (Chg.refl _ _ _) (fun w' hw' => e_fieldAddr Try.underlying24 rfl rfl rfl rfl) ?_
       refine h_take (v := g_v) 3 rfl (by kernel_rfl) (by kernel_rfl) rfl (Chg.refl _ _ _) (fun w' hw' => e_load_bx1 tp22_dd rfl (bx5.chg hw' (is_nl rfl)) rfl) ?_
       refine h_take (v := Value.pointer (some ⟨b8, 0, none⟩)) 5 rfl (by kernel_rfl) (by kernel_rfl) rfl (Chg.refl _ _ _) (fun w' hw' => e_fieldAddr Try.underlying55 rfl rfl rfl rfl) ?_
       replace bx10 := (bx10.chg hc66 (not_no _)).chg ch67 (not_no _)
       refine h_take (v := Value.int .i64 a.1) 6 rfl (by kernel_rfl) (by kernel_rfl) rfl (Chg.refl _ _ _) (fun w' hw' => e_load_bx1 tp3_dd rfl (bx10.chg hw' (is_nl rfl)) rfl) ?_
       refine h_take (v := Value.pointer (some ⟨b13, 0, none⟩)) 7 rfl (by kernel_rfl) (by kernel_rfl) rfl (Chg.refl _ _ _) (fun w' hw' => e_fieldAddr Try.underlying55 rfl rfl rfl rfl) ?_
       replace bx15 := (bx15.chg hc66 (not_no _)).chg ch67 (not_no _)
       refine h_take (v := Value.int .i64 b.1) 8 rfl (by kernel_rfl) (by kernel_rfl) rfl (Chg.refl _ _ _) (fun w' hw' => e_load_bx1 tp3_dd rfl (bx15.chg hw' (is_nl rfl)) rfl) ?_
       refine h_take (v := Value.agg (List.toArray [Value.int .i64 a.1, Value.int .i64 b.1])) 9 rfl (by kernel_rfl) (by kernel_rfl) rfl (Chg.refl _ _ _) (fun w' hw' => e_build (vs := [(0, Value.int .i64 a.1), (1, Value.int .i64 b.1)]) rfl (by kernel_rfl)) ?_
       refine h_many 4 [10, 13] (by kernel_rfl) ⟨h_of 4 rfl (by kernel_rfl) rfl ?_, h_of 10 rfl (by kernel_rfl) rfl ?_, h_of 13 rfl (by kernel_rfl) rfl ?_, trivial⟩
       ·
        replace r_g_v := r_g_v.chg C69 (is_nl rfl)
        refine o_append (α := (Int) × (Int)) (xs := ([])) (ys := g.2) g54 (J := is 8) (S := is 8) (8, 0) rfl Try.underlying22 tp60_dd (by decide) rfl rfl rfl Ow.nil r_g_v (by decide) (by first | omega | (simp; done) | (simp; omega)) ?_
        intro g70 w71 v72 ch73 o74
        replace o74 : Ow g70 (is 8) (is 8) w71 v72 (g.2 : List ((Int) × (Int))) := o74
        have hs75 : Chg (inl [8, 10]) _ _ _ _ := ch73.l rfl
        refine ⟨hs75.same, ?_⟩
        refine h_many 10 [13] (by kernel_rfl) ⟨h_of 10 rfl (by kernel_rfl) rfl ?_, h_of 13 rfl (by kernel_rfl) rfl ?_, trivial⟩
        ·
         refine o_buildSlice (α := (Int) × (Int)) g70 (is 9) (is 9) (9, 0) rfl ([(a.1, b.1)] : List ((Int) × (Int))) Try.underlying22 tp60_dd (by decide) (by decide) (vs := [(0, Value.agg (List.toArray [Value.int .i64 a.1, Value.int .i64 b.1]))]) rfl rfl (.cons rfl .nil) ?_
         intro g76 w77 v78 ch79 o80
         have hs81 := hs75.seq (ch79.n)
         refine ⟨hs81.same, ?_⟩
         refine h_many 11 [13] (by kernel_rfl) ⟨h_of 11 rfl (by kernel_rfl) rfl ?_, h_of 13 rfl (by kernel_rfl) rfl ?_, trivial⟩
         ·
          replace o74 := o74.chg ch79 (not_no _) (not_no _)
          refine o_append (α := (Int) × (Int)) (xs := g.2) (ys := ([(a.1, b.1)] : List ((Int) × (Int)))) g76 (J := is 8) (S := is 8) (8, 0) rfl Try.underlying22 tp60_dd (by decide) rfl rfl rfl o74 o80.flat (by decide) (by first | omega | (simp; done) | (simp; omega)) ?_
          intro g82 w83 v84 ch85 o86
          clear o74
          have hs87 := hs81.seq (ch85.l rfl)
          refine ⟨hs87.same, ?_⟩
          refine h_take (v := Value.agg (List.toArray [Value.int .i64 g.1, v84])) 12 rfl (by kernel_rfl) (by kernel_rfl) rfl hs87.same (fun w' hw' => e_build (vs := [(0, Value.int .i64 g.1), (1, v84)]) rfl (by rw [Sl.form o86.flat]; kernel_rfl)) ?_
          refine h_one 13 rfl (by kernel_rfl) rfl ?_
          refine o_alloc g82 (is 10) (10, 0) rfl tp24_dd ?_
          intro g91 w88 b90 ch89 bx92
          replace bx92 : Bx g91 (is 10) w88 b90 [Value.int .i64 0, Value.slice none 0 0] := bx92
          have hs93 := hs87.seq (ch89.n)
          refine ⟨hs93.same, ?_⟩
          refine h_one 14 rfl (by kernel_rfl) rfl ?_
          replace o86 := o86.chg ch89 (not_no _) (not_no _)
          refine o_store_bx (cs' := [Value.int .i64 g.1, v84]) tp24_dd rfl rfl bx92 rfl (Nat.le_of_ble_eq_true rfl) (AllOne.all (.cons rfl (.cons (sl_one o86.flat) .nil))) rfl ?_
          intro w94 ch95 bx96
          clear bx92
          have hs97 := hs93.seq (ch95.l rfl)
          refine ⟨hs97.same, ?_⟩
          refine h_nil (by kernel_rfl) ?_
          have C98 : Chg (inl [8, 10]) _ _ _ _ := (ch2.n).seq ((ch7.n).seq ((ch12.n).seq ((ch17.n).seq ((ch29.n).seq ((hb32.n).seq ((hb35.n).seq ((ch48.n).seq ((ch55.n).seq ((hb58.n).seq ((ch59.n).seq ((hc66.n).seq ((ch67.n).seq ((ch73.l rfl).seq ((ch79.n).seq ((ch85.l rfl).seq ((ch89.n).seq (ch95.l rfl)))))))))))))))))
          replace hbase := hbase.chg C98 (is_nl rfl)
          replace r_r_v := (r_r_v.chg hc66 (not_no _)).chg ch67 (not_no _)
          have C99 : Chg (inl []) _ _ _ _ := (ch29.n).seq ((hb32.n).seq ((hb35.n).seq ((ch48.n).seq ((ch55.n).seq ((hb58.n).seq ((ch59.n).seq ((hc66.n).seq (ch67.n))))))))
          replace bx20 := bx20.chg C99 (is_nl rfl)
          replace o86 := o86.chg ch95 (is_ne rfl) (is_ne rfl)
          exact mid (b90, v84, g91) _ _ ⟨hbase, rfl, rfl, rfl, rfl, rfl, rfl, (r_g_v.chg hs97 (is_nl rfl)), (r_r_v.chg hs97 (is_nl rfl)), (bx5.chg hs97 (is_nl rfl)), (bx10.chg hs97 (is_nl rfl)), (bx15.chg hs97 (is_nl rfl)), (bx20.chg hs97 (is_nl rfl)), o86, bx96⟩
         ·
          refine o_alloc g76 (is 10) (10, 0) rfl tp24_dd ?_
          intro g103 w100 b102 ch101 bx104
          replace bx104 : Bx g103 (is 10) w100 b102 [Value.int .i64 0, Value.slice none 0 0] := bx104
          have hs105 := hs81.seq (ch101.n)
          refine ⟨hs105.same, ?_⟩
          refine h_one 11 rfl (by kernel_rfl) rfl ?_
          replace o80 := o80.chg ch101 (not_no _) (not_no _)
          replace o74 := (o74.chg ch79 (not_no _) (not_no _)).chg ch101 (not_no _) (not_no _)
          refine o_append (α := (Int) × (Int)) (xs := g.2) (ys := ([(a.1, b.1)] : List ((Int) × (Int)))) g103 (J := is 8) (S := is 8) (8, 0) rfl Try.underlying22 tp60_dd (by decide) rfl rfl rfl o74 o80.flat (by decide) (by first | omega | (simp; done) | (simp; omega)) ?_
          intro g106 w107 v108 ch109 o110
          clear o74
          have hs111 := hs105.seq (ch109.l rfl)
          refine ⟨hs111.same, ?_⟩
          refine h_take (v := Value.agg (List.toArray [Value.int .i64 g.1, v108])) 12 rfl (by kernel_rfl) (by kernel_rfl) rfl hs111.same (fun w' hw' => e_build (vs := [(0, Value.int .i64 g.1), (1, v108)]) rfl (by rw [Sl.form o110.flat]; kernel_rfl)) ?_
          refine h_one 14 rfl (by kernel_rfl) rfl ?_
          replace bx104 := bx104.chg ch109 (is_ne rfl)
          refine o_store_bx (cs' := [Value.int .i64 g.1, v108]) tp24_dd rfl rfl bx104 rfl (Nat.le_of_ble_eq_true rfl) (AllOne.all (.cons rfl (.cons (sl_one o110.flat) .nil))) rfl ?_
          intro w112 ch113 bx114
          clear bx104
          have hs115 := hs111.seq (ch113.l rfl)
          refine ⟨hs115.same, ?_⟩
          refine h_nil (by kernel_rfl) ?_
          have C116 : Chg (inl [8, 10]) _ _ _ _ := (ch2.n).seq ((ch7.n).seq ((ch12.n).seq ((ch17.n).seq ((ch29.n).seq ((hb32.n).seq ((hb35.n).seq ((ch48.n).seq ((ch55.n).seq ((hb58.n).seq ((ch59.n).seq ((hc66.n).seq ((ch67.n).seq ((ch73.l rfl).seq ((ch79.n).seq ((ch101.n).seq ((ch109.l rfl).seq (ch113.l rfl)))))))))))))))))
          replace hbase := hbase.chg C116 (is_nl rfl)
          replace r_r_v := (r_r_v.chg hc66 (not_no _)).chg ch67 (not_no _)
          have C117 : Chg (inl []) _ _ _ _ := (ch29.n).seq ((hb32.n).seq ((hb35.n).seq ((ch48.n).seq ((ch55.n).seq ((hb58.n).seq ((ch59.n).seq ((hc66.n).seq (ch67.n))))))))
          replace bx20 := bx20.chg C117 (is_nl rfl)
          replace o110 := o110.chg ch113 (is_ne rfl) (is_ne rfl)
          exact mid (b102, v108, g106) _ _ ⟨hbase, rfl, rfl, rfl, rfl, rfl, rfl, (r_g_v.chg hs115 (is_nl rfl)), (r_r_v.chg hs115 (is_nl rfl)), (bx5.chg hs115 (is_nl rfl)), (bx10.chg hs115 (is_nl rfl)), (bx15.chg hs115 (is_nl rfl)), (bx20.chg hs115 (is_nl rfl)), o110, bx114⟩
        ·
         refine o_alloc g70 (is 10) (10, 0) rfl tp24_dd ?_
         intro g121 w118 b120 ch119 bx122
         replace bx122 : Bx g121 (is 10) w118 b120 [Value.int .i64 0, Value.slice none 0 0] := bx122
         have hs123 := hs75.seq (ch119.n)
         refine ⟨hs123.same, ?_⟩
         refine h_one 10 rfl (by kernel_rfl) rfl ?_
         refine o_buildSlice (α := (Int) × (Int)) g121 (is 9) (is 9) (9, 0) rfl ([(a.1, b.1)] : List ((Int) × (Int))) Try.underlying22 tp60_dd (by decide) (by decide) (vs := [(0, Value.agg (List.toArray [Value.int .i64 a.1, Value.int .i64 b.1]))]) rfl rfl (.cons rfl .nil) ?_
         intro g124 w125 v126 ch127 o128
         have hs129 := hs123.seq (ch127.n)
         refine ⟨hs129.same, ?_⟩
         refine h_one 11 rfl (by kernel_rfl) rfl ?_
         replace o74 := (o74.chg ch119 (not_no _) (not_no _)).chg ch127 (not_no _) (not_no _)
         refine o_append (α := (Int) × (Int)) (xs := g.2) (ys := ([(a.1, b.1)] : List ((Int) × (Int)))) g124 (J := is 8) (S := is 8) (8, 0) rfl Try.underlying22 tp60_dd (by decide) rfl rfl rfl o74 o128.flat (by decide) (by first | omega | (simp; done) | (simp; omega)) ?_
         intro g130 w131 v132 ch133 o134
         clear o74
         have hs135 := hs129.seq (ch133.l rfl)
         refine ⟨hs135.same, ?_⟩
         refine h_take (v := Value.agg (List.toArray [Value.int .i64 g.1, v132])) 12 rfl (by kernel_rfl) (by kernel_rfl) rfl hs135.same (fun w' hw' => e_build (vs := [(0, Value.int .i64 g.1), (1, v132)]) rfl (by rw [Sl.form o134.flat]; kernel_rfl)) ?_
         refine h_one 14 rfl (by kernel_rfl) rfl ?_
         replace bx122 := (bx122.chg ch127 (not_no _)).chg ch133 (is_ne rfl)
         refine o_store_bx (cs' := [Value.int .i64 g.1, v132]) tp24_dd rfl rfl bx122 rfl (Nat.le_of_ble_eq_true rfl) (AllOne.all (.cons rfl (.cons (sl_one o134.flat) .nil))) rfl ?_
         intro w136 ch137 bx138
         clear bx122
         have hs139 := hs135.seq (ch137.l rfl)
         refine ⟨hs139.same, ?_⟩
         refine h_nil (by kernel_rfl) ?_
         have C140 : Chg (inl [8, 10]) _ _ _ _ := (ch2.n).seq ((ch7.n).seq ((ch12.n).seq ((ch17.n).seq ((ch29.n).seq ((hb32.n).seq ((hb35.n).seq ((ch48.n).seq ((ch55.n).seq ((hb58.n).seq ((ch59.n).seq ((hc66.n).seq ((ch67.n).seq ((ch73.l rfl).seq ((ch119.n).seq ((ch127.n).seq ((ch133.l rfl).seq (ch137.l rfl)))))))))))))))))
         replace hbase := hbase.chg C140 (is_nl rfl)
         replace r_r_v := (r_r_v.chg hc66 (not_no _)).chg ch67 (not_no _)
         have C141 : Chg (inl []) _ _ _ _ := (ch29.n).seq ((hb32.n).seq ((hb35.n).seq ((ch48.n).seq ((ch55.n).seq ((hb58.n).seq ((ch59.n).seq ((hc66.n).seq (ch67.n))))))))
         replace bx20 := bx20.chg C141 (is_nl rfl)
         replace o134 := o134.chg ch137 (is_ne rfl) (is_ne rfl)
         exact mid (b120, v132, g130) _ _ ⟨hbase, rfl, rfl, rfl, rfl, rfl, rfl, (r_g_v.chg hs139 (is_nl rfl)), (r_r_v.chg hs139 (is_nl rfl)), (bx5.chg hs139 (is_nl rfl)), (bx10.chg hs139 (is_nl rfl)), (bx15.chg hs139 (is_nl rfl)), (bx20.chg hs139 (is_nl rfl)), o134, bx138⟩
       ·
        refine o_buildSlice (α := (Int) × (Int)) g54 (is 9) (is 9) (9, 0) rfl ([(a.1, b.1)] : List ((Int) × (Int))) Try.underlying22 tp60_dd (by decide) (by decide) (vs := [(0, Value.agg (List.toArray [Value.int .i64 a.1, Value.int .i64 b.1]))]) rfl rfl (.cons rfl .nil) ?_
        intro g142 w143 v144 ch145 o146
        have hs147 : Chg (inl [8, 10]) _ _ _ _ := ch145.n
        refine ⟨hs147.same, ?_⟩
        refine h_many 4 [13] (by kernel_rfl) ⟨h_of 4 rfl (by kernel_rfl) rfl ?_, h_of 13 rfl (by kernel_rfl) rfl ?_, trivial⟩
        ·
         replace r_g_v := r_g_v.chg C69 (is_nl rfl)
         refine o_append (α := (Int) × (Int)) (xs := ([])) (ys := g.2) g142 (J := is 8) (S := is 8) (8, 0) rfl Try.underlying22 tp60_dd (by decide) rfl rfl rfl Ow.nil (r_g_v.chg hs147 (is_nl rfl)) (by decide) (by first | omega | (simp; done) | (simp; omega)) ?_
         intro g148 w149 v150 ch151 o152
         replace o152 : Ow g148 (is 8) (is 8) w149 v150 (g.2 : List ((Int) × (Int))) := o152
         have hs153 := hs147.seq (ch151.l rfl)
         refine ⟨hs153.same, ?_⟩
         refine h_many 11 [13] (by kernel_rfl) ⟨h_of 11 rfl (by kernel_rfl) rfl ?_, h_of 13 rfl (by kernel_rfl) rfl ?_, trivial⟩
         ·
          replace o146 := o146.chg ch151 (is_ne rfl) (is_ne rfl)
          refine o_append (α := (Int) × (Int)) (xs := g.2) (ys := ([(a.1, b.1)] : List ((Int) × (Int)))) g148 (J := is 8) (S := is 8) (8, 0) rfl Try.underlying22 tp60_dd (by decide) rfl rfl rfl o152 o146.flat (by decide) (by first | omega | (simp; done) | (simp; omega)) ?_
          intro g154 w155 v156 ch157 o158
          clear o152
          have hs159 := hs153.seq (ch157.l rfl)
          refine ⟨hs159.same, ?_⟩
          refine h_take (v := Value.agg (List.toArray [Value.int .i64 g.1, v156])) 12 rfl (by kernel_rfl) (by kernel_rfl) rfl hs159.same (fun w' hw' => e_build (vs := [(0, Value.int .i64 g.1), (1, v156)]) rfl (by rw [Sl.form o158.flat]; kernel_rfl)) ?_
          refine h_one 13 rfl (by kernel_rfl) rfl ?_
          refine o_alloc g154 (is 10) (10, 0) rfl tp24_dd ?_
          intro g163 w160 b162 ch161 bx164
          replace bx164 : Bx g163 (is 10) w160 b162 [Value.int .i64 0, Value.slice none 0 0] := bx164
          have hs165 := hs159.seq (ch161.n)
          refine ⟨hs165.same, ?_⟩
          refine h_one 14 rfl (by kernel_rfl) rfl ?_
          replace o158 := o158.chg ch161 (not_no _) (not_no _)
          refine o_store_bx (cs' := [Value.int .i64 g.1, v156]) tp24_dd rfl rfl bx164 rfl (Nat.le_of_ble_eq_true rfl) (AllOne.all (.cons rfl (.cons (sl_one o158.flat) .nil))) rfl ?_
          intro w166 ch167 bx168
          clear bx164
          have hs169 := hs165.seq (ch167.l rfl)
          refine ⟨hs169.same, ?_⟩
          refine h_nil (by kernel_rfl) ?_
          have C170 : Chg (inl [8, 10]) _ _ _ _ := (ch2.n).seq ((ch7.n).seq ((ch12.n).seq ((ch17.n).seq ((ch29.n).seq ((hb32.n).seq ((hb35.n).seq ((ch48.n).seq ((ch55.n).seq ((hb58.n).seq ((ch59.n).seq ((hc66.n).seq ((ch67.n).seq ((ch145.n).seq ((ch151.l rfl).seq ((ch157.l rfl).seq ((ch161.n).seq (ch167.l rfl)))))))))))))))))
          replace hbase := hbase.chg C170 (is_nl rfl)
          replace r_r_v := (r_r_v.chg hc66 (not_no _)).chg ch67 (not_no _)
          have C171 : Chg (inl []) _ _ _ _ := (ch29.n).seq ((hb32.n).seq ((hb35.n).seq ((ch48.n).seq ((ch55.n).seq ((hb58.n).seq ((ch59.n).seq ((hc66.n).seq (ch67.n))))))))
          replace bx20 := bx20.chg C171 (is_nl rfl)
          replace o158 := o158.chg ch167 (is_ne rfl) (is_ne rfl)
          exact mid (b162, v156, g163) _ _ ⟨hbase, rfl, rfl, rfl, rfl, rfl, rfl, (r_g_v.chg hs169 (is_nl rfl)), (r_r_v.chg hs169 (is_nl rfl)), (bx5.chg hs169 (is_nl rfl)), (bx10.chg hs169 (is_nl rfl)), (bx15.chg hs169 (is_nl rfl)), (bx20.chg hs169 (is_nl rfl)), o158, bx168⟩
         ·
          refine o_alloc g148 (is 10) (10, 0) rfl tp24_dd ?_
          intro g175 w172 b174 ch173 bx176
          replace bx176 : Bx g175 (is 10) w172 b174 [Value.int .i64 0, Value.slice none 0 0] := bx176
          have hs177 := hs153.seq (ch173.n)
          refine ⟨hs177.same, ?_⟩
          refine h_one 11 rfl (by kernel_rfl) rfl ?_
          replace o146 := (o146.chg ch151 (is_ne rfl) (is_ne rfl)).chg ch173 (not_no _) (not_no _)
          replace o152 := o152.chg ch173 (not_no _) (not_no _)
          refine o_append (α := (Int) × (Int)) (xs := g.2) (ys := ([(a.1, b.1)] : List ((Int) × (Int)))) g175 (J := is 8) (S := is 8) (8, 0) rfl Try.underlying22 tp60_dd (by decide) rfl rfl rfl o152 o146.flat (by decide) (by first | omega | (simp; done) | (simp; omega)) ?_
          intro g178 w179 v180 ch181 o182
          clear o152
          have hs183 := hs177.seq (ch181.l rfl)
          refine ⟨hs183.same, ?_⟩
          refine h_take (v := Value.agg (List.toArray [Value.int .i64 g.1, v180])) 12 rfl (by kernel_rfl) (by kernel_rfl) rfl hs183.same (fun w' hw' => e_build (vs := [(0, Value.int .i64 g.1), (1, v180)]) rfl (by rw [Sl.form o182.flat]; kernel_rfl)) ?_
          refine h_one 14 rfl (by kernel_rfl) rfl ?_
          replace bx176 := bx176.chg ch181 (is_ne rfl)
          refine o_store_bx (cs' := [Value.int .i64 g.1, v180]) tp24_dd rfl rfl bx176 rfl (Nat.le_of_ble_eq_true rfl) (AllOne.all (.cons rfl (.cons (sl_one o182.flat) .nil))) rfl ?_
          intro w184 ch185 bx186
          clear bx176
          have hs187 := hs183.seq (ch185.l rfl)
          refine ⟨hs187.same, ?_⟩
          refine h_nil (by kernel_rfl) ?_
          have C188 : Chg (inl [8, 10]) _ _ _ _ := (ch2.n).seq ((ch7.n).seq ((ch12.n).seq ((ch17.n).seq ((ch29.n).seq ((hb32.n).seq ((hb35.n).seq ((ch48.n).seq ((ch55.n).seq ((hb58.n).seq ((ch59.n).seq ((hc66.n).seq ((ch67.n).seq ((ch145.n).seq ((ch151.l rfl).seq ((ch173.n).seq ((ch181.l rfl).seq (ch185.l rfl)))))))))))))))))
          replace hbase := hbase.chg C188 (is_nl rfl)
          replace r_r_v := (r_r_v.chg hc66 (not_no _)).chg ch67 (not_no _)
          have C189 : Chg (inl []) _ _ _ _ := (ch29.n).seq ((hb32.n).seq ((hb35.n).seq ((ch48.n).seq ((ch55.n).seq ((hb58.n).seq ((ch59.n).seq ((hc66.n).seq (ch67.n))))))))
          replace bx20 := bx20.chg C189 (is_nl rfl)
          replace o182 := o182.chg ch185 (is_ne rfl) (is_ne rfl)
          exact mid (b174, v180, g178) _ _ ⟨hbase, rfl, rfl, rfl, rfl, rfl, rfl, (r_g_v.chg hs187 (is_nl rfl)), (r_r_v.chg hs187 (is_nl rfl)), (bx5.chg hs187 (is_nl rfl)), (bx10.chg hs187 (is_nl rfl)), (bx15.chg hs187 (is_nl rfl)), (bx20.chg hs187 (is_nl rfl)), o182, bx186⟩
        ·
         refine o_alloc g142 (is 10) (10, 0) rfl tp24_dd ?_
         intro g193 w190 b192 ch191 bx194
         replace bx194 : Bx g193 (is 10) w190 b192 [Value.int .i64 0, Value.slice none 0 0] := bx194
         have hs195 := hs147.seq (ch191.n)
         refine ⟨hs195.same, ?_⟩
         refine h_one 4 rfl (by kernel_rfl) rfl ?_
         replace r_g_v := r_g_v.chg C69 (is_nl rfl)
         refine o_append (α := (Int) × (Int)) (xs := ([])) (ys := g.2) g193 (J := is 8) (S := is 8) (8, 0) rfl Try.underlying22 tp60_dd (by decide) rfl rfl rfl Ow.nil (r_g_v.chg hs195 (is_nl rfl)) (by decide) (by first | omega | (simp; done) | (simp; omega)) ?_
         intro g196 w197 v198 ch199 o200
         replace o200 : Ow g196 (is 8) (is 8) w197 v198 (g.2 : List ((Int) × (Int))) := o200
         have hs201 := hs195.seq (ch199.l rfl)
         refine ⟨hs201.same, ?_⟩
         refine h_one 11 rfl (by kernel_rfl) rfl ?_
         replace o146 := (o146.chg ch191 (not_no _) (not_no _)).chg ch199 (is_ne rfl) (is_ne rfl)
         refine o_append (α := (Int) × (Int)) (xs := g.2) (ys := ([(a.1, b.1)] : List ((Int) × (Int)))) g196 (J := is 8) (S := is 8) (8, 0) rfl Try.underlying22 tp60_dd (by decide) rfl rfl rfl o200 o146.flat (by decide) (by first | omega | (simp; done) | (simp; omega)) ?_
         intro g202 w203 v204 ch205 o206
         clear o200
         have hs207 := hs201.seq (ch205.l rfl)
         refine ⟨hs207.same, ?_⟩
         refine h_take (v := Value.agg (List.toArray [Value.int .i64 g.1, v204])) 12 rfl (by kernel_rfl) (by kernel_rfl) rfl hs207.same (fun w' hw' => e_build (vs := [(0, Value.int .i64 g.1), (1, v204)]) rfl (by rw [Sl.form o206.flat]; kernel_rfl)) ?_
         refine h_one 14 rfl (by kernel_rfl) rfl ?_
         replace bx194 := (bx194.chg ch199 (is_ne rfl)).chg ch205 (is_ne rfl)
         refine o_store_bx (cs' := [Value.int .i64 g.1, v204]) tp24_dd rfl rfl bx194 rfl (Nat.le_of_ble_eq_true rfl) (AllOne.all (.cons rfl (.cons (sl_one o206.flat) .nil))) rfl ?_
         intro w208 ch209 bx210
         clear bx194
         have hs211 := hs207.seq (ch209.l rfl)
         refine ⟨hs211.same, ?_⟩
         refine h_nil (by kernel_rfl) ?_
         have C212 : Chg (inl [8, 10]) _ _ _ _ := (ch2.n).seq ((ch7.n).seq ((ch12.n).seq ((ch17.n).seq ((ch29.n).seq ((hb32.n).seq ((hb35.n).seq ((ch48.n).seq ((ch55.n).seq ((hb58.n).seq ((ch59.n).seq ((hc66.n).seq ((ch67.n).seq ((ch145.n).seq ((ch191.n).seq ((ch199.l rfl).seq ((ch205.l rfl).seq (ch209.l rfl)))))))))))))))))
         replace hbase := hbase.chg C212 (is_nl rfl)
         replace r_r_v := (r_r_v.chg hc66 (not_no _)).chg ch67 (not_no _)
         have C213 : Chg (inl []) _ _ _ _ := (ch29.n).seq ((hb32.n).seq ((hb35.n).seq ((ch48.n).seq ((ch55.n).seq ((hb58.n).seq ((ch59.n).seq ((hc66.n).seq (ch67.n))))))))
         replace bx20 := bx20.chg C213 (is_nl rfl)
         replace o206 := o206.chg ch209 (is_ne rfl) (is_ne rfl)
         exact mid (b192, v204, g202) _ _ ⟨hbase, rfl, rfl, rfl, rfl, rfl, rfl, (r_g_v.chg hs211 (is_nl rfl)), (r_r_v.chg hs211 (is_nl rfl)), (bx5.chg hs211 (is_nl rfl)), (bx10.chg hs211 (is_nl rfl)), (bx15.chg hs211 (is_nl rfl)), (bx20.chg hs211 (is_nl rfl)), o206, bx210⟩
       ·
        refine o_alloc g54 (is 10) (10, 0) rfl tp24_dd ?_
        intro g217 w214 b216 ch215 bx218
        replace bx218 : Bx g217 (is 10) w214 b216 [Value.int .i64 0, Value.slice none 0 0] := bx218
        have hs219 : Chg (inl [8, 10]) _ _ _ _ := ch215.n
        refine ⟨hs219.same, ?_⟩
        refine h_many 4 [10] (by kernel_rfl) ⟨h_of 4 rfl (by kernel_rfl) rfl ?_, h_of 10 rfl (by kernel_rfl) rfl ?_, trivial⟩
        ·
         replace r_g_v := r_g_v.chg C69 (is_nl rfl)
         refine o_append (α := (Int) × (Int)) (xs := ([])) (ys := g.2) g217 (J := is 8) (S := is 8) (8, 0) rfl Try.underlying22 tp60_dd (by decide) rfl rfl rfl Ow.nil (r_g_v.chg hs219 (is_nl rfl)) (by decide) (by first | omega | (simp; done) | (simp; omega)) ?_
         intro g220 w221 v222 ch223 o224
         replace o224 : Ow g220 (is 8) (is 8) w221 v222 (g.2 : List ((Int) × (Int))) := o224
         have hs225 := hs219.seq (ch223.l rfl)
         refine ⟨hs225.same, ?_⟩
         refine h_one 10 rfl (by kernel_rfl) rfl ?_
         refine o_buildSlice (α := (Int) × (Int)) g220 (is 9) (is 9) (9, 0) rfl ([(a.1, b.1)] : List ((Int) × (Int))) Try.underlying22 tp60_dd (by decide) (by decide) (vs := [(0, Value.agg (List.toArray [Value.int .i64 a.1, Value.int .i64 b.1]))]) rfl rfl (.cons rfl .nil) ?_
         intro g226 w227 v228 ch229 o230
         have hs231 := hs225.seq (ch229.n)
         refine ⟨hs231.same, ?_⟩
         refine h_one 11 rfl (by kernel_rfl) rfl ?_
         replace o224 := o224.chg ch229 (not_no _) (not_no _)
         refine o_append (α := (Int) × (Int)) (xs := g.2) (ys := ([(a.1, b.1)] : List ((Int) × (Int)))) g226 (J := is 8) (S := is 8) (8, 0) rfl Try.underlying22 tp60_dd (by decide) rfl rfl rfl o224 o230.flat (by decide) (by first | omega | (simp; done) | (simp; omega)) ?_
         intro g232 w233 v234 ch235 o236
         clear o224
         have hs237 := hs231.seq (ch235.l rfl)
         refine ⟨hs237.same, ?_⟩
         refine h_take (v := Value.agg (List.toArray [Value.int .i64 g.1, v234])) 12 rfl (by kernel_rfl) (by kernel_rfl) rfl hs237.same (fun w' hw' => e_build (vs := [(0, Value.int .i64 g.1), (1, v234)]) rfl (by rw [Sl.form o236.flat]; kernel_rfl)) ?_
         refine h_one 14 rfl (by kernel_rfl) rfl ?_
         have C241 : Chg (inl [8]) _ _ _ _ := (ch223.l rfl).seq ((ch229.n).seq (ch235.l rfl))
         replace bx218 := bx218.chg C241 (is_nl rfl)
         refine o_store_bx (cs' := [Value.int .i64 g.1, v234]) tp24_dd rfl rfl bx218 rfl (Nat.le_of_ble_eq_true rfl) (AllOne.all (.cons rfl (.cons (sl_one o236.flat) .nil))) rfl ?_
         intro w238 ch239 bx240
         clear bx218
         have hs242 := hs237.seq (ch239.l rfl)
         refine ⟨hs242.same, ?_⟩
         refine h_nil (by kernel_rfl) ?_
         have C243 : Chg (inl [8, 10]) _ _ _ _ := (ch2.n).seq ((ch7.n).seq ((ch12.n).seq ((ch17.n).seq ((ch29.n).seq ((hb32.n).seq ((hb35.n).seq ((ch48.n).seq ((ch55.n).seq ((hb58.n).seq ((ch59.n).seq ((hc66.n).seq ((ch67.n).seq ((ch215.n).seq ((ch223.l rfl).seq ((ch229.n).seq ((ch235.l rfl).seq (ch239.l rfl)))))))))))))))))
         replace hbase := hbase.chg C243 (is_nl rfl)
         replace r_r_v := (r_r_v.chg hc66 (not_no _)).chg ch67 (not_no _)
         have C244 : Chg (inl []) _ _ _ _ := (ch29.n).seq ((hb32.n).seq ((hb35.n).seq ((ch48.n).seq ((ch55.n).seq ((hb58.n).seq ((ch59.n).seq ((hc66.n).seq (ch67.n))))))))
         replace bx20 := bx20.chg C244 (is_nl rfl)
         replace o236 := o236.chg ch239 (is_ne rfl) (is_ne rfl)
         exact mid (b216, v234, g232) _ _ ⟨hbase, rfl, rfl, rfl, rfl, rfl, rfl, (r_g_v.chg hs242 (is_nl rfl)), (r_r_v.chg hs242 (is_nl rfl)), (bx5.chg hs242 (is_nl rfl)), (bx10.chg hs242 (is_nl rfl)), (bx15.chg hs242 (is_nl rfl)), (bx20.chg hs242 (is_nl rfl)), o236, bx240⟩
        ·
         refine o_buildSlice (α := (Int) × (Int)) g217 (is 9) (is 9) (9, 0) rfl ([(a.1, b.1)] : List ((Int) × (Int))) Try.underlying22 tp60_dd (by decide) (by decide) (vs := [(0, Value.agg (List.toArray [Value.int .i64 a.1, Value.int .i64 b.1]))]) rfl rfl (.cons rfl .nil) ?_
         intro g245 w246 v247 ch248 o249
         have hs250 := hs219.seq (ch248.n)
         refine ⟨hs250.same, ?_⟩
         refine h_one 4 rfl (by kernel_rfl) rfl ?_
         replace r_g_v := r_g_v.chg C69 (is_nl rfl)
         refine o_append (α := (Int) × (Int)) (xs := ([])) (ys := g.2) g245 (J := is 8) (S := is 8) (8, 0) rfl Try.underlying22 tp60_dd (by decide) rfl rfl rfl Ow.nil (r_g_v.chg hs250 (is_nl rfl)) (by decide) (by first | omega | (simp; done) | (simp; omega)) ?_
         intro g251 w252 v253 ch254 o255
         replace o255 : Ow g251 (is 8) (is 8) w252 v253 (g.2 : List ((Int) × (Int))) := o255
         have hs256 := hs250.seq (ch254.l rfl)
         refine ⟨hs256.same, ?_⟩
         refine h_one 11 rfl (by kernel_rfl) rfl ?_
         replace o249 := o249.chg ch254 (is_ne rfl) (is_ne rfl)
         refine o_append (α := (Int) × (Int)) (xs := g.2) (ys := ([(a.1, b.1)] : List ((Int) × (Int)))) g251 (J := is 8) (S := is 8) (8, 0) rfl Try.underlying22 tp60_dd (by decide) rfl rfl rfl o255 o249.flat (by decide) (by first | omega | (simp; done) | (simp; omega)) ?_
         intro g257 w258 v259 ch260 o261
         clear o255
         have hs262 := hs256.seq (ch260.l rfl)
         refine ⟨hs262.same, ?_⟩
         refine h_take (v := Value.agg (List.toArray [Value.int .i64 g.1, v259])) 12 rfl (by kernel_rfl) (by kernel_rfl) rfl hs262.same (fun w' hw' => e_build (vs := [(0, Value.int .i64 g.1), (1, v259)]) rfl (by rw [Sl.form o261.flat]; kernel_rfl)) ?_
         refine h_one 14 rfl (by kernel_rfl) rfl ?_
         have C266 : Chg (inl [8]) _ _ _ _ := (ch248.n).seq ((ch254.l rfl).seq (ch260.l rfl))
         replace bx218 := bx218.chg C266 (is_nl rfl)
         refine o_store_bx (cs' := [Value.int .i64 g.1, v259]) tp24_dd rfl rfl bx218 rfl (Nat.le_of_ble_eq_true rfl) (AllOne.all (.cons rfl (.cons (sl_one o261.flat) .nil))) rfl ?_
         intro w263 ch264 bx265
         clear bx218
         have hs267 := hs262.seq (ch264.l rfl)
         refine ⟨hs267.same, ?_⟩
         refine h_nil (by kernel_rfl) ?_
         have C268 : Chg (inl [8, 10]) _ _ _ _ := (ch2.n).seq ((ch7.n).seq ((ch12.n).seq ((ch17.n).seq ((ch29.n).seq ((hb32.n).seq ((hb35.n).seq ((ch48.n).seq ((ch55.n).seq ((hb58.n).seq ((ch59.n).seq ((hc66.n).seq ((ch67.n).seq ((ch215.n).seq ((ch248.n).seq ((ch254.l rfl).seq ((ch260.l rfl).seq (ch264.l rfl)))))))))))))))))
         replace hbase := hbase.chg C268 (is_nl rfl)
         replace r_r_v := (r_r_v.chg hc66 (not_no _)).chg ch67 (not_no _)
         have C269 : Chg (inl []) _ _ _ _ := (ch29.n).seq ((hb32.n).seq ((hb35.n).seq ((ch48.n).seq ((ch55.n).seq ((hb58.n).seq ((ch59.n).seq ((hc66.n).seq (ch67.n))))))))
         replace bx20 := bx20.chg C269 (is_nl rfl)
         replace o261 := o261.chg ch264 (is_ne rfl) (is_ne rfl)
         exact mid (b216, v259, g257) _ _ ⟨hbase, rfl, rfl, rfl, rfl, rfl, rfl, (r_g_v.chg hs267 (is_nl rfl)), (r_r_v.chg hs267 (is_nl rfl)), (bx5.chg hs267 (is_nl rfl)), (bx10.chg hs267 (is_nl rfl)), (bx15.chg hs267 (is_nl rfl)), (bx20.chg hs267 (is_nl rfl)), o261, bx265⟩
      clear r_g_v
      clear r_r_v
      clear bx5
      clear bx10
      clear bx15
      clear bx20
      clear hbase
      rintro ⟨b90, v84, g272⟩ f270 w271 ⟨hbase, zs1, zs4, zs6, zs7, zs8, zs19, r_g_v, r_r_v, bx5, bx10, bx15, bx20, o86, bx96⟩
      refine run_seq (run_region rfl ?_)
      refine l_val (v := Value.pointer (some ⟨b3, 1, none⟩)) rfl (e_fieldAddr Try.underlying24 rfl rfl (by exact zs4) rfl) ?_
      refine l_val (v := g_v) rfl (e_load_bx1 tp22_dd rfl bx5 rfl) ?_
      refine l_val (v := Value.int .i64 (List.length g.2 : Int)) rfl (e_len Try.underlying22 rfl r_g_v) ?_
      refine l_val (v := Value.int .i64 (2 * (List.length g.2 : Int))) rfl (e_mul (m := 2) (n := (List.length g.2 : Int)) rfl rfl (by omega)) ?_
      refine l_val (v := Value.int .i64 (2 * (List.length g.2 : Int))) rfl (e_assign rfl) ?_
      refine l_nil (run_seq ?_)
      clear bx5
      refine run_region rfl ?_
      refine l_val (v := r_v) rfl (e_move (by exact zs1)) ?_
      refine l_op rfl ?_
      refine o_callx (e_call (vals := [r_v]) Try.func70 bd70_dd nm70_dd rfl) (dcopied_ok w271 r r_v (r_r_v).ro (by omega) (by exact rot_rows hm hrp)) ?_
      rintro ⟨d274, v276⟩ w273 ⟨fr275, o277⟩
      obtain ⟨g278, hg278⟩ : ∃ q, q = glue w271.heap.size g272 d274 (fun n => if n = 1 then 11 else 0) := ⟨_, rfl⟩
      have ch279 := chg_glue fr275.below g272 d274 (fun n => if n = 1 then 11 else 0)
      rw [← hg278] at ch279
      replace o277 := o277.glue (γ := g272) (ren := (fun n => if n = 1 then 11 else 0)) (k := 11) fr275.col rfl rfl
      rw [← hg278] at o277
      clear hg278
      refine l_val (v := v276) rfl (e_assign rfl) ?_
      refine l_nil (run_seq (run_seq (run_region rfl ?_)))
      replace bx10 := bx10.chg ch279 (not_no _)
      refine l_val (v := Value.agg (List.toArray [Value.int .i64 a.1, Value.int .i64 a.2])) rfl (e_load_bxN (ds := [Value.int .i64 a.1, Value.int .i64 a.2]) tp55_dd (by exact zs6) bx10 rfl rfl) ?_
      replace bx15 := bx15.chg ch279 (not_no _)
      refine l_val (v := Value.agg (List.toArray [Value.int .i64 b.1, Value.int .i64 b.2])) rfl (e_load_bxN (ds := [Value.int .i64 b.1, Value.int .i64 b.2]) tp55_dd (by exact zs7) bx15 rfl rfl) ?_
      refine l_val (v := Value.bool (decide (a = b))) rfl (e_eql_struct (bs := [decide (a.1 = b.1), decide (a.2 = b.2)]) Try.underlying55 (by kernel_rfl) (by kernel_rfl) rfl rfl (.cons (by decide +kernel) tp3_dd rfl rfl (.int Try.underlying3) (.cons (by decide +kernel) tp3_dd rfl rfl (.int Try.underlying3) .nil)) (by simp [Prod.ext_iff, Bool.decide_and, Bool.and_assoc])) ?_
      refine l_nil ?_
      by_cases p16 : a = b
      ·
       refine run_cond_t rfl (decide_eq_true p16) ?_
       clear bx15
       refine run_region rfl ?_
       refine l_val (v := v276) rfl (e_move rfl) ?_
       refine l_val (v := Value.agg (List.toArray [Value.int .i64 a.1, Value.int .i64 a.2])) rfl (e_load_bxN (ds := [Value.int .i64 a.1, Value.int .i64 a.2]) tp55_dd (by exact zs6) bx10 rfl rfl) ?_
       refine l_val (v := Value.int .i64 (2 * (List.length g.2 : Int))) rfl (e_move rfl) ?_
       refine l_val (v := Value.int .i64 (2 * (List.length g.2 : Int))) rfl (e_move rfl) ?_
       refine l_val (v := Value.int .i64 ((2 * (List.length g.2 : Int)) + 1)) rfl (e_add (m := 2 * (List.length g.2 : Int)) (n := 1) rfl rfl (by omega)) ?_
       refine l_op rfl ?_
       refine o_buildSlice (α := Int) g278 (is 12) (is 12) (12, 0) rfl ([2 * (List.length g.2 : Int), (2 * (List.length g.2 : Int)) + 1] : List Int) Try.underlying27 tp3_dd (by decide) (by decide) (vs := [(0, Value.int .i64 (2 * (List.length g.2 : Int))), (1, Value.int .i64 ((2 * (List.length g.2 : Int)) + 1))]) rfl rfl (.cons rfl (.cons rfl .nil)) ?_
       intro g280 w281 v282 ch283 o284
       refine l_op rfl ?_
       refine o_inline (e_call (vals := [v276, Value.agg (List.toArray [Value.int .i64 a.1, Value.int .i64 a.2]), v282]) Try.func77 bd77_dd nm77_dd rfl) ?_
       refine calls_of_run Try.func77 rfl (Nat.le_of_ble_eq_true rfl) ?_
       replace o277 := o277.chg ch283 (not_no _)
       have hix_c1 := idx_bd (gI r a.1) a.2
       refine run_seq (run_region rfl (l_op rfl ?_))
       refine o_box g280 (is 13) (13, 0) rfl rfl ?_
       intro g288 w285 b287 ch286 bx289
       replace bx289 : Bx g288 (is 13) w285 b287 [Value.int .i64 a.1, Value.int .i64 a.2] := bx289
       refine l_nil (run_seq ?_)
       refine region_q g288 rfl mixed_dd (by kernel_rfl) ?_
       intro w291 ch290
       refine q_val (v := v276) rfl (fun w' hw' => e_move rfl) ?_
       refine q_val (v := Value.pointer (some ⟨b287, 0, none⟩)) rfl (fun w' hw' => e_fieldAddr Try.underlying55 rfl rfl rfl rfl) ?_
       replace bx289 := bx289.chg ch290 (not_no _)
       refine q_val (v := Value.int .i64 a.1) rfl (fun w' hw' => e_load_bx1 tp3_dd rfl (bx289.bel hw') rfl) ?_
       replace o277 := (o277.chg ch286 (not_no _)).chg ch290 (not_no _)
       refine q_val (v := Value.pointer (some (eAddr v276 1 (Int.toNat a.1)))) rfl (fun w' hw' => e_indexAddr (α := List Int) (xs := r) (v := v276) (i := a.1) Try.underlying26 rfl rfl (o277.sl.bel hw') rfl (by omega) (by omega)) ?_
       obtain ⟨v292, cel293, r294⟩ := nst_row (r := a.1) o277 (by omega) (by omega)
       refine q_val (v := v292) rfl (fun w' hw' => e_load1 tp27_dd rfl (cel_bel cel293 hw')) ?_
       refine q_val (v := Value.pointer (some ⟨b287, 1, none⟩)) rfl (fun w' hw' => e_fieldAddr Try.underlying55 rfl rfl rfl rfl) ?_
       refine q_val (v := Value.int .i64 a.2) rfl (fun w' hw' => e_load_bx1 tp3_dd rfl (bx289.bel hw') rfl) ?_
       refine q_call (v := Value.int .i64 (idxS (gI r a.1) a.2)) rfl (fun w' hw' => e_call (vals := [v292, Value.int .i64 a.2]) Try.func71 bd71_dd nm71_dd rfl) (fun w' hw' => (Index_ok w' (gI r a.1) v292 ((r294.row_sl.bel hw')).ro a.2).mono fun e w2 h2 => ⟨h2.1, hw'.trans (h2.2.mono hw'.size)⟩) ?_
       refine q_val (v := Value.int .i64 ((idxS (gI r a.1) a.2) + 1)) rfl (fun w' hw' => e_add (m := idxS (gI r a.1) a.2) (n := 1) rfl rfl (by first | omega | (have h7 := putS_row (r := r) (c := a) (hs := [2 * (g.2.length : Int)]) hca0 hca9 (v := b.1) hcb0; unfold putS at h7; simp only [List.length_cons, List.length_nil] at h7 ⊢; omega))) ?_
       refine q_val (v := Value.int .i64 ((idxS (gI r a.1) a.2) + 1)) rfl (fun w' hw' => e_assign rfl) ?_
       refine q_nil ?_
       intro w295 hc296
       replace hc296 := chg_below hc296 g288
       clear cel293
       clear r294
       refine run_region_h g288 (inl [11]) mixed_dd ?_
       intro w298 ch297
       refine h_take (v := v276) 0 rfl (by kernel_rfl) (by kernel_rfl) rfl (Chg.refl _ _ _) (fun w' hw' => e_move rfl) ?_
       refine h_take (v := Value.pointer (some ⟨b287, 0, none⟩)) 1 rfl (by kernel_rfl) (by kernel_rfl) rfl (Chg.refl _ _ _) (fun w' hw' => e_fieldAddr Try.underlying55 rfl rfl rfl rfl) ?_
       replace bx289 := (bx289.chg hc296 (not_no _)).chg ch297 (not_no _)
       refine h_take (v := Value.int .i64 a.1) 2 rfl (by kernel_rfl) (by kernel_rfl) rfl (Chg.refl _ _ _) (fun w' hw' => e_load_bx1 tp3_dd rfl (bx289.chg hw' (is_nl rfl)) rfl) ?_
       refine h_take (v := v276) 3 rfl (by kernel_rfl) (by kernel_rfl) rfl (Chg.refl _ _ _) (fun w' hw' => e_move rfl) ?_
       refine h_take (v := Value.pointer (some ⟨b287, 0, none⟩)) 4 rfl (by kernel_rfl) (by kernel_rfl) rfl (Chg.refl _ _ _) (fun w' hw' => e_fieldAddr Try.underlying55 rfl rfl rfl rfl) ?_
       refine h_take (v := Value.int .i64 a.1) 5 rfl (by kernel_rfl) (by kernel_rfl) rfl (Chg.refl _ _ _) (fun w' hw' => e_load_bx1 tp3_dd rfl (bx289.chg hw' (is_nl rfl)) rfl) ?_
       refine h_take (v := Value.int .i64 ((idxS (gI r a.1) a.2) + 1)) 8 rfl (by kernel_rfl) (by kernel_rfl) rfl (Chg.refl _ _ _) (fun w' hw' => e_move rfl) ?_
       refine h_take (v := v282) 9 rfl (by kernel_rfl) (by kernel_rfl) rfl (Chg.refl _ _ _) (fun w' hw' => e_move rfl) ?_
       refine h_one 6 rfl (by kernel_rfl) rfl ?_
       replace o277 := (o277.chg hc296 (not_no _)).chg ch297 (not_no _)
       refine o_of_val (v := Value.pointer (some (eAddr v276 1 (Int.toNat a.1)))) (e_indexAddr (α := List Int) (xs := r) (v := v276) (i := a.1) Try.underlying26 rfl rfl o277.sl rfl (by omega) (by omega)) ?_
       refine ⟨(Chg.refl _ _ _), ?_⟩
       refine h_one 7 rfl (by kernel_rfl) rfl ?_
       obtain ⟨v299, cel300, r301⟩ := nst_row (r := a.1) o277 (by omega) (by omega)
       refine o_of_val (v := v299) (e_load1 tp27_dd rfl cel300) ?_
       refine ⟨(Chg.refl _ _ _), ?_⟩
       refine h_one 10 rfl (by kernel_rfl) rfl ?_
       have C308 : Chg (inl []) _ _ _ _ := (ch286.n).seq ((ch290.n).seq ((hc296.n).seq (ch297.n)))
       replace o284 := o284.chg C308 (is_nl rfl) (is_nl rfl)
       refine o_callx (σ := Cmap × Value) (V := fun x => x.2) (e_call (vals := [v299, Value.int .i64 ((idxS (gI r a.1) a.2) + 1), v282]) Try.func100 bd100_dd nm100_dd rfl) (ins_calls insL (γ := g288) (J := row 11 (Int.toNat a.1 + 1)) (K := is 12) (S := row 11 (Int.toNat a.1 + 1)) (xs := gI r a.1) (ys := ([2 * (List.length g.2 : Int), (2 * (List.length g.2 : Int)) + 1] : List Int)) (i := (idxS (gI r a.1) a.2) + 1) (11, Int.toNat a.1 + 1) rfl r301 o284 (row_ne rfl) (by omega) (by omega) (by simp) (by first | (simp only [List.length_cons, List.length_nil]; omega) | (have h7 := putS_row (r := r) (c := a) (hs := [2 * (g.2.length : Int)]) hca0 hca9 (v := b.1) hcb0; unfold putS at h7; simp only [List.length_cons, List.length_nil] at h7 ⊢; omega))) ?_
       rintro ⟨g302, v304⟩ w303 ⟨ch305, o306⟩
       have o307 := o277.rowchg ch305
       clear o277
       clear cel300
       clear r301
       have hs309 : Chg (inl [11]) _ _ _ _ := ch305.lr rfl
       refine ⟨hs309.same, ?_⟩
       refine h_one 11 rfl (by kernel_rfl) rfl ?_
       obtain ⟨us310, hl311, r312⟩ := o307.vc
       try simp only [List.length_set, List.length_append, List.length_cons, List.length_nil] at hl311
       refine o_of_val (v := Value.pointer (some (eAddr v276 1 (Int.toNat a.1)))) (e_indexAddr (α := Vc) (xs := us310) (v := v276) (i := a.1) Try.underlying26 rfl rfl r312 rfl (by omega) (by omega)) ?_
       refine ⟨hs309.same, ?_⟩
       refine h_one 12 rfl (by kernel_rfl) rfl ?_
       refine o_store_row (r := a.1) tp27_dd rfl rfl o307 o306 (by omega) (by omega) ?_
       intro w316 ch317 o318
       clear o307
       clear o306
       have hs319 := hs309.seq (ch317.l rfl)
       refine ⟨hs319.same, ?_⟩
       refine h_nil (by kernel_rfl) ?_
       refine run_end (vs := []) Try.func77 .nil ?_
       refine ⟨Value.tuple (List.toArray []), rfl, ?_⟩
       refine l_nil (run_seq ?_)
       clear bx10
       clear o284
       clear bx289
       refine run_region rfl ?_
       have C320 : Chg (inl [11]) _ _ _ _ := (ch279.n).seq ((ch283.n).seq ((ch286.n).seq ((ch290.n).seq ((hc296.n).seq ((ch297.n).seq ((ch305.lr rfl).seq (ch317.l rfl)))))))
       replace bx96 := bx96.chg C320 (is_nl rfl)
       refine l_val (v := Value.agg (List.toArray [Value.int .i64 g.1, v84])) rfl (e_load_bxN (ds := [Value.int .i64 g.1, v84]) tp24_dd (by exact zs19) bx96 rfl rfl) ?_
       refine l_val (v := v276) rfl (e_move rfl) ?_
       replace o86 := o86.chg C320 (is_nl rfl) (is_nl rfl)
       refine l_op rfl ?_
       refine o_callx (e_call (vals := [Value.agg (List.toArray [Value.int .i64 g.1, v84]), v276]) Try.func55 bd55_dd nm55_dd rfl) (RCanon_ok w316 (g.1, (g.2 ++ ([(a.1, b.1)] : List ((Int) × (Int))))) v84 (o86.flat).ro (List.set r (Int.toNat a.1) (List.take (Int.toNat ((idxS (gI r a.1) a.2) + 1)) (gI r a.1) ++ ([2 * (List.length g.2 : Int), (2 * (List.length g.2 : Int)) + 1] : List Int) ++ List.drop (Int.toNat ((idxS (gI r a.1) a.2) + 1)) (gI r a.1))) v276 (o318.sl).ro) ?_
       rintro ⟨d322, v324⟩ w321 ⟨fr323, o325⟩
       obtain ⟨g326, hg326⟩ : ∃ q, q = glue w316.heap.size g302 d322 (fun n => if n = 1 then 14 else 0) := ⟨_, rfl⟩
       have ch327 := chg_glue fr323.below g302 d322 (fun n => if n = 1 then 14 else 0)
       rw [← hg326] at ch327
       replace o325 := o325.glue (γ := g302) (ren := (fun n => if n = 1 then 14 else 0)) (k := 14) fr323.col rfl rfl
       rw [← hg326] at o325
       clear hg326
       refine l_val (v := Value.tuple (List.toArray [v324, Value.int .i64 ((canonR (g.1, (g.2 ++ ([(a.1, b.1)] : List ((Int) × (Int))))) (List.set r (Int.toNat a.1) (List.take (Int.toNat ((idxS (gI r a.1) a.2) + 1)) (gI r a.1) ++ ([2 * (List.length g.2 : Int), (2 * (List.length g.2 : Int)) + 1] : List Int) ++ List.drop (Int.toNat ((idxS (gI r a.1) a.2) + 1)) (gI r a.1)))).2)])) rfl (e_move rfl) ?_
       refine l_val (v := v324) rfl (e_extract rfl rfl) ?_
       refine l_val (v := Value.int .i64 ((canonR (g.1, (g.2 ++ ([(a.1, b.1)] : List ((Int) × (Int))))) (List.set r (Int.toNat a.1) (List.take (Int.toNat ((idxS (gI r a.1) a.2) + 1)) (gI r a.1) ++ ([2 * (List.length g.2 : Int), (2 * (List.length g.2 : Int)) + 1] : List Int) ++ List.drop (Int.toNat ((idxS (gI r a.1) a.2) + 1)) (gI r a.1)))).2)) rfl (e_extract rfl rfl) ?_
       refine l_val (v := v324) rfl (e_assign rfl) ?_
       refine l_nil (run_seq ?_)
       clear o318
       refine run_region rfl ?_
       replace bx96 := bx96.chg ch327 (not_no _)
       refine l_val (v := Value.agg (List.toArray [Value.int .i64 g.1, v84])) rfl (e_load_bxN (ds := [Value.int .i64 g.1, v84]) tp24_dd (by exact zs19) bx96 rfl rfl) ?_
       refine l_val (v := v324) rfl (e_move rfl) ?_
       refine l_op rfl ?_
       have C331 : Chg (inl [11]) _ _ _ _ := (ch279.n).seq ((ch283.n).seq ((ch286.n).seq ((ch290.n).seq ((hc296.n).seq ((ch297.n).seq ((ch305.lr rfl).seq ((ch317.l rfl).seq (ch327.n))))))))
       replace bx20 := bx20.chg C331 (is_nl rfl)
       replace o86 := o86.chg ch327 (not_no _) (not_no _)
       refine o_store_bx (cs' := [Value.int .i64 g.1, v84]) tp24_dd (by exact zs8) rfl bx20 rfl (Nat.le_of_ble_eq_true rfl) (AllOne.all (.cons rfl (.cons (sl_one o86.flat) .nil))) rfl ?_
       intro w328 ch329 bx330
       clear bx20
       refine l_val (v := v324) rfl (e_assign rfl) ?_
       refine l_val (v := Value.int .i64 0) rfl (e_assign rfl) ?_
       refine l_nil ?_
       refine run_ret (vs := [Value.agg (List.toArray [Value.int .i64 g.1, v84]), v324, Value.int .i64 0]) Try.func30 (.cell (by exact zs8) (load_bxN (ds := [Value.int .i64 g.1, v84]) tp24_dd bx330 rfl rfl) (.tmp rfl (.tmp rfl .nil))) ?_
       -- return 1
       have C332 : Chg (inl [4, 11]) _ _ _ _ := (ch279.n).seq ((ch283.n).seq ((ch286.n).seq ((ch290.n).seq ((hc296.n).seq ((ch297.n).seq ((ch305.lr rfl).seq ((ch317.l rfl).seq ((ch327.n).seq (ch329.l rfl)))))))))
       replace hbase := hbase.chg C332 (is_nl rfl)
       replace o86 := o86.chg ch329 (is_ne rfl) (is_ne rfl)
       replace o325 := o325.chg ch329 (is_ne rfl)
       have e0 : ((g.1, (g.2 ++ ([(a.1, b.1)] : List ((Int) × (Int))))) : (Int) × (List ((Int) × (Int)))) = ((layR g r a b).1) := by
         first
           | (rw [layR_no (by assumption)]; done)
           | (rw [layR_bd (by assumption) (by first | exact .inl (by assumption) | exact .inr (by assumption))]; done)
           | (rw [layR_lim (by assumption) (by assumption) (by assumption) (by assumption)]; done)
           | (rw [layR_gen (by assumption) (by assumption) (by assumption) (by assumption) (by assumption) (by assumption)]; done)
           | (rw [layR_ok (by assumption) (by assumption) (by assumption) (by assumption) (by first | exact .inl (by assumption) | exact .inr (by assumption))]
              first
                | done
                | (unfold laidS; rw [if_pos (by assumption)]; done)
                | (unfold laidS; rw [if_neg (by assumption)]; done)
                | (unfold laidS; rw [if_pos (by assumption)]; rfl)
                | (unfold laidS; rw [if_neg (by assumption)]; rfl))
       have e1 : ((canonR (g.1, (g.2 ++ ([(a.1, b.1)] : List ((Int) × (Int))))) (List.set r (Int.toNat a.1) (List.take (Int.toNat ((idxS (gI r a.1) a.2) + 1)) (gI r a.1) ++ ([2 * (List.length g.2 : Int), (2 * (List.length g.2 : Int)) + 1] : List Int) ++ List.drop (Int.toNat ((idxS (gI r a.1) a.2) + 1)) (gI r a.1)))).1 : List (List Int)) = ((layR g r a b).2.1) := by
         first
           | (rw [layR_no (by assumption)]; done)
           | (rw [layR_bd (by assumption) (by first | exact .inl (by assumption) | exact .inr (by assumption))]; done)
           | (rw [layR_lim (by assumption) (by assumption) (by assumption) (by assumption)]; done)
           | (rw [layR_gen (by assumption) (by assumption) (by assumption) (by assumption) (by assumption) (by assumption)]; done)
           | (rw [layR_ok (by assumption) (by assumption) (by assumption) (by assumption) (by first | exact .inl (by assumption) | exact .inr (by assumption))]
              first
                | done
                | (unfold laidS; rw [if_pos (by assumption)]; done)
                | (unfold laidS; rw [if_neg (by assumption)]; done)
                | (unfold laidS; rw [if_pos (by assumption)]; rfl)
                | (unfold laidS; rw [if_neg (by assumption)]; rfl))
       have e2 : (0 : Int) = ((layR g r a b).2.2) := by
         first
           | (rw [layR_no (by assumption)]; done)
           | (rw [layR_bd (by assumption) (by first | exact .inl (by assumption) | exact .inr (by assumption))]; done)
           | (rw [layR_lim (by assumption) (by assumption) (by assumption) (by assumption)]; done)
           | (rw [layR_gen (by assumption) (by assumption) (by assumption) (by assumption) (by assumption) (by assumption)]; done)
           | (rw [layR_ok (by assumption) (by assumption) (by assumption) (by assumption) (by first | exact .inl (by assumption) | exact .inr (by assumption))]
              first
                | done
                | (unfold laidS; rw [if_pos (by assumption)]; done)
                | (unfold laidS; rw [if_neg (by assumption)]; done)
                | (unfold laidS; rw [if_pos (by assumption)]; rfl)
                | (unfold laidS; rw [if_neg (by assumption)]; rfl))
       exact ⟨(fin w0 g326 (fun n => if n = 8 then 1 else if n = 14 then 2 else 0), v84, v324), (congr3 (a := (g.1, (g.2 ++ ([(a.1, b.1)] : List ((Int) × (Int)))))) (b := (canonR (g.1, (g.2 ++ ([(a.1, b.1)] : List ((Int) × (Int))))) (List.set r (Int.toNat a.1) (List.take (Int.toNat ((idxS (gI r a.1) a.2) + 1)) (gI r a.1) ++ ([2 * (List.length g.2 : Int), (2 * (List.length g.2 : Int)) + 1] : List Int) ++ List.drop (Int.toNat ((idxS (gI r a.1) a.2) + 1)) (gI r a.1)))).1) (c := 0) (fun (z0 : (Int) × (List ((Int) × (Int)))) (z1 : List (List Int)) (z2 : Int) => Ending.returned (Value.tuple (List.toArray [Value.agg (List.toArray [Value.int .i64 z0.1, v84]), v324, Value.int .i64 z2]))) e0 e1 e2), hbase.fresh _, ((congrArg (fun (z : (Int) × (List ((Int) × (Int)))) => z.2) e0) ▸ (o86.glue (γ := c0) (ren := (fun n => if n = 8 then 1 else if n = 14 then 2 else 0)) (k := 1) hbase.col rfl rfl)), (e1 ▸ (o325.glue (γ := c0) (ren := (fun n => if n = 8 then 1 else if n = 14 then 2 else 0)) (k := 2) hbase.col rfl rfl))⟩
      refine run_cond_f rfl (decide_eq_false p16) ?_
      refine run_seq (run_region rfl ?_)
      refine l_val (v := v276) rfl (e_move rfl) ?_
      refine l_val (v := Value.agg (List.toArray [Value.int .i64 a.1, Value.int .i64 a.2])) rfl (e_load_bxN (ds := [Value.int .i64 a.1, Value.int .i64 a.2]) tp55_dd (by exact zs6) bx10 rfl rfl) ?_
      refine l_val (v := Value.int .i64 (2 * (List.length g.2 : Int))) rfl (e_move rfl) ?_
      refine l_op rfl ?_
      refine o_buildSlice (α := Int) g278 (is 15) (is 15) (15, 0) rfl ([2 * (List.length g.2 : Int)] : List Int) Try.underlying27 tp3_dd (by decide) (by decide) (vs := [(0, Value.int .i64 (2 * (List.length g.2 : Int)))]) rfl rfl (.cons rfl .nil) ?_
      intro g333 w334 v335 ch336 o337
      refine l_op rfl ?_
      refine o_inline (e_call (vals := [v276, Value.agg (List.toArray [Value.int .i64 a.1, Value.int .i64 a.2]), v335]) Try.func77 bd77_dd nm77_dd rfl) ?_
      refine calls_of_run Try.func77 rfl (Nat.le_of_ble_eq_true rfl) ?_
      replace o277 := o277.chg ch336 (not_no _)
      have hix_c2 := idx_bd (gI r a.1) a.2
      refine run_seq (run_region rfl (l_op rfl ?_))
      refine o_box g333 (is 16) (16, 0) rfl rfl ?_
      intro g341 w338 b340 ch339 bx342
      replace bx342 : Bx g341 (is 16) w338 b340 [Value.int .i64 a.1, Value.int .i64 a.2] := bx342
      refine l_nil (run_seq ?_)
      refine region_q g341 rfl mixed_dd (by kernel_rfl) ?_
      intro w344 ch343
      refine q_val (v := v276) rfl (fun w' hw' => e_move rfl) ?_
      refine q_val (v := Value.pointer (some ⟨b340, 0, none⟩)) rfl (fun w' hw' => e_fieldAddr Try.underlying55 rfl rfl rfl rfl) ?_
      replace bx342 := bx342.chg ch343 (not_no _)
      refine q_val (v := Value.int .i64 a.1) rfl (fun w' hw' => e_load_bx1 tp3_dd rfl (bx342.bel hw') rfl) ?_
      replace o277 := (o277.chg ch339 (not_no _)).chg ch343 (not_no _)
      refine q_val (v := Value.pointer (some (eAddr v276 1 (Int.toNat a.1)))) rfl (fun w' hw' => e_indexAddr (α := List Int) (xs := r) (v := v276) (i := a.1) Try.underlying26 rfl rfl (o277.sl.bel hw') rfl (by omega) (by omega)) ?_
      obtain ⟨v345, cel346, r347⟩ := nst_row (r := a.1) o277 (by omega) (by omega)
      refine q_val (v := v345) rfl (fun w' hw' => e_load1 tp27_dd rfl (cel_bel cel346 hw')) ?_
      refine q_val (v := Value.pointer (some ⟨b340, 1, none⟩)) rfl (fun w' hw' => e_fieldAddr Try.underlying55 rfl rfl rfl rfl) ?_
      refine q_val (v := Value.int .i64 a.2) rfl (fun w' hw' => e_load_bx1 tp3_dd rfl (bx342.bel hw') rfl) ?_
      refine q_call (v := Value.int .i64 (idxS (gI r a.1) a.2)) rfl (fun w' hw' => e_call (vals := [v345, Value.int .i64 a.2]) Try.func71 bd71_dd nm71_dd rfl) (fun w' hw' => (Index_ok w' (gI r a.1) v345 ((r347.row_sl.bel hw')).ro a.2).mono fun e w2 h2 => ⟨h2.1, hw'.trans (h2.2.mono hw'.size)⟩) ?_
      refine q_val (v := Value.int .i64 ((idxS (gI r a.1) a.2) + 1)) rfl (fun w' hw' => e_add (m := idxS (gI r a.1) a.2) (n := 1) rfl rfl (by first | omega | (have h7 := putS_row (r := r) (c := a) (hs := [2 * (g.2.length : Int)]) hca0 hca9 (v := b.1) hcb0; unfold putS at h7; simp only [List.length_cons, List.length_nil] at h7 ⊢; omega))) ?_
      refine q_val (v := Value.int .i64 ((idxS (gI r a.1) a.2) + 1)) rfl (fun w' hw' => e_assign rfl) ?_
      refine q_nil ?_
      intro w348 hc349
      replace hc349 := chg_below hc349 g341
      clear cel346
      clear r347
      refine run_region_h g341 (inl [11]) mixed_dd ?_
      intro w351 ch350
      refine h_take (v := v276) 0 rfl (by kernel_rfl) (by kernel_rfl) rfl (Chg.refl _ _ _) (fun w' hw' => e_move rfl) ?_
      refine h_take (v := Value.pointer (some ⟨b340, 0, none⟩)) 1 rfl (by kernel_rfl) (by kernel_rfl) rfl (Chg.refl _ _ _) (fun w' hw' => e_fieldAddr Try.underlying55 rfl rfl rfl rfl) ?_
      replace bx342 := (bx342.chg hc349 (not_no _)).chg ch350 (not_no _)
      refine h_take (v := Value.int .i64 a.1) 2 rfl (by kernel_rfl) (by kernel_rfl) rfl (Chg.refl _ _ _) (fun w' hw' => e_load_bx1 tp3_dd rfl (bx342.chg hw' (is_nl rfl)) rfl) ?_
      refine h_take (v := v276) 3 rfl (by kernel_rfl) (by kernel_rfl) rfl (Chg.refl _ _ _) (fun w' hw' => e_move rfl) ?_
      refine h_take (v := Value.pointer (some ⟨b340, 0, none⟩)) 4 rfl (by kernel_rfl) (by kernel_rfl) rfl (Chg.refl _ _ _) (fun w' hw' => e_fieldAddr Try.underlying55 rfl rfl rfl rfl) ?_
      refine h_take (v := Value.int .i64 a.1) 5 rfl (by kernel_rfl) (by kernel_rfl) rfl (Chg.refl _ _ _) (fun w' hw' => e_load_bx1 tp3_dd rfl (bx342.chg hw' (is_nl rfl)) rfl) ?_
      refine h_take (v := Value.int .i64 ((idxS (gI r a.1) a.2) + 1)) 8 rfl (by kernel_rfl) (by kernel_rfl) rfl (Chg.refl _ _ _) (fun w' hw' => e_move rfl) ?_
      refine h_take (v := v335) 9 rfl (by kernel_rfl) (by kernel_rfl) rfl (Chg.refl _ _ _) (fun w' hw' => e_move rfl) ?_
      refine h_one 6 rfl (by kernel_rfl) rfl ?_
      replace o277 := (o277.chg hc349 (not_no _)).chg ch350 (not_no _)
      refine o_of_val (v := Value.pointer (some (eAddr v276 1 (Int.toNat a.1)))) (e_indexAddr (α := List Int) (xs := r) (v := v276) (i := a.1) Try.underlying26 rfl rfl o277.sl rfl (by omega) (by omega)) ?_
      refine ⟨(Chg.refl _ _ _), ?_⟩
      refine h_one 7 rfl (by kernel_rfl) rfl ?_
      obtain ⟨v352, cel353, r354⟩ := nst_row (r := a.1) o277 (by omega) (by omega)
      refine o_of_val (v := v352) (e_load1 tp27_dd rfl cel353) ?_
      refine ⟨(Chg.refl _ _ _), ?_⟩
      refine h_one 10 rfl (by kernel_rfl) rfl ?_
      have C361 : Chg (inl []) _ _ _ _ := (ch339.n).seq ((ch343.n).seq ((hc349.n).seq (ch350.n)))
      replace o337 := o337.chg C361 (is_nl rfl) (is_nl rfl)
      refine o_callx (σ := Cmap × Value) (V := fun x => x.2) (e_call (vals := [v352, Value.int .i64 ((idxS (gI r a.1) a.2) + 1), v335]) Try.func100 bd100_dd nm100_dd rfl) (ins_calls insL (γ := g341) (J := row 11 (Int.toNat a.1 + 1)) (K := is 15) (S := row 11 (Int.toNat a.1 + 1)) (xs := gI r a.1) (ys := ([2 * (List.length g.2 : Int)] : List Int)) (i := (idxS (gI r a.1) a.2) + 1) (11, Int.toNat a.1 + 1) rfl r354 o337 (row_ne rfl) (by omega) (by omega) (by simp) (by first | (simp only [List.length_cons, List.length_nil]; omega) | (have h7 := putS_row (r := r) (c := a) (hs := [2 * (g.2.length : Int)]) hca0 hca9 (v := b.1) hcb0; unfold putS at h7; simp only [List.length_cons, List.length_nil] at h7 ⊢; omega))) ?_
      rintro ⟨g355, v357⟩ w356 ⟨ch358, o359⟩
      have o360 := o277.rowchg ch358
      clear o277
      clear cel353
      clear r354
      have hs362 : Chg (inl [11]) _ _ _ _ := ch358.lr rfl
      refine ⟨hs362.same, ?_⟩
      refine h_one 11 rfl (by kernel_rfl) rfl ?_
      obtain ⟨us363, hl364, r365⟩ := o360.vc
      try simp only [List.length_set, List.length_append, List.length_cons, List.length_nil] at hl364
      refine o_of_val (v := Value.pointer (some (eAddr v276 1 (Int.toNat a.1)))) (e_indexAddr (α := Vc) (xs := us363) (v := v276) (i := a.1) Try.underlying26 rfl rfl r365 rfl (by omega) (by omega)) ?_
      refine ⟨hs362.same, ?_⟩
      refine h_one 12 rfl (by kernel_rfl) rfl ?_
      refine o_store_row (r := a.1) tp27_dd rfl rfl o360 o359 (by omega) (by omega) ?_
      intro w369 ch370 o371
      clear o360
      clear o359
      have hs372 := hs362.seq (ch370.l rfl)
      refine ⟨hs372.same, ?_⟩
      refine h_nil (by kernel_rfl) ?_
      refine run_end (vs := []) Try.func77 .nil ?_
      refine ⟨Value.tuple (List.toArray []), rfl, ?_⟩
      refine l_nil ?_
      clear bx10
      clear o337
      clear bx342
      refine run_region rfl ?_
      refine l_val (v := v276) rfl (e_move rfl) ?_
      have C373 : Chg (inl [11]) _ _ _ _ := (ch336.n).seq ((ch339.n).seq ((ch343.n).seq ((hc349.n).seq ((ch350.n).seq ((ch358.lr rfl).seq (ch370.l rfl))))))
      replace bx15 := bx15.chg C373 (is_nl rfl)
      refine l_val (v := Value.agg (List.toArray [Value.int .i64 b.1, Value.int .i64 b.2])) rfl (e_load_bxN (ds := [Value.int .i64 b.1, Value.int .i64 b.2]) tp55_dd (by exact zs7) bx15 rfl rfl) ?_
      refine l_val (v := Value.int .i64 (2 * (List.length g.2 : Int))) rfl (e_move rfl) ?_
      refine l_val (v := Value.int .i64 ((2 * (List.length g.2 : Int)) + 1)) rfl (e_add (m := 2 * (List.length g.2 : Int)) (n := 1) rfl rfl (by omega)) ?_
      refine l_op rfl ?_
      refine o_buildSlice (α := Int) g355 (is 17) (is 17) (17, 0) rfl ([(2 * (List.length g.2 : Int)) + 1] : List Int) Try.underlying27 tp3_dd (by decide) (by decide) (vs := [(0, Value.int .i64 ((2 * (List.length g.2 : Int)) + 1))]) rfl rfl (.cons rfl .nil) ?_
      intro g374 w375 v376 ch377 o378
      refine l_op rfl ?_
      refine o_inline (e_call (vals := [v276, Value.agg (List.toArray [Value.int .i64 b.1, Value.int .i64 b.2]), v376]) Try.func77 bd77_dd nm77_dd rfl) ?_
      refine calls_of_run Try.func77 rfl (Nat.le_of_ble_eq_true rfl) ?_
      replace o371 := o371.chg ch377 (not_no _)
      have hix_c3 := idx_bd (gI (List.set r (Int.toNat a.1) (List.take (Int.toNat ((idxS (gI r a.1) a.2) + 1)) (gI r a.1) ++ ([2 * (List.length g.2 : Int)] : List Int) ++ List.drop (Int.toNat ((idxS (gI r a.1) a.2) + 1)) (gI r a.1))) b.1) b.2
      refine run_seq (run_region rfl (l_op rfl ?_))
      refine o_box g374 (is 18) (18, 0) rfl rfl ?_
      intro g382 w379 b381 ch380 bx383
      replace bx383 : Bx g382 (is 18) w379 b381 [Value.int .i64 b.1, Value.int .i64 b.2] := bx383
      refine l_nil (run_seq ?_)
      refine region_q g382 rfl mixed_dd (by kernel_rfl) ?_
      intro w385 ch384
      refine q_val (v := v276) rfl (fun w' hw' => e_move rfl) ?_
      refine q_val (v := Value.pointer (some ⟨b381, 0, none⟩)) rfl (fun w' hw' => e_fieldAddr Try.underlying55 rfl rfl rfl rfl) ?_
      replace bx383 := bx383.chg ch384 (not_no _)
      refine q_val (v := Value.int .i64 b.1) rfl (fun w' hw' => e_load_bx1 tp3_dd rfl (bx383.bel hw') rfl) ?_
      replace o371 := (o371.chg ch380 (not_no _)).chg ch384 (not_no _)
      refine q_val (v := Value.pointer (some (eAddr v276 1 (Int.toNat b.1)))) rfl (fun w' hw' => e_indexAddr (α := List Int) (xs := (List.set r (Int.toNat a.1) (List.take (Int.toNat ((idxS (gI r a.1) a.2) + 1)) (gI r a.1) ++ ([2 * (List.length g.2 : Int)] : List Int) ++ List.drop (Int.toNat ((idxS (gI r a.1) a.2) + 1)) (gI r a.1)))) (v := v276) (i := b.1) Try.underlying26 rfl rfl (o371.sl.bel hw') rfl (by omega) (by first | omega | (simp only [List.length_set, List.length_append, List.length_cons, List.length_nil, List.length_replicate, List.length_map, List.length_take, List.length_drop]; omega) | (simp; done) | (simp; omega))) ?_
      obtain ⟨v386, cel387, r388⟩ := nst_row (r := b.1) o371 (by omega) (by first | omega | (simp only [List.length_set, List.length_append, List.length_cons, List.length_nil, List.length_replicate, List.length_map, List.length_take, List.length_drop]; omega) | (simp; done) | (simp; omega))
      refine q_val (v := v386) rfl (fun w' hw' => e_load1 tp27_dd rfl (cel_bel cel387 hw')) ?_
      refine q_val (v := Value.pointer (some ⟨b381, 1, none⟩)) rfl (fun w' hw' => e_fieldAddr Try.underlying55 rfl rfl rfl rfl) ?_
      refine q_val (v := Value.int .i64 b.2) rfl (fun w' hw' => e_load_bx1 tp3_dd rfl (bx383.bel hw') rfl) ?_
      refine q_call (v := Value.int .i64 (idxS (gI (List.set r (Int.toNat a.1) (List.take (Int.toNat ((idxS (gI r a.1) a.2) + 1)) (gI r a.1) ++ ([2 * (List.length g.2 : Int)] : List Int) ++ List.drop (Int.toNat ((idxS (gI r a.1) a.2) + 1)) (gI r a.1))) b.1) b.2)) rfl (fun w' hw' => e_call (vals := [v386, Value.int .i64 b.2]) Try.func71 bd71_dd nm71_dd rfl) (fun w' hw' => (Index_ok w' (gI (List.set r (Int.toNat a.1) (List.take (Int.toNat ((idxS (gI r a.1) a.2) + 1)) (gI r a.1) ++ ([2 * (List.length g.2 : Int)] : List Int) ++ List.drop (Int.toNat ((idxS (gI r a.1) a.2) + 1)) (gI r a.1))) b.1) v386 ((r388.row_sl.bel hw')).ro b.2).mono fun e w2 h2 => ⟨h2.1, hw'.trans (h2.2.mono hw'.size)⟩) ?_
      refine q_val (v := Value.int .i64 ((idxS (gI (List.set r (Int.toNat a.1) (List.take (Int.toNat ((idxS (gI r a.1) a.2) + 1)) (gI r a.1) ++ ([2 * (List.length g.2 : Int)] : List Int) ++ List.drop (Int.toNat ((idxS (gI r a.1) a.2) + 1)) (gI r a.1))) b.1) b.2) + 1)) rfl (fun w' hw' => e_add (m := idxS (gI (List.set r (Int.toNat a.1) (List.take (Int.toNat ((idxS (gI r a.1) a.2) + 1)) (gI r a.1) ++ ([2 * (List.length g.2 : Int)] : List Int) ++ List.drop (Int.toNat ((idxS (gI r a.1) a.2) + 1)) (gI r a.1))) b.1) b.2) (n := 1) rfl rfl (by first | omega | (have h7 := putS_row (r := r) (c := a) (hs := [2 * (g.2.length : Int)]) hca0 hca9 (v := b.1) hcb0; unfold putS at h7; simp only [List.length_cons, List.length_nil] at h7 ⊢; omega))) ?_
      refine q_val (v := Value.int .i64 ((idxS (gI (List.set r (Int.toNat a.1) (List.take (Int.toNat ((idxS (gI r a.1) a.2) + 1)) (gI r a.1) ++ ([2 * (List.length g.2 : Int)] : List Int) ++ List.drop (Int.toNat ((idxS (gI r a.1) a.2) + 1)) (gI r a.1))) b.1) b.2) + 1)) rfl (fun w' hw' => e_assign rfl) ?_
      refine q_nil ?_
      intro w389 hc390
      replace hc390 := chg_below hc390 g382
      clear cel387
      clear r388
      refine run_region_h g382 (inl [11]) mixed_dd ?_
      intro w392 ch391
      refine h_take (v := v276) 0 rfl (by kernel_rfl) (by kernel_rfl) rfl (Chg.refl _ _ _) (fun w' hw' => e_move rfl) ?_
      refine h_take (v := Value.pointer (some ⟨b381, 0, none⟩)) 1 rfl (by kernel_rfl) (by kernel_rfl) rfl (Chg.refl _ _ _) (fun w' hw' => e_fieldAddr Try.underlying55 rfl rfl rfl rfl) ?_
      replace bx383 := (bx383.chg hc390 (not_no _)).chg ch391 (not_no _)
      refine h_take (v := Value.int .i64 b.1) 2 rfl (by kernel_rfl) (by kernel_rfl) rfl (Chg.refl _ _ _) (fun w' hw' => e_load_bx1 tp3_dd rfl (bx383.chg hw' (is_nl rfl)) rfl) ?_
      refine h_take (v := v276) 3 rfl (by kernel_rfl) (by kernel_rfl) rfl (Chg.refl _ _ _) (fun w' hw' => e_move rfl) ?_
      refine h_take (v := Value.pointer (some ⟨b381, 0, none⟩)) 4 rfl (by kernel_rfl) (by kernel_rfl) rfl (Chg.refl _ _ _) (fun w' hw' => e_fieldAddr Try.underlying55 rfl rfl rfl rfl) ?_
      refine h_take (v := Value.int .i64 b.1) 5 rfl (by kernel_rfl) (by kernel_rfl) rfl (Chg.refl _ _ _) (fun w' hw' => e_load_bx1 tp3_dd rfl (bx383.chg hw' (is_nl rfl)) rfl) ?_
      refine h_take (v := Value.int .i64 ((idxS (gI (List.set r (Int.toNat a.1) (List.take (Int.toNat ((idxS (gI r a.1) a.2) + 1)) (gI r a.1) ++ ([2 * (List.length g.2 : Int)] : List Int) ++ List.drop (Int.toNat ((idxS (gI r a.1) a.2) + 1)) (gI r a.1))) b.1) b.2) + 1)) 8 rfl (by kernel_rfl) (by kernel_rfl) rfl (Chg.refl _ _ _) (fun w' hw' => e_move rfl) ?_
      refine h_take (v := v376) 9 rfl (by kernel_rfl) (by kernel_rfl) rfl (Chg.refl _ _ _) (fun w' hw' => e_move rfl) ?_
      refine h_one 6 rfl (by kernel_rfl) rfl ?_
      replace o371 := (o371.chg hc390 (not_no _)).chg ch391 (not_no _)
      refine o_of_val (v := Value.pointer (some (eAddr v276 1 (Int.toNat b.1)))) (e_indexAddr (α := List Int) (xs := (List.set r (Int.toNat a.1) (List.take (Int.toNat ((idxS (gI r a.1) a.2) + 1)) (gI r a.1) ++ ([2 * (List.length g.2 : Int)] : List Int) ++ List.drop (Int.toNat ((idxS (gI r a.1) a.2) + 1)) (gI r a.1)))) (v := v276) (i := b.1) Try.underlying26 rfl rfl o371.sl rfl (by omega) (by first | omega | (simp only [List.length_set, List.length_append, List.length_cons, List.length_nil, List.length_replicate, List.length_map, List.length_take, List.length_drop]; omega) | (simp; done) | (simp; omega))) ?_
      refine ⟨(Chg.refl _ _ _), ?_⟩
      refine h_one 7 rfl (by kernel_rfl) rfl ?_
      obtain ⟨v393, cel394, r395⟩ := nst_row (r := b.1) o371 (by omega) (by first | omega | (simp only [List.length_set, List.length_append, List.length_cons, List.length_nil, List.length_replicate, List.length_map, List.length_take, List.length_drop]; omega) | (simp; done) | (simp; omega))
      refine o_of_val (v := v393) (e_load1 tp27_dd rfl cel394) ?_
      refine ⟨(Chg.refl _ _ _), ?_⟩
      refine h_one 10 rfl (by kernel_rfl) rfl ?_
      have C402 : Chg (inl []) _ _ _ _ := (ch380.n).seq ((ch384.n).seq ((hc390.n).seq (ch391.n)))
      replace o378 := o378.chg C402 (is_nl rfl) (is_nl rfl)
      refine o_callx (σ := Cmap × Value) (V := fun x => x.2) (e_call (vals := [v393, Value.int .i64 ((idxS (gI (List.set r (Int.toNat a.1) (List.take (Int.toNat ((idxS (gI r a.1) a.2) + 1)) (gI r a.1) ++ ([2 * (List.length g.2 : Int)] : List Int) ++ List.drop (Int.toNat ((idxS (gI r a.1) a.2) + 1)) (gI r a.1))) b.1) b.2) + 1), v376]) Try.func100 bd100_dd nm100_dd rfl) (ins_calls insL (γ := g382) (J := row 11 (Int.toNat b.1 + 1)) (K := is 17) (S := row 11 (Int.toNat b.1 + 1)) (xs := gI (List.set r (Int.toNat a.1) (List.take (Int.toNat ((idxS (gI r a.1) a.2) + 1)) (gI r a.1) ++ ([2 * (List.length g.2 : Int)] : List Int) ++ List.drop (Int.toNat ((idxS (gI r a.1) a.2) + 1)) (gI r a.1))) b.1) (ys := ([(2 * (List.length g.2 : Int)) + 1] : List Int)) (i := (idxS (gI (List.set r (Int.toNat a.1) (List.take (Int.toNat ((idxS (gI r a.1) a.2) + 1)) (gI r a.1) ++ ([2 * (List.length g.2 : Int)] : List Int) ++ List.drop (Int.toNat ((idxS (gI r a.1) a.2) + 1)) (gI r a.1))) b.1) b.2) + 1) (11, Int.toNat b.1 + 1) rfl r395 o378 (row_ne rfl) (by omega) (by omega) (by simp) (by first | (simp only [List.length_cons, List.length_nil]; omega) | (have h7 := putS_row (r := r) (c := a) (hs := [2 * (g.2.length : Int)]) hca0 hca9 (v := b.1) hcb0; unfold putS at h7; simp only [List.length_cons, List.length_nil] at h7 ⊢; omega))) ?_
      rintro ⟨g396, v398⟩ w397 ⟨ch399, o400⟩
      have o401 := o371.rowchg ch399
      clear o371
      clear cel394
      clear r395
      have hs403 : Chg (inl [11]) _ _ _ _ := ch399.lr rfl
      refine ⟨hs403.same, ?_⟩
      refine h_one 11 rfl (by kernel_rfl) rfl ?_
      obtain ⟨us404, hl405, r406⟩ := o401.vc
      try simp only [List.length_set, List.length_append, List.length_cons, List.length_nil] at hl405
      refine o_of_val (v := Value.pointer (some (eAddr v276 1 (Int.toNat b.1)))) (e_indexAddr (α := Vc) (xs := us404) (v := v276) (i := b.1) Try.underlying26 rfl rfl r406 rfl (by omega) (by omega)) ?_
      refine ⟨hs403.same, ?_⟩
      refine h_one 12 rfl (by kernel_rfl) rfl ?_
      refine o_store_row (r := b.1) tp27_dd rfl rfl o401 o400 (by omega) (by first | omega | (simp only [List.length_set, List.length_append, List.length_cons, List.length_nil, List.length_replicate, List.length_map, List.length_take, List.length_drop]; omega) | (simp; done) | (simp; omega)) ?_
      intro w410 ch411 o412
      clear o401
      clear o400
      have hs413 := hs403.seq (ch411.l rfl)
      refine ⟨hs413.same, ?_⟩
      refine h_nil (by kernel_rfl) ?_
      refine run_end (vs := []) Try.func77 .nil ?_
      refine ⟨Value.tuple (List.toArray []), rfl, ?_⟩
      refine l_nil (run_seq ?_)
      clear bx15
      clear o378
      clear bx383
      refine run_region rfl ?_
      have C414 : Chg (inl [11]) _ _ _ _ := (ch279.n).seq ((ch336.n).seq ((ch339.n).seq ((ch343.n).seq ((hc349.n).seq ((ch350.n).seq ((ch358.lr rfl).seq ((ch370.l rfl).seq ((ch377.n).seq ((ch380.n).seq ((ch384.n).seq ((hc390.n).seq ((ch391.n).seq ((ch399.lr rfl).seq (ch411.l rfl))))))))))))))
      replace bx96 := bx96.chg C414 (is_nl rfl)
      refine l_val (v := Value.agg (List.toArray [Value.int .i64 g.1, v84])) rfl (e_load_bxN (ds := [Value.int .i64 g.1, v84]) tp24_dd (by exact zs19) bx96 rfl rfl) ?_
      refine l_val (v := v276) rfl (e_move rfl) ?_
      replace o86 := o86.chg C414 (is_nl rfl) (is_nl rfl)
      refine l_op rfl ?_
      refine o_callx (e_call (vals := [Value.agg (List.toArray [Value.int .i64 g.1, v84]), v276]) Try.func55 bd55_dd nm55_dd rfl) (RCanon_ok w410 (g.1, (g.2 ++ ([(a.1, b.1)] : List ((Int) × (Int))))) v84 (o86.flat).ro (List.set (List.set r (Int.toNat a.1) (List.take (Int.toNat ((idxS (gI r a.1) a.2) + 1)) (gI r a.1) ++ ([2 * (List.length g.2 : Int)] : List Int) ++ List.drop (Int.toNat ((idxS (gI r a.1) a.2) + 1)) (gI r a.1))) (Int.toNat b.1) (List.take (Int.toNat ((idxS (gI (List.set r (Int.toNat a.1) (List.take (Int.toNat ((idxS (gI r a.1) a.2) + 1)) (gI r a.1) ++ ([2 * (List.length g.2 : Int)] : List Int) ++ List.drop (Int.toNat ((idxS (gI r a.1) a.2) + 1)) (gI r a.1))) b.1) b.2) + 1)) (gI (List.set r (Int.toNat a.1) (List.take (Int.toNat ((idxS (gI r a.1) a.2) + 1)) (gI r a.1) ++ ([2 * (List.length g.2 : Int)] : List Int) ++ List.drop (Int.toNat ((idxS (gI r a.1) a.2) + 1)) (gI r a.1))) b.1) ++ ([(2 * (List.length g.2 : Int)) + 1] : List Int) ++ List.drop (Int.toNat ((idxS (gI (List.set r (Int.toNat a.1) (List.take (Int.toNat ((idxS (gI r a.1) a.2) + 1)) (gI r a.1) ++ ([2 * (List.length g.2 : Int)] : List Int) ++ List.drop (Int.toNat ((idxS (gI r a.1) a.2) + 1)) (gI r a.1))) b.1) b.2) + 1)) (gI (List.set r (Int.toNat a.1) (List.take (Int.toNat ((idxS (gI r a.1) a.2) + 1)) (gI r a.1) ++ ([2 * (List.length g.2 : Int)] : List Int) ++ List.drop (Int.toNat ((idxS (gI r a.1) a.2) + 1)) (gI r a.1))) b.1))) v276 (o412.sl).ro) ?_
      rintro ⟨d416, v418⟩ w415 ⟨fr417, o419⟩
      obtain ⟨g420, hg420⟩ : ∃ q, q = glue w410.heap.size g396 d416 (fun n => if n = 1 then 14 else 0) := ⟨_, rfl⟩
      have ch421 := chg_glue fr417.below g396 d416 (fun n => if n = 1 then 14 else 0)
      rw [← hg420] at ch421
      replace o419 := o419.glue (γ := g396) (ren := (fun n => if n = 1 then 14 else 0)) (k := 14) fr417.col rfl rfl
      rw [← hg420] at o419
      clear hg420
      refine l_val (v := Value.tuple (List.toArray [v418, Value.int .i64 ((canonR (g.1, (g.2 ++ ([(a.1, b.1)] : List ((Int) × (Int))))) (List.set (List.set r (Int.toNat a.1) (List.take (Int.toNat ((idxS (gI r a.1) a.2) + 1)) (gI r a.1) ++ ([2 * (List.length g.2 : Int)] : List Int) ++ List.drop (Int.toNat ((idxS (gI r a.1) a.2) + 1)) (gI r a.1))) (Int.toNat b.1) (List.take (Int.toNat ((idxS (gI (List.set r (Int.toNat a.1) (List.take (Int.toNat ((idxS (gI r a.1) a.2) + 1)) (gI r a.1) ++ ([2 * (List.length g.2 : Int)] : List Int) ++ List.drop (Int.toNat ((idxS (gI r a.1) a.2) + 1)) (gI r a.1))) b.1) b.2) + 1)) (gI (List.set r (Int.toNat a.1) (List.take (Int.toNat ((idxS (gI r a.1) a.2) + 1)) (gI r a.1) ++ ([2 * (List.length g.2 : Int)] : List Int) ++ List.drop (Int.toNat ((idxS (gI r a.1) a.2) + 1)) (gI r a.1))) b.1) ++ ([(2 * (List.length g.2 : Int)) + 1] : List Int) ++ List.drop (Int.toNat ((idxS (gI (List.set r (Int.toNat a.1) (List.take (Int.toNat ((idxS (gI r a.1) a.2) + 1)) (gI r a.1) ++ ([2 * (List.length g.2 : Int)] : List Int) ++ List.drop (Int.toNat ((idxS (gI r a.1) a.2) + 1)) (gI r a.1))) b.1) b.2) + 1)) (gI (List.set r (Int.toNat a.1) (List.take (Int.toNat ((idxS (gI r a.1) a.2) + 1)) (gI r a.1) ++ ([2 * (List.length g.2 : Int)] : List Int) ++ List.drop (Int.toNat ((idxS (gI r a.1) a.2) + 1)) (gI r a.1))) b.1)))).2)])) rfl (e_move rfl) ?_
      refine l_val (v := v418) rfl (e_extract rfl rfl) ?_
      refine l_val (v := Value.int .i64 ((canonR (g.1, (g.2 ++ ([(a.1, b.1)] : List ((Int) × (Int))))) (List.set (List.set r (Int.toNat a.1) (List.take (Int.toNat ((idxS (gI r a.1) a.2) + 1)) (gI r a.1) ++ ([2 * (List.length g.2 : Int)] : List Int) ++ List.drop (Int.toNat ((idxS (gI r a.1) a.2) + 1)) (gI r a.1))) (Int.toNat b.1) (List.take (Int.toNat ((idxS (gI (List.set r (Int.toNat a.1) (List.take (Int.toNat ((idxS (gI r a.1) a.2) + 1)) (gI r a.1) ++ ([2 * (List.length g.2 : Int)] : List Int) ++ List.drop (Int.toNat ((idxS (gI r a.1) a.2) + 1)) (gI r a.1))) b.1) b.2) + 1)) (gI (List.set r (Int.toNat a.1) (List.take (Int.toNat ((idxS (gI r a.1) a.2) + 1)) (gI r a.1) ++ ([2 * (List.length g.2 : Int)] : List Int) ++ List.drop (Int.toNat ((idxS (gI r a.1) a.2) + 1)) (gI r a.1))) b.1) ++ ([(2 * (List.length g.2 : Int)) + 1] : List Int) ++ List.drop (Int.toNat ((idxS (gI (List.set r (Int.toNat a.1) (List.take (Int.toNat ((idxS (gI r a.1) a.2) + 1)) (gI r a.1) ++ ([2 * (List.length g.2 : Int)] : List Int) ++ List.drop (Int.toNat ((idxS (gI r a.1) a.2) + 1)) (gI r a.1))) b.1) b.2) + 1)) (gI (List.set r (Int.toNat a.1) (List.take (Int.toNat ((idxS (gI r a.1) a.2) + 1)) (gI r a.1) ++ ([2 * (List.length g.2 : Int)] : List Int) ++ List.drop (Int.toNat ((idxS (gI r a.1) a.2) + 1)) (gI r a.1))) b.1)))).2)) rfl (e_extract rfl rfl) ?_
      refine l_val (v := v418) rfl (e_assign rfl) ?_
      refine l_nil (run_seq ?_)
      clear o412
      refine run_region rfl ?_
      replace bx96 := bx96.chg ch421 (not_no _)
      refine l_val (v := Value.agg (List.toArray [Value.int .i64 g.1, v84])) rfl (e_load_bxN (ds := [Value.int .i64 g.1, v84]) tp24_dd (by exact zs19) bx96 rfl rfl) ?_
      refine l_val (v := v418) rfl (e_move rfl) ?_
      refine l_op rfl ?_
      have C425 : Chg (inl [11]) _ _ _ _ := (ch279.n).seq ((ch336.n).seq ((ch339.n).seq ((ch343.n).seq ((hc349.n).seq ((ch350.n).seq ((ch358.lr rfl).seq ((ch370.l rfl).seq ((ch377.n).seq ((ch380.n).seq ((ch384.n).seq ((hc390.n).seq ((ch391.n).seq ((ch399.lr rfl).seq ((ch411.l rfl).seq (ch421.n)))))))))))))))
      replace bx20 := bx20.chg C425 (is_nl rfl)
      replace o86 := o86.chg ch421 (not_no _) (not_no _)
      refine o_store_bx (cs' := [Value.int .i64 g.1, v84]) tp24_dd (by exact zs8) rfl bx20 rfl (Nat.le_of_ble_eq_true rfl) (AllOne.all (.cons rfl (.cons (sl_one o86.flat) .nil))) rfl ?_
      intro w422 ch423 bx424
      clear bx20
      refine l_val (v := v418) rfl (e_assign rfl) ?_
      refine l_val (v := Value.int .i64 0) rfl (e_assign rfl) ?_
      refine l_nil ?_
      refine run_ret (vs := [Value.agg (List.toArray [Value.int .i64 g.1, v84]), v418, Value.int .i64 0]) Try.func30 (.cell (by exact zs8) (load_bxN (ds := [Value.int .i64 g.1, v84]) tp24_dd bx424 rfl rfl) (.tmp rfl (.tmp rfl .nil))) ?_
      -- return 2
      have C426 : Chg (inl [4, 11]) _ _ _ _ := (ch279.n).seq ((ch336.n).seq ((ch339.n).seq ((ch343.n).seq ((hc349.n).seq ((ch350.n).seq ((ch358.lr rfl).seq ((ch370.l rfl).seq ((ch377.n).seq ((ch380.n).seq ((ch384.n).seq ((hc390.n).seq ((ch391.n).seq ((ch399.lr rfl).seq ((ch411.l rfl).seq ((ch421.n).seq (ch423.l rfl))))))))))))))))
      replace hbase := hbase.chg C426 (is_nl rfl)
      replace o86 := o86.chg ch423 (is_ne rfl) (is_ne rfl)
      replace o419 := o419.chg ch423 (is_ne rfl)
      have e0 : ((g.1, (g.2 ++ ([(a.1, b.1)] : List ((Int) × (Int))))) : (Int) × (List ((Int) × (Int)))) = ((layR g r a b).1) := by
        first
          | (rw [layR_no (by assumption)]; done)
          | (rw [layR_bd (by assumption) (by first | exact .inl (by assumption) | exact .inr (by assumption))]; done)
          | (rw [layR_lim (by assumption) (by assumption) (by assumption) (by assumption)]; done)
          | (rw [layR_gen (by assumption) (by assumption) (by assumption) (by assumption) (by assumption) (by assumption)]; done)
          | (rw [layR_ok (by assumption) (by assumption) (by assumption) (by assumption) (by first | exact .inl (by assumption) | exact .inr (by assumption))]
             first
               | done
               | (unfold laidS; rw [if_pos (by assumption)]; done)
               | (unfold laidS; rw [if_neg (by assumption)]; done)
               | (unfold laidS; rw [if_pos (by assumption)]; rfl)
               | (unfold laidS; rw [if_neg (by assumption)]; rfl))
      have e1 : ((canonR (g.1, (g.2 ++ ([(a.1, b.1)] : List ((Int) × (Int))))) (List.set (List.set r (Int.toNat a.1) (List.take (Int.toNat ((idxS (gI r a.1) a.2) + 1)) (gI r a.1) ++ ([2 * (List.length g.2 : Int)] : List Int) ++ List.drop (Int.toNat ((idxS (gI r a.1) a.2) + 1)) (gI r a.1))) (Int.toNat b.1) (List.take (Int.toNat ((idxS (gI (List.set r (Int.toNat a.1) (List.take (Int.toNat ((idxS (gI r a.1) a.2) + 1)) (gI r a.1) ++ ([2 * (List.length g.2 : Int)] : List Int) ++ List.drop (Int.toNat ((idxS (gI r a.1) a.2) + 1)) (gI r a.1))) b.1) b.2) + 1)) (gI (List.set r (Int.toNat a.1) (List.take (Int.toNat ((idxS (gI r a.1) a.2) + 1)) (gI r a.1) ++ ([2 * (List.length g.2 : Int)] : List Int) ++ List.drop (Int.toNat ((idxS (gI r a.1) a.2) + 1)) (gI r a.1))) b.1) ++ ([(2 * (List.length g.2 : Int)) + 1] : List Int) ++ List.drop (Int.toNat ((idxS (gI (List.set r (Int.toNat a.1) (List.take (Int.toNat ((idxS (gI r a.1) a.2) + 1)) (gI r a.1) ++ ([2 * (List.length g.2 : Int)] : List Int) ++ List.drop (Int.toNat ((idxS (gI r a.1) a.2) + 1)) (gI r a.1))) b.1) b.2) + 1)) (gI (List.set r (Int.toNat a.1) (List.take (Int.toNat ((idxS (gI r a.1) a.2) + 1)) (gI r a.1) ++ ([2 * (List.length g.2 : Int)] : List Int) ++ List.drop (Int.toNat ((idxS (gI r a.1) a.2) + 1)) (gI r a.1))) b.1)))).1 : List (List Int)) = ((layR g r a b).2.1) := by
        first
          | (rw [layR_no (by assumption)]; done)
          | (rw [layR_bd (by assumption) (by first | exact .inl (by assumption) | exact .inr (by assumption))]; done)
          | (rw [layR_lim (by assumption) (by assumption) (by assumption) (by assumption)]; done)
          | (rw [layR_gen (by assumption) (by assumption) (by assumption) (by assumption) (by assumption) (by assumption)]; done)
          | (rw [layR_ok (by assumption) (by assumption) (by assumption) (by assumption) (by first | exact .inl (by assumption) | exact .inr (by assumption))]
             first
               | done
               | (unfold laidS; rw [if_pos (by assumption)]; done)
               | (unfold laidS; rw [if_neg (by assumption)]; done)
               | (unfold laidS; rw [if_pos (by assumption)]; rfl)
               | (unfold laidS; rw [if_neg (by assumption)]; rfl))
      have e2 : (0 : Int) = ((layR g r a b).2.2) := by
        first
          | (rw [layR_no (by assumption)]; done)
          | (rw [layR_bd (by assumption) (by first | exact .inl (by assumption) | exact .inr (by assumption))]; done)
          | (rw [layR_lim (by assumption) (by assumption) (by assumption) (by assumption)]; done)
          | (rw [layR_gen (by assumption) (by assumption) (by assumption) (by assumption) (by assumption) (by assumption)]; done)
          | (rw [layR_ok (by assumption) (by assumption) (by assumption) (by assumption) (by first | exact .inl (by assumption) | exact .inr (by assumption))]
             first
               | done
               | (unfold laidS; rw [if_pos (by assumption)]; done)
               | (unfold laidS; rw [if_neg (by assumption)]; done)
               | (unfold laidS; rw [if_pos (by assumption)]; rfl)
               | (unfold laidS; rw [if_neg (by assumption)]; rfl))
      exact ⟨(fin w0 g420 (fun n => if n = 8 then 1 else if n = 14 then 2 else 0), v84, v418), (congr3 (a := (g.1, (g.2 ++ ([(a.1, b.1)] : List ((Int) × (Int)))))) (b := (canonR (g.1, (g.2 ++ ([(a.1, b.1)] : List ((Int) × (Int))))) (List.set (List.set r (Int.toNat a.1) (List.take (Int.toNat ((idxS (gI r a.1) a.2) + 1)) (gI r a.1) ++ ([2 * (List.length g.2 : Int)] : List Int) ++ List.drop (Int.toNat ((idxS (gI r a.1) a.2) + 1)) (gI r a.1))) (Int.toNat b.1) (List.take (Int.toNat ((idxS (gI (List.set r (Int.toNat a.1) (List.take (Int.toNat ((idxS (gI r a.1) a.2) + 1)) (gI r a.1) ++ ([2 * (List.length g.2 : Int)] : List Int) ++ List.drop (Int.toNat ((idxS (gI r a.1) a.2) + 1)) (gI r a.1))) b.1) b.2) + 1)) (gI (List.set r (Int.toNat a.1) (List.take (Int.toNat ((idxS (gI r a.1) a.2) + 1)) (gI r a.1) ++ ([2 * (List.length g.2 : Int)] : List Int) ++ List.drop (Int.toNat ((idxS (gI r a.1) a.2) + 1)) (gI r a.1))) b.1) ++ ([(2 * (List.length g.2 : Int)) + 1] : List Int) ++ List.drop (Int.toNat ((idxS (gI (List.set r (Int.toNat a.1) (List.take (Int.toNat ((idxS (gI r a.1) a.2) + 1)) (gI r a.1) ++ ([2 * (List.length g.2 : Int)] : List Int) ++ List.drop (Int.toNat ((idxS (gI r a.1) a.2) + 1)) (gI r a.1))) b.1) b.2) + 1)) (gI (List.set r (Int.toNat a.1) (List.take (Int.toNat ((idxS (gI r a.1) a.2) + 1)) (gI r a.1) ++ ([2 * (List.length g.2 : Int)] : List Int) ++ List.drop (Int.toNat ((idxS (gI r a.1) a.2) + 1)) (gI r a.1))) b.1)))).1) (c := 0) (fun (z0 : (Int) × (List ((Int) × (Int)))) (z1 : List (List Int)) (z2 : Int) => Ending.returned (Value.tuple (List.toArray [Value.agg (List.toArray [Value.int .i64 z0.1, v84]), v418, Value.int .i64 z2]))) e0 e1 e2), hbase.fresh _, ((congrArg (fun (z : (Int) × (List ((Int) × (Int)))) => z.2) e0) ▸ (o86.glue (γ := c0) (ren := (fun n => if n = 8 then 1 else if n = 14 then 2 else 0)) (k := 1) hbase.col rfl rfl)), (e1 ▸ (o419.glue (γ := c0) (ren := (fun n => if n = 8 then 1 else if n = 14 then 2 else 0)) (k := 2) hbase.col rfl rfl))⟩
     refine run_cond_t rfl (congrArg Bool.not (decide_eq_false p11)) ?_
     refine run_seq ?_
     clear bx5
     clear bx10
     clear bx15
     clear o46
     clear o53
     refine run_region rfl ?_
     refine l_val (v := Value.agg (List.toArray [Value.int .i64 0, Value.slice none 0 0])) rfl (e_build (vs := []) rfl (by kernel_rfl)) ?_
     refine l_op rfl ?_
     have C430 : Chg (inl []) _ _ _ _ := (ch29.n).seq ((hb32.n).seq ((hb35.n).seq ((ch48.n).seq ((ch55.n).seq ((hb58.n).seq ((ch59.n).seq (hc66.n)))))))
     replace bx20 := bx20.chg C430 (is_nl rfl)
     refine o_store_bx (cs' := [Value.int .i64 0, Value.slice none 0 0]) tp24_dd rfl rfl bx20 rfl (Nat.le_of_ble_eq_true rfl) (AllOne.all (.cons rfl (.cons rfl .nil))) rfl ?_
     intro w427 ch428 bx429
     clear bx20
     refine l_val (v := Value.slice none 0 0) rfl (e_assign rfl) ?_
     refine l_val (v := Value.int .i64 5) rfl (e_assign rfl) ?_
     refine l_nil ?_
     refine run_ret (vs := [Value.agg (List.toArray [Value.int .i64 0, Value.slice none 0 0]), Value.slice none 0 0, Value.int .i64 5]) Try.func30 (.cell rfl (load_bxN (ds := [Value.int .i64 0, Value.slice none 0 0]) tp24_dd bx429 rfl rfl) (.tmp rfl (.tmp rfl .nil))) ?_
     -- return 3
     have C431 : Chg (inl [4]) _ _ _ _ := (ch2.n).seq ((ch7.n).seq ((ch12.n).seq ((ch17.n).seq ((ch29.n).seq ((hb32.n).seq ((hb35.n).seq ((ch48.n).seq ((ch55.n).seq ((hb58.n).seq ((ch59.n).seq ((hc66.n).seq (ch428.l rfl))))))))))))
     replace hbase := hbase.chg C431 (is_nl rfl)
     have e0 : ((0, []) : (Int) × (List ((Int) × (Int)))) = ((layR g r a b).1) := by
       first
         | (rw [layR_no (by assumption)]; done)
         | (rw [layR_bd (by assumption) (by first | exact .inl (by assumption) | exact .inr (by assumption))]; done)
         | (rw [layR_lim (by assumption) (by assumption) (by assumption) (by assumption)]; done)
         | (rw [layR_gen (by assumption) (by assumption) (by assumption) (by assumption) (by assumption) (by assumption)]; done)
         | (rw [layR_ok (by assumption) (by assumption) (by assumption) (by assumption) (by first | exact .inl (by assumption) | exact .inr (by assumption))]
            first
              | done
              | (unfold laidS; rw [if_pos (by assumption)]; done)
              | (unfold laidS; rw [if_neg (by assumption)]; done)
              | (unfold laidS; rw [if_pos (by assumption)]; rfl)
              | (unfold laidS; rw [if_neg (by assumption)]; rfl))
     have e1 : ([] : List (List Int)) = ((layR g r a b).2.1) := by
       first
         | (rw [layR_no (by assumption)]; done)
         | (rw [layR_bd (by assumption) (by first | exact .inl (by assumption) | exact .inr (by assumption))]; done)
         | (rw [layR_lim (by assumption) (by assumption) (by assumption) (by assumption)]; done)
         | (rw [layR_gen (by assumption) (by assumption) (by assumption) (by assumption) (by assumption) (by assumption)]; done)
         | (rw [layR_ok (by assumption) (by assumption) (by assumption) (by assumption) (by first | exact .inl (by assumption) | exact .inr (by assumption))]
            first
              | done
              | (unfold laidS; rw [if_pos (by assumption)]; done)
              | (unfold laidS; rw [if_neg (by assumption)]; done)
              | (unfold laidS; rw [if_pos (by assumption)]; rfl)
              | (unfold laidS; rw [if_neg (by assumption)]; rfl))
     have e2 : (5 : Int) = ((layR g r a b).2.2) := by
       first
         | (rw [layR_no (by assumption)]; done)
         | (rw [layR_bd (by assumption) (by first | exact .inl (by assumption) | exact .inr (by assumption))]; done)
         | (rw [layR_lim (by assumption) (by assumption) (by assumption) (by assumption)]; done)
         | (rw [layR_gen (by assumption) (by assumption) (by assumption) (by assumption) (by assumption) (by assumption)]; done)
         | (rw [layR_ok (by assumption) (by assumption) (by assumption) (by assumption) (by first | exact .inl (by assumption) | exact .inr (by assumption))]
            first
              | done
              | (unfold laidS; rw [if_pos (by assumption)]; done)
              | (unfold laidS; rw [if_neg (by assumption)]; done)
              | (unfold laidS; rw [if_pos (by assumption)]; rfl)
              | (unfold laidS; rw [if_neg (by assumption)]; rfl))
     exact ⟨(fin w0 g54 (fun n => 0), (Value.slice none 0 0), (Value.slice none 0 0)), (congr3 (a := (0, [])) (b := []) (c := 5) (fun (z0 : (Int) × (List ((Int) × (Int)))) (z1 : List (List Int)) (z2 : Int) => Ending.returned (Value.tuple (List.toArray [Value.agg (List.toArray [Value.int .i64 z0.1, Value.slice none 0 0]), Value.slice none 0 0, Value.int .i64 z2]))) e0 e1 e2), hbase.fresh _, ((congrArg (fun (z : (Int) × (List ((Int) × (Int)))) => z.2) e0) ▸ Ow.nil), (e1 ▸ Nst.nil)⟩
    refine q_skip (want_n rfl rfl rfl (decide_eq_false q78)) ?_
    refine q_skip (want_n rfl rfl rfl (decide_eq_false q78)) ?_
    refine q_skip (want_n rfl rfl rfl (decide_eq_false q78)) ?_
    refine q_skip (want_n rfl rfl rfl (decide_eq_false q78)) ?_
    refine q_skip (want_n rfl rfl rfl (decide_eq_false q78)) ?_
    refine q_skip (want_n rfl rfl rfl (decide_eq_false q78)) ?_
    refine q_skip (want_n rfl rfl rfl (decide_eq_false q78)) ?_
    refine q_skip (want_n rfl rfl rfl (decide_eq_false q78)) ?_
    refine q_skip (want_n rfl rfl rfl (decide_eq_false q78)) ?_
    refine q_skip (want_n rfl rfl rfl (decide_eq_false q78)) ?_
    refine q_skip (want_n rfl rfl rfl (decide_eq_false q78)) ?_
    refine q_val (v := Value.bool false) rfl (fun w' hw' => e_pick_f rfl (decide_eq_false q78) rfl) ?_
    refine q_nil ?_
    intro w432 hc433
    replace hc433 := chg_below hc433 g54
    refine run_cond_f rfl rfl ?_
    refine run_skip ?_
    refine run_seq ?_
    clear o46
    clear o53
    refine region_midh (σ := Nat × Value × Cmap) (fun ⟨b457, v451, gq⟩ f w => Base w0 gq w ∧ f 1 = r_v ∧ f 4 = Value.pointer (some ⟨b3, 0, none⟩) ∧ f 6 = Value.pointer (some ⟨b8, 0, none⟩) ∧ f 7 = Value.pointer (some ⟨b13, 0, none⟩) ∧ f 8 = Value.pointer (some ⟨b18, 0, none⟩) ∧ f 19 = Value.pointer (some ⟨b457, 0, none⟩) ∧ Sl gq (is 0) w g_v g.2 ∧ Sl gq (is 0) w r_v r ∧ Bx gq (is 1) w b3 [Value.int .i64 g.1, g_v] ∧ Bx gq (is 2) w b8 [Value.int .i64 a.1, Value.int .i64 a.2] ∧ Bx gq (is 3) w b13 [Value.int .i64 b.1, Value.int .i64 b.2] ∧ Bx gq (is 4) w b18 [Value.int .i64 0, Value.slice none 0 0] ∧ Ow gq (is 8) (is 8) w v451 (g.2 ++ ([(a.1, b.1)] : List ((Int) × (Int)))) ∧ Bx gq (is 10) w b457 [Value.int .i64 g.1, v451]) g54 (inl [8, 10]) mixed_dd ?_ ?_
    ·
     intro mid
     intro w435 ch434
     refine h_take (v := Value.pointer (some ⟨b3, 0, none⟩)) 0 rfl (by kernel_rfl) (by kernel_rfl) rfl (Chg.refl _ _ _) (fun w' hw' => e_fieldAddr Try.underlying24 rfl rfl rfl rfl) ?_
     have C436 : Chg (inl []) _ _ _ _ := (ch55.n).seq ((hb58.n).seq ((ch59.n).seq ((hc433.n).seq (ch434.n))))
     replace bx5 := bx5.chg C436 (is_nl rfl)
     refine h_take (v := Value.int .i64 g.1) 1 rfl (by kernel_rfl) (by kernel_rfl) rfl (Chg.refl _ _ _) (fun w' hw' => e_load_bx1 tp3_dd rfl (bx5.chg hw' (is_nl rfl)) rfl) ?_
     refine h_take (v := Value.pointer (some ⟨b3, 1, none⟩)) 2 rfl (by kernel_rfl) (by kernel_rfl) rfl (Chg.refl _ _ _) (fun w' hw' => e_fieldAddr Try.underlying24 rfl rfl rfl rfl) ?_
     refine h_take (v := g_v) 3 rfl (by kernel_rfl) (by kernel_rfl) rfl (Chg.refl _ _ _) (fun w' hw' => e_load_bx1 tp22_dd rfl (bx5.chg hw' (is_nl rfl)) rfl) ?_
     refine h_take (v := Value.pointer (some ⟨b8, 0, none⟩)) 5 rfl (by kernel_rfl) (by kernel_rfl) rfl (Chg.refl _ _ _) (fun w' hw' => e_fieldAddr Try.underlying55 rfl rfl rfl rfl) ?_
     replace bx10 := (bx10.chg hc433 (not_no _)).chg ch434 (not_no _)
     refine h_take (v := Value.int .i64 a.1) 6 rfl (by kernel_rfl) (by kernel_rfl) rfl (Chg.refl _ _ _) (fun w' hw' => e_load_bx1 tp3_dd rfl (bx10.chg hw' (is_nl rfl)) rfl) ?_
     refine h_take (v := Value.pointer (some ⟨b13, 0, none⟩)) 7 rfl (by kernel_rfl) (by kernel_rfl) rfl (Chg.refl _ _ _) (fun w' hw' => e_fieldAddr Try.underlying55 rfl rfl rfl rfl) ?_
     replace bx15 := (bx15.chg hc433 (not_no _)).chg ch434 (not_no _)
     refine h_take (v := Value.int .i64 b.1) 8 rfl (by kernel_rfl) (by kernel_rfl) rfl (Chg.refl _ _ _) (fun w' hw' => e_load_bx1 tp3_dd rfl (bx15.chg hw' (is_nl rfl)) rfl) ?_
     refine h_take (v := Value.agg (List.toArray [Value.int .i64 a.1, Value.int .i64 b.1])) 9 rfl (by kernel_rfl) (by kernel_rfl) rfl (Chg.refl _ _ _) (fun w' hw' => e_build (vs := [(0, Value.int .i64 a.1), (1, Value.int .i64 b.1)]) rfl (by kernel_rfl)) ?_
     refine h_many 4 [10, 13] (by kernel_rfl) ⟨h_of 4 rfl (by kernel_rfl) rfl ?_, h_of 10 rfl (by kernel_rfl) rfl ?_, h_of 13 rfl (by kernel_rfl) rfl ?_, trivial⟩
     ·
      replace r_g_v := r_g_v.chg C436 (is_nl rfl)
      refine o_append (α := (Int) × (Int)) (xs := ([])) (ys := g.2) g54 (J := is 8) (S := is 8) (8, 0) rfl Try.underlying22 tp60_dd (by decide) rfl rfl rfl Ow.nil r_g_v (by decide) (by first | omega | (simp; done) | (simp; omega)) ?_
      intro g437 w438 v439 ch440 o441
      replace o441 : Ow g437 (is 8) (is 8) w438 v439 (g.2 : List ((Int) × (Int))) := o441
      have hs442 : Chg (inl [8, 10]) _ _ _ _ := ch440.l rfl
      refine ⟨hs442.same, ?_⟩
      refine h_many 10 [13] (by kernel_rfl) ⟨h_of 10 rfl (by kernel_rfl) rfl ?_, h_of 13 rfl (by kernel_rfl) rfl ?_, trivial⟩
      ·
       refine o_buildSlice (α := (Int) × (Int)) g437 (is 9) (is 9) (9, 0) rfl ([(a.1, b.1)] : List ((Int) × (Int))) Try.underlying22 tp60_dd (by decide) (by decide) (vs := [(0, Value.agg (List.toArray [Value.int .i64 a.1, Value.int .i64 b.1]))]) rfl rfl (.cons rfl .nil) ?_
       intro g443 w444 v445 ch446 o447
       have hs448 := hs442.seq (ch446.n)
       refine ⟨hs448.same, ?_⟩
       refine h_many 11 [13] (by kernel_rfl) ⟨h_of 11 rfl (by kernel_rfl) rfl ?_, h_of 13 rfl (by kernel_rfl) rfl ?_, trivial⟩
       ·
        replace o441 := o441.chg ch446 (not_no _) (not_no _)
        refine o_append (α := (Int) × (Int)) (xs := g.2) (ys := ([(a.1, b.1)] : List ((Int) × (Int)))) g443 (J := is 8) (S := is 8) (8, 0) rfl Try.underlying22 tp60_dd (by decide) rfl rfl rfl o441 o447.flat (by decide) (by first | omega | (simp; done) | (simp; omega)) ?_
        intro g449 w450 v451 ch452 o453
        clear o441
        have hs454 := hs448.seq (ch452.l rfl)
        refine ⟨hs454.same, ?_⟩
        refine h_take (v := Value.agg (List.toArray [Value.int .i64 g.1, v451])) 12 rfl (by kernel_rfl) (by kernel_rfl) rfl hs454.same (fun w' hw' => e_build (vs := [(0, Value.int .i64 g.1), (1, v451)]) rfl (by rw [Sl.form o453.flat]; kernel_rfl)) ?_
        refine h_one 13 rfl (by kernel_rfl) rfl ?_
        refine o_alloc g449 (is 10) (10, 0) rfl tp24_dd ?_
        intro g458 w455 b457 ch456 bx459
        replace bx459 : Bx g458 (is 10) w455 b457 [Value.int .i64 0, Value.slice none 0 0] := bx459
        have hs460 := hs454.seq (ch456.n)
        refine ⟨hs460.same, ?_⟩
        refine h_one 14 rfl (by kernel_rfl) rfl ?_
        replace o453 := o453.chg ch456 (not_no _) (not_no _)
        refine o_store_bx (cs' := [Value.int .i64 g.1, v451]) tp24_dd rfl rfl bx459 rfl (Nat.le_of_ble_eq_true rfl) (AllOne.all (.cons rfl (.cons (sl_one o453.flat) .nil))) rfl ?_
        intro w461 ch462 bx463
        clear bx459
        have hs464 := hs460.seq (ch462.l rfl)
        refine ⟨hs464.same, ?_⟩
        refine h_nil (by kernel_rfl) ?_
        have C465 : Chg (inl [8, 10]) _ _ _ _ := (ch2.n).seq ((ch7.n).seq ((ch12.n).seq ((ch17.n).seq ((ch29.n).seq ((hb32.n).seq ((hb35.n).seq ((ch48.n).seq ((ch55.n).seq ((hb58.n).seq ((ch59.n).seq ((hc433.n).seq ((ch434.n).seq ((ch440.l rfl).seq ((ch446.n).seq ((ch452.l rfl).seq ((ch456.n).seq (ch462.l rfl)))))))))))))))))
        replace hbase := hbase.chg C465 (is_nl rfl)
        have C466 : Chg (inl []) _ _ _ _ := (ch48.n).seq ((ch55.n).seq ((hb58.n).seq ((ch59.n).seq ((hc433.n).seq (ch434.n)))))
        replace r_r_v := r_r_v.chg C466 (is_nl rfl)
        have C467 : Chg (inl []) _ _ _ _ := (ch29.n).seq ((hb32.n).seq ((hb35.n).seq ((ch48.n).seq ((ch55.n).seq ((hb58.n).seq ((ch59.n).seq ((hc433.n).seq (ch434.n))))))))
        replace bx20 := bx20.chg C467 (is_nl rfl)
        replace o453 := o453.chg ch462 (is_ne rfl) (is_ne rfl)
        exact mid (b457, v451, g458) _ _ ⟨hbase, rfl, rfl, rfl, rfl, rfl, rfl, (r_g_v.chg hs464 (is_nl rfl)), (r_r_v.chg hs464 (is_nl rfl)), (bx5.chg hs464 (is_nl rfl)), (bx10.chg hs464 (is_nl rfl)), (bx15.chg hs464 (is_nl rfl)), (bx20.chg hs464 (is_nl rfl)), o453, bx463⟩
       ·
        refine o_alloc g443 (is 10) (10, 0) rfl tp24_dd ?_
        intro g471 w468 b470 ch469 bx472
        replace bx472 : Bx g471 (is 10) w468 b470 [Value.int .i64 0, Value.slice none 0 0] := bx472
        have hs473 := hs448.seq (ch469.n)
        refine ⟨hs473.same, ?_⟩
        refine h_one 11 rfl (by kernel_rfl) rfl ?_
        replace o447 := o447.chg ch469 (not_no _) (not_no _)
        replace o441 := (o441.chg ch446 (not_no _) (not_no _)).chg ch469 (not_no _) (not_no _)
        refine o_append (α := (Int) × (Int)) (xs := g.2) (ys := ([(a.1, b.1)] : List ((Int) × (Int)))) g471 (J := is 8) (S := is 8) (8, 0) rfl Try.underlying22 tp60_dd (by decide) rfl rfl rfl o441 o447.flat (by decide) (by first | omega | (simp; done) | (simp; omega)) ?_
        intro g474 w475 v476 ch477 o478
        clear o441
        have hs479 := hs473.seq (ch477.l rfl)
        refine ⟨hs479.same, ?_⟩
        refine h_take (v := Value.agg (List.toArray [Value.int .i64 g.1, v476])) 12 rfl (by kernel_rfl) (by kernel_rfl) rfl hs479.same (fun w' hw' => e_build (vs := [(0, Value.int .i64 g.1), (1, v476)]) rfl (by rw [Sl.form o478.flat]; kernel_rfl)) ?_
        refine h_one 14 rfl (by kernel_rfl) rfl ?_
        replace bx472 := bx472.chg ch477 (is_ne rfl)
        refine o_store_bx (cs' := [Value.int .i64 g.1, v476]) tp24_dd rfl rfl bx472 rfl (Nat.le_of_ble_eq_true rfl) (AllOne.all (.cons rfl (.cons (sl_one o478.flat) .nil))) rfl ?_
        intro w480 ch481 bx482
        clear bx472
        have hs483 := hs479.seq (ch481.l rfl)
        refine ⟨hs483.same, ?_⟩
        refine h_nil (by kernel_rfl) ?_
        have C484 : Chg (inl [8, 10]) _ _ _ _ := (ch2.n).seq ((ch7.n).seq ((ch12.n).seq ((ch17.n).seq ((ch29.n).seq ((hb32.n).seq ((hb35.n).seq ((ch48.n).seq ((ch55.n).seq ((hb58.n).seq ((ch59.n).seq ((hc433.n).seq ((ch434.n).seq ((ch440.l rfl).seq ((ch446.n).seq ((ch469.n).seq ((ch477.l rfl).seq (ch481.l rfl)))))))))))))))))
        replace hbase := hbase.chg C484 (is_nl rfl)
        have C485 : Chg (inl []) _ _ _ _ := (ch48.n).seq ((ch55.n).seq ((hb58.n).seq ((ch59.n).seq ((hc433.n).seq (ch434.n)))))
        replace r_r_v := r_r_v.chg C485 (is_nl rfl)
        have C486 : Chg (inl []) _ _ _ _ := (ch29.n).seq ((hb32.n).seq ((hb35.n).seq ((ch48.n).seq ((ch55.n).seq ((hb58.n).seq ((ch59.n).seq ((hc433.n).seq (ch434.n))))))))
        replace bx20 := bx20.chg C486 (is_nl rfl)
        replace o478 := o478.chg ch481 (is_ne rfl) (is_ne rfl)
        exact mid (b470, v476, g474) _ _ ⟨hbase, rfl, rfl, rfl, rfl, rfl, rfl, (r_g_v.chg hs483 (is_nl rfl)), (r_r_v.chg hs483 (is_nl rfl)), (bx5.chg hs483 (is_nl rfl)), (bx10.chg hs483 (is_nl rfl)), (bx15.chg hs483 (is_nl rfl)), (bx20.chg hs483 (is_nl rfl)), o478, bx482⟩
      ·
       refine o_alloc g437 (is 10) (10, 0) rfl tp24_dd ?_
       intro g490 w487 b489 ch488 bx491
       replace bx491 : Bx g490 (is 10) w487 b489 [Value.int .i64 0, Value.slice none 0 0] := bx491
       have hs492 := hs442.seq (ch488.n)
       refine ⟨hs492.same, ?_⟩
       refine h_one 10 rfl (by kernel_rfl) rfl ?_
       refine o_buildSlice (α := (Int) × (Int)) g490 (is 9) (is 9) (9, 0) rfl ([(a.1, b.1)] : List ((Int) × (Int))) Try.underlying22 tp60_dd (by decide) (by decide) (vs := [(0, Value.agg (List.toArray [Value.int .i64 a.1, Value.int .i64 b.1]))]) rfl rfl (.cons rfl .nil) ?_
       intro g493 w494 v495 ch496 o497
       have hs498 := hs492.seq (ch496.n)
       refine ⟨hs498.same, ?_⟩
       refine h_one 11 rfl (by kernel_rfl) rfl ?_
       replace o441 := (o441.chg ch488 (not_no _) (not_no _)).chg ch496 (not_no _) (not_no _)
       refine o_append (α := (Int) × (Int)) (xs := g.2) (ys := ([(a.1, b.1)] : List ((Int) × (Int)))) g493 (J := is 8) (S := is 8) (8, 0) rfl Try.underlying22 tp60_dd (by decide) rfl rfl rfl o441 o497.flat (by decide) (by first | omega | (simp; done) | (simp; omega)) ?_
       intro g499 w500 v501 ch502 o503
       clear o441
       have hs504 := hs498.seq (ch502.l rfl)
       refine ⟨hs504.same, ?_⟩
       refine h_take (v := Value.agg (List.toArray [Value.int .i64 g.1, v501])) 12 rfl (by kernel_rfl) (by kernel_rfl) rfl hs504.same (fun w' hw' => e_build (vs := [(0, Value.int .i64 g.1), (1, v501)]) rfl (by rw [Sl.form o503.flat]; kernel_rfl)) ?_
       refine h_one 14 rfl (by kernel_rfl) rfl ?_
       replace bx491 := (bx491.chg ch496 (not_no _)).chg ch502 (is_ne rfl)
       refine o_store_bx (cs' := [Value.int .i64 g.1, v501]) tp24_dd rfl rfl bx491 rfl (Nat.le_of_ble_eq_true rfl) (AllOne.all (.cons rfl (.cons (sl_one o503.flat) .nil))) rfl ?_
       intro w505 ch506 bx507
       clear bx491
       have hs508 := hs504.seq (ch506.l rfl)
       refine ⟨hs508.same, ?_⟩
       refine h_nil (by kernel_rfl) ?_
       have C509 : Chg (inl [8, 10]) _ _ _ _ := (ch2.n).seq ((ch7.n).seq ((ch12.n).seq ((ch17.n).seq ((ch29.n).seq ((hb32.n).seq ((hb35.n).seq ((ch48.n).seq ((ch55.n).seq ((hb58.n).seq ((ch59.n).seq ((hc433.n).seq ((ch434.n).seq ((ch440.l rfl).seq ((ch488.n).seq ((ch496.n).seq ((ch502.l rfl).seq (ch506.l rfl)))))))))))))))))
       replace hbase := hbase.chg C509 (is_nl rfl)
       have C510 : Chg (inl []) _ _ _ _ := (ch48.n).seq ((ch55.n).seq ((hb58.n).seq ((ch59.n).seq ((hc433.n).seq (ch434.n)))))
       replace r_r_v := r_r_v.chg C510 (is_nl rfl)
       have C511 : Chg (inl []) _ _ _ _ := (ch29.n).seq ((hb32.n).seq ((hb35.n).seq ((ch48.n).seq ((ch55.n).seq ((hb58.n).seq ((ch59.n).seq ((hc433.n).seq (ch434.n))))))))
       replace bx20 := bx20.chg C511 (is_nl rfl)
       replace o503 := o503.chg ch506 (is_ne rfl) (is_ne rfl)
       exact mid (b489, v501, g499) _ _ ⟨hbase, rfl, rfl, rfl, rfl, rfl, rfl, (r_g_v.chg hs508 (is_nl rfl)), (r_r_v.chg hs508 (is_nl rfl)), (bx5.chg hs508 (is_nl rfl)), (bx10.chg hs508 (is_nl rfl)), (bx15.chg hs508 (is_nl rfl)), (bx20.chg hs508 (is_nl rfl)), o503, bx507⟩
     ·
      refine o_buildSlice (α := (Int) × (Int)) g54 (is 9) (is 9) (9, 0) rfl ([(a.1, b.1)] : List ((Int) × (Int))) Try.underlying22 tp60_dd (by decide) (by decide) (vs := [(0, Value.agg (List.toArray [Value.int .i64 a.1, Value.int .i64 b.1]))]) rfl rfl (.cons rfl .nil) ?_
      intro g512 w513 v514 ch515 o516
      have hs517 : Chg (inl [8, 10]) _ _ _ _ := ch515.n
      refine ⟨hs517.same, ?_⟩
      refine h_many 4 [13] (by kernel_rfl) ⟨h_of 4 rfl (by kernel_rfl) rfl ?_, h_of 13 rfl (by kernel_rfl) rfl ?_, trivial⟩
      ·
       replace r_g_v := r_g_v.chg C436 (is_nl rfl)
       refine o_append (α := (Int) × (Int)) (xs := ([])) (ys := g.2) g512 (J := is 8) (S := is 8) (8, 0) rfl Try.underlying22 tp60_dd (by decide) rfl rfl rfl Ow.nil (r_g_v.chg hs517 (is_nl rfl)) (by decide) (by first | omega | (simp; done) | (simp; omega)) ?_
       intro g518 w519 v520 ch521 o522
       replace o522 : Ow g518 (is 8) (is 8) w519 v520 (g.2 : List ((Int) × (Int))) := o522
       have hs523 := hs517.seq (ch521.l rfl)
       refine ⟨hs523.same, ?_⟩
       refine h_many 11 [13] (by kernel_rfl) ⟨h_of 11 rfl (by kernel_rfl) rfl ?_, h_of 13 rfl (by kernel_rfl) rfl ?_, trivial⟩
       ·
        replace o516 := o516.chg ch521 (is_ne rfl) (is_ne rfl)
        refine o_append (α := (Int) × (Int)) (xs := g.2) (ys := ([(a.1, b.1)] : List ((Int) × (Int)))) g518 (J := is 8) (S := is 8) (8, 0) rfl Try.underlying22 tp60_dd (by decide) rfl rfl rfl o522 o516.flat (by decide) (by first | omega | (simp; done) | (simp; omega)) ?_
        intro g524 w525 v526 ch527 o528
        clear o522
        have hs529 := hs523.seq (ch527.l rfl)
        refine ⟨hs529.same, ?_⟩
        refine h_take (v := Value.agg (List.toArray [Value.int .i64 g.1, v526])) 12 rfl (by kernel_rfl) (by kernel_rfl) rfl hs529.same (fun w' hw' => e_build (vs := [(0, Value.int .i64 g.1), (1, v526)]) rfl (by rw [Sl.form o528.flat]; kernel_rfl)) ?_
        refine h_one 13 rfl (by kernel_rfl) rfl ?_
        refine o_alloc g524 (is 10) (10, 0) rfl tp24_dd ?_
        intro g533 w530 b532 ch531 bx534
        replace bx534 : Bx g533 (is 10) w530 b532 [Value.int .i64 0, Value.slice none 0 0] := bx534
        have hs535 := hs529.seq (ch531.n)
        refine ⟨hs535.same, ?_⟩
        refine h_one 14 rfl (by kernel_rfl) rfl ?_
        replace o528 := o528.chg ch531 (not_no _) (not_no _)
        refine o_store_bx (cs' := [Value.int .i64 g.1, v526]) tp24_dd rfl rfl bx534 rfl (Nat.le_of_ble_eq_true rfl) (AllOne.all (.cons rfl (.cons (sl_one o528.flat) .nil))) rfl ?_
        intro w536 ch537 bx538
        clear bx534
        have hs539 := hs535.seq (ch537.l rfl)
        refine ⟨hs539.same, ?_⟩
        refine h_nil (by kernel_rfl) ?_
        have C540 : Chg (inl [8, 10]) _ _ _ _ := (ch2.n).seq ((ch7.n).seq ((ch12.n).seq ((ch17.n).seq ((ch29.n).seq ((hb32.n).seq ((hb35.n).seq ((ch48.n).seq ((ch55.n).seq ((hb58.n).seq ((ch59.n).seq ((hc433.n).seq ((ch434.n).seq ((ch515.n).seq ((ch521.l rfl).seq ((ch527.l rfl).seq ((ch531.n).seq (ch537.l rfl)))))))))))))))))
        replace hbase := hbase.chg C540 (is_nl rfl)
        have C541 : Chg (inl []) _ _ _ _ := (ch48.n).seq ((ch55.n).seq ((hb58.n).seq ((ch59.n).seq ((hc433.n).seq (ch434.n)))))
        replace r_r_v := r_r_v.chg C541 (is_nl rfl)
        have C542 : Chg (inl []) _ _ _ _ := (ch29.n).seq ((hb32.n).seq ((hb35.n).seq ((ch48.n).seq ((ch55.n).seq ((hb58.n).seq ((ch59.n).seq ((hc433.n).seq (ch434.n))))))))
        replace bx20 := bx20.chg C542 (is_nl rfl)
        replace o528 := o528.chg ch537 (is_ne rfl) (is_ne rfl)
        exact mid (b532, v526, g533) _ _ ⟨hbase, rfl, rfl, rfl, rfl, rfl, rfl, (r_g_v.chg hs539 (is_nl rfl)), (r_r_v.chg hs539 (is_nl rfl)), (bx5.chg hs539 (is_nl rfl)), (bx10.chg hs539 (is_nl rfl)), (bx15.chg hs539 (is_nl rfl)), (bx20.chg hs539 (is_nl rfl)), o528, bx538⟩
       ·
        refine o_alloc g518 (is 10) (10, 0) rfl tp24_dd ?_
        intro g546 w543 b545 ch544 bx547
        replace bx547 : Bx g546 (is 10) w543 b545 [Value.int .i64 0, Value.slice none 0 0] := bx547
        have hs548 := hs523.seq (ch544.n)
        refine ⟨hs548.same, ?_⟩
        refine h_one 11 rfl (by kernel_rfl) rfl ?_
        replace o516 := (o516.chg ch521 (is_ne rfl) (is_ne rfl)).chg ch544 (not_no _) (not_no _)
        replace o522 := o522.chg ch544 (not_no _) (not_no _)
        refine o_append (α := (Int) × (Int)) (xs := g.2) (ys := ([(a.1, b.1)] : List ((Int) × (Int)))) g546 (J := is 8) (S := is 8) (8, 0) rfl Try.underlying22 tp60_dd (by decide) rfl rfl rfl o522 o516.flat (by decide) (by first | omega | (simp; done) | (simp; omega)) ?_
        intro g549 w550 v551 ch552 o553
        clear o522
        have hs554 := hs548.seq (ch552.l rfl)
        refine ⟨hs554.same, ?_⟩
        refine h_take (v := Value.agg (List.toArray [Value.int .i64 g.1, v551])) 12 rfl (by kernel_rfl) (by kernel_rfl) rfl hs554.same (fun w' hw' => e_build (vs := [(0, Value.int .i64 g.1), (1, v551)]) rfl (by rw [Sl.form o553.flat]; kernel_rfl)) ?_
        refine h_one 14 rfl (by kernel_rfl) rfl ?_
        replace bx547 := bx547.chg ch552 (is_ne rfl)
        refine o_store_bx (cs' := [Value.int .i64 g.1, v551]) tp24_dd rfl rfl bx547 rfl (Nat.le_of_ble_eq_true rfl) (AllOne.all (.cons rfl (.cons (sl_one o553.flat) .nil))) rfl ?_
        intro w555 ch556 bx557
        clear bx547
        have hs558 := hs554.seq (ch556.l rfl)
        refine ⟨hs558.same, ?_⟩
        refine h_nil (by kernel_rfl) ?_
        have C559 : Chg (inl [8, 10]) _ _ _ _ := (ch2.n).seq ((ch7.n).seq ((ch12.n).seq ((ch17.n).seq ((ch29.n).seq ((hb32.n).seq ((hb35.n).seq ((ch48.n).seq ((ch55.n).seq ((hb58.n).seq ((ch59.n).seq ((hc433.n).seq ((ch434.n).seq ((ch515.n).seq ((ch521.l rfl).seq ((ch544.n).seq ((ch552.l rfl).seq (ch556.l rfl)))))))))))))))))
        replace hbase := hbase.chg C559 (is_nl rfl)
        have C560 : Chg (inl []) _ _ _ _ := (ch48.n).seq ((ch55.n).seq ((hb58.n).seq ((ch59.n).seq ((hc433.n).seq (ch434.n)))))
        replace r_r_v := r_r_v.chg C560 (is_nl rfl)
        have C561 : Chg (inl []) _ _ _ _ := (ch29.n).seq ((hb32.n).seq ((hb35.n).seq ((ch48.n).seq ((ch55.n).seq ((hb58.n).seq ((ch59.n).seq ((hc433.n).seq (ch434.n))))))))
        replace bx20 := bx20.chg C561 (is_nl rfl)
        replace o553 := o553.chg ch556 (is_ne rfl) (is_ne rfl)
        exact mid (b545, v551, g549) _ _ ⟨hbase, rfl, rfl, rfl, rfl, rfl, rfl, (r_g_v.chg hs558 (is_nl rfl)), (r_r_v.chg hs558 (is_nl rfl)), (bx5.chg hs558 (is_nl rfl)), (bx10.chg hs558 (is_nl rfl)), (bx15.chg hs558 (is_nl rfl)), (bx20.chg hs558 (is_nl rfl)), o553, bx557⟩
      ·
       refine o_alloc g512 (is 10) (10, 0) rfl tp24_dd ?_
       intro g565 w562 b564 ch563 bx566
       replace bx566 : Bx g565 (is 10) w562 b564 [Value.int .i64 0, Value.slice none 0 0] := bx566
       have hs567 := hs517.seq (ch563.n)
       refine ⟨hs567.same, ?_⟩
       refine h_one 4 rfl (by kernel_rfl) rfl ?_
       replace r_g_v := r_g_v.chg C436 (is_nl rfl)
       refine o_append (α := (Int) × (Int)) (xs := ([])) (ys := g.2) g565 (J := is 8) (S := is 8) (8, 0) rfl Try.underlying22 tp60_dd (by decide) rfl rfl rfl Ow.nil (r_g_v.chg hs567 (is_nl rfl)) (by decide) (by first | omega | (simp; done) | (simp; omega)) ?_
       intro g568 w569 v570 ch571 o572
       replace o572 : Ow g568 (is 8) (is 8) w569 v570 (g.2 : List ((Int) × (Int))) := o572
       have hs573 := hs567.seq (ch571.l rfl)
       refine ⟨hs573.same, ?_⟩
       refine h_one 11 rfl (by kernel_rfl) rfl ?_
       replace o516 := (o516.chg ch563 (not_no _) (not_no _)).chg ch571 (is_ne rfl) (is_ne rfl)
       refine o_append (α := (Int) × (Int)) (xs := g.2) (ys := ([(a.1, b.1)] : List ((Int) × (Int)))) g568 (J := is 8) (S := is 8) (8, 0) rfl Try.underlying22 tp60_dd (by decide) rfl rfl rfl o572 o516.flat (by decide) (by first | omega | (simp; done) | (simp; omega)) ?_
       intro g574 w575 v576 ch577 o578
       clear o572
       have hs579 := hs573.seq (ch577.l rfl)
       refine ⟨hs579.same, ?_⟩
       refine h_take (v := Value.agg (List.toArray [Value.int .i64 g.1, v576])) 12 rfl (by kernel_rfl) (by kernel_rfl) rfl hs579.same (fun w' hw' => e_build (vs := [(0, Value.int .i64 g.1), (1, v576)]) rfl (by rw [Sl.form o578.flat]; kernel_rfl)) ?_
       refine h_one 14 rfl (by kernel_rfl) rfl ?_
       replace bx566 := (bx566.chg ch571 (is_ne rfl)).chg ch577 (is_ne rfl)
       refine o_store_bx (cs' := [Value.int .i64 g.1, v576]) tp24_dd rfl rfl bx566 rfl (Nat.le_of_ble_eq_true rfl) (AllOne.all (.cons rfl (.cons (sl_one o578.flat) .nil))) rfl ?_
       intro w580 ch581 bx582
       clear bx566
       have hs583 := hs579.seq (ch581.l rfl)
       refine ⟨hs583.same, ?_⟩
       refine h_nil (by kernel_rfl) ?_
       have C584 : Chg (inl [8, 10]) _ _ _ _ := (ch2.n).seq ((ch7.n).seq ((ch12.n).seq ((ch17.n).seq ((ch29.n).seq ((hb32.n).seq ((hb35.n).seq ((ch48.n).seq ((ch55.n).seq ((hb58.n).seq ((ch59.n).seq ((hc433.n).seq ((ch434.n).seq ((ch515.n).seq ((ch563.n).seq ((ch571.l rfl).seq ((ch577.l rfl).seq (ch581.l rfl)))))))))))))))))
       replace hbase := hbase.chg C584 (is_nl rfl)
       have C585 : Chg (inl []) _ _ _ _ := (ch48.n).seq ((ch55.n).seq ((hb58.n).seq ((ch59.n).seq ((hc433.n).seq (ch434.n)))))
       replace r_r_v := r_r_v.chg C585 (is_nl rfl)
       have C586 : Chg (inl []) _ _ _ _ := (ch29.n).seq ((hb32.n).seq ((hb35.n).seq ((ch48.n).seq ((ch55.n).seq ((hb58.n).seq ((ch59.n).seq ((hc433.n).seq (ch434.n))))))))
       replace bx20 := bx20.chg C586 (is_nl rfl)
       replace o578 := o578.chg ch581 (is_ne rfl) (is_ne rfl)
       exact mid (b564, v576, g574) _ _ ⟨hbase, rfl, rfl, rfl, rfl, rfl, rfl, (r_g_v.chg hs583 (is_nl rfl)), (r_r_v.chg hs583 (is_nl rfl)), (bx5.chg hs583 (is_nl rfl)), (bx10.chg hs583 (is_nl rfl)), (bx15.chg hs583 (is_nl rfl)), (bx20.chg hs583 (is_nl rfl)), o578, bx582⟩
     ·
      refine o_alloc g54 (is 10) (10, 0) rfl tp24_dd ?_
      intro g590 w587 b589 ch588 bx591
      replace bx591 : Bx g590 (is 10) w587 b589 [Value.int .i64 0, Value.slice none 0 0] := bx591
      have hs592 : Chg (inl [8, 10]) _ _ _ _ := ch588.n
      refine ⟨hs592.same, ?_⟩
      refine h_many 4 [10] (by kernel_rfl) ⟨h_of 4 rfl (by kernel_rfl) rfl ?_, h_of 10 rfl (by kernel_rfl) rfl ?_, trivial⟩
      ·
       replace r_g_v := r_g_v.chg C436 (is_nl rfl)
       refine o_append (α := (Int) × (Int)) (xs := ([])) (ys := g.2) g590 (J := is 8) (S := is 8) (8, 0) rfl Try.underlying22 tp60_dd (by decide) rfl rfl rfl Ow.nil (r_g_v.chg hs592 (is_nl rfl)) (by decide) (by first | omega | (simp; done) | (simp; omega)) ?_
       intro g593 w594 v595 ch596 o597
       replace o597 : Ow g593 (is 8) (is 8) w594 v595 (g.2 : List ((Int) × (Int))) := o597
       have hs598 := hs592.seq (ch596.l rfl)
       refine ⟨hs598.same, ?_⟩
       refine h_one 10 rfl (by kernel_rfl) rfl ?_
       refine o_buildSlice (α := (Int) × (Int)) g593 (is 9) (is 9) (9, 0) rfl ([(a.1, b.1)] : List ((Int) × (Int))) Try.underlying22 tp60_dd (by decide) (by decide) (vs := [(0, Value.agg (List.toArray [Value.int .i64 a.1, Value.int .i64 b.1]))]) rfl rfl (.cons rfl .nil) ?_
       intro g599 w600 v601 ch602 o603
       have hs604 := hs598.seq (ch602.n)
       refine ⟨hs604.same, ?_⟩
       refine h_one 11 rfl (by kernel_rfl) rfl ?_
       replace o597 := o597.chg ch602 (not_no _) (not_no _)
       refine o_append (α := (Int) × (Int)) (xs := g.2) (ys := ([(a.1, b.1)] : List ((Int) × (Int)))) g599 (J := is 8) (S := is 8) (8, 0) rfl Try.underlying22 tp60_dd (by decide) rfl rfl rfl o597 o603.flat (by decide) (by first | omega | (simp; done) | (simp; omega)) ?_
       intro g605 w606 v607 ch608 o609
       clear o597
       have hs610 := hs604.seq (ch608.l rfl)
       refine ⟨hs610.same, ?_⟩
       refine h_take (v := Value.agg (List.toArray [Value.int .i64 g.1, v607])) 12 rfl (by kernel_rfl) (by kernel_rfl) rfl hs610.same (fun w' hw' => e_build (vs := [(0, Value.int .i64 g.1), (1, v607)]) rfl (by rw [Sl.form o609.flat]; kernel_rfl)) ?_
       refine h_one 14 rfl (by kernel_rfl) rfl ?_
       have C614 : Chg (inl [8]) _ _ _ _ := (ch596.l rfl).seq ((ch602.n).seq (ch608.l rfl))
       replace bx591 := bx591.chg C614 (is_nl rfl)
       refine o_store_bx (cs' := [Value.int .i64 g.1, v607]) tp24_dd rfl rfl bx591 rfl (Nat.le_of_ble_eq_true rfl) (AllOne.all (.cons rfl (.cons (sl_one o609.flat) .nil))) rfl ?_
       intro w611 ch612 bx613
       clear bx591
       have hs615 := hs610.seq (ch612.l rfl)
       refine ⟨hs615.same, ?_⟩
       refine h_nil (by kernel_rfl) ?_
       have C616 : Chg (inl [8, 10]) _ _ _ _ := (ch2.n).seq ((ch7.n).seq ((ch12.n).seq ((ch17.n).seq ((ch29.n).seq ((hb32.n).seq ((hb35.n).seq ((ch48.n).seq ((ch55.n).seq ((hb58.n).seq ((ch59.n).seq ((hc433.n).seq ((ch434.n).seq ((ch588.n).seq ((ch596.l rfl).seq ((ch602.n).seq ((ch608.l rfl).seq (ch612.l rfl)))))))))))))))))
       replace hbase := hbase.chg C616 (is_nl rfl)
       have C617 : Chg (inl []) _ _ _ _ := (ch48.n).seq ((ch55.n).seq ((hb58.n).seq ((ch59.n).seq ((hc433.n).seq (ch434.n)))))
       replace r_r_v := r_r_v.chg C617 (is_nl rfl)
       have C618 : Chg (inl []) _ _ _ _ := (ch29.n).seq ((hb32.n).seq ((hb35.n).seq ((ch48.n).seq ((ch55.n).seq ((hb58.n).seq ((ch59.n).seq ((hc433.n).seq (ch434.n))))))))
       replace bx20 := bx20.chg C618 (is_nl rfl)
       replace o609 := o609.chg ch612 (is_ne rfl) (is_ne rfl)
       exact mid (b589, v607, g605) _ _ ⟨hbase, rfl, rfl, rfl, rfl, rfl, rfl, (r_g_v.chg hs615 (is_nl rfl)), (r_r_v.chg hs615 (is_nl rfl)), (bx5.chg hs615 (is_nl rfl)), (bx10.chg hs615 (is_nl rfl)), (bx15.chg hs615 (is_nl rfl)), (bx20.chg hs615 (is_nl rfl)), o609, bx613⟩
      ·
       refine o_buildSlice (α := (Int) × (Int)) g590 (is 9) (is 9) (9, 0) rfl ([(a.1, b.1)] : List ((Int) × (Int))) Try.underlying22 tp60_dd (by decide) (by decide) (vs := [(0, Value.agg (List.toArray [Value.int .i64 a.1, Value.int .i64 b.1]))]) rfl rfl (.cons rfl .nil) ?_
       intro g619 w620 v621 ch622 o623
       have hs624 := hs592.seq (ch622.n)
       refine ⟨hs624.same, ?_⟩
       refine h_one 4 rfl (by kernel_rfl) rfl ?_
       replace r_g_v := r_g_v.chg C436 (is_nl rfl)
       refine o_append (α := (Int) × (Int)) (xs := ([])) (ys := g.2) g619 (J := is 8) (S := is 8) (8, 0) rfl Try.underlying22 tp60_dd (by decide) rfl rfl rfl Ow.nil (r_g_v.chg hs624 (is_nl rfl)) (by decide) (by first | omega | (simp; done) | (simp; omega)) ?_
       intro g625 w626 v627 ch628 o629
       replace o629 : Ow g625 (is 8) (is 8) w626 v627 (g.2 : List ((Int) × (Int))) := o629
       have hs630 := hs624.seq (ch628.l rfl)
       refine ⟨hs630.same, ?_⟩
       refine h_one 11 rfl (by kernel_rfl) rfl ?_
       replace o623 := o623.chg ch628 (is_ne rfl) (is_ne rfl)
       refine o_append (α := (Int) × (Int)) (xs := g.2) (ys := ([(a.1, b.1)] : List ((Int) × (Int)))) g625 (J := is 8) (S := is 8) (8, 0) rfl Try.underlying22 tp60_dd (by decide) rfl rfl rfl o629 o623.flat (by decide) (by first | omega | (simp; done) | (simp; omega)) ?_
       intro g631 w632 v633 ch634 o635
       clear o629
       have hs636 := hs630.seq (ch634.l rfl)
       refine ⟨hs636.same, ?_⟩
       refine h_take (v := Value.agg (List.toArray [Value.int .i64 g.1, v633])) 12 rfl (by kernel_rfl) (by kernel_rfl) rfl hs636.same (fun w' hw' => e_build (vs := [(0, Value.int .i64 g.1), (1, v633)]) rfl (by rw [Sl.form o635.flat]; kernel_rfl)) ?_
       refine h_one 14 rfl (by kernel_rfl) rfl ?_
       have C640 : Chg (inl [8]) _ _ _ _ := (ch622.n).seq ((ch628.l rfl).seq (ch634.l rfl))
       replace bx591 := bx591.chg C640 (is_nl rfl)
       refine o_store_bx (cs' := [Value.int .i64 g.1, v633]) tp24_dd rfl rfl bx591 rfl (Nat.le_of_ble_eq_true rfl) (AllOne.all (.cons rfl (.cons (sl_one o635.flat) .nil))) rfl ?_
       intro w637 ch638 bx639
       clear bx591
       have hs641 := hs636.seq (ch638.l rfl)
       refine ⟨hs641.same, ?_⟩
       refine h_nil (by kernel_rfl) ?_
       have C642 : Chg (inl [8, 10]) _ _ _ _ := (ch2.n).seq ((ch7.n).seq ((ch12.n).seq ((ch17.n).seq ((ch29.n).seq ((hb32.n).seq ((hb35.n).seq ((ch48.n).seq ((ch55.n).seq ((hb58.n).seq ((ch59.n).seq ((hc433.n).seq ((ch434.n).seq ((ch588.n).seq ((ch622.n).seq ((ch628.l rfl).seq ((ch634.l rfl).seq (ch638.l rfl)))))))))))))))))
       replace hbase := hbase.chg C642 (is_nl rfl)
       have C643 : Chg (inl []) _ _ _ _ := (ch48.n).seq ((ch55.n).seq ((hb58.n).seq ((ch59.n).seq ((hc433.n).seq (ch434.n)))))
       replace r_r_v := r_r_v.chg C643 (is_nl rfl)
       have C644 : Chg (inl []) _ _ _ _ := (ch29.n).seq ((hb32.n).seq ((hb35.n).seq ((ch48.n).seq ((ch55.n).seq ((hb58.n).seq ((ch59.n).seq ((hc433.n).seq (ch434.n))))))))
       replace bx20 := bx20.chg C644 (is_nl rfl)
       replace o635 := o635.chg ch638 (is_ne rfl) (is_ne rfl)
       exact mid (b589, v633, g631) _ _ ⟨hbase, rfl, rfl, rfl, rfl, rfl, rfl, (r_g_v.chg hs641 (is_nl rfl)), (r_r_v.chg hs641 (is_nl rfl)), (bx5.chg hs641 (is_nl rfl)), (bx10.chg hs641 (is_nl rfl)), (bx15.chg hs641 (is_nl rfl)), (bx20.chg hs641 (is_nl rfl)), o635, bx639⟩
    clear r_g_v
    clear r_r_v
    clear bx5
    clear bx10
    clear bx15
    clear bx20
    clear hbase
    rintro ⟨b457, v451, g647⟩ f645 w646 ⟨hbase, zs1, zs4, zs6, zs7, zs8, zs19, r_g_v, r_r_v, bx5, bx10, bx15, bx20, o453, bx463⟩
    refine run_seq (run_region rfl ?_)
    refine l_val (v := Value.pointer (some ⟨b3, 1, none⟩)) rfl (e_fieldAddr Try.underlying24 rfl rfl (by exact zs4) rfl) ?_
    refine l_val (v := g_v) rfl (e_load_bx1 tp22_dd rfl bx5 rfl) ?_
    refine l_val (v := Value.int .i64 (List.length g.2 : Int)) rfl (e_len Try.underlying22 rfl r_g_v) ?_
    refine l_val (v := Value.int .i64 (2 * (List.length g.2 : Int))) rfl (e_mul (m := 2) (n := (List.length g.2 : Int)) rfl rfl (by omega)) ?_
    refine l_val (v := Value.int .i64 (2 * (List.length g.2 : Int))) rfl (e_assign rfl) ?_
    refine l_nil (run_seq ?_)
    clear bx5
    refine run_region rfl ?_
    refine l_val (v := r_v) rfl (e_move (by exact zs1)) ?_
    refine l_op rfl ?_
    refine o_callx (e_call (vals := [r_v]) Try.func70 bd70_dd nm70_dd rfl) (dcopied_ok w646 r r_v (r_r_v).ro (by omega) (by exact rot_rows hm hrp)) ?_
    rintro ⟨d649, v651⟩ w648 ⟨fr650, o652⟩
    obtain ⟨g653, hg653⟩ : ∃ q, q = glue w646.heap.size g647 d649 (fun n => if n = 1 then 11 else 0) := ⟨_, rfl⟩
    have ch654 := chg_glue fr650.below g647 d649 (fun n => if n = 1 then 11 else 0)
    rw [← hg653] at ch654
    replace o652 := o652.glue (γ := g647) (ren := (fun n => if n = 1 then 11 else 0)) (k := 11) fr650.col rfl rfl
    rw [← hg653] at o652
    clear hg653
    refine l_val (v := v651) rfl (e_assign rfl) ?_
    refine l_nil (run_seq (run_seq (run_region rfl ?_)))
    replace bx10 := bx10.chg ch654 (not_no _)
    refine l_val (v := Value.agg (List.toArray [Value.int .i64 a.1, Value.int .i64 a.2])) rfl (e_load_bxN (ds := [Value.int .i64 a.1, Value.int .i64 a.2]) tp55_dd (by exact zs6) bx10 rfl rfl) ?_
    replace bx15 := bx15.chg ch654 (not_no _)
    refine l_val (v := Value.agg (List.toArray [Value.int .i64 b.1, Value.int .i64 b.2])) rfl (e_load_bxN (ds := [Value.int .i64 b.1, Value.int .i64 b.2]) tp55_dd (by exact zs7) bx15 rfl rfl) ?_
    refine l_val (v := Value.bool (decide (a = b))) rfl (e_eql_struct (bs := [decide (a.1 = b.1), decide (a.2 = b.2)]) Try.underlying55 (by kernel_rfl) (by kernel_rfl) rfl rfl (.cons (by decide +kernel) tp3_dd rfl rfl (.int Try.underlying3) (.cons (by decide +kernel) tp3_dd rfl rfl (.int Try.underlying3) .nil)) (by simp [Prod.ext_iff, Bool.decide_and, Bool.and_assoc])) ?_
    refine l_nil ?_
    by_cases p16 : a = b
    ·
     refine run_cond_t rfl (decide_eq_true p16) ?_
     clear bx15
     refine run_region rfl ?_
     refine l_val (v := v651) rfl (e_move rfl) ?_
     refine l_val (v := Value.agg (List.toArray [Value.int .i64 a.1, Value.int .i64 a.2])) rfl (e_load_bxN (ds := [Value.int .i64 a.1, Value.int .i64 a.2]) tp55_dd (by exact zs6) bx10 rfl rfl) ?_
     refine l_val (v := Value.int .i64 (2 * (List.length g.2 : Int))) rfl (e_move rfl) ?_
     refine l_val (v := Value.int .i64 (2 * (List.length g.2 : Int))) rfl (e_move rfl) ?_
     refine l_val (v := Value.int .i64 ((2 * (List.length g.2 : Int)) + 1)) rfl (e_add (m := 2 * (List.length g.2 : Int)) (n := 1) rfl rfl (by omega)) ?_
     refine l_op rfl ?_
     refine o_buildSlice (α := Int) g653 (is 12) (is 12) (12, 0) rfl ([2 * (List.length g.2 : Int), (2 * (List.length g.2 : Int)) + 1] : List Int) Try.underlying27 tp3_dd (by decide) (by decide) (vs := [(0, Value.int .i64 (2 * (List.length g.2 : Int))), (1, Value.int .i64 ((2 * (List.length g.2 : Int)) + 1))]) rfl rfl (.cons rfl (.cons rfl .nil)) ?_
     intro g655 w656 v657 ch658 o659
     refine l_op rfl ?_
     refine o_inline (e_call (vals := [v651, Value.agg (List.toArray [Value.int .i64 a.1, Value.int .i64 a.2]), v657]) Try.func77 bd77_dd nm77_dd rfl) ?_
     refine calls_of_run Try.func77 rfl (Nat.le_of_ble_eq_true rfl) ?_
     replace o652 := o652.chg ch658 (not_no _)
     have hix_c4 := idx_bd (gI r a.1) a.2
     refine run_seq (run_region rfl (l_op rfl ?_))
     refine o_box g655 (is 19) (19, 0) rfl rfl ?_
     intro g663 w660 b662 ch661 bx664
     replace bx664 : Bx g663 (is 19) w660 b662 [Value.int .i64 a.1, Value.int .i64 a.2] := bx664
     refine l_nil (run_seq ?_)
     refine region_q g663 rfl mixed_dd (by kernel_rfl) ?_
     intro w666 ch665
     refine q_val (v := v651) rfl (fun w' hw' => e_move rfl) ?_
     refine q_val (v := Value.pointer (some ⟨b662, 0, none⟩)) rfl (fun w' hw' => e_fieldAddr Try.underlying55 rfl rfl rfl rfl) ?_
     replace bx664 := bx664.chg ch665 (not_no _)
     refine q_val (v := Value.int .i64 a.1) rfl (fun w' hw' => e_load_bx1 tp3_dd rfl (bx664.bel hw') rfl) ?_
     replace o652 := (o652.chg ch661 (not_no _)).chg ch665 (not_no _)
     refine q_val (v := Value.pointer (some (eAddr v651 1 (Int.toNat a.1)))) rfl (fun w' hw' => e_indexAddr (α := List Int) (xs := r) (v := v651) (i := a.1) Try.underlying26 rfl rfl (o652.sl.bel hw') rfl (by omega) (by omega)) ?_
     obtain ⟨v667, cel668, r669⟩ := nst_row (r := a.1) o652 (by omega) (by omega)
     refine q_val (v := v667) rfl (fun w' hw' => e_load1 tp27_dd rfl (cel_bel cel668 hw')) ?_
     refine q_val (v := Value.pointer (some ⟨b662, 1, none⟩)) rfl (fun w' hw' => e_fieldAddr Try.underlying55 rfl rfl rfl rfl) ?_
     refine q_val (v := Value.int .i64 a.2) rfl (fun w' hw' => e_load_bx1 tp3_dd rfl (bx664.bel hw') rfl) ?_
     refine q_call (v := Value.int .i64 (idxS (gI r a.1) a.2)) rfl (fun w' hw' => e_call (vals := [v667, Value.int .i64 a.2]) Try.func71 bd71_dd nm71_dd rfl) (fun w' hw' => (Index_ok w' (gI r a.1) v667 ((r669.row_sl.bel hw')).ro a.2).mono fun e w2 h2 => ⟨h2.1, hw'.trans (h2.2.mono hw'.size)⟩) ?_
     refine q_val (v := Value.int .i64 ((idxS (gI r a.1) a.2) + 1)) rfl (fun w' hw' => e_add (m := idxS (gI r a.1) a.2) (n := 1) rfl rfl (by first | omega | (have h7 := putS_row (r := r) (c := a) (hs := [2 * (g.2.length : Int)]) hca0 hca9 (v := b.1) hcb0; unfold putS at h7; simp only [List.length_cons, List.length_nil] at h7 ⊢; omega))) ?_
     refine q_val (v := Value.int .i64 ((idxS (gI r a.1) a.2) + 1)) rfl (fun w' hw' => e_assign rfl) ?_
     refine q_nil ?_
     intro w670 hc671
     replace hc671 := chg_below hc671 g663
     clear cel668
     clear r669
     refine run_region_h g663 (inl [11]) mixed_dd ?_
     intro w673 ch672
     refine h_take (v := v651) 0 rfl (by kernel_rfl) (by kernel_rfl) rfl (Chg.refl _ _ _) (fun w' hw' => e_move rfl) ?_
     refine h_take (v := Value.pointer (some ⟨b662, 0, none⟩)) 1 rfl (by kernel_rfl) (by kernel_rfl) rfl (Chg.refl _ _ _) (fun w' hw' => e_fieldAddr Try.underlying55 rfl rfl rfl rfl) ?_
     replace bx664 := (bx664.chg hc671 (not_no _)).chg ch672 (not_no _)
     refine h_take (v := Value.int .i64 a.1) 2 rfl (by kernel_rfl) (by kernel_rfl) rfl (Chg.refl _ _ _) (fun w' hw' => e_load_bx1 tp3_dd rfl (bx664.chg hw' (is_nl rfl)) rfl) ?_
     refine h_take (v := v651) 3 rfl (by kernel_rfl) (by kernel_rfl) rfl (Chg.refl _ _ _) (fun w' hw' => e_move rfl) ?_
     refine h_take (v := Value.pointer (some ⟨b662, 0, none⟩)) 4 rfl (by kernel_rfl) (by kernel_rfl) rfl (Chg.refl _ _ _) (fun w' hw' => e_fieldAddr Try.underlying55 rfl rfl rfl rfl) ?_
     refine h_take (v := Value.int .i64 a.1) 5 rfl (by kernel_rfl) (by kernel_rfl) rfl (Chg.refl _ _ _) (fun w' hw' => e_load_bx1 tp3_dd rfl (bx664.chg hw' (is_nl rfl)) rfl) ?_
     refine h_take (v := Value.int .i64 ((idxS (gI r a.1) a.2) + 1)) 8 rfl (by kernel_rfl) (by kernel_rfl) rfl (Chg.refl _ _ _) (fun w' hw' => e_move rfl) ?_
     refine h_take (v := v657) 9 rfl (by kernel_rfl) (by kernel_rfl) rfl (Chg.refl _ _ _) (fun w' hw' => e_move rfl) ?_
     refine h_one 6 rfl (by kernel_rfl) rfl ?_
     replace o652 := (o652.chg hc671 (not_no _)).chg ch672 (not_no _)
     refine o_of_val (v := Value.pointer (some (eAddr v651 1 (Int.toNat a.1)))) (e_indexAddr (α := List Int) (xs := r) (v := v651) (i := a.1) Try.underlying26 rfl rfl o652.sl rfl (by omega) (by omega)) ?_
     refine ⟨(Chg.refl _ _ _), ?_⟩
     refine h_one 7 rfl (by kernel_rfl) rfl ?_
     obtain ⟨v674, cel675, r676⟩ := nst_row (r := a.1) o652 (by omega) (by omega)
     refine o_of_val (v := v674) (e_load1 tp27_dd rfl cel675) ?_
     refine ⟨(Chg.refl _ _ _), ?_⟩
     refine h_one 10 rfl (by kernel_rfl) rfl ?_
     have C683 : Chg (inl []) _ _ _ _ := (ch661.n).seq ((ch665.n).seq ((hc671.n).seq (ch672.n)))
     replace o659 := o659.chg C683 (is_nl rfl) (is_nl rfl)
     refine o_callx (σ := Cmap × Value) (V := fun x => x.2) (e_call (vals := [v674, Value.int .i64 ((idxS (gI r a.1) a.2) + 1), v657]) Try.func100 bd100_dd nm100_dd rfl) (ins_calls insL (γ := g663) (J := row 11 (Int.toNat a.1 + 1)) (K := is 12) (S := row 11 (Int.toNat a.1 + 1)) (xs := gI r a.1) (ys := ([2 * (List.length g.2 : Int), (2 * (List.length g.2 : Int)) + 1] : List Int)) (i := (idxS (gI r a.1) a.2) + 1) (11, Int.toNat a.1 + 1) rfl r676 o659 (row_ne rfl) (by omega) (by omega) (by simp) (by first | (simp only [List.length_cons, List.length_nil]; omega) | (have h7 := putS_row (r := r) (c := a) (hs := [2 * (g.2.length : Int)]) hca0 hca9 (v := b.1) hcb0; unfold putS at h7; simp only [List.length_cons, List.length_nil] at h7 ⊢; omega))) ?_
     rintro ⟨g677, v679⟩ w678 ⟨ch680, o681⟩
     have o682 := o652.rowchg ch680
     clear o652
     clear cel675
     clear r676
     have hs684 : Chg (inl [11]) _ _ _ _ := ch680.lr rfl
     refine ⟨hs684.same, ?_⟩
     refine h_one 11 rfl (by kernel_rfl) rfl ?_
     obtain ⟨us685, hl686, r687⟩ := o682.vc
     try simp only [List.length_set, List.length_append, List.length_cons, List.length_nil] at hl686
     refine o_of_val (v := Value.pointer (some (eAddr v651 1 (Int.toNat a.1)))) (e_indexAddr (α := Vc) (xs := us685) (v := v651) (i := a.1) Try.underlying26 rfl rfl r687 rfl (by omega) (by omega)) ?_
     refine ⟨hs684.same, ?_⟩
     refine h_one 12 rfl (by kernel_rfl) rfl ?_
     refine o_store_row (r := a.1) tp27_dd rfl rfl o682 o681 (by omega) (by omega) ?_
     intro w691 ch692 o693
     clear o682
     clear o681
     have hs694 := hs684.seq (ch692.l rfl)
     refine ⟨hs694.same, ?_⟩
     refine h_nil (by kernel_rfl) ?_
     refine run_end (vs := []) Try.func77 .nil ?_
     refine ⟨Value.tuple (List.toArray []), rfl, ?_⟩
     refine l_nil (run_seq ?_)
     clear bx10
     clear o659
     clear bx664
     refine run_region rfl ?_
     have C695 : Chg (inl [11]) _ _ _ _ := (ch654.n).seq ((ch658.n).seq ((ch661.n).seq ((ch665.n).seq ((hc671.n).seq ((ch672.n).seq ((ch680.lr rfl).seq (ch692.l rfl)))))))
     replace bx463 := bx463.chg C695 (is_nl rfl)
     refine l_val (v := Value.agg (List.toArray [Value.int .i64 g.1, v451])) rfl (e_load_bxN (ds := [Value.int .i64 g.1, v451]) tp24_dd (by exact zs19) bx463 rfl rfl) ?_
     refine l_val (v := v651) rfl (e_move rfl) ?_
     replace o453 := o453.chg C695 (is_nl rfl) (is_nl rfl)
     refine l_op rfl ?_
     refine o_callx (e_call (vals := [Value.agg (List.toArray [Value.int .i64 g.1, v451]), v651]) Try.func55 bd55_dd nm55_dd rfl) (RCanon_ok w691 (g.1, (g.2 ++ ([(a.1, b.1)] : List ((Int) × (Int))))) v451 (o453.flat).ro (List.set r (Int.toNat a.1) (List.take (Int.toNat ((idxS (gI r a.1) a.2) + 1)) (gI r a.1) ++ ([2 * (List.length g.2 : Int), (2 * (List.length g.2 : Int)) + 1] : List Int) ++ List.drop (Int.toNat ((idxS (gI r a.1) a.2) + 1)) (gI r a.1))) v651 (o693.sl).ro) ?_
     rintro ⟨d697, v699⟩ w696 ⟨fr698, o700⟩
     obtain ⟨g701, hg701⟩ : ∃ q, q = glue w691.heap.size g677 d697 (fun n => if n = 1 then 14 else 0) := ⟨_, rfl⟩
     have ch702 := chg_glue fr698.below g677 d697 (fun n => if n = 1 then 14 else 0)
     rw [← hg701] at ch702
     replace o700 := o700.glue (γ := g677) (ren := (fun n => if n = 1 then 14 else 0)) (k := 14) fr698.col rfl rfl
     rw [← hg701] at o700
     clear hg701
     refine l_val (v := Value.tuple (List.toArray [v699, Value.int .i64 ((canonR (g.1, (g.2 ++ ([(a.1, b.1)] : List ((Int) × (Int))))) (List.set r (Int.toNat a.1) (List.take (Int.toNat ((idxS (gI r a.1) a.2) + 1)) (gI r a.1) ++ ([2 * (List.length g.2 : Int), (2 * (List.length g.2 : Int)) + 1] : List Int) ++ List.drop (Int.toNat ((idxS (gI r a.1) a.2) + 1)) (gI r a.1)))).2)])) rfl (e_move rfl) ?_
     refine l_val (v := v699) rfl (e_extract rfl rfl) ?_
     refine l_val (v := Value.int .i64 ((canonR (g.1, (g.2 ++ ([(a.1, b.1)] : List ((Int) × (Int))))) (List.set r (Int.toNat a.1) (List.take (Int.toNat ((idxS (gI r a.1) a.2) + 1)) (gI r a.1) ++ ([2 * (List.length g.2 : Int), (2 * (List.length g.2 : Int)) + 1] : List Int) ++ List.drop (Int.toNat ((idxS (gI r a.1) a.2) + 1)) (gI r a.1)))).2)) rfl (e_extract rfl rfl) ?_
     refine l_val (v := v699) rfl (e_assign rfl) ?_
     refine l_nil (run_seq ?_)
     clear o693
     refine run_region rfl ?_
     replace bx463 := bx463.chg ch702 (not_no _)
     refine l_val (v := Value.agg (List.toArray [Value.int .i64 g.1, v451])) rfl (e_load_bxN (ds := [Value.int .i64 g.1, v451]) tp24_dd (by exact zs19) bx463 rfl rfl) ?_
     refine l_val (v := v699) rfl (e_move rfl) ?_
     refine l_op rfl ?_
     have C706 : Chg (inl [11]) _ _ _ _ := (ch654.n).seq ((ch658.n).seq ((ch661.n).seq ((ch665.n).seq ((hc671.n).seq ((ch672.n).seq ((ch680.lr rfl).seq ((ch692.l rfl).seq (ch702.n))))))))
     replace bx20 := bx20.chg C706 (is_nl rfl)
     replace o453 := o453.chg ch702 (not_no _) (not_no _)
     refine o_store_bx (cs' := [Value.int .i64 g.1, v451]) tp24_dd (by exact zs8) rfl bx20 rfl (Nat.le_of_ble_eq_true rfl) (AllOne.all (.cons rfl (.cons (sl_one o453.flat) .nil))) rfl ?_
     intro w703 ch704 bx705
     clear bx20
     refine l_val (v := v699) rfl (e_assign rfl) ?_
     refine l_val (v := Value.int .i64 0) rfl (e_assign rfl) ?_
     refine l_nil ?_
     refine run_ret (vs := [Value.agg (List.toArray [Value.int .i64 g.1, v451]), v699, Value.int .i64 0]) Try.func30 (.cell (by exact zs8) (load_bxN (ds := [Value.int .i64 g.1, v451]) tp24_dd bx705 rfl rfl) (.tmp rfl (.tmp rfl .nil))) ?_
     -- return 4
     have C707 : Chg (inl [4, 11]) _ _ _ _ := (ch654.n).seq ((ch658.n).seq ((ch661.n).seq ((ch665.n).seq ((hc671.n).seq ((ch672.n).seq ((ch680.lr rfl).seq ((ch692.l rfl).seq ((ch702.n).seq (ch704.l rfl)))))))))
     replace hbase := hbase.chg C707 (is_nl rfl)
     replace o453 := o453.chg ch704 (is_ne rfl) (is_ne rfl)
     replace o700 := o700.chg ch704 (is_ne rfl)
     have e0 : ((g.1, (g.2 ++ ([(a.1, b.1)] : List ((Int) × (Int))))) : (Int) × (List ((Int) × (Int)))) = ((layR g r a b).1) := by
       first
         | (rw [layR_no (by assumption)]; done)
         | (rw [layR_bd (by assumption) (by first | exact .inl (by assumption) | exact .inr (by assumption))]; done)
         | (rw [layR_lim (by assumption) (by assumption) (by assumption) (by assumption)]; done)
         | (rw [layR_gen (by assumption) (by assumption) (by assumption) (by assumption) (by assumption) (by assumption)]; done)
         | (rw [layR_ok (by assumption) (by assumption) (by assumption) (by assumption) (by first | exact .inl (by assumption) | exact .inr (by assumption))]
            first
              | done
              | (unfold laidS; rw [if_pos (by assumption)]; done)
              | (unfold laidS; rw [if_neg (by assumption)]; done)
              | (unfold laidS; rw [if_pos (by assumption)]; rfl)
              | (unfold laidS; rw [if_neg (by assumption)]; rfl))
     have e1 : ((canonR (g.1, (g.2 ++ ([(a.1, b.1)] : List ((Int) × (Int))))) (List.set r (Int.toNat a.1) (List.take (Int.toNat ((idxS (gI r a.1) a.2) + 1)) (gI r a.1) ++ ([2 * (List.length g.2 : Int), (2 * (List.length g.2 : Int)) + 1] : List Int) ++ List.drop (Int.toNat ((idxS (gI r a.1) a.2) + 1)) (gI r a.1)))).1 : List (List Int)) = ((layR g r a b).2.1) := by
       first
         | (rw [layR_no (by assumption)]; done)
         | (rw [layR_bd (by assumption) (by first | exact .inl (by assumption) | exact .inr (by assumption))]; done)
         | (rw [layR_lim (by assumption) (by assumption) (by assumption) (by assumption)]; done)
         | (rw [layR_gen (by assumption) (by assumption) (by assumption) (by assumption) (by assumption) (by assumption)]; done)
         | (rw [layR_ok (by assumption) (by assumption) (by assumption) (by assumption) (by first | exact .inl (by assumption) | exact .inr (by assumption))]
            first
              | done
              | (unfold laidS; rw [if_pos (by assumption)]; done)
              | (unfold laidS; rw [if_neg (by assumption)]; done)
              | (unfold laidS; rw [if_pos (by assumption)]; rfl)
              | (unfold laidS; rw [if_neg (by assumption)]; rfl))
     have e2 : (0 : Int) = ((layR g r a b).2.2) := by
       first
         | (rw [layR_no (by assumption)]; done)
         | (rw [layR_bd (by assumption) (by first | exact .inl (by assumption) | exact .inr (by assumption))]; done)
         | (rw [layR_lim (by assumption) (by assumption) (by assumption) (by assumption)]; done)
         | (rw [layR_gen (by assumption) (by assumption) (by assumption) (by assumption) (by assumption) (by assumption)]; done)
         | (rw [layR_ok (by assumption) (by assumption) (by assumption) (by assumption) (by first | exact .inl (by assumption) | exact .inr (by assumption))]
            first
              | done
              | (unfold laidS; rw [if_pos (by assumption)]; done)
              | (unfold laidS; rw [if_neg (by assumption)]; done)
              | (unfold laidS; rw [if_pos (by assumption)]; rfl)
              | (unfold laidS; rw [if_neg (by assumption)]; rfl))
     exact ⟨(fin w0 g701 (fun n => if n = 8 then 1 else if n = 14 then 2 else 0), v451, v699), (congr3 (a := (g.1, (g.2 ++ ([(a.1, b.1)] : List ((Int) × (Int)))))) (b := (canonR (g.1, (g.2 ++ ([(a.1, b.1)] : List ((Int) × (Int))))) (List.set r (Int.toNat a.1) (List.take (Int.toNat ((idxS (gI r a.1) a.2) + 1)) (gI r a.1) ++ ([2 * (List.length g.2 : Int), (2 * (List.length g.2 : Int)) + 1] : List Int) ++ List.drop (Int.toNat ((idxS (gI r a.1) a.2) + 1)) (gI r a.1)))).1) (c := 0) (fun (z0 : (Int) × (List ((Int) × (Int)))) (z1 : List (List Int)) (z2 : Int) => Ending.returned (Value.tuple (List.toArray [Value.agg (List.toArray [Value.int .i64 z0.1, v451]), v699, Value.int .i64 z2]))) e0 e1 e2), hbase.fresh _, ((congrArg (fun (z : (Int) × (List ((Int) × (Int)))) => z.2) e0) ▸ (o453.glue (γ := c0) (ren := (fun n => if n = 8 then 1 else if n = 14 then 2 else 0)) (k := 1) hbase.col rfl rfl)), (e1 ▸ (o700.glue (γ := c0) (ren := (fun n => if n = 8 then 1 else if n = 14 then 2 else 0)) (k := 2) hbase.col rfl rfl))⟩
    refine run_cond_f rfl (decide_eq_false p16) ?_
    refine run_seq (run_region rfl ?_)
    refine l_val (v := v651) rfl (e_move rfl) ?_
    refine l_val (v := Value.agg (List.toArray [Value.int .i64 a.1, Value.int .i64 a.2])) rfl (e_load_bxN (ds := [Value.int .i64 a.1, Value.int .i64 a.2]) tp55_dd (by exact zs6) bx10 rfl rfl) ?_
    refine l_val (v := Value.int .i64 (2 * (List.length g.2 : Int))) rfl (e_move rfl) ?_
    refine l_op rfl ?_
    refine o_buildSlice (α := Int) g653 (is 15) (is 15) (15, 0) rfl ([2 * (List.length g.2 : Int)] : List Int) Try.underlying27 tp3_dd (by decide) (by decide) (vs := [(0, Value.int .i64 (2 * (List.length g.2 : Int)))]) rfl rfl (.cons rfl .nil) ?_
    intro g708 w709 v710 ch711 o712
    refine l_op rfl ?_
    refine o_inline (e_call (vals := [v651, Value.agg (List.toArray [Value.int .i64 a.1, Value.int .i64 a.2]), v710]) Try.func77 bd77_dd nm77_dd rfl) ?_
    refine calls_of_run Try.func77 rfl (Nat.le_of_ble_eq_true rfl) ?_
    replace o652 := o652.chg ch711 (not_no _)
    have hix_c5 := idx_bd (gI r a.1) a.2
    refine run_seq (run_region rfl (l_op rfl ?_))
    refine o_box g708 (is 20) (20, 0) rfl rfl ?_
    intro g716 w713 b715 ch714 bx717
    replace bx717 : Bx g716 (is 20) w713 b715 [Value.int .i64 a.1, Value.int .i64 a.2] := bx717
    refine l_nil (run_seq ?_)
    refine region_q g716 rfl mixed_dd (by kernel_rfl) ?_
    intro w719 ch718
    refine q_val (v := v651) rfl (fun w' hw' => e_move rfl) ?_
    refine q_val (v := Value.pointer (some ⟨b715, 0, none⟩)) rfl (fun w' hw' => e_fieldAddr Try.underlying55 rfl rfl rfl rfl) ?_
    replace bx717 := bx717.chg ch718 (not_no _)
    refine q_val (v := Value.int .i64 a.1) rfl (fun w' hw' => e_load_bx1 tp3_dd rfl (bx717.bel hw') rfl) ?_
    replace o652 := (o652.chg ch714 (not_no _)).chg ch718 (not_no _)
    refine q_val (v := Value.pointer (some (eAddr v651 1 (Int.toNat a.1)))) rfl (fun w' hw' => e_indexAddr (α := List Int) (xs := r) (v := v651) (i := a.1) Try.underlying26 rfl rfl (o652.sl.bel hw') rfl (by omega) (by omega)) ?_
    obtain ⟨v720, cel721, r722⟩ := nst_row (r := a.1) o652 (by omega) (by omega)
    refine q_val (v := v720) rfl (fun w' hw' => e_load1 tp27_dd rfl (cel_bel cel721 hw')) ?_
    refine q_val (v := Value.pointer (some ⟨b715, 1, none⟩)) rfl (fun w' hw' => e_fieldAddr Try.underlying55 rfl rfl rfl rfl) ?_
    refine q_val (v := Value.int .i64 a.2) rfl (fun w' hw' => e_load_bx1 tp3_dd rfl (bx717.bel hw') rfl) ?_
    refine q_call (v := Value.int .i64 (idxS (gI r a.1) a.2)) rfl (fun w' hw' => e_call (vals := [v720, Value.int .i64 a.2]) Try.func71 bd71_dd nm71_dd rfl) (fun w' hw' => (Index_ok w' (gI r a.1) v720 ((r722.row_sl.bel hw')).ro a.2).mono fun e w2 h2 => ⟨h2.1, hw'.trans (h2.2.mono hw'.size)⟩) ?_
    refine q_val (v := Value.int .i64 ((idxS (gI r a.1) a.2) + 1)) rfl (fun w' hw' => e_add (m := idxS (gI r a.1) a.2) (n := 1) rfl rfl (by first | omega | (have h7 := putS_row (r := r) (c := a) (hs := [2 * (g.2.length : Int)]) hca0 hca9 (v := b.1) hcb0; unfold putS at h7; simp only [List.length_cons, List.length_nil] at h7 ⊢; omega))) ?_
    refine q_val (v := Value.int .i64 ((idxS (gI r a.1) a.2) + 1)) rfl (fun w' hw' => e_assign rfl) ?_
    refine q_nil ?_
    intro w723 hc724
    replace hc724 := chg_below hc724 g716
    clear cel721
    clear r722
    refine run_region_h g716 (inl [11]) mixed_dd ?_
    intro w726 ch725
    refine h_take (v := v651) 0 rfl (by kernel_rfl) (by kernel_rfl) rfl (Chg.refl _ _ _) (fun w' hw' => e_move rfl) ?_
    refine h_take (v := Value.pointer (some ⟨b715, 0, none⟩)) 1 rfl (by kernel_rfl) (by kernel_rfl) rfl (Chg.refl _ _ _) (fun w' hw' => e_fieldAddr Try.underlying55 rfl rfl rfl rfl) ?_
    replace bx717 := (bx717.chg hc724 (not_no _)).chg ch725 (not_no _)
    refine h_take (v := Value.int .i64 a.1) 2 rfl (by kernel_rfl) (by kernel_rfl) rfl (Chg.refl _ _ _) (fun w' hw' => e_load_bx1 tp3_dd rfl (bx717.chg hw' (is_nl rfl)) rfl) ?_
    refine h_take (v := v651) 3 rfl (by kernel_rfl) (by kernel_rfl) rfl (Chg.refl _ _ _) (fun w' hw' => e_move rfl) ?_
    refine h_take (v := Value.pointer (some ⟨b715, 0, none⟩)) 4 rfl (by kernel_rfl) (by kernel_rfl) rfl (Chg.refl _ _ _) (fun w' hw' => e_fieldAddr Try.underlying55 rfl rfl rfl rfl) ?_
    refine h_take (v := Value.int .i64 a.1) 5 rfl (by kernel_rfl) (by kernel_rfl) rfl (Chg.refl _ _ _) (fun w' hw' => e_load_bx1 tp3_dd rfl (bx717.chg hw' (is_nl rfl)) rfl) ?_
    refine h_take (v := Value.int .i64 ((idxS (gI r a.1) a.2) + 1)) 8 rfl (by kernel_rfl) (by kernel_rfl) rfl (Chg.refl _ _ _) (fun w' hw' => e_move rfl) ?_
    refine h_take (v := v710) 9 rfl (by kernel_rfl) (by kernel_rfl) rfl (Chg.refl _ _ _) (fun w' hw' => e_move rfl) ?_
    refine h_one 6 rfl (by kernel_rfl) rfl ?_
    replace o652 := (o652.chg hc724 (not_no _)).chg ch725 (not_no _)
    refine o_of_val (v := Value.pointer (some (eAddr v651 1 (Int.toNat a.1)))) (e_indexAddr (α := List Int) (xs := r) (v := v651) (i := a.1) Try.underlying26 rfl rfl o652.sl rfl (by omega) (by omega)) ?_
    refine ⟨(Chg.refl _ _ _), ?_⟩
    refine h_one 7 rfl (by kernel_rfl) rfl ?_
    obtain ⟨v727, cel728, r729⟩ := nst_row (r := a.1) o652 (by omega) (by omega)
    refine o_of_val (v := v727) (e_load1 tp27_dd rfl cel728) ?_
    refine ⟨(Chg.refl _ _ _), ?_⟩
    refine h_one 10 rfl (by kernel_rfl) rfl ?_
    have C736 : Chg (inl []) _ _ _ _ := (ch714.n).seq ((ch718.n).seq ((hc724.n).seq (ch725.n)))
    replace o712 := o712.chg C736 (is_nl rfl) (is_nl rfl)
    refine o_callx (σ := Cmap × Value) (V := fun x => x.2) (e_call (vals := [v727, Value.int .i64 ((idxS (gI r a.1) a.2) + 1), v710]) Try.func100 bd100_dd nm100_dd rfl) (ins_calls insL (γ := g716) (J := row 11 (Int.toNat a.1 + 1)) (K := is 15) (S := row 11 (Int.toNat a.1 + 1)) (xs := gI r a.1) (ys := ([2 * (List.length g.2 : Int)] : List Int)) (i := (idxS (gI r a.1) a.2) + 1) (11, Int.toNat a.1 + 1) rfl r729 o712 (row_ne rfl) (by omega) (by omega) (by simp) (by first | (simp only [List.length_cons, List.length_nil]; omega) | (have h7 := putS_row (r := r) (c := a) (hs := [2 * (g.2.length : Int)]) hca0 hca9 (v := b.1) hcb0; unfold putS at h7; simp only [List.length_cons, List.length_nil] at h7 ⊢; omega))) ?_
    rintro ⟨g730, v732⟩ w731 ⟨ch733, o734⟩
    have o735 := o652.rowchg ch733
    clear o652
    clear cel728
    clear r729
    have hs737 : Chg (inl [11]) _ _ _ _ := ch733.lr rfl
    refine ⟨hs737.same, ?_⟩
    refine h_one 11 rfl (by kernel_rfl) rfl ?_
    obtain ⟨us738, hl739, r740⟩ := o735.vc
    try simp only [List.length_set, List.length_append, List.length_cons, List.length_nil] at hl739
    refine o_of_val (v := Value.pointer (some (eAddr v651 1 (Int.toNat a.1)))) (e_indexAddr (α := Vc) (xs := us738) (v := v651) (i := a.1) Try.underlying26 rfl rfl r740 rfl (by omega) (by omega)) ?_
    refine ⟨hs737.same, ?_⟩
    refine h_one 12 rfl (by kernel_rfl) rfl ?_
    refine o_store_row (r := a.1) tp27_dd rfl rfl o735 o734 (by omega) (by omega) ?_
    intro w744 ch745 o746
    clear o735
    clear o734
    have hs747 := hs737.seq (ch745.l rfl)
    refine ⟨hs747.same, ?_⟩
    refine h_nil (by kernel_rfl) ?_
    refine run_end (vs := []) Try.func77 .nil ?_
    refine ⟨Value.tuple (List.toArray []), rfl, ?_⟩
    refine l_nil ?_
    clear bx10
    clear o712
    clear bx717
    refine run_region rfl ?_
    refine l_val (v := v651) rfl (e_move rfl) ?_
    have C748 : Chg (inl [11]) _ _ _ _ := (ch711.n).seq ((ch714.n).seq ((ch718.n).seq ((hc724.n).seq ((ch725.n).seq ((ch733.lr rfl).seq (ch745.l rfl))))))
    replace bx15 := bx15.chg C748 (is_nl rfl)
    refine l_val (v := Value.agg (List.toArray [Value.int .i64 b.1, Value.int .i64 b.2])) rfl (e_load_bxN (ds := [Value.int .i64 b.1, Value.int .i64 b.2]) tp55_dd (by exact zs7) bx15 rfl rfl) ?_
    refine l_val (v := Value.int .i64 (2 * (List.length g.2 : Int))) rfl (e_move rfl) ?_
    refine l_val (v := Value.int .i64 ((2 * (List.length g.2 : Int)) + 1)) rfl (e_add (m := 2 * (List.length g.2 : Int)) (n := 1) rfl rfl (by omega)) ?_
    refine l_op rfl ?_
    refine o_buildSlice (α := Int) g730 (is 17) (is 17) (17, 0) rfl ([(2 * (List.length g.2 : Int)) + 1] : List Int) Try.underlying27 tp3_dd (by decide) (by decide) (vs := [(0, Value.int .i64 ((2 * (List.length g.2 : Int)) + 1))]) rfl rfl (.cons rfl .nil) ?_
    intro g749 w750 v751 ch752 o753
    refine l_op rfl ?_
    refine o_inline (e_call (vals := [v651, Value.agg (List.toArray [Value.int .i64 b.1, Value.int .i64 b.2]), v751]) Try.func77 bd77_dd nm77_dd rfl) ?_
    refine calls_of_run Try.func77 rfl (Nat.le_of_ble_eq_true rfl) ?_
    replace o746 := o746.chg ch752 (not_no _)
    have hix_c6 := idx_bd (gI (List.set r (Int.toNat a.1) (List.take (Int.toNat ((idxS (gI r a.1) a.2) + 1)) (gI r a.1) ++ ([2 * (List.length g.2 : Int)] : List Int) ++ List.drop (Int.toNat ((idxS (gI r a.1) a.2) + 1)) (gI r a.1))) b.1) b.2
    refine run_seq (run_region rfl (l_op rfl ?_))
    refine o_box g749 (is 21) (21, 0) rfl rfl ?_
    intro g757 w754 b756 ch755 bx758
    replace bx758 : Bx g757 (is 21) w754 b756 [Value.int .i64 b.1, Value.int .i64 b.2] := bx758
    refine l_nil (run_seq ?_)
    refine region_q g757 rfl mixed_dd (by kernel_rfl) ?_
    intro w760 ch759
    refine q_val (v := v651) rfl (fun w' hw' => e_move rfl) ?_
    refine q_val (v := Value.pointer (some ⟨b756, 0, none⟩)) rfl (fun w' hw' => e_fieldAddr Try.underlying55 rfl rfl rfl rfl) ?_
    replace bx758 := bx758.chg ch759 (not_no _)
    refine q_val (v := Value.int .i64 b.1) rfl (fun w' hw' => e_load_bx1 tp3_dd rfl (bx758.bel hw') rfl) ?_
    replace o746 := (o746.chg ch755 (not_no _)).chg ch759 (not_no _)
    refine q_val (v := Value.pointer (some (eAddr v651 1 (Int.toNat b.1)))) rfl (fun w' hw' => e_indexAddr (α := List Int) (xs := (List.set r (Int.toNat a.1) (List.take (Int.toNat ((idxS (gI r a.1) a.2) + 1)) (gI r a.1) ++ ([2 * (List.length g.2 : Int)] : List Int) ++ List.drop (Int.toNat ((idxS (gI r a.1) a.2) + 1)) (gI r a.1)))) (v := v651) (i := b.1) Try.underlying26 rfl rfl (o746.sl.bel hw') rfl (by omega) (by first | omega | (simp only [List.length_set, List.length_append, List.length_cons, List.length_nil, List.length_replicate, List.length_map, List.length_take, List.length_drop]; omega) | (simp; done) | (simp; omega))) ?_
    obtain ⟨v761, cel762, r763⟩ := nst_row (r := b.1) o746 (by omega) (by first | omega | (simp only [List.length_set, List.length_append, List.length_cons, List.length_nil, List.length_replicate, List.length_map, List.length_take, List.length_drop]; omega) | (simp; done) | (simp; omega))
    refine q_val (v := v761) rfl (fun w' hw' => e_load1 tp27_dd rfl (cel_bel cel762 hw')) ?_
    refine q_val (v := Value.pointer (some ⟨b756, 1, none⟩)) rfl (fun w' hw' => e_fieldAddr Try.underlying55 rfl rfl rfl rfl) ?_
    refine q_val (v := Value.int .i64 b.2) rfl (fun w' hw' => e_load_bx1 tp3_dd rfl (bx758.bel hw') rfl) ?_
    refine q_call (v := Value.int .i64 (idxS (gI (List.set r (Int.toNat a.1) (List.take (Int.toNat ((idxS (gI r a.1) a.2) + 1)) (gI r a.1) ++ ([2 * (List.length g.2 : Int)] : List Int) ++ List.drop (Int.toNat ((idxS (gI r a.1) a.2) + 1)) (gI r a.1))) b.1) b.2)) rfl (fun w' hw' => e_call (vals := [v761, Value.int .i64 b.2]) Try.func71 bd71_dd nm71_dd rfl) (fun w' hw' => (Index_ok w' (gI (List.set r (Int.toNat a.1) (List.take (Int.toNat ((idxS (gI r a.1) a.2) + 1)) (gI r a.1) ++ ([2 * (List.length g.2 : Int)] : List Int) ++ List.drop (Int.toNat ((idxS (gI r a.1) a.2) + 1)) (gI r a.1))) b.1) v761 ((r763.row_sl.bel hw')).ro b.2).mono fun e w2 h2 => ⟨h2.1, hw'.trans (h2.2.mono hw'.size)⟩) ?_
    refine q_val (v := Value.int .i64 ((idxS (gI (List.set r (Int.toNat a.1) (List.take (Int.toNat ((idxS (gI r a.1) a.2) + 1)) (gI r a.1) ++ ([2 * (List.length g.2 : Int)] : List Int) ++ List.drop (Int.toNat ((idxS (gI r a.1) a.2) + 1)) (gI r a.1))) b.1) b.2) + 1)) rfl (fun w' hw' => e_add (m := idxS (gI (List.set r (Int.toNat a.1) (List.take (Int.toNat ((idxS (gI r a.1) a.2) + 1)) (gI r a.1) ++ ([2 * (List.length g.2 : Int)] : List Int) ++ List.drop (Int.toNat ((idxS (gI r a.1) a.2) + 1)) (gI r a.1))) b.1) b.2) (n := 1) rfl rfl (by first | omega | (have h7 := putS_row (r := r) (c := a) (hs := [2 * (g.2.length : Int)]) hca0 hca9 (v := b.1) hcb0; unfold putS at h7; simp only [List.length_cons, List.length_nil] at h7 ⊢; omega))) ?_
    refine q_val (v := Value.int .i64 ((idxS (gI (List.set r (Int.toNat a.1) (List.take (Int.toNat ((idxS (gI r a.1) a.2) + 1)) (gI r a.1) ++ ([2 * (List.length g.2 : Int)] : List Int) ++ List.drop (Int.toNat ((idxS (gI r a.1) a.2) + 1)) (gI r a.1))) b.1) b.2) + 1)) rfl (fun w' hw' => e_assign rfl) ?_
    refine q_nil ?_
    intro w764 hc765
    replace hc765 := chg_below hc765 g757
    clear cel762
    clear r763
    refine run_region_h g757 (inl [11]) mixed_dd ?_
    intro w767 ch766
    refine h_take (v := v651) 0 rfl (by kernel_rfl) (by kernel_rfl) rfl (Chg.refl _ _ _) (fun w' hw' => e_move rfl) ?_
    refine h_take (v := Value.pointer (some ⟨b756, 0, none⟩)) 1 rfl (by kernel_rfl) (by kernel_rfl) rfl (Chg.refl _ _ _) (fun w' hw' => e_fieldAddr Try.underlying55 rfl rfl rfl rfl) ?_
    replace bx758 := (bx758.chg hc765 (not_no _)).chg ch766 (not_no _)
    refine h_take (v := Value.int .i64 b.1) 2 rfl (by kernel_rfl) (by kernel_rfl) rfl (Chg.refl _ _ _) (fun w' hw' => e_load_bx1 tp3_dd rfl (bx758.chg hw' (is_nl rfl)) rfl) ?_
    refine h_take (v := v651) 3 rfl (by kernel_rfl) (by kernel_rfl) rfl (Chg.refl _ _ _) (fun w' hw' => e_move rfl) ?_
    refine h_take (v := Value.pointer (some ⟨b756, 0, none⟩)) 4 rfl (by kernel_rfl) (by kernel_rfl) rfl (Chg.refl _ _ _) (fun w' hw' => e_fieldAddr Try.underlying55 rfl rfl rfl rfl) ?_
    refine h_take (v := Value.int .i64 b.1) 5 rfl (by kernel_rfl) (by kernel_rfl) rfl (Chg.refl _ _ _) (fun w' hw' => e_load_bx1 tp3_dd rfl (bx758.chg hw' (is_nl rfl)) rfl) ?_
    refine h_take (v := Value.int .i64 ((idxS (gI (List.set r (Int.toNat a.1) (List.take (Int.toNat ((idxS (gI r a.1) a.2) + 1)) (gI r a.1) ++ ([2 * (List.length g.2 : Int)] : List Int) ++ List.drop (Int.toNat ((idxS (gI r a.1) a.2) + 1)) (gI r a.1))) b.1) b.2) + 1)) 8 rfl (by kernel_rfl) (by kernel_rfl) rfl (Chg.refl _ _ _) (fun w' hw' => e_move rfl) ?_
    refine h_take (v := v751) 9 rfl (by kernel_rfl) (by kernel_rfl) rfl (Chg.refl _ _ _) (fun w' hw' => e_move rfl) ?_
    refine h_one 6 rfl (by kernel_rfl) rfl ?_
    replace o746 := (o746.chg hc765 (not_no _)).chg ch766 (not_no _)
    refine o_of_val (v := Value.pointer (some (eAddr v651 1 (Int.toNat b.1)))) (e_indexAddr (α := List Int) (xs := (List.set r (Int.toNat a.1) (List.take (Int.toNat ((idxS (gI r a.1) a.2) + 1)) (gI r a.1) ++ ([2 * (List.length g.2 : Int)] : List Int) ++ List.drop (Int.toNat ((idxS (gI r a.1) a.2) + 1)) (gI r a.1)))) (v := v651) (i := b.1) Try.underlying26 rfl rfl o746.sl rfl (by omega) (by first | omega | (simp only [List.length_set, List.length_append, List.length_cons, List.length_nil, List.length_replicate, List.length_map, List.length_take, List.length_drop]; omega) | (simp; done) | (simp; omega))) ?_
    refine ⟨(Chg.refl _ _ _), ?_⟩
    refine h_one 7 rfl (by kernel_rfl) rfl ?_
    obtain ⟨v768, cel769, r770⟩ := nst_row (r := b.1) o746 (by omega) (by first | omega | (simp only [List.length_set, List.length_append, List.length_cons, List.length_nil, List.length_replicate, List.length_map, List.length_take, List.length_drop]; omega) | (simp; done) | (simp; omega))
    refine o_of_val (v := v768) (e_load1 tp27_dd rfl cel769) ?_
    refine ⟨(Chg.refl _ _ _), ?_⟩
    refine h_one 10 rfl (by kernel_rfl) rfl ?_
    have C777 : Chg (inl []) _ _ _ _ := (ch755.n).seq ((ch759.n).seq ((hc765.n).seq (ch766.n)))
    replace o753 := o753.chg C777 (is_nl rfl) (is_nl rfl)
    refine o_callx (σ := Cmap × Value) (V := fun x => x.2) (e_call (vals := [v768, Value.int .i64 ((idxS (gI (List.set r (Int.toNat a.1) (List.take (Int.toNat ((idxS (gI r a.1) a.2) + 1)) (gI r a.1) ++ ([2 * (List.length g.2 : Int)] : List Int) ++ List.drop (Int.toNat ((idxS (gI r a.1) a.2) + 1)) (gI r a.1))) b.1) b.2) + 1), v751]) Try.func100 bd100_dd nm100_dd rfl) (ins_calls insL (γ := g757) (J := row 11 (Int.toNat b.1 + 1)) (K := is 17) (S := row 11 (Int.toNat b.1 + 1)) (xs := gI (List.set r (Int.toNat a.1) (List.take (Int.toNat ((idxS (gI r a.1) a.2) + 1)) (gI r a.1) ++ ([2 * (List.length g.2 : Int)] : List Int) ++ List.drop (Int.toNat ((idxS (gI r a.1) a.2) + 1)) (gI r a.1))) b.1) (ys := ([(2 * (List.length g.2 : Int)) + 1] : List Int)) (i := (idxS (gI (List.set r (Int.toNat a.1) (List.take (Int.toNat ((idxS (gI r a.1) a.2) + 1)) (gI r a.1) ++ ([2 * (List.length g.2 : Int)] : List Int) ++ List.drop (Int.toNat ((idxS (gI r a.1) a.2) + 1)) (gI r a.1))) b.1) b.2) + 1) (11, Int.toNat b.1 + 1) rfl r770 o753 (row_ne rfl) (by omega) (by omega) (by simp) (by first | (simp only [List.length_cons, List.length_nil]; omega) | (have h7 := putS_row (r := r) (c := a) (hs := [2 * (g.2.length : Int)]) hca0 hca9 (v := b.1) hcb0; unfold putS at h7; simp only [List.length_cons, List.length_nil] at h7 ⊢; omega))) ?_
    rintro ⟨g771, v773⟩ w772 ⟨ch774, o775⟩
    have o776 := o746.rowchg ch774
    clear o746
    clear cel769
    clear r770
    have hs778 : Chg (inl [11]) _ _ _ _ := ch774.lr rfl
    refine ⟨hs778.same, ?_⟩
    refine h_one 11 rfl (by kernel_rfl) rfl ?_
    obtain ⟨us779, hl780, r781⟩ := o776.vc
    try simp only [List.length_set, List.length_append, List.length_cons, List.length_nil] at hl780
    refine o_of_val (v := Value.pointer (some (eAddr v651 1 (Int.toNat b.1)))) (e_indexAddr (α := Vc) (xs := us779) (v := v651) (i := b.1) Try.underlying26 rfl rfl r781 rfl (by omega) (by omega)) ?_
    refine ⟨hs778.same, ?_⟩
    refine h_one 12 rfl (by kernel_rfl) rfl ?_
    refine o_store_row (r := b.1) tp27_dd rfl rfl o776 o775 (by omega) (by first | omega | (simp only [List.length_set, List.length_append, List.length_cons, List.length_nil, List.length_replicate, List.length_map, List.length_take, List.length_drop]; omega) | (simp; done) | (simp; omega)) ?_
    intro w785 ch786 o787
    clear o776
    clear o775
    have hs788 := hs778.seq (ch786.l rfl)
    refine ⟨hs788.same, ?_⟩
    refine h_nil (by kernel_rfl) ?_
    refine run_end (vs := []) Try.func77 .nil ?_
    refine ⟨Value.tuple (List.toArray []), rfl, ?_⟩
    refine l_nil (run_seq ?_)
    clear bx15
    clear o753
    clear bx758
    refine run_region rfl ?_
    have C789 : Chg (inl [11]) _ _ _ _ := (ch654.n).seq ((ch711.n).seq ((ch714.n).seq ((ch718.n).seq ((hc724.n).seq ((ch725.n).seq ((ch733.lr rfl).seq ((ch745.l rfl).seq ((ch752.n).seq ((ch755.n).seq ((ch759.n).seq ((hc765.n).seq ((ch766.n).seq ((ch774.lr rfl).seq (ch786.l rfl))))))))))))))
    replace bx463 := bx463.chg C789 (is_nl rfl)
    refine l_val (v := Value.agg (List.toArray [Value.int .i64 g.1, v451])) rfl (e_load_bxN (ds := [Value.int .i64 g.1, v451]) tp24_dd (by exact zs19) bx463 rfl rfl) ?_
    refine l_val (v := v651) rfl (e_move rfl) ?_
    replace o453 := o453.chg C789 (is_nl rfl) (is_nl rfl)
    refine l_op rfl ?_
    refine o_callx (e_call (vals := [Value.agg (List.toArray [Value.int .i64 g.1, v451]), v651]) Try.func55 bd55_dd nm55_dd rfl) (RCanon_ok w785 (g.1, (g.2 ++ ([(a.1, b.1)] : List ((Int) × (Int))))) v451 (o453.flat).ro (List.set (List.set r (Int.toNat a.1) (List.take (Int.toNat ((idxS (gI r a.1) a.2) + 1)) (gI r a.1) ++ ([2 * (List.length g.2 : Int)] : List Int) ++ List.drop (Int.toNat ((idxS (gI r a.1) a.2) + 1)) (gI r a.1))) (Int.toNat b.1) (List.take (Int.toNat ((idxS (gI (List.set r (Int.toNat a.1) (List.take (Int.toNat ((idxS (gI r a.1) a.2) + 1)) (gI r a.1) ++ ([2 * (List.length g.2 : Int)] : List Int) ++ List.drop (Int.toNat ((idxS (gI r a.1) a.2) + 1)) (gI r a.1))) b.1) b.2) + 1)) (gI (List.set r (Int.toNat a.1) (List.take (Int.toNat ((idxS (gI r a.1) a.2) + 1)) (gI r a.1) ++ ([2 * (List.length g.2 : Int)] : List Int) ++ List.drop (Int.toNat ((idxS (gI r a.1) a.2) + 1)) (gI r a.1))) b.1) ++ ([(2 * (List.length g.2 : Int)) + 1] : List Int) ++ List.drop (Int.toNat ((idxS (gI (List.set r (Int.toNat a.1) (List.take (Int.toNat ((idxS (gI r a.1) a.2) + 1)) (gI r a.1) ++ ([2 * (List.length g.2 : Int)] : List Int) ++ List.drop (Int.toNat ((idxS (gI r a.1) a.2) + 1)) (gI r a.1))) b.1) b.2) + 1)) (gI (List.set r (Int.toNat a.1) (List.take (Int.toNat ((idxS (gI r a.1) a.2) + 1)) (gI r a.1) ++ ([2 * (List.length g.2 : Int)] : List Int) ++ List.drop (Int.toNat ((idxS (gI r a.1) a.2) + 1)) (gI r a.1))) b.1))) v651 (o787.sl).ro) ?_
    rintro ⟨d791, v793⟩ w790 ⟨fr792, o794⟩
    obtain ⟨g795, hg795⟩ : ∃ q, q = glue w785.heap.size g771 d791 (fun n => if n = 1 then 14 else 0) := ⟨_, rfl⟩
    have ch796 := chg_glue fr792.below g771 d791 (fun n => if n = 1 then 14 else 0)
    rw [← hg795] at ch796
    replace o794 := o794.glue (γ := g771) (ren := (fun n => if n = 1 then 14 else 0)) (k := 14) fr792.col rfl rfl
    rw [← hg795] at o794
    clear hg795
    refine l_val (v := Value.tuple (List.toArray [v793, Value.int .i64 ((canonR (g.1, (g.2 ++ ([(a.1, b.1)] : List ((Int) × (Int))))) (List.set (List.set r (Int.toNat a.1) (List.take (Int.toNat ((idxS (gI r a.1) a.2) + 1)) (gI r a.1) ++ ([2 * (List.length g.2 : Int)] : List Int) ++ List.drop (Int.toNat ((idxS (gI r a.1) a.2) + 1)) (gI r a.1))) (Int.toNat b.1) (List.take (Int.toNat ((idxS (gI (List.set r (Int.toNat a.1) (List.take (Int.toNat ((idxS (gI r a.1) a.2) + 1)) (gI r a.1) ++ ([2 * (List.length g.2 : Int)] : List Int) ++ List.drop (Int.toNat ((idxS (gI r a.1) a.2) + 1)) (gI r a.1))) b.1) b.2) + 1)) (gI (List.set r (Int.toNat a.1) (List.take (Int.toNat ((idxS (gI r a.1) a.2) + 1)) (gI r a.1) ++ ([2 * (List.length g.2 : Int)] : List Int) ++ List.drop (Int.toNat ((idxS (gI r a.1) a.2) + 1)) (gI r a.1))) b.1) ++ ([(2 * (List.length g.2 : Int)) + 1] : List Int) ++ List.drop (Int.toNat ((idxS (gI (List.set r (Int.toNat a.1) (List.take (Int.toNat ((idxS (gI r a.1) a.2) + 1)) (gI r a.1) ++ ([2 * (List.length g.2 : Int)] : List Int) ++ List.drop (Int.toNat ((idxS (gI r a.1) a.2) + 1)) (gI r a.1))) b.1) b.2) + 1)) (gI (List.set r (Int.toNat a.1) (List.take (Int.toNat ((idxS (gI r a.1) a.2) + 1)) (gI r a.1) ++ ([2 * (List.length g.2 : Int)] : List Int) ++ List.drop (Int.toNat ((idxS (gI r a.1) a.2) + 1)) (gI r a.1))) b.1)))).2)])) rfl (e_move rfl) ?_
    refine l_val (v := v793) rfl (e_extract rfl rfl) ?_
    refine l_val (v := Value.int .i64 ((canonR (g.1, (g.2 ++ ([(a.1, b.1)] : List ((Int) × (Int))))) (List.set (List.set r (Int.toNat a.1) (List.take (Int.toNat ((idxS (gI r a.1) a.2) + 1)) (gI r a.1) ++ ([2 * (List.length g.2 : Int)] : List Int) ++ List.drop (Int.toNat ((idxS (gI r a.1) a.2) + 1)) (gI r a.1))) (Int.toNat b.1) (List.take (Int.toNat ((idxS (gI (List.set r (Int.toNat a.1) (List.take (Int.toNat ((idxS (gI r a.1) a.2) + 1)) (gI r a.1) ++ ([2 * (List.length g.2 : Int)] : List Int) ++ List.drop (Int.toNat ((idxS (gI r a.1) a.2) + 1)) (gI r a.1))) b.1) b.2) + 1)) (gI (List.set r (Int.toNat a.1) (List.take (Int.toNat ((idxS (gI r a.1) a.2) + 1)) (gI r a.1) ++ ([2 * (List.length g.2 : Int)] : List Int) ++ List.drop (Int.toNat ((idxS (gI r a.1) a.2) + 1)) (gI r a.1))) b.1) ++ ([(2 * (List.length g.2 : Int)) + 1] : List Int) ++ List.drop (Int.toNat ((idxS (gI (List.set r (Int.toNat a.1) (List.take (Int.toNat ((idxS (gI r a.1) a.2) + 1)) (gI r a.1) ++ ([2 * (List.length g.2 : Int)] : List Int) ++ List.drop (Int.toNat ((idxS (gI r a.1) a.2) + 1)) (gI r a.1))) b.1) b.2) + 1)) (gI (List.set r (Int.toNat a.1) (List.take (Int.toNat ((idxS (gI r a.1) a.2) + 1)) (gI r a.1) ++ ([2 * (List.length g.2 : Int)] : List Int) ++ List.drop (Int.toNat ((idxS (gI r a.1) a.2) + 1)) (gI r a.1))) b.1)))).2)) rfl (e_extract rfl rfl) ?_
    refine l_val (v := v793) rfl (e_assign rfl) ?_
    refine l_nil (run_seq ?_)
    clear o787
    refine run_region rfl ?_
    replace bx463 := bx463.chg ch796 (not_no _)
    refine l_val (v := Value.agg (List.toArray [Value.int .i64 g.1, v451])) rfl (e_load_bxN (ds := [Value.int .i64 g.1, v451]) tp24_dd (by exact zs19) bx463 rfl rfl) ?_
    refine l_val (v := v793) rfl (e_move rfl) ?_
    refine l_op rfl ?_
    have C800 : Chg (inl [11]) _ _ _ _ := (ch654.n).seq ((ch711.n).seq ((ch714.n).seq ((ch718.n).seq ((hc724.n).seq ((ch725.n).seq ((ch733.lr rfl).seq ((ch745.l rfl).seq ((ch752.n).seq ((ch755.n).seq ((ch759.n).seq ((hc765.n).seq ((ch766.n).seq ((ch774.lr rfl).seq ((ch786.l rfl).seq (ch796.n)))))))))))))))
    replace bx20 := bx20.chg C800 (is_nl rfl)
    replace o453 := o453.chg ch796 (not_no _) (not_no _)
    refine o_store_bx (cs' := [Value.int .i64 g.1, v451]) tp24_dd (by exact zs8) rfl bx20 rfl (Nat.le_of_ble_eq_true rfl) (AllOne.all (.cons rfl (.cons (sl_one o453.flat) .nil))) rfl ?_
    intro w797 ch798 bx799
    clear bx20
    refine l_val (v := v793) rfl (e_assign rfl) ?_
    refine l_val (v := Value.int .i64 0) rfl (e_assign rfl) ?_
    refine l_nil ?_
    refine run_ret (vs := [Value.agg (List.toArray [Value.int .i64 g.1, v451]), v793, Value.int .i64 0]) Try.func30 (.cell (by exact zs8) (load_bxN (ds := [Value.int .i64 g.1, v451]) tp24_dd bx799 rfl rfl) (.tmp rfl (.tmp rfl .nil))) ?_
    -- return 5
    have C801 : Chg (inl [4, 11]) _ _ _ _ := (ch654.n).seq ((ch711.n).seq ((ch714.n).seq ((ch718.n).seq ((hc724.n).seq ((ch725.n).seq ((ch733.lr rfl).seq ((ch745.l rfl).seq ((ch752.n).seq ((ch755.n).seq ((ch759.n).seq ((hc765.n).seq ((ch766.n).seq ((ch774.lr rfl).seq ((ch786.l rfl).seq ((ch796.n).seq (ch798.l rfl))))))))))))))))
    replace hbase := hbase.chg C801 (is_nl rfl)
    replace o453 := o453.chg ch798 (is_ne rfl) (is_ne rfl)
    replace o794 := o794.chg ch798 (is_ne rfl)
    have e0 : ((g.1, (g.2 ++ ([(a.1, b.1)] : List ((Int) × (Int))))) : (Int) × (List ((Int) × (Int)))) = ((layR g r a b).1) := by
      first
        | (rw [layR_no (by assumption)]; done)
        | (rw [layR_bd (by assumption) (by first | exact .inl (by assumption) | exact .inr (by assumption))]; done)
        | (rw [layR_lim (by assumption) (by assumption) (by assumption) (by assumption)]; done)
        | (rw [layR_gen (by assumption) (by assumption) (by assumption) (by assumption) (by assumption) (by assumption)]; done)
        | (rw [layR_ok (by assumption) (by assumption) (by assumption) (by assumption) (by first | exact .inl (by assumption) | exact .inr (by assumption))]
           first
             | done
             | (unfold laidS; rw [if_pos (by assumption)]; done)
             | (unfold laidS; rw [if_neg (by assumption)]; done)
             | (unfold laidS; rw [if_pos (by assumption)]; rfl)
             | (unfold laidS; rw [if_neg (by assumption)]; rfl))
    have e1 : ((canonR (g.1, (g.2 ++ ([(a.1, b.1)] : List ((Int) × (Int))))) (List.set (List.set r (Int.toNat a.1) (List.take (Int.toNat ((idxS (gI r a.1) a.2) + 1)) (gI r a.1) ++ ([2 * (List.length g.2 : Int)] : List Int) ++ List.drop (Int.toNat ((idxS (gI r a.1) a.2) + 1)) (gI r a.1))) (Int.toNat b.1) (List.take (Int.toNat ((idxS (gI (List.set r (Int.toNat a.1) (List.take (Int.toNat ((idxS (gI r a.1) a.2) + 1)) (gI r a.1) ++ ([2 * (List.length g.2 : Int)] : List Int) ++ List.drop (Int.toNat ((idxS (gI r a.1) a.2) + 1)) (gI r a.1))) b.1) b.2) + 1)) (gI (List.set r (Int.toNat a.1) (List.take (Int.toNat ((idxS (gI r a.1) a.2) + 1)) (gI r a.1) ++ ([2 * (List.length g.2 : Int)] : List Int) ++ List.drop (Int.toNat ((idxS (gI r a.1) a.2) + 1)) (gI r a.1))) b.1) ++ ([(2 * (List.length g.2 : Int)) + 1] : List Int) ++ List.drop (Int.toNat ((idxS (gI (List.set r (Int.toNat a.1) (List.take (Int.toNat ((idxS (gI r a.1) a.2) + 1)) (gI r a.1) ++ ([2 * (List.length g.2 : Int)] : List Int) ++ List.drop (Int.toNat ((idxS (gI r a.1) a.2) + 1)) (gI r a.1))) b.1) b.2) + 1)) (gI (List.set r (Int.toNat a.1) (List.take (Int.toNat ((idxS (gI r a.1) a.2) + 1)) (gI r a.1) ++ ([2 * (List.length g.2 : Int)] : List Int) ++ List.drop (Int.toNat ((idxS (gI r a.1) a.2) + 1)) (gI r a.1))) b.1)))).1 : List (List Int)) = ((layR g r a b).2.1) := by
      first
        | (rw [layR_no (by assumption)]; done)
        | (rw [layR_bd (by assumption) (by first | exact .inl (by assumption) | exact .inr (by assumption))]; done)
        | (rw [layR_lim (by assumption) (by assumption) (by assumption) (by assumption)]; done)
        | (rw [layR_gen (by assumption) (by assumption) (by assumption) (by assumption) (by assumption) (by assumption)]; done)
        | (rw [layR_ok (by assumption) (by assumption) (by assumption) (by assumption) (by first | exact .inl (by assumption) | exact .inr (by assumption))]
           first
             | done
             | (unfold laidS; rw [if_pos (by assumption)]; done)
             | (unfold laidS; rw [if_neg (by assumption)]; done)
             | (unfold laidS; rw [if_pos (by assumption)]; rfl)
             | (unfold laidS; rw [if_neg (by assumption)]; rfl))
    have e2 : (0 : Int) = ((layR g r a b).2.2) := by
      first
        | (rw [layR_no (by assumption)]; done)
        | (rw [layR_bd (by assumption) (by first | exact .inl (by assumption) | exact .inr (by assumption))]; done)
        | (rw [layR_lim (by assumption) (by assumption) (by assumption) (by assumption)]; done)
        | (rw [layR_gen (by assumption) (by assumption) (by assumption) (by assumption) (by assumption) (by assumption)]; done)
        | (rw [layR_ok (by assumption) (by assumption) (by assumption) (by assumption) (by first | exact .inl (by assumption) | exact .inr (by assumption))]
           first
             | done
             | (unfold laidS; rw [if_pos (by assumption)]; done)
             | (unfold laidS; rw [if_neg (by assumption)]; done)
             | (unfold laidS; rw [if_pos (by assumption)]; rfl)
             | (unfold laidS; rw [if_neg (by assumption)]; rfl))
    exact ⟨(fin w0 g795 (fun n => if n = 8 then 1 else if n = 14 then 2 else 0), v451, v793), (congr3 (a := (g.1, (g.2 ++ ([(a.1, b.1)] : List ((Int) × (Int)))))) (b := (canonR (g.1, (g.2 ++ ([(a.1, b.1)] : List ((Int) × (Int))))) (List.set (List.set r (Int.toNat a.1) (List.take (Int.toNat ((idxS (gI r a.1) a.2) + 1)) (gI r a.1) ++ ([2 * (List.length g.2 : Int)] : List Int) ++ List.drop (Int.toNat ((idxS (gI r a.1) a.2) + 1)) (gI r a.1))) (Int.toNat b.1) (List.take (Int.toNat ((idxS (gI (List.set r (Int.toNat a.1) (List.take (Int.toNat ((idxS (gI r a.1) a.2) + 1)) (gI r a.1) ++ ([2 * (List.length g.2 : Int)] : List Int) ++ List.drop (Int.toNat ((idxS (gI r a.1) a.2) + 1)) (gI r a.1))) b.1) b.2) + 1)) (gI (List.set r (Int.toNat a.1) (List.take (Int.toNat ((idxS (gI r a.1) a.2) + 1)) (gI r a.1) ++ ([2 * (List.length g.2 : Int)] : List Int) ++ List.drop (Int.toNat ((idxS (gI r a.1) a.2) + 1)) (gI r a.1))) b.1) ++ ([(2 * (List.length g.2 : Int)) + 1] : List Int) ++ List.drop (Int.toNat ((idxS (gI (List.set r (Int.toNat a.1) (List.take (Int.toNat ((idxS (gI r a.1) a.2) + 1)) (gI r a.1) ++ ([2 * (List.length g.2 : Int)] : List Int) ++ List.drop (Int.toNat ((idxS (gI r a.1) a.2) + 1)) (gI r a.1))) b.1) b.2) + 1)) (gI (List.set r (Int.toNat a.1) (List.take (Int.toNat ((idxS (gI r a.1) a.2) + 1)) (gI r a.1) ++ ([2 * (List.length g.2 : Int)] : List Int) ++ List.drop (Int.toNat ((idxS (gI r a.1) a.2) + 1)) (gI r a.1))) b.1)))).1) (c := 0) (fun (z0 : (Int) × (List ((Int) × (Int)))) (z1 : List (List Int)) (z2 : Int) => Ending.returned (Value.tuple (List.toArray [Value.agg (List.toArray [Value.int .i64 z0.1, v451]), v793, Value.int .i64 z2]))) e0 e1 e2), hbase.fresh _, ((congrArg (fun (z : (Int) × (List ((Int) × (Int)))) => z.2) e0) ▸ (o453.glue (γ := c0) (ren := (fun n => if n = 8 then 1 else if n = 14 then 2 else 0)) (k := 1) hbase.col rfl rfl)), (e1 ▸ (o794.glue (γ := c0) (ren := (fun n => if n = 8 then 1 else if n = 14 then 2 else 0)) (k := 2) hbase.col rfl rfl))⟩
   refine run_cond_t rfl (congrArg Bool.not (Bool.eq_false_iff.2 p4)) ?_
   refine run_seq ?_
   clear bx5
   clear bx10
   clear bx15
   clear o27
   refine run_region rfl ?_
   refine l_val (v := Value.agg (List.toArray [Value.int .i64 0, Value.slice none 0 0])) rfl (e_build (vs := []) rfl (by kernel_rfl)) ?_
   refine l_op rfl ?_
   have C805 : Chg (inl []) _ _ _ _ := (ch29.n).seq ((hb32.n).seq (hb35.n))
   replace bx20 := bx20.chg C805 (is_nl rfl)
   refine o_store_bx (cs' := [Value.int .i64 0, Value.slice none 0 0]) tp24_dd rfl rfl bx20 rfl (Nat.le_of_ble_eq_true rfl) (AllOne.all (.cons rfl (.cons rfl .nil))) rfl ?_
   intro w802 ch803 bx804
   clear bx20
   refine l_val (v := Value.slice none 0 0) rfl (e_assign rfl) ?_
   refine l_val (v := Value.int .i64 2) rfl (e_assign rfl) ?_
   refine l_nil ?_
   refine run_ret (vs := [Value.agg (List.toArray [Value.int .i64 0, Value.slice none 0 0]), Value.slice none 0 0, Value.int .i64 2]) Try.func30 (.cell rfl (load_bxN (ds := [Value.int .i64 0, Value.slice none 0 0]) tp24_dd bx804 rfl rfl) (.tmp rfl (.tmp rfl .nil))) ?_
   -- return 6
   have C806 : Chg (inl [4]) _ _ _ _ := (ch2.n).seq ((ch7.n).seq ((ch12.n).seq ((ch17.n).seq ((ch29.n).seq ((hb32.n).seq ((hb35.n).seq (ch803.l rfl)))))))
   replace hbase := hbase.chg C806 (is_nl rfl)
   have e0 : ((0, []) : (Int) × (List ((Int) × (Int)))) = ((layR g r a b).1) := by
     first
       | (rw [layR_no (by assumption)]; done)
       | (rw [layR_bd (by assumption) (by first | exact .inl (by assumption) | exact .inr (by assumption))]; done)
       | (rw [layR_lim (by assumption) (by assumption) (by assumption) (by assumption)]; done)
       | (rw [layR_gen (by assumption) (by assumption) (by assumption) (by assumption) (by assumption) (by assumption)]; done)
       | (rw [layR_ok (by assumption) (by assumption) (by assumption) (by assumption) (by first | exact .inl (by assumption) | exact .inr (by assumption))]
          first
            | done
            | (unfold laidS; rw [if_pos (by assumption)]; done)
            | (unfold laidS; rw [if_neg (by assumption)]; done)
            | (unfold laidS; rw [if_pos (by assumption)]; rfl)
            | (unfold laidS; rw [if_neg (by assumption)]; rfl))
   have e1 : ([] : List (List Int)) = ((layR g r a b).2.1) := by
     first
       | (rw [layR_no (by assumption)]; done)
       | (rw [layR_bd (by assumption) (by first | exact .inl (by assumption) | exact .inr (by assumption))]; done)
       | (rw [layR_lim (by assumption) (by assumption) (by assumption) (by assumption)]; done)
       | (rw [layR_gen (by assumption) (by assumption) (by assumption) (by assumption) (by assumption) (by assumption)]; done)
       | (rw [layR_ok (by assumption) (by assumption) (by assumption) (by assumption) (by first | exact .inl (by assumption) | exact .inr (by assumption))]
          first
            | done
            | (unfold laidS; rw [if_pos (by assumption)]; done)
            | (unfold laidS; rw [if_neg (by assumption)]; done)
            | (unfold laidS; rw [if_pos (by assumption)]; rfl)
            | (unfold laidS; rw [if_neg (by assumption)]; rfl))
   have e2 : (2 : Int) = ((layR g r a b).2.2) := by
     first
       | (rw [layR_no (by assumption)]; done)
       | (rw [layR_bd (by assumption) (by first | exact .inl (by assumption) | exact .inr (by assumption))]; done)
       | (rw [layR_lim (by assumption) (by assumption) (by assumption) (by assumption)]; done)
       | (rw [layR_gen (by assumption) (by assumption) (by assumption) (by assumption) (by assumption) (by assumption)]; done)
       | (rw [layR_ok (by assumption) (by assumption) (by assumption) (by assumption) (by first | exact .inl (by assumption) | exact .inr (by assumption))]
          first
            | done
            | (unfold laidS; rw [if_pos (by assumption)]; done)
            | (unfold laidS; rw [if_neg (by assumption)]; done)
            | (unfold laidS; rw [if_pos (by assumption)]; rfl)
            | (unfold laidS; rw [if_neg (by assumption)]; rfl))
   exact ⟨(fin w0 g28 (fun n => 0), (Value.slice none 0 0), (Value.slice none 0 0)), (congr3 (a := (0, [])) (b := []) (c := 2) (fun (z0 : (Int) × (List ((Int) × (Int)))) (z1 : List (List Int)) (z2 : Int) => Ending.returned (Value.tuple (List.toArray [Value.agg (List.toArray [Value.int .i64 z0.1, Value.slice none 0 0]), Value.slice none 0 0, Value.int .i64 z2]))) e0 e1 e2), hbase.fresh _, ((congrArg (fun (z : (Int) × (List ((Int) × (Int)))) => z.2) e0) ▸ Ow.nil), (e1 ▸ Nst.nil)⟩
  refine l_skip (want_n rfl rfl rfl (congrArg Bool.not (Bool.eq_false_iff.2 q39))) ?_
  refine l_skip (want_n rfl rfl rfl (congrArg Bool.not (Bool.eq_false_iff.2 q39))) ?_
  refine l_skip (want_n rfl rfl rfl (congrArg Bool.not (Bool.eq_false_iff.2 q39))) ?_
  refine l_skip (want_n rfl rfl rfl (congrArg Bool.not (Bool.eq_false_iff.2 q39))) ?_
  refine l_skip (want_n rfl rfl rfl (congrArg Bool.not (Bool.eq_false_iff.2 q39))) ?_
  refine l_val (v := Value.bool true) rfl (e_pick_t rfl (congrArg Bool.not (Bool.eq_false_iff.2 q39)) rfl) ?_
  refine l_val (v := Value.bool true) rfl (e_assign rfl) ?_
  refine l_nil ?_
  refine run_cond_t rfl rfl ?_
  refine run_seq ?_
  clear bx5
  clear bx10
  clear bx15
  clear o27
  refine run_region rfl ?_
  refine l_val (v := Value.agg (List.toArray [Value.int .i64 0, Value.slice none 0 0])) rfl (e_build (vs := []) rfl (by kernel_rfl)) ?_
  refine l_op rfl ?_
  replace bx20 := (bx20.chg ch29 (not_no _)).chg hb32 (not_no _)
  refine o_store_bx (cs' := [Value.int .i64 0, Value.slice none 0 0]) tp24_dd rfl rfl bx20 rfl (Nat.le_of_ble_eq_true rfl) (AllOne.all (.cons rfl (.cons rfl .nil))) rfl ?_
  intro w807 ch808 bx809
  clear bx20
  refine l_val (v := Value.slice none 0 0) rfl (e_assign rfl) ?_
  refine l_val (v := Value.int .i64 2) rfl (e_assign rfl) ?_
  refine l_nil ?_
  refine run_ret (vs := [Value.agg (List.toArray [Value.int .i64 0, Value.slice none 0 0]), Value.slice none 0 0, Value.int .i64 2]) Try.func30 (.cell rfl (load_bxN (ds := [Value.int .i64 0, Value.slice none 0 0]) tp24_dd bx809 rfl rfl) (.tmp rfl (.tmp rfl .nil))) ?_
  -- return 7
  have C810 : Chg (inl [4]) _ _ _ _ := (ch2.n).seq ((ch7.n).seq ((ch12.n).seq ((ch17.n).seq ((ch29.n).seq ((hb32.n).seq (ch808.l rfl))))))
  replace hbase := hbase.chg C810 (is_nl rfl)
  have e0 : ((0, []) : (Int) × (List ((Int) × (Int)))) = ((layR g r a b).1) := by
    first
      | (rw [layR_no (by assumption)]; done)
      | (rw [layR_bd (by assumption) (by first | exact .inl (by assumption) | exact .inr (by assumption))]; done)
      | (rw [layR_lim (by assumption) (by assumption) (by assumption) (by assumption)]; done)
      | (rw [layR_gen (by assumption) (by assumption) (by assumption) (by assumption) (by assumption) (by assumption)]; done)
      | (rw [layR_ok (by assumption) (by assumption) (by assumption) (by assumption) (by first | exact .inl (by assumption) | exact .inr (by assumption))]
         first
           | done
           | (unfold laidS; rw [if_pos (by assumption)]; done)
           | (unfold laidS; rw [if_neg (by assumption)]; done)
           | (unfold laidS; rw [if_pos (by assumption)]; rfl)
           | (unfold laidS; rw [if_neg (by assumption)]; rfl))
  have e1 : ([] : List (List Int)) = ((layR g r a b).2.1) := by
    first
      | (rw [layR_no (by assumption)]; done)
      | (rw [layR_bd (by assumption) (by first | exact .inl (by assumption) | exact .inr (by assumption))]; done)
      | (rw [layR_lim (by assumption) (by assumption) (by assumption) (by assumption)]; done)
      | (rw [layR_gen (by assumption) (by assumption) (by assumption) (by assumption) (by assumption) (by assumption)]; done)
      | (rw [layR_ok (by assumption) (by assumption) (by assumption) (by assumption) (by first | exact .inl (by assumption) | exact .inr (by assumption))]
         first
           | done
           | (unfold laidS; rw [if_pos (by assumption)]; done)
           | (unfold laidS; rw [if_neg (by assumption)]; done)
           | (unfold laidS; rw [if_pos (by assumption)]; rfl)
           | (unfold laidS; rw [if_neg (by assumption)]; rfl))
  have e2 : (2 : Int) = ((layR g r a b).2.2) := by
    first
      | (rw [layR_no (by assumption)]; done)
      | (rw [layR_bd (by assumption) (by first | exact .inl (by assumption) | exact .inr (by assumption))]; done)
      | (rw [layR_lim (by assumption) (by assumption) (by assumption) (by assumption)]; done)
      | (rw [layR_gen (by assumption) (by assumption) (by assumption) (by assumption) (by assumption) (by assumption)]; done)
      | (rw [layR_ok (by assumption) (by assumption) (by assumption) (by assumption) (by first | exact .inl (by assumption) | exact .inr (by assumption))]
         first
           | done
           | (unfold laidS; rw [if_pos (by assumption)]; done)
           | (unfold laidS; rw [if_neg (by assumption)]; done)
           | (unfold laidS; rw [if_pos (by assumption)]; rfl)
           | (unfold laidS; rw [if_neg (by assumption)]; rfl))
  exact ⟨(fin w0 g28 (fun n => 0), (Value.slice none 0 0), (Value.slice none 0 0)), (congr3 (a := (0, [])) (b := []) (c := 2) (fun (z0 : (Int) × (List ((Int) × (Int)))) (z1 : List (List Int)) (z2 : Int) => Ending.returned (Value.tuple (List.toArray [Value.agg (List.toArray [Value.int .i64 z0.1, Value.slice none 0 0]), Value.slice none 0 0, Value.int .i64 z2]))) e0 e1 e2), hbase.fresh _, ((congrArg (fun (z : (Int) × (List ((Int) × (Int)))) => z.2) e0) ▸ Ow.nil), (e1 ▸ Nst.nil)⟩
 refine run_cond_t rfl (congrArg Bool.not (decide_eq_false p2)) ?_
 refine run_seq ?_
 clear bx5
 clear bx10
 clear bx15
 clear o27
 refine run_region rfl ?_
 refine l_val (v := Value.agg (List.toArray [Value.int .i64 0, Value.slice none 0 0])) rfl (e_build (vs := []) rfl (by kernel_rfl)) ?_
 refine l_val (v := Value.int .i64 ((facesR g r).2)) rfl (e_move rfl) ?_
 refine l_op rfl ?_
 replace bx20 := bx20.chg ch29 (not_no _)
 refine o_store_bx (cs' := [Value.int .i64 0, Value.slice none 0 0]) tp24_dd rfl rfl bx20 rfl (Nat.le_of_ble_eq_true rfl) (AllOne.all (.cons rfl (.cons rfl .nil))) rfl ?_
 intro w811 ch812 bx813
 clear bx20
 refine l_val (v := Value.slice none 0 0) rfl (e_assign rfl) ?_
 refine l_val (v := Value.int .i64 ((facesR g r).2)) rfl (e_assign rfl) ?_
 refine l_nil ?_
 refine run_ret (vs := [Value.agg (List.toArray [Value.int .i64 0, Value.slice none 0 0]), Value.slice none 0 0, Value.int .i64 ((facesR g r).2)]) Try.func30 (.cell rfl (load_bxN (ds := [Value.int .i64 0, Value.slice none 0 0]) tp24_dd bx813 rfl rfl) (.tmp rfl (.tmp rfl .nil))) ?_
 -- return 8
 have C814 : Chg (inl [4]) _ _ _ _ := (ch2.n).seq ((ch7.n).seq ((ch12.n).seq ((ch17.n).seq ((ch29.n).seq (ch812.l rfl)))))
 replace hbase := hbase.chg C814 (is_nl rfl)
 have e0 : ((0, []) : (Int) × (List ((Int) × (Int)))) = ((layR g r a b).1) := by
   first
     | (rw [layR_no (by assumption)]; done)
     | (rw [layR_bd (by assumption) (by first | exact .inl (by assumption) | exact .inr (by assumption))]; done)
     | (rw [layR_lim (by assumption) (by assumption) (by assumption) (by assumption)]; done)
     | (rw [layR_gen (by assumption) (by assumption) (by assumption) (by assumption) (by assumption) (by assumption)]; done)
     | (rw [layR_ok (by assumption) (by assumption) (by assumption) (by assumption) (by first | exact .inl (by assumption) | exact .inr (by assumption))]
        first
          | done
          | (unfold laidS; rw [if_pos (by assumption)]; done)
          | (unfold laidS; rw [if_neg (by assumption)]; done)
          | (unfold laidS; rw [if_pos (by assumption)]; rfl)
          | (unfold laidS; rw [if_neg (by assumption)]; rfl))
 have e1 : ([] : List (List Int)) = ((layR g r a b).2.1) := by
   first
     | (rw [layR_no (by assumption)]; done)
     | (rw [layR_bd (by assumption) (by first | exact .inl (by assumption) | exact .inr (by assumption))]; done)
     | (rw [layR_lim (by assumption) (by assumption) (by assumption) (by assumption)]; done)
     | (rw [layR_gen (by assumption) (by assumption) (by assumption) (by assumption) (by assumption) (by assumption)]; done)
     | (rw [layR_ok (by assumption) (by assumption) (by assumption) (by assumption) (by first | exact .inl (by assumption) | exact .inr (by assumption))]
        first
          | done
          | (unfold laidS; rw [if_pos (by assumption)]; done)
          | (unfold laidS; rw [if_neg (by assumption)]; done)
          | (unfold laidS; rw [if_pos (by assumption)]; rfl)
          | (unfold laidS; rw [if_neg (by assumption)]; rfl))
 have e2 : ((facesR g r).2 : Int) = ((layR g r a b).2.2) := by
   first
     | (rw [layR_no (by assumption)]; done)
     | (rw [layR_bd (by assumption) (by first | exact .inl (by assumption) | exact .inr (by assumption))]; done)
     | (rw [layR_lim (by assumption) (by assumption) (by assumption) (by assumption)]; done)
     | (rw [layR_gen (by assumption) (by assumption) (by assumption) (by assumption) (by assumption) (by assumption)]; done)
     | (rw [layR_ok (by assumption) (by assumption) (by assumption) (by assumption) (by first | exact .inl (by assumption) | exact .inr (by assumption))]
        first
          | done
          | (unfold laidS; rw [if_pos (by assumption)]; done)
          | (unfold laidS; rw [if_neg (by assumption)]; done)
          | (unfold laidS; rw [if_pos (by assumption)]; rfl)
          | (unfold laidS; rw [if_neg (by assumption)]; rfl))
 exact ⟨(fin w0 g28 (fun n => 0), (Value.slice none 0 0), (Value.slice none 0 0)), (congr3 (a := (0, [])) (b := []) (c := (facesR g r).2) (fun (z0 : (Int) × (List ((Int) × (Int)))) (z1 : List (List Int)) (z2 : Int) => Ending.returned (Value.tuple (List.toArray [Value.agg (List.toArray [Value.int .i64 z0.1, Value.slice none 0 0]), Value.slice none 0 0, Value.int .i64 z2]))) e0 e1 e2), hbase.fresh _, ((congrArg (fun (z : (Int) × (List ((Int) × (Int)))) => z.2) e0) ▸ Ow.nil), (e1 ▸ Nst.nil)⟩
end TL
