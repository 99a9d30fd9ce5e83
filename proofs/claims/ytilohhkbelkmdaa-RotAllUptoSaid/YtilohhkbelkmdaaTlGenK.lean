import Derived.Test.YtilohhkbelkmdaaTlGenA
import Derived.Test.YtilohhkbelkmdaaTlGenQ
import Derived.Test.YtilohhkbelkmdaaTlGenX
import Derived.Test.YtilohhkbelkmdaaTlGenI
import Derived.Test.YtilohhkbelkmdaaTlGenJ
import Derived.Test.YtilohhkbelkmdaaTlGenR
import Derived.Test.YtilohhkbelkmdaaTlGenE
import Derived.Test.YtilohhkbelkmdaaTlP2
import Derived.Test.YtilohhkbelkmdaaProg
set_option linter.all false
set_option maxRecDepth 20000
namespace TL
open Go Go.Proofs
theorem mixed_k : Try.prog.follows .mixedOrders = true := by kernel_rfl
theorem tp3_k : Tp Try.prog 3 false 1 8 (.int .i64 0) := Tp.of (by kernel_rfl)
theorem tp22_k : Tp Try.prog 22 false 1 24 (.slice none 0 0) := Tp.of (by kernel_rfl)
theorem tp24_k : Tp Try.prog 24 true 2 32 (.agg #[.int .i64 0, .slice none 0 0]) := Tp.of (by kernel_rfl)
theorem tp27_k : Tp Try.prog 27 false 1 24 (.slice none 0 0) := Tp.of (by kernel_rfl)
theorem bd60_k : Try.f60.body.isNone = false := rfl
theorem nm60_k : (Try.f60.name == "runtime.NumGoroutine") = false := by decide +kernel
theorem bd93_k : Try.f93.body.isNone = false := rfl
theorem nm93_k : (Try.f93.name == "runtime.NumGoroutine") = false := by decide +kernel
theorem bd94_k : Try.f94.body.isNone = false := rfl
theorem nm94_k : (Try.f94.name == "runtime.NumGoroutine") = false := by decide +kernel
set_option maxHeartbeats 1000000 in
theorem rRSub_ok (w0 : World) (g : (Int) × (List ((Int) × (Int)))) (g_v : Value) (hg_v : Ro w0 g_v g.2) (r : List (List Int)) (r_v : Value) (hr_v : Ro w0 r_v r) (keep : List Int) (keep_v : Value) (hkeep_v : Ro w0 keep_v keep) (hmay : MayP g) (hr : RotP g r) :
    Calls Try.prog 63 #[Value.agg (List.toArray [Value.int .i64 g.1, g_v]), r_v, keep_v] w0 (fun ee w => ∃ xx : Cmap × Value × Value, ee = .returned ((fun ⟨δ, rv0, rv1⟩ => Value.tuple (List.toArray [Value.agg (List.toArray [Value.int .i64 (((rsubR g r keep).1).1), rv0]), rv1, Value.int .i64 ((rsubR g r keep).2.2)])) xx) ∧ (fun (⟨δ, rv0, rv1⟩ : Cmap × Value × Value) (w : World) => Fresh w0 δ w ∧ Ow δ (is 1) (is 1) w rv0 (((rsubR g r keep).1).2) ∧ Nst δ 2 w rv1 ((rsubR g r keep).2.1)) xx w) := by
 refine calls_of_run Try.func63 rfl (Nat.le_of_ble_eq_true rfl) ?_
 have hbase := Base.start w0
 have r_g_v := hg_v.sl
 have r_r_v := hr_v.sl
 have r_keep_v := hkeep_v.sl
 have hm0 := hmay
 obtain ⟨hm1, hm2, hm3, hm4⟩ := hm0
 have hrl := hr.1
 have hm := hmay
 have hrp := hr
 refine run_seq (run_region rfl (l_op rfl ?_))
 refine o_box c0 (is 1) (1, 0) rfl rfl ?_
 intro g4 w1 b3 ch2 bx5
 replace bx5 : Bx g4 (is 1) w1 b3 [Value.int .i64 g.1, g_v] := bx5
 refine l_op rfl ?_
 refine o_alloc g4 (is 2) (2, 0) rfl tp24_k ?_
 intro g9 w6 b8 ch7 bx10
 replace bx10 : Bx g9 (is 2) w6 b8 [Value.int .i64 0, Value.slice none 0 0] := bx10
 refine lv (Value.slice none 0 0) rfl (e_assign rfl) ?_
 refine lv (Value.int .i64 0) rfl (e_assign rfl) ?_
 refine l_nil (run_seq (run_region rfl ?_))
 replace bx5 := bx5.chg ch7 (not_no _)
 refine lv (Value.agg (List.toArray [Value.int .i64 g.1, g_v])) rfl (e_load_bxN (ds := [Value.int .i64 g.1, g_v]) tp24_k rfl bx5 rfl rfl) ?_
 refine lv (keep_v) rfl (e_move rfl) ?_
 replace r_g_v := (r_g_v.chg ch2 (not_no _)).chg ch7 (not_no _)
 replace r_keep_v := (r_keep_v.chg ch2 (not_no _)).chg ch7 (not_no _)
 refine l_op rfl ?_
 refine o_callx (e_call (vals := [Value.agg (List.toArray [Value.int .i64 g.1, g_v]), keep_v]) Try.func93 bd93_k nm93_k rfl) (rSub_ok w6 g g_v (r_g_v).ro keep keep_v (r_keep_v).ro (by assumption)) ?_
 rintro ⟨d12, v14⟩ w11 ⟨fr13, o15⟩
 obtain ⟨g16, hg16⟩ : ∃ q, q = glue w6.heap.size g9 d12 (fun n => if n = 1 then 3 else 0) := ⟨_, rfl⟩
 have ch17 := chg_glue fr13.below g9 d12 (fun n => if n = 1 then 3 else 0)
 rw [← hg16] at ch17
 replace o15 := o15.glue (γ := g9) (ren := (fun n => if n = 1 then 3 else 0)) (k := 3) fr13.col rfl rfl
 rw [← hg16] at o15
 clear hg16
 refine lv (Value.tuple (List.toArray [Value.agg (List.toArray [Value.int .i64 (((subR g keep).1).1), v14]), Value.int .i64 ((subR g keep).2)])) rfl (e_move rfl) ?_
 refine lv (Value.agg (List.toArray [Value.int .i64 (((subR g keep).1).1), v14])) rfl (e_extract rfl rfl) ?_
 refine lv (Value.int .i64 ((subR g keep).2)) rfl (e_extract rfl rfl) ?_
 refine l_op rfl ?_
 refine o_alloc g16 (is 4) (4, 0) rfl tp24_k ?_
 intro g21 w18 b20 ch19 bx22
 replace bx22 : Bx g21 (is 4) w18 b20 [Value.int .i64 0, Value.slice none 0 0] := bx22
 refine l_op rfl ?_
 replace o15 := o15.chg ch19 (not_no _) (not_no _)
 refine o_store_bx (cs' := [Value.int .i64 (((subR g keep).1).1), v14]) tp24_k rfl rfl bx22 rfl (Nat.le_of_ble_eq_true rfl) (AllOne.all (.cons rfl (.cons (sl_one o15.flat) .nil))) rfl ?_
 intro w23 ch24 bx25
 clear bx22
 refine lv (Value.int .i64 ((subR g keep).2)) rfl (e_assign rfl) ?_
 refine l_nil (run_seq (run_seq (run_region rfl ?_)))
 refine lv (Value.int .i64 ((subR g keep).2)) rfl (e_move rfl) ?_
 refine lv (Value.bool (!(decide (((subR g keep).2) = 0)))) rfl (e_neq (m := (subR g keep).2) (n := 0) rfl rfl) ?_
 refine l_nil ?_
 by_cases p2 : ((subR g keep).2) = 0
 ·
  obtain ⟨_, hch0, hse⟩ := subR_ok (by assumption)
  have hch := chosenS_ok hch0
  refine run_cond_f rfl (congrArg Bool.not (decide_eq_true p2)) ?_
  refine run_skip ?_
  refine run_seq (run_region rfl ?_)
  refine lv (Value.pointer (some ⟨b3, 1, none⟩)) rfl (e_fieldAddr Try.underlying24 rfl rfl rfl rfl) ?_
  have C26 : Chg (inl [4]) _ _ _ _ := (ch17.n).seq ((ch19.n).seq (ch24.l rfl))
  replace bx5 := bx5.chg C26 (is_nl rfl)
  refine lv (g_v) rfl (e_load_bx1 tp22_k rfl bx5 rfl) ?_
  replace r_g_v := r_g_v.chg C26 (is_nl rfl)
  have len27 := (r_g_v).small
  refine lv (Value.int .i64 (List.length g.2 : Int)) rfl (e_len Try.underlying22 rfl r_g_v) ?_
  refine l_op rfl ?_
  refine o_make (α := Int) (l := (List.length g.2 : Int)) (cp := (List.length g.2 : Int)) g21 (is 5) (is 5) (5, 0) rfl (0 : Int) Try.underlying27 tp3_k rfl rfl rfl (by omega) (by omega) (by omega) (by omega) ?_
  intro g28 w29 v30 ch31 o32 _
  refine lv (v30) rfl (e_assign rfl) ?_
  refine l_nil (run_seq (run_seq ?_))
  clear bx5
  refine run_region rfl ?_
  refine lv (Value.int .i64 0) rfl (e_assign rfl) ?_
  refine l_nil ?_
  refine run_block ?_
  refine run_loop (σ := Nat × (List Int) × Cmap) (fun ⟨i, at_, gq⟩ f w => Base w0 gq w ∧ f 1 = r_v ∧ f 2 = keep_v ∧ f 6 = Value.pointer (some ⟨b8, 0, none⟩) ∧ f 9 = Value.pointer (some ⟨b20, 0, none⟩) ∧ f 11 = v30 ∧ f 12 = Value.int .i64 (i : Int) ∧ Sl gq (is 0) w g_v g.2 ∧ Sl gq (is 0) w r_v r ∧ Sl gq (is 0) w keep_v keep ∧ Bx gq (is 2) w b8 [Value.int .i64 0, Value.slice none 0 0] ∧ Ow gq (is 3) (is 3) w v14 (((subR g keep).1).2) ∧ Bx gq (is 4) w b20 [Value.int .i64 (((subR g keep).1).1), v14] ∧ Ow gq (is 5) (is 5) w v30 at_ ∧ (i : Int) ≤ ((List.length keep : Int) : Int) ∧ (PosInv at_ keep (g.2.length : Int) i)) (fun ⟨i, at_, gq⟩ => Int.toNat (((List.length keep : Int) : Int) - (i : Int))) (0, (List.replicate (Int.toNat (List.length g.2 : Int)) (0 : Int)), g28) ?_ ?_
  have C33 : Chg (inl [4]) _ _ _ _ := (ch2.n).seq ((ch7.n).seq ((ch17.n).seq ((ch19.n).seq ((ch24.l rfl).seq (ch31.n)))))
  replace hbase := hbase.chg C33 (is_nl rfl)
  replace r_g_v := r_g_v.chg ch31 (not_no _)
  replace r_r_v := r_r_v.chg C33 (is_nl rfl)
  have C34 : Chg (inl [4]) _ _ _ _ := (ch17.n).seq ((ch19.n).seq ((ch24.l rfl).seq (ch31.n)))
  replace r_keep_v := r_keep_v.chg C34 (is_nl rfl)
  replace bx10 := bx10.chg C34 (is_nl rfl)
  replace o15 := (o15.chg ch24 (is_ne rfl) (is_ne rfl)).chg ch31 (not_no _) (not_no _)
  replace bx25 := bx25.chg ch31 (not_no _)
  · exact ⟨hbase, rfl, rfl, rfl, rfl, rfl, rfl, r_g_v, r_r_v, r_keep_v, bx10, o15, bx25, o32, by omega, by (have h := PosInv.start keep (g.2.length : Int) (by omega); simpa using h)⟩
  clear r_g_v r_r_v r_keep_v bx10 o15 bx25 o32 hbase
  rintro ⟨i, at_, g37⟩ f35 w36 ⟨hbase, zs1, zs2, zs6, zs9, zs11, zs12, r_g_v, r_r_v, r_keep_v, bx10, o15, bx25, o32, hle_i, hpi⟩ back6
  have htl := hpi.len
  refine run_seq (run_seq (run_region rfl ?_))
  refine lv (Value.int .i64 (i : Int)) rfl (e_move (by exact zs12)) ?_
  refine lv (keep_v) rfl (e_move (by exact zs2)) ?_
  have len38 := (r_keep_v).small
  refine lv (Value.int .i64 (List.length keep : Int)) rfl (e_len Try.underlying27 rfl r_keep_v) ?_
  refine lv (Value.bool (decide ((i : Int) < (List.length keep : Int)))) rfl (e_lss (m := (i : Int)) (n := (List.length keep : Int)) rfl rfl) ?_
  refine l_nil ?_
  by_cases p6 : (i : Int) < (List.length keep : Int)
  ·
   refine run_cond_t rfl (decide_eq_true p6) ?_
   obtain ⟨hk1, hk2⟩ := hch.1 _ (gI_mem (xs := keep) (i := (i : Int)) (by omega) (by omega))
   refine run_skip ?_
   refine run_seq ?_
   refine run_block ?_
   refine run_region rfl ?_
   refine lv (v30) rfl (e_move (by exact zs11)) ?_
   refine lv (keep_v) rfl (e_move (by exact zs2)) ?_
   refine lv (Value.int .i64 (i : Int)) rfl (e_move (by exact zs12)) ?_
   refine lv (Value.pointer (some (eAddr keep_v 1 (Int.toNat (i : Int))))) rfl (e_indexAddr (α := Int) (xs := keep) (v := keep_v) (i := (i : Int)) Try.underlying27 rfl rfl r_keep_v rfl (by omega) (by omega)) ?_
   refine lv (Value.int .i64 (gI keep (i : Int))) rfl (e_load_el1 (α := Int) (xs := keep) (v := keep_v) (i := (i : Int)) tp3_k rfl r_keep_v (by omega) (by omega) (by decide) rfl) ?_
   refine lv (Value.int .i64 (i : Int)) rfl (e_move (by exact zs12)) ?_
   refine lv (Value.int .i64 ((i : Int) + 1)) rfl (e_add (m := (i : Int)) (n := 1) rfl rfl (by omega)) ?_
   refine lv (Value.pointer (some (eAddr v30 1 (Int.toNat (gI keep (i : Int)))))) rfl (e_indexAddr (α := Int) (xs := at_) (v := v30) (i := (gI keep (i : Int))) Try.underlying27 rfl rfl o32.flat rfl (by omega) (by omega)) ?_
   refine l_op rfl ?_
   refine o_store_el (i := (gI keep (i : Int))) ((i : Int) + 1) tp3_k rfl rfl o32 (by omega) (by omega) rfl ?_
   intro w39 ch40 bx41
   clear o32
   refine l_nil ?_
   refine run_inBlock ?_
   refine run_region rfl ?_
   refine lv (Value.int .i64 (i : Int)) rfl (e_move (by exact zs12)) ?_
   refine lv (Value.int .i64 ((i : Int) + 1)) rfl (e_add (m := (i : Int)) (n := 1) rfl rfl (by omega)) ?_
   refine lv (Value.int .i64 ((i : Int) + 1)) rfl (e_assign rfl) ?_
   refine l_nil ?_
   replace hbase := hbase.chg ch40 (is_ne rfl)
   replace r_g_v := r_g_v.chg ch40 (is_ne rfl)
   replace r_r_v := r_r_v.chg ch40 (is_ne rfl)
   replace r_keep_v := r_keep_v.chg ch40 (is_ne rfl)
   replace bx10 := bx10.chg ch40 (is_ne rfl)
   replace o15 := o15.chg ch40 (is_ne rfl) (is_ne rfl)
   replace bx25 := bx25.chg ch40 (is_ne rfl)
   refine back6 (i + 1, (List.set at_ (Int.toNat (gI keep (i : Int))) ((i : Int) + 1)), g37) _ _ ⟨hbase, (by exact zs1), (by exact zs2), (by exact zs6), (by exact zs9), (by exact zs11), rfl, r_g_v, r_r_v, r_keep_v, bx10, o15, bx25, bx41, by omega, ?_⟩ ?_
   · show PosInv (List.set at_ (Int.toNat (gI keep (i : Int))) ((i : Int) + 1)) keep (g.2.length : Int) (i + 1)
     exact hpi.next (by omega) hk1 hk2 hch.2
   · show Int.toNat (((List.length keep : Int) : Int) - ((i + 1) : Int)) < Int.toNat (((List.length keep : Int) : Int) - (i : Int))
     omega
  refine run_cond_f rfl (decide_eq_false p6) ?_
  refine run_exit rfl ?_
  refine run_seq (run_region rfl ?_)
  refine lv (r_v) rfl (e_move (by exact zs1)) ?_
  have len42 := (r_r_v).small
  refine lv (Value.int .i64 (List.length r : Int)) rfl (e_len Try.underlying26 rfl r_r_v) ?_
  refine l_op rfl ?_
  refine o_make_nst (α := Int) (n := (List.length r : Int)) (cp := (List.length r : Int)) g37 6 Try.underlying26 tp27_k rfl rfl rfl (by omega) (by omega) (by omega) (by omega) ?_
  intro g43 w44 v45 ch46 o47
  refine lv (v45) rfl (e_assign rfl) ?_
  refine l_nil (run_seq (run_seq (run_region rfl ?_)))
  refine lv (Value.int .i64 0) rfl (e_assign rfl) ?_
  refine l_nil ?_
  refine run_block ?_
  refine run_loop (σ := Nat × (List (List Int)) × Cmap) (fun ⟨v, out, gq⟩ f w => Base w0 gq w ∧ f 1 = r_v ∧ f 6 = Value.pointer (some ⟨b8, 0, none⟩) ∧ f 9 = Value.pointer (some ⟨b20, 0, none⟩) ∧ f 11 = v30 ∧ f 13 = v45 ∧ f 14 = Value.int .i64 (v : Int) ∧ Sl gq (is 0) w g_v g.2 ∧ Sl gq (is 0) w r_v r ∧ Sl gq (is 0) w keep_v keep ∧ Bx gq (is 2) w b8 [Value.int .i64 0, Value.slice none 0 0] ∧ Ow gq (is 3) (is 3) w v14 (((subR g keep).1).2) ∧ Bx gq (is 4) w b20 [Value.int .i64 (((subR g keep).1).1), v14] ∧ Ow gq (is 5) (is 5) w v30 at_ ∧ Nst gq 6 w v45 out ∧ (v : Int) ≤ ((List.length r : Int) : Int) ∧ (SubInv out keep r v 0)) (fun ⟨v, out, gq⟩ => Int.toNat (((List.length r : Int) : Int) - (v : Int))) (0, (List.replicate (Int.toNat (List.length r : Int)) []), g43) ?_ ?_
  replace hbase := hbase.chg ch46 (not_no _)
  replace r_g_v := r_g_v.chg ch46 (not_no _)
  replace r_r_v := r_r_v.chg ch46 (not_no _)
  replace r_keep_v := r_keep_v.chg ch46 (not_no _)
  replace bx10 := bx10.chg ch46 (not_no _)
  replace o15 := o15.chg ch46 (not_no _) (not_no _)
  replace bx25 := bx25.chg ch46 (not_no _)
  replace o32 := o32.chg ch46 (not_no _) (not_no _)
  · exact ⟨hbase, (by exact zs1), (by exact zs6), (by exact zs9), (by exact zs11), rfl, rfl, r_g_v, r_r_v, r_keep_v, bx10, o15, bx25, o32, o47, by omega, by exact SubInv.start keep r⟩
  clear r_g_v r_r_v r_keep_v bx10 o15 bx25 o32 o47 hbase
  rintro ⟨v, out, g50⟩ f48 w49 ⟨hbase, zs1, zs6, zs9, zs11, zs13, zs14, r_g_v, r_r_v, r_keep_v, bx10, o15, bx25, o32, o47, hle_v, hinv⟩ back11
  have hol := hinv.len
  have hpk : (List.take i keep) = keep := List.take_of_length_le (by omega)
  refine run_seq (run_seq (run_region rfl ?_))
  refine lv (Value.int .i64 (v : Int)) rfl (e_move (by exact zs14)) ?_
  refine lv (r_v) rfl (e_move (by exact zs1)) ?_
  refine lv (Value.int .i64 (List.length r : Int)) rfl (e_len Try.underlying26 rfl r_r_v) ?_
  refine lv (Value.bool (decide ((v : Int) < (List.length r : Int)))) rfl (e_lss (m := (v : Int)) (n := (List.length r : Int)) rfl rfl) ?_
  refine l_nil ?_
  by_cases p11 : (v : Int) < (List.length r : Int)
  ·
   refine run_cond_t rfl (decide_eq_true p11) ?_
   refine run_skip ?_
   refine run_seq ?_
   refine run_block ?_
   refine run_seq (run_region rfl ?_)
   refine lv (Value.int .i64 0) rfl (e_assign rfl) ?_
   refine l_nil ?_
   refine run_block ?_
   refine run_loop (σ := Nat × (List (List Int)) × Cmap) (fun ⟨j, out, gq⟩ f w => Base w0 gq w ∧ f 1 = r_v ∧ f 6 = Value.pointer (some ⟨b8, 0, none⟩) ∧ f 9 = Value.pointer (some ⟨b20, 0, none⟩) ∧ f 11 = v30 ∧ f 13 = v45 ∧ f 14 = Value.int .i64 (v : Int) ∧ f 15 = Value.int .i64 (j : Int) ∧ Sl gq (is 0) w g_v g.2 ∧ Sl gq (is 0) w r_v r ∧ Sl gq (is 0) w keep_v keep ∧ Bx gq (is 2) w b8 [Value.int .i64 0, Value.slice none 0 0] ∧ Ow gq (is 3) (is 3) w v14 (((subR g keep).1).2) ∧ Bx gq (is 4) w b20 [Value.int .i64 (((subR g keep).1).1), v14] ∧ Ow gq (is 5) (is 5) w v30 at_ ∧ Nst gq 6 w v45 out ∧ (j : Int) ≤ ((List.length (gI r (v : Int)) : Int) : Int) ∧ (SubInv out keep r v j)) (fun ⟨j, out, gq⟩ => Int.toNat (((List.length (gI r (v : Int)) : Int) : Int) - (j : Int))) (0, out, g50) ?_ ?_
   · exact ⟨hbase, (by exact zs1), (by exact zs6), (by exact zs9), (by exact zs11), (by exact zs13), (by exact zs14), rfl, r_g_v, r_r_v, r_keep_v, bx10, o15, bx25, o32, o47, by omega, by exact hinv⟩
   clear r_g_v r_r_v r_keep_v bx10 o15 bx25 o32 o47 hbase
   rintro ⟨j, out, g53⟩ f51 w52 ⟨hbase, zs1, zs6, zs9, zs11, zs13, zs14, zs15, r_g_v, r_r_v, r_keep_v, bx10, o15, bx25, o32, o47, hle_j, hin⟩ back14
   have hol := hin.len
   have hbd := hin.bd (by assumption)
   refine run_seq (run_seq (run_region rfl ?_))
   refine lv (Value.int .i64 (j : Int)) rfl (e_move (by exact zs15)) ?_
   refine lv (r_v) rfl (e_move (by exact zs1)) ?_
   refine lv (Value.int .i64 (v : Int)) rfl (e_move (by exact zs14)) ?_
   refine lv (Value.pointer (some (eAddr r_v 1 (Int.toNat (v : Int))))) rfl (e_indexAddr (α := List Int) (xs := r) (v := r_v) (i := (v : Int)) Try.underlying26 rfl rfl r_r_v rfl (by omega) (by omega)) ?_
   obtain ⟨v54, cel55, r56⟩ := sl_row (r := (v : Int)) r_r_v (by omega) (by omega)
   refine lv (v54) rfl (e_load1 tp27_k rfl cel55) ?_
   have len57 := (r56).small
   refine lv (Value.int .i64 (List.length (gI r (v : Int)) : Int)) rfl (e_len Try.underlying27 rfl r56) ?_
   refine lv (Value.bool (decide ((j : Int) < (List.length (gI r (v : Int)) : Int)))) rfl (e_lss (m := (j : Int)) (n := (List.length (gI r (v : Int)) : Int)) rfl rfl) ?_
   refine l_nil ?_
   by_cases p14 : (j : Int) < (List.length (gI r (v : Int)) : Int)
   ·
    refine run_cond_t rfl (decide_eq_true p14) ?_
    obtain ⟨hh1, hh2⟩ := (hrp.2.1 v (by omega) _ (gI_mem (xs := gI r (v : Int)) (i := (j : Int)) (by omega) (by assumption))).1
    have hto := hpi.pos (gI (gI r (v : Int)) (j : Int) / 2) (by omega) (by omega)
    rw [hpk] at hto
    have hple := posS_le keep (gI (gI r (v : Int)) (j : Int) / 2)
    have hpnn := posS_nonneg keep (gI (gI r (v : Int)) (j : Int) / 2)
    have hkl := nodup_le (n := (g.2.length : Int)) (by omega) hch.2 hch.1
    refine run_skip ?_
    refine run_seq ?_
    refine run_block ?_
    refine run_seq ?_
    clear r56
    refine run_region rfl ?_
    refine lv (r_v) rfl (e_move (by exact zs1)) ?_
    refine lv (Value.int .i64 (v : Int)) rfl (e_move (by exact zs14)) ?_
    refine lv (Value.pointer (some (eAddr r_v 1 (Int.toNat (v : Int))))) rfl (e_indexAddr (α := List Int) (xs := r) (v := r_v) (i := (v : Int)) Try.underlying26 rfl rfl r_r_v rfl (by omega) (by omega)) ?_
    obtain ⟨v58, cel59, r60⟩ := sl_row (r := (v : Int)) r_r_v (by omega) (by omega)
    refine lv (v58) rfl (e_load1 tp27_k rfl cel59) ?_
    refine lv (Value.int .i64 (j : Int)) rfl (e_move (by exact zs15)) ?_
    refine lv (Value.pointer (some (eAddr v58 1 (Int.toNat (j : Int))))) rfl (e_indexAddr (α := Int) (xs := gI r (v : Int)) (v := v58) (i := (j : Int)) Try.underlying27 rfl rfl r60 rfl (by omega) (by omega)) ?_
    refine lv (Value.int .i64 (gI (gI r (v : Int)) (j : Int))) rfl (e_load_el1 (α := Int) (xs := gI r (v : Int)) (v := v58) (i := (j : Int)) tp3_k rfl r60 (by omega) (by omega) (by decide) rfl) ?_
    refine lv (Value.int .i64 (gI (gI r (v : Int)) (j : Int))) rfl (e_assign rfl) ?_
    refine l_nil (run_seq ?_)
    clear r60
    refine run_region rfl ?_
    refine lv (v30) rfl (e_move (by exact zs11)) ?_
    refine lv (Value.int .i64 (gI (gI r (v : Int)) (j : Int))) rfl (e_move rfl) ?_
    refine lv (Value.int .i64 ((gI (gI r (v : Int)) (j : Int)) / 2)) rfl (e_quo (m := (gI (gI r (v : Int)) (j : Int))) (n := 2) rfl rfl (by omega) (by omega) (by omega)) ?_
    refine lv (Value.pointer (some (eAddr v30 1 (Int.toNat ((gI (gI r (v : Int)) (j : Int)) / 2))))) rfl (e_indexAddr (α := Int) (xs := at_) (v := v30) (i := (gI (gI r (v : Int)) (j : Int)) / 2) Try.underlying27 rfl rfl o32.flat rfl (by omega) (by omega)) ?_
    refine lv (Value.int .i64 (gI at_ ((gI (gI r (v : Int)) (j : Int)) / 2))) rfl (e_load_el1 (α := Int) (xs := at_) (v := v30) (i := (gI (gI r (v : Int)) (j : Int)) / 2) tp3_k rfl o32.flat (by omega) (by omega) (by decide) rfl) ?_
    refine lv (Value.bool (decide (0 < (gI at_ ((gI (gI r (v : Int)) (j : Int)) / 2))))) rfl (e_gtr (m := (gI at_ ((gI (gI r (v : Int)) (j : Int)) / 2))) (n := 0) rfl rfl) ?_
    refine l_nil ?_
    by_cases p17 : 0 < (gI at_ ((gI (gI r (v : Int)) (j : Int)) / 2))
    ·
     refine run_cond_t rfl (decide_eq_true p17) ?_
     refine run_region_x g53 [0, 1, 2, 3, 4, 5, 6, 7, 8, 9, 10, 11, 12, 13, 14, 15, 18] mixed_k ?_
     intro w62 ch61
     refine x_pure (v := v45) 0 rfl (by kernel_rfl) (by kernel_rfl) rfl (fun w => e_move (by exact zs13)) ?_
     refine x_pure (v := Value.int .i64 (v : Int)) 1 rfl (by kernel_rfl) (by kernel_rfl) rfl (fun w => e_move (by exact zs14)) ?_
     refine x_pure (v := v45) 2 rfl (by kernel_rfl) (by kernel_rfl) rfl (fun w => e_move (by exact zs13)) ?_
     refine x_pure (v := Value.int .i64 (v : Int)) 3 rfl (by kernel_rfl) (by kernel_rfl) rfl (fun w => e_move (by exact zs14)) ?_
     replace o47 := o47.chg ch61 (not_no _)
     refine x_held (v := Value.pointer (some (eAddr v45 1 (Int.toNat (v : Int))))) 4 [3, 2, 1, 0, 6, 7, 13, 8, 14, 9, 10, 11, 12, 15, 16] rfl (by kernel_rfl) (by kernel_rfl) rfl (fun w' hw' => e_indexAddr (α := List Int) (xs := out) (v := v45) (i := (v : Int)) Try.underlying26 rfl rfl (o47.sl.bel hw') rfl (by omega) (by omega)) ?_
     obtain ⟨v63, cel64, r65⟩ := nst_row (r := (v : Int)) o47 (by omega) (by omega)
     refine x_held (v := v63) 5 [4, 3, 2, 1, 0, 6, 7, 13, 8, 14, 9, 10, 11, 12, 15, 16] rfl (by kernel_rfl) (by kernel_rfl) rfl (fun w' hw' => e_load1 tp27_k rfl (cel_bel cel64 hw')) ?_
     refine x_pure (v := v30) 6 rfl (by kernel_rfl) (by kernel_rfl) rfl (fun w => e_move (by exact zs11)) ?_
     refine x_pure (v := Value.int .i64 (gI (gI r (v : Int)) (j : Int))) 7 rfl (by kernel_rfl) (by kernel_rfl) rfl (fun w => e_move rfl) ?_
     refine x_pure (v := Value.int .i64 ((gI (gI r (v : Int)) (j : Int)) / 2)) 8 rfl (by kernel_rfl) (by kernel_rfl) rfl (fun w => e_quo (m := (gI (gI r (v : Int)) (j : Int))) (n := 2) rfl rfl (by omega) (by omega) (by omega)) ?_
     replace o32 := o32.chg ch61 (not_no _) (not_no _)
     refine x_val (v := Value.pointer (some (eAddr v30 1 (Int.toNat ((gI (gI r (v : Int)) (j : Int)) / 2))))) 9 [8, 7, 6, 5, 4, 3, 2, 1, 0, 13, 14] rfl (by kernel_rfl) (by kernel_rfl) rfl (e_indexAddr (α := Int) (xs := at_) (v := v30) (i := (gI (gI r (v : Int)) (j : Int)) / 2) Try.underlying27 rfl rfl o32.flat rfl (by omega) (by omega)) ?_
     refine x_val (v := Value.int .i64 (gI at_ ((gI (gI r (v : Int)) (j : Int)) / 2))) 10 [9, 8, 7, 6, 5, 4, 3, 2, 1, 0, 13, 14] rfl (by kernel_rfl) (by kernel_rfl) rfl (e_load_el1 (α := Int) (xs := at_) (v := v30) (i := (gI (gI r (v : Int)) (j : Int)) / 2) tp3_k rfl o32.flat (by omega) (by omega) (by decide) rfl) ?_
     refine x_pure (v := Value.int .i64 ((gI at_ ((gI (gI r (v : Int)) (j : Int)) / 2)) - 1)) 11 rfl (by kernel_rfl) (by kernel_rfl) rfl (fun w => e_sub (m := (gI at_ ((gI (gI r (v : Int)) (j : Int)) / 2))) (n := 1) rfl rfl (by omega)) ?_
     refine x_pure (v := Value.int .i64 (2 * ((gI at_ ((gI (gI r (v : Int)) (j : Int)) / 2)) - 1))) 12 rfl (by kernel_rfl) (by kernel_rfl) rfl (fun w => e_mul (m := 2) (n := (gI at_ ((gI (gI r (v : Int)) (j : Int)) / 2)) - 1) rfl rfl (by omega)) ?_
     refine x_pure (v := Value.int .i64 (gI (gI r (v : Int)) (j : Int))) 13 rfl (by kernel_rfl) (by kernel_rfl) rfl (fun w => e_move rfl) ?_
     refine x_pure (v := Value.int .i64 ((gI (gI r (v : Int)) (j : Int)) % 2)) 14 rfl (by kernel_rfl) (by kernel_rfl) rfl (fun w => e_rem (m := (gI (gI r (v : Int)) (j : Int))) (n := 2) rfl rfl (by omega) (by omega)) ?_
     refine x_pure (v := Value.int .i64 ((2 * ((gI at_ ((gI (gI r (v : Int)) (j : Int)) / 2)) - 1)) + ((gI (gI r (v : Int)) (j : Int)) % 2))) 15 rfl (by kernel_rfl) (by kernel_rfl) rfl (fun w => e_add (m := 2 * ((gI at_ ((gI (gI r (v : Int)) (j : Int)) / 2)) - 1)) (n := (gI (gI r (v : Int)) (j : Int)) % 2) rfl rfl (by omega)) ?_
     refine x_one 16 rfl (by kernel_rfl) rfl ?_
     refine o_buildSlice (α := Int) g53 (is 7) (is 7) (7, 0) rfl [(2 * ((gI at_ ((gI (gI r (v : Int)) (j : Int)) / 2)) - 1)) + ((gI (gI r (v : Int)) (j : Int)) % 2)] Try.underlying27 tp3_k (by decide) (by decide) (vs := [(0, Value.int .i64 ((2 * ((gI at_ ((gI (gI r (v : Int)) (j : Int)) / 2)) - 1)) + ((gI (gI r (v : Int)) (j : Int)) % 2)))]) rfl rfl (.cons rfl .nil) ?_
     intro g66 w67 v68 ch69 o70
     refine x_one 17 rfl (by kernel_rfl) rfl ?_
     replace o47 := o47.chg ch69 (not_no _)
     replace r65 := r65.chg ch69 (not_no _) (not_no _)
     refine o_append (α := Int) (xs := (gI out (v : Int))) (ys := ([(2 * ((gI at_ ((gI (gI r (v : Int)) (j : Int)) / 2)) - 1)) + ((gI (gI r (v : Int)) (j : Int)) % 2)])) g66 (J := row 6 (Int.toNat (v : Int) + 1)) (S := row 6 (Int.toNat (v : Int) + 1)) (6, Int.toNat (v : Int) + 1) rfl Try.underlying27 tp3_k (by decide) rfl rfl rfl r65 o70.flat (by decide) (by first | omega | (simp; done) | (simp; omega)) ?_
     intro g71 w72 v73 ch74 o75
     have o76 := o47.rowchg ch74
     clear o47 cel64 r65
     obtain ⟨us77, hl78, r79⟩ := o76.vc
     try simp only [List.length_set, List.length_append, List.length_cons, List.length_nil] at hl78
     refine x_val (v := Value.pointer (some (eAddr v45 1 (Int.toNat (v : Int))))) 18 [17, 16, 15, 14, 13, 12, 11, 10, 9, 8, 7, 6, 5, 4, 3, 2, 1, 0] rfl (by kernel_rfl) (by kernel_rfl) rfl (e_indexAddr (α := Vc) (xs := us77) (v := v45) (i := (v : Int)) Try.underlying26 rfl rfl r79 rfl (by omega) (by omega)) ?_
     refine x_one 19 rfl (by kernel_rfl) rfl ?_
     refine o_store_row (r := (v : Int)) tp27_k rfl rfl o76 o75 (by omega) (by omega) ?_
     intro w83 ch84 o85
     clear o76 o75
     refine x_nil (by kernel_rfl) ?_
     refine run_inBlock ?_
     clear o70
     refine run_region rfl ?_
     refine lv (Value.int .i64 (j : Int)) rfl (e_move (by exact zs15)) ?_
     refine lv (Value.int .i64 ((j : Int) + 1)) rfl (e_add (m := (j : Int)) (n := 1) rfl rfl (by omega)) ?_
     refine lv (Value.int .i64 ((j : Int) + 1)) rfl (e_assign rfl) ?_
     refine l_nil ?_
     have C86 : Chg (inl [6]) _ _ _ _ := (ch61.n).seq ((ch69.n).seq ((ch74.lr rfl).seq (ch84.l rfl)))
     replace hbase := hbase.chg C86 (is_nl rfl)
     replace r_g_v := r_g_v.chg C86 (is_nl rfl)
     replace r_r_v := r_r_v.chg C86 (is_nl rfl)
     replace r_keep_v := r_keep_v.chg C86 (is_nl rfl)
     replace bx10 := bx10.chg C86 (is_nl rfl)
     replace o15 := o15.chg C86 (is_nl rfl) (is_nl rfl)
     replace bx25 := bx25.chg C86 (is_nl rfl)
     have C87 : Chg (inl [6]) _ _ _ _ := (ch69.n).seq ((ch74.lr rfl).seq (ch84.l rfl))
     replace o32 := o32.chg C87 (is_nl rfl) (is_nl rfl)
     refine back14 (j + 1, (List.set out (Int.toNat (v : Int)) (gI out (v : Int) ++ [(2 * ((gI at_ ((gI (gI r (v : Int)) (j : Int)) / 2)) - 1)) + ((gI (gI r (v : Int)) (j : Int)) % 2)])), g71) _ _ ⟨hbase, (by exact zs1), (by exact zs6), (by exact zs9), (by exact zs11), (by exact zs13), (by exact zs14), rfl, r_g_v, r_r_v, r_keep_v, bx10, o15, bx25, o32, o85, by omega, ?_⟩ ?_
     · show SubInv (List.set out (Int.toNat (v : Int)) (gI out (v : Int) ++ [(2 * ((gI at_ ((gI (gI r (v : Int)) (j : Int)) / 2)) - 1)) + ((gI (gI r (v : Int)) (j : Int)) % 2)])) keep r v (j + 1)
       first
         | (have h1 := hin.yes (by assumption) (by assumption) (by rw [← hto]; assumption)
            rw [← hto] at h1
            exact h1)
         | exact hin.no (by assumption) (by rw [← hto]; assumption)
     · show Int.toNat (((List.length (gI r (v : Int)) : Int) : Int) - ((j + 1) : Int)) < Int.toNat (((List.length (gI r (v : Int)) : Int) : Int) - (j : Int))
       omega
    refine run_cond_f rfl (decide_eq_false p17) ?_
    refine run_skip ?_
    refine run_inBlock ?_
    refine run_region rfl ?_
    refine lv (Value.int .i64 (j : Int)) rfl (e_move (by exact zs15)) ?_
    refine lv (Value.int .i64 ((j : Int) + 1)) rfl (e_add (m := (j : Int)) (n := 1) rfl rfl (by omega)) ?_
    refine lv (Value.int .i64 ((j : Int) + 1)) rfl (e_assign rfl) ?_
    refine l_nil ?_
    refine back14 (j + 1, out, g53) _ _ ⟨hbase, (by exact zs1), (by exact zs6), (by exact zs9), (by exact zs11), (by exact zs13), (by exact zs14), rfl, r_g_v, r_r_v, r_keep_v, bx10, o15, bx25, o32, o47, by omega, ?_⟩ ?_
    · show SubInv out keep r v (j + 1)
      first
        | (have h1 := hin.yes (by assumption) (by assumption) (by rw [← hto]; assumption)
           rw [← hto] at h1
           exact h1)
        | exact hin.no (by assumption) (by rw [← hto]; assumption)
    · show Int.toNat (((List.length (gI r (v : Int)) : Int) : Int) - ((j + 1) : Int)) < Int.toNat (((List.length (gI r (v : Int)) : Int) : Int) - (j : Int))
      omega
   refine run_cond_f rfl (decide_eq_false p14) ?_
   refine run_exit rfl ?_
   refine run_inBlock ?_
   clear r56
   refine run_region rfl ?_
   refine lv (Value.int .i64 (v : Int)) rfl (e_move (by exact zs14)) ?_
   refine lv (Value.int .i64 ((v : Int) + 1)) rfl (e_add (m := (v : Int)) (n := 1) rfl rfl (by omega)) ?_
   refine lv (Value.int .i64 ((v : Int) + 1)) rfl (e_assign rfl) ?_
   refine l_nil ?_
   refine back11 (v + 1, out, g53) _ _ ⟨hbase, (by exact zs1), (by exact zs6), (by exact zs9), (by exact zs11), (by exact zs13), rfl, r_g_v, r_r_v, r_keep_v, bx10, o15, bx25, o32, o47, by omega, ?_⟩ ?_
   · show SubInv out keep r (v + 1) 0
     exact hin.row_done (by assumption) (by assumption)
   · show Int.toNat (((List.length r : Int) : Int) - ((v + 1) : Int)) < Int.toNat (((List.length r : Int) : Int) - (v : Int))
     omega
  refine run_cond_f rfl (decide_eq_false p11) ?_
  refine run_exit rfl ?_
  refine run_seq ?_
  clear o32
  refine run_region_h g50 (inl [2]) mixed_k ?_
  intro w89 ch88
  replace bx25 := bx25.chg ch88 (not_no _)
  refine h_take (v := Value.agg (List.toArray [Value.int .i64 (((subR g keep).1).1), v14])) 0 rfl (by kernel_rfl) (by kernel_rfl) rfl (Chg.refl _ _ _) (fun w' hw' => e_load_bxN (ds := [Value.int .i64 (((subR g keep).1).1), v14]) tp24_k (by exact zs9) (bx25.chg hw' (is_nl rfl)) rfl rfl) ?_
  refine h_take (v := v45) 1 rfl (by kernel_rfl) (by kernel_rfl) rfl (Chg.refl _ _ _) (fun w' hw' => e_move (by exact zs13)) ?_
  refine h_one 2 rfl (by kernel_rfl) rfl ?_
  replace o47 := o47.chg ch88 (not_no _)
  refine o_callx (e_call (vals := [v45]) Try.func60 bd60_k nm60_k rfl) (rCanon_ok w89 out v45 (o47.sl).ro) ?_
  rintro ⟨d91, v93⟩ w90 ⟨fr92, o94⟩
  obtain ⟨g95, hg95⟩ : ∃ q, q = glue w89.heap.size g50 d91 (fun n => if n = 1 then 8 else 0) := ⟨_, rfl⟩
  have ch96 := chg_glue fr92.below g50 d91 (fun n => if n = 1 then 8 else 0)
  rw [← hg95] at ch96
  replace o94 := o94.glue (γ := g50) (ren := (fun n => if n = 1 then 8 else 0)) (k := 8) fr92.col rfl rfl
  rw [← hg95] at o94
  clear hg95
  have hs97 : Chg (inl [2]) _ _ _ _ := ch96.n
  refine ⟨hs97.same, ?_⟩
  refine h_one 3 rfl (by kernel_rfl) rfl ?_
  replace bx10 := (bx10.chg ch88 (not_no _)).chg ch96 (not_no _)
  replace o15 := o15.chg ch88 (not_no _) (not_no _)
  refine o_store_bx (cs' := [Value.int .i64 (((subR g keep).1).1), v14]) tp24_k (by exact zs6) rfl bx10 rfl (Nat.le_of_ble_eq_true rfl) (AllOne.all (.cons rfl (.cons (sl_one (o15.chg hs97 (is_nl rfl) (is_nl rfl)).flat) .nil))) rfl ?_
  intro w98 ch99 bx100
  clear bx10
  have hs101 := hs97.seq (ch99.l rfl)
  refine ⟨hs101.same, ?_⟩
  refine h_take (v := v93) 4 rfl (by kernel_rfl) (by kernel_rfl) rfl hs101.same (fun w' hw' => e_assign rfl) ?_
  refine h_take (v := Value.int .i64 0) 5 rfl (by kernel_rfl) (by kernel_rfl) rfl hs101.same (fun w' hw' => e_assign rfl) ?_
  refine h_nil (by kernel_rfl) ?_
  refine run_ret (vs := [Value.agg (List.toArray [Value.int .i64 (((subR g keep).1).1), v14]), v93, Value.int .i64 0]) Try.func63 (.cell (by exact zs6) (load_bxN (ds := [Value.int .i64 (((subR g keep).1).1), v14]) tp24_k bx100 rfl rfl) (.tmp rfl (.tmp rfl .nil))) ?_
  have C102 : Chg (inl [2]) _ _ _ _ := (ch88.n).seq ((ch96.n).seq (ch99.l rfl))
  replace hbase := hbase.chg C102 (is_nl rfl)
  replace o15 := (o15.chg ch96 (not_no _) (not_no _)).chg ch99 (is_ne rfl) (is_ne rfl)
  replace o94 := o94.chg ch99 (is_ne rfl)
  have e0 : (((subR g keep).1) : (Int) × (List ((Int) × (Int)))) = ((rsubR g r keep).1) := by
    first
      | (simp only [rsubR, if_pos (rmay_yes hmay hr), if_neg (show ¬ (subR g keep).2 = 0 by assumption)]; done)
      | (simp only [rsubR, if_pos (rmay_yes hmay hr), if_pos (show (subR g keep).2 = 0 by assumption)]; done)
      | (simp only [rsubR, if_pos (rmay_yes hmay hr), if_pos (show (subR g keep).2 = 0 by assumption), hinv.done (by assumption)]; done)
  have e1 : (canonS out : List (List Int)) = ((rsubR g r keep).2.1) := by
    first
      | (simp only [rsubR, if_pos (rmay_yes hmay hr), if_neg (show ¬ (subR g keep).2 = 0 by assumption)]; done)
      | (simp only [rsubR, if_pos (rmay_yes hmay hr), if_pos (show (subR g keep).2 = 0 by assumption)]; done)
      | (simp only [rsubR, if_pos (rmay_yes hmay hr), if_pos (show (subR g keep).2 = 0 by assumption), hinv.done (by assumption)]; done)
  have e2 : (0 : Int) = ((rsubR g r keep).2.2) := by
    first
      | (simp only [rsubR, if_pos (rmay_yes hmay hr), if_neg (show ¬ (subR g keep).2 = 0 by assumption)]; done)
      | (simp only [rsubR, if_pos (rmay_yes hmay hr), if_pos (show (subR g keep).2 = 0 by assumption)]; done)
      | (simp only [rsubR, if_pos (rmay_yes hmay hr), if_pos (show (subR g keep).2 = 0 by assumption), hinv.done (by assumption)]; done)
  exact ⟨(fin w0 g95 (fun n => if n = 3 then 1 else if n = 8 then 2 else 0), v14, v93), (congr3 (a := ((subR g keep).1)) (b := canonS out) (c := 0) (fun (z0 : (Int) × (List ((Int) × (Int)))) (z1 : List (List Int)) (z2 : Int) => Ending.returned (Value.tuple (List.toArray [Value.agg (List.toArray [Value.int .i64 z0.1, v14]), v93, Value.int .i64 z2]))) e0 e1 e2), hbase.fresh _, ((congrArg (fun (z : (Int) × (List ((Int) × (Int)))) => z.2) e0) ▸ (o15.glue (γ := c0) (ren := (fun n => if n = 3 then 1 else if n = 8 then 2 else 0)) (k := 1) hbase.col rfl rfl)), (e1 ▸ (o94.glue (γ := c0) (ren := (fun n => if n = 3 then 1 else if n = 8 then 2 else 0)) (k := 2) hbase.col rfl rfl))⟩
 refine run_cond_t rfl (congrArg Bool.not (decide_eq_false p2)) ?_
 refine run_seq ?_
 clear bx5 o15 bx25
 refine run_region rfl ?_
 refine lv (Value.agg (List.toArray [Value.int .i64 0, Value.slice none 0 0])) rfl (e_build (vs := []) rfl (by kernel_rfl)) ?_
 refine lv (Value.int .i64 ((subR g keep).2)) rfl (e_move rfl) ?_
 refine l_op rfl ?_
 have C106 : Chg (inl [4]) _ _ _ _ := (ch17.n).seq ((ch19.n).seq (ch24.l rfl))
 replace bx10 := bx10.chg C106 (is_nl rfl)
 refine o_store_bx (cs' := [Value.int .i64 0, Value.slice none 0 0]) tp24_k rfl rfl bx10 rfl (Nat.le_of_ble_eq_true rfl) (AllOne.all (.cons rfl (.cons rfl .nil))) rfl ?_
 intro w103 ch104 bx105
 clear bx10
 refine lv (Value.slice none 0 0) rfl (e_assign rfl) ?_
 refine lv (Value.int .i64 ((subR g keep).2)) rfl (e_assign rfl) ?_
 refine l_nil ?_
 refine run_ret (vs := [Value.agg (List.toArray [Value.int .i64 0, Value.slice none 0 0]), Value.slice none 0 0, Value.int .i64 ((subR g keep).2)]) Try.func63 (.cell rfl (load_bxN (ds := [Value.int .i64 0, Value.slice none 0 0]) tp24_k bx105 rfl rfl) (.tmp rfl (.tmp rfl .nil))) ?_
 have C107 : Chg (inl [2, 4]) _ _ _ _ := (ch2.n).seq ((ch7.n).seq ((ch17.n).seq ((ch19.n).seq ((ch24.l rfl).seq (ch104.l rfl)))))
 replace hbase := hbase.chg C107 (is_nl rfl)
 have e0 : ((0, []) : (Int) × (List ((Int) × (Int)))) = ((rsubR g r keep).1) := by
   first
     | (simp only [rsubR, if_pos (rmay_yes hmay hr), if_neg (show ¬ (subR g keep).2 = 0 by assumption)]; done)
     | (simp only [rsubR, if_pos (rmay_yes hmay hr), if_pos (show (subR g keep).2 = 0 by assumption)]; done)
     | (simp only [rsubR, if_pos (rmay_yes hmay hr), if_pos (show (subR g keep).2 = 0 by assumption), hinv.done (by assumption)]; done)
 have e1 : ([] : List (List Int)) = ((rsubR g r keep).2.1) := by
   first
     | (simp only [rsubR, if_pos (rmay_yes hmay hr), if_neg (show ¬ (subR g keep).2 = 0 by assumption)]; done)
     | (simp only [rsubR, if_pos (rmay_yes hmay hr), if_pos (show (subR g keep).2 = 0 by assumption)]; done)
     | (simp only [rsubR, if_pos (rmay_yes hmay hr), if_pos (show (subR g keep).2 = 0 by assumption), hinv.done (by assumption)]; done)
 have e2 : ((subR g keep).2 : Int) = ((rsubR g r keep).2.2) := by
   first
     | (simp only [rsubR, if_pos (rmay_yes hmay hr), if_neg (show ¬ (subR g keep).2 = 0 by assumption)]; done)
     | (simp only [rsubR, if_pos (rmay_yes hmay hr), if_pos (show (subR g keep).2 = 0 by assumption)]; done)
     | (simp only [rsubR, if_pos (rmay_yes hmay hr), if_pos (show (subR g keep).2 = 0 by assumption), hinv.done (by assumption)]; done)
 exact ⟨(fin w0 g21 (fun n => 0), (Value.slice none 0 0), (Value.slice none 0 0)), (congr3 (a := (0, [])) (b := []) (c := (subR g keep).2) (fun (z0 : (Int) × (List ((Int) × (Int)))) (z1 : List (List Int)) (z2 : Int) => Ending.returned (Value.tuple (List.toArray [Value.agg (List.toArray [Value.int .i64 z0.1, Value.slice none 0 0]), Value.slice none 0 0, Value.int .i64 z2]))) e0 e1 e2), hbase.fresh _, ((congrArg (fun (z : (Int) × (List ((Int) × (Int)))) => z.2) e0) ▸ Ow.nil), (e1 ▸ Nst.nil)⟩
set_option maxHeartbeats 1000000 in
theorem rRMoved_ok (w0 : World) (g : (Int) × (List ((Int) × (Int)))) (g_v : Value) (hg_v : Ro w0 g_v g.2) (r : List (List Int)) (r_v : Value) (hr_v : Ro w0 r_v r) (to : List Int) (to_v : Value) (hto_v : Ro w0 to_v to) (hmay : MayP g) (hr : RotP g r) :
    Calls Try.prog 64 #[Value.agg (List.toArray [Value.int .i64 g.1, g_v]), r_v, to_v] w0 (fun ee w => ∃ xx : Cmap × Value × Value, ee = .returned ((fun ⟨δ, rv0, rv1⟩ => Value.tuple (List.toArray [Value.agg (List.toArray [Value.int .i64 (((rmovedR g r to).1).1), rv0]), rv1, Value.int .i64 ((rmovedR g r to).2.2)])) xx) ∧ (fun (⟨δ, rv0, rv1⟩ : Cmap × Value × Value) (w : World) => Fresh w0 δ w ∧ Ow δ (is 1) (is 1) w rv0 (((rmovedR g r to).1).2) ∧ Nst δ 2 w rv1 ((rmovedR g r to).2.1)) xx w) := by
 refine calls_of_run Try.func64 rfl (Nat.le_of_ble_eq_true rfl) ?_
 have hbase := Base.start w0
 have r_g_v := hg_v.sl
 have r_r_v := hr_v.sl
 have r_to_v := hto_v.sl
 have hm0 := hmay
 obtain ⟨hm1, hm2, hm3, hm4⟩ := hm0
 have hrl := hr.1
 have hm := hmay
 have hrp := hr
 refine run_seq (run_region rfl (l_op rfl ?_))
 refine o_box c0 (is 1) (1, 0) rfl rfl ?_
 intro g4 w1 b3 ch2 bx5
 replace bx5 : Bx g4 (is 1) w1 b3 [Value.int .i64 g.1, g_v] := bx5
 refine l_op rfl ?_
 refine o_alloc g4 (is 2) (2, 0) rfl tp24_k ?_
 intro g9 w6 b8 ch7 bx10
 replace bx10 : Bx g9 (is 2) w6 b8 [Value.int .i64 0, Value.slice none 0 0] := bx10
 refine lv (Value.slice none 0 0) rfl (e_assign rfl) ?_
 refine lv (Value.int .i64 0) rfl (e_assign rfl) ?_
 refine l_nil (run_seq (run_region rfl ?_))
 replace bx5 := bx5.chg ch7 (not_no _)
 refine lv (Value.agg (List.toArray [Value.int .i64 g.1, g_v])) rfl (e_load_bxN (ds := [Value.int .i64 g.1, g_v]) tp24_k rfl bx5 rfl rfl) ?_
 refine lv (to_v) rfl (e_move rfl) ?_
 replace r_g_v := (r_g_v.chg ch2 (not_no _)).chg ch7 (not_no _)
 replace r_to_v := (r_to_v.chg ch2 (not_no _)).chg ch7 (not_no _)
 refine l_op rfl ?_
 refine o_callx (e_call (vals := [Value.agg (List.toArray [Value.int .i64 g.1, g_v]), to_v]) Try.func94 bd94_k nm94_k rfl) (rMoved_ok w6 g g_v (r_g_v).ro to to_v (r_to_v).ro (by assumption)) ?_
 rintro ⟨d12, v14⟩ w11 ⟨fr13, o15⟩
 obtain ⟨g16, hg16⟩ : ∃ q, q = glue w6.heap.size g9 d12 (fun n => if n = 1 then 3 else 0) := ⟨_, rfl⟩
 have ch17 := chg_glue fr13.below g9 d12 (fun n => if n = 1 then 3 else 0)
 rw [← hg16] at ch17
 replace o15 := o15.glue (γ := g9) (ren := (fun n => if n = 1 then 3 else 0)) (k := 3) fr13.col rfl rfl
 rw [← hg16] at o15
 clear hg16
 refine lv (Value.tuple (List.toArray [Value.agg (List.toArray [Value.int .i64 (((movedR g to).1).1), v14]), Value.int .i64 ((movedR g to).2)])) rfl (e_move rfl) ?_
 refine lv (Value.agg (List.toArray [Value.int .i64 (((movedR g to).1).1), v14])) rfl (e_extract rfl rfl) ?_
 refine lv (Value.int .i64 ((movedR g to).2)) rfl (e_extract rfl rfl) ?_
 refine l_op rfl ?_
 refine o_alloc g16 (is 4) (4, 0) rfl tp24_k ?_
 intro g21 w18 b20 ch19 bx22
 replace bx22 : Bx g21 (is 4) w18 b20 [Value.int .i64 0, Value.slice none 0 0] := bx22
 refine l_op rfl ?_
 replace o15 := o15.chg ch19 (not_no _) (not_no _)
 refine o_store_bx (cs' := [Value.int .i64 (((movedR g to).1).1), v14]) tp24_k rfl rfl bx22 rfl (Nat.le_of_ble_eq_true rfl) (AllOne.all (.cons rfl (.cons (sl_one o15.flat) .nil))) rfl ?_
 intro w23 ch24 bx25
 clear bx22
 refine lv (Value.int .i64 ((movedR g to).2)) rfl (e_assign rfl) ?_
 refine l_nil (run_seq (run_seq ?_))
 clear bx5
 refine run_region rfl ?_
 refine lv (Value.int .i64 ((movedR g to).2)) rfl (e_move rfl) ?_
 refine lv (Value.bool (!(decide (((movedR g to).2) = 0)))) rfl (e_neq (m := (movedR g to).2) (n := 0) rfl rfl) ?_
 refine l_nil ?_
 by_cases p2 : ((movedR g to).2) = 0
 ·
  obtain ⟨_, hml, hmc, hme⟩ := movedR_ok (by assumption)
  obtain ⟨hmr, hmn⟩ := chosenS_ok hmc
  refine run_cond_f rfl (congrArg Bool.not (decide_eq_true p2)) ?_
  refine run_skip ?_
  refine run_seq (run_region rfl ?_)
  refine lv (r_v) rfl (e_move rfl) ?_
  have C26 : Chg (inl [4]) _ _ _ _ := (ch2.n).seq ((ch7.n).seq ((ch17.n).seq ((ch19.n).seq (ch24.l rfl))))
  replace r_r_v := r_r_v.chg C26 (is_nl rfl)
  have len27 := (r_r_v).small
  refine lv (Value.int .i64 (List.length r : Int)) rfl (e_len Try.underlying26 rfl r_r_v) ?_
  refine l_op rfl ?_
  refine o_make_ro (n := (List.length r : Int)) (cp := (List.length r : Int)) g21 5 Try.underlying26 tp27_k rfl rfl rfl (by omega) (by omega) (by omega) (by omega) ?_
  intro g28 w29 v30 ch31 o32
  refine lv (v30) rfl (e_assign rfl) ?_
  refine l_nil (run_seq (run_seq (run_region rfl ?_)))
  refine lv (Value.int .i64 0) rfl (e_assign rfl) ?_
  refine l_nil ?_
  refine run_block ?_
  refine run_loop (σ := Nat × (List (List Int)) × Cmap) (fun ⟨k, out, gq⟩ f w => Base w0 gq w ∧ f 1 = r_v ∧ f 2 = to_v ∧ f 6 = Value.pointer (some ⟨b8, 0, none⟩) ∧ f 9 = Value.pointer (some ⟨b20, 0, none⟩) ∧ f 11 = v30 ∧ f 12 = Value.int .i64 (k : Int) ∧ Sl gq (is 0) w g_v g.2 ∧ Sl gq (is 0) w r_v r ∧ Sl gq (is 0) w to_v to ∧ Bx gq (is 2) w b8 [Value.int .i64 0, Value.slice none 0 0] ∧ Ow gq (is 3) (is 3) w v14 (((movedR g to).1).2) ∧ Bx gq (is 4) w b20 [Value.int .i64 (((movedR g to).1).1), v14] ∧ OwR gq 5 w v30 out ∧ (k : Int) ≤ ((List.length r : Int) : Int) ∧ (MovInv out r to g.1 k)) (fun ⟨k, out, gq⟩ => Int.toNat (((List.length r : Int) : Int) - (k : Int))) (0, (List.replicate (Int.toNat (List.length r : Int)) []), g28) ?_ ?_
  have C33 : Chg (inl [4]) _ _ _ _ := (ch2.n).seq ((ch7.n).seq ((ch17.n).seq ((ch19.n).seq ((ch24.l rfl).seq (ch31.n)))))
  replace hbase := hbase.chg C33 (is_nl rfl)
  have C34 : Chg (inl [4]) _ _ _ _ := (ch17.n).seq ((ch19.n).seq ((ch24.l rfl).seq (ch31.n)))
  replace r_g_v := r_g_v.chg C34 (is_nl rfl)
  replace r_r_v := r_r_v.chg ch31 (not_no _)
  replace r_to_v := r_to_v.chg C34 (is_nl rfl)
  replace bx10 := bx10.chg C34 (is_nl rfl)
  replace o15 := (o15.chg ch24 (is_ne rfl) (is_ne rfl)).chg ch31 (not_no _) (not_no _)
  replace bx25 := bx25.chg ch31 (not_no _)
  · exact ⟨hbase, rfl, rfl, rfl, rfl, rfl, rfl, r_g_v, r_r_v, r_to_v, bx10, o15, bx25, o32, by omega, by exact ⟨by simp; omega, fun v hv => by omega⟩⟩
  clear r_g_v r_r_v r_to_v bx10 o15 bx25 o32 hbase
  rintro ⟨k, out, g37⟩ f35 w36 ⟨hbase, zs1, zs2, zs6, zs9, zs11, zs12, r_g_v, r_r_v, r_to_v, bx10, o15, bx25, o32, hle_k, hinv⟩ back6
  have hol := hinv.len
  refine run_seq (run_seq (run_region rfl ?_))
  refine lv (Value.int .i64 (k : Int)) rfl (e_move (by exact zs12)) ?_
  refine lv (r_v) rfl (e_move (by exact zs1)) ?_
  refine lv (Value.int .i64 (List.length r : Int)) rfl (e_len Try.underlying26 rfl r_r_v) ?_
  refine lv (Value.bool (decide ((k : Int) < (List.length r : Int)))) rfl (e_lss (m := (k : Int)) (n := (List.length r : Int)) rfl rfl) ?_
  refine l_nil ?_
  by_cases p6 : (k : Int) < (List.length r : Int)
  ·
   refine run_cond_t rfl (decide_eq_true p6) ?_
   obtain ⟨hk1, hk2⟩ := hmr _ (gI_mem (xs := to) (i := (k : Int)) (by omega) (by omega))
   refine run_skip ?_
   refine run_seq ?_
   refine run_block ?_
   refine run_region_x g37 [0, 1, 2, 3, 4, 5, 6, 7, 8, 9] mixed_k ?_
   intro w39 ch38
   refine x_pure (v := v30) 0 rfl (by kernel_rfl) (by kernel_rfl) rfl (fun w => e_move (by exact zs11)) ?_
   refine x_pure (v := to_v) 1 rfl (by kernel_rfl) (by kernel_rfl) rfl (fun w => e_move (by exact zs2)) ?_
   refine x_pure (v := Value.int .i64 (k : Int)) 2 rfl (by kernel_rfl) (by kernel_rfl) rfl (fun w => e_move (by exact zs12)) ?_
   replace r_to_v := r_to_v.chg ch38 (not_no _)
   refine x_val (v := Value.pointer (some (eAddr to_v 1 (Int.toNat (k : Int))))) 3 [2, 1, 0, 5, 6, 7, 8] rfl (by kernel_rfl) (by kernel_rfl) rfl (e_indexAddr (α := Int) (xs := to) (v := to_v) (i := (k : Int)) Try.underlying27 rfl rfl r_to_v rfl (by omega) (by omega)) ?_
   refine x_val (v := Value.int .i64 (gI to (k : Int))) 4 [3, 2, 1, 0, 5, 6, 7, 8] rfl (by kernel_rfl) (by kernel_rfl) rfl (e_load_el1 (α := Int) (xs := to) (v := to_v) (i := (k : Int)) tp3_k rfl r_to_v (by omega) (by omega) (by decide) rfl) ?_
   refine x_pure (v := r_v) 5 rfl (by kernel_rfl) (by kernel_rfl) rfl (fun w => e_move (by exact zs1)) ?_
   refine x_pure (v := Value.int .i64 (k : Int)) 6 rfl (by kernel_rfl) (by kernel_rfl) rfl (fun w => e_move (by exact zs12)) ?_
   replace r_r_v := r_r_v.chg ch38 (not_no _)
   refine x_val (v := Value.pointer (some (eAddr r_v 1 (Int.toNat (k : Int))))) 7 [6, 5, 4, 3, 2, 1, 0] rfl (by kernel_rfl) (by kernel_rfl) rfl (e_indexAddr (α := List Int) (xs := r) (v := r_v) (i := (k : Int)) Try.underlying26 rfl rfl r_r_v rfl (by omega) (by omega)) ?_
   obtain ⟨v40, cel41, r42⟩ := sl_row (r := (k : Int)) r_r_v (by omega) (by omega)
   refine x_val (v := v40) 8 [7, 6, 5, 4, 3, 2, 1, 0] rfl (by kernel_rfl) (by kernel_rfl) rfl (e_load1 tp27_k rfl cel41) ?_
   replace o32 := o32.chg ch38 (not_no _) (not_no _)
   refine x_val (v := Value.pointer (some (eAddr v30 1 (Int.toNat (gI to (k : Int)))))) 9 [8, 7, 6, 5, 4, 3, 2, 1, 0] rfl (by kernel_rfl) (by kernel_rfl) rfl (e_indexAddr (α := List Int) (xs := out) (v := v30) (i := (gI to (k : Int))) Try.underlying26 rfl rfl o32.sl rfl (by omega) (by omega)) ?_
   refine x_one 10 rfl (by kernel_rfl) rfl ?_
   refine o_store_ro (r := (gI to (k : Int))) tp27_k rfl rfl o32 r42 rfl (by omega) (by omega) ?_
   intro w46 ch47 o48
   clear o32
   refine x_nil (by kernel_rfl) ?_
   refine run_inBlock ?_
   clear r42
   refine run_region rfl ?_
   refine lv (Value.int .i64 (k : Int)) rfl (e_move (by exact zs12)) ?_
   refine lv (Value.int .i64 ((k : Int) + 1)) rfl (e_add (m := (k : Int)) (n := 1) rfl rfl (by omega)) ?_
   refine lv (Value.int .i64 ((k : Int) + 1)) rfl (e_assign rfl) ?_
   refine l_nil ?_
   replace hbase := hbase.chg ch38 (not_no _)
   replace hbase := hbase.chg ch47 (is_ne rfl)
   replace r_g_v := (r_g_v.chg ch38 (not_no _)).chg ch47 (is_ne rfl)
   replace r_r_v := r_r_v.chg ch47 (is_ne rfl)
   replace r_to_v := r_to_v.chg ch47 (is_ne rfl)
   replace bx10 := (bx10.chg ch38 (not_no _)).chg ch47 (is_ne rfl)
   replace o15 := (o15.chg ch38 (not_no _) (not_no _)).chg ch47 (is_ne rfl) (is_ne rfl)
   replace bx25 := (bx25.chg ch38 (not_no _)).chg ch47 (is_ne rfl)
   refine back6 (k + 1, (List.set out (Int.toNat (gI to (k : Int))) (gI r (k : Int))), g37) _ _ ⟨hbase, (by exact zs1), (by exact zs2), (by exact zs6), (by exact zs9), (by exact zs11), rfl, r_g_v, r_r_v, r_to_v, bx10, o15, bx25, o48, by omega, ?_⟩ ?_
   · show MovInv (List.set out (Int.toNat (gI to (k : Int))) (gI r (k : Int))) r to g.1 (k + 1)
     exact hinv.next hmn hmr (by omega)
   · show Int.toNat (((List.length r : Int) : Int) - ((k + 1) : Int)) < Int.toNat (((List.length r : Int) : Int) - (k : Int))
     omega
  refine run_cond_f rfl (decide_eq_false p6) ?_
  refine run_exit rfl ?_
  refine run_seq ?_
  refine run_region_h g37 (inl [2]) mixed_k ?_
  intro w50 ch49
  replace bx25 := bx25.chg ch49 (not_no _)
  refine h_take (v := Value.agg (List.toArray [Value.int .i64 (((movedR g to).1).1), v14])) 0 rfl (by kernel_rfl) (by kernel_rfl) rfl (Chg.refl _ _ _) (fun w' hw' => e_load_bxN (ds := [Value.int .i64 (((movedR g to).1).1), v14]) tp24_k (by exact zs9) (bx25.chg hw' (is_nl rfl)) rfl rfl) ?_
  refine h_take (v := v30) 1 rfl (by kernel_rfl) (by kernel_rfl) rfl (Chg.refl _ _ _) (fun w' hw' => e_move (by exact zs11)) ?_
  refine h_one 2 rfl (by kernel_rfl) rfl ?_
  replace o32 := o32.chg ch49 (not_no _) (not_no _)
  refine o_callx (e_call (vals := [v30]) Try.func60 bd60_k nm60_k rfl) (rCanon_ok w50 out v30 (o32.sl).ro) ?_
  rintro ⟨d52, v54⟩ w51 ⟨fr53, o55⟩
  obtain ⟨g56, hg56⟩ : ∃ q, q = glue w50.heap.size g37 d52 (fun n => if n = 1 then 6 else 0) := ⟨_, rfl⟩
  have ch57 := chg_glue fr53.below g37 d52 (fun n => if n = 1 then 6 else 0)
  rw [← hg56] at ch57
  replace o55 := o55.glue (γ := g37) (ren := (fun n => if n = 1 then 6 else 0)) (k := 6) fr53.col rfl rfl
  rw [← hg56] at o55
  clear hg56
  have hs58 : Chg (inl [2]) _ _ _ _ := ch57.n
  refine ⟨hs58.same, ?_⟩
  refine h_one 3 rfl (by kernel_rfl) rfl ?_
  replace bx10 := (bx10.chg ch49 (not_no _)).chg ch57 (not_no _)
  replace o15 := o15.chg ch49 (not_no _) (not_no _)
  refine o_store_bx (cs' := [Value.int .i64 (((movedR g to).1).1), v14]) tp24_k (by exact zs6) rfl bx10 rfl (Nat.le_of_ble_eq_true rfl) (AllOne.all (.cons rfl (.cons (sl_one (o15.chg hs58 (is_nl rfl) (is_nl rfl)).flat) .nil))) rfl ?_
  intro w59 ch60 bx61
  clear bx10
  have hs62 := hs58.seq (ch60.l rfl)
  refine ⟨hs62.same, ?_⟩
  refine h_take (v := v54) 4 rfl (by kernel_rfl) (by kernel_rfl) rfl hs62.same (fun w' hw' => e_assign rfl) ?_
  refine h_take (v := Value.int .i64 0) 5 rfl (by kernel_rfl) (by kernel_rfl) rfl hs62.same (fun w' hw' => e_assign rfl) ?_
  refine h_nil (by kernel_rfl) ?_
  refine run_ret (vs := [Value.agg (List.toArray [Value.int .i64 (((movedR g to).1).1), v14]), v54, Value.int .i64 0]) Try.func64 (.cell (by exact zs6) (load_bxN (ds := [Value.int .i64 (((movedR g to).1).1), v14]) tp24_k bx61 rfl rfl) (.tmp rfl (.tmp rfl .nil))) ?_
  have C63 : Chg (inl [2]) _ _ _ _ := (ch49.n).seq ((ch57.n).seq (ch60.l rfl))
  replace hbase := hbase.chg C63 (is_nl rfl)
  replace o15 := (o15.chg ch57 (not_no _) (not_no _)).chg ch60 (is_ne rfl) (is_ne rfl)
  replace o55 := o55.chg ch60 (is_ne rfl)
  have e0 : (((movedR g to).1) : (Int) × (List ((Int) × (Int)))) = ((rmovedR g r to).1) := by
    first
      | (simp only [rmovedR, if_pos (rmay_yes hmay hr), if_neg (show ¬ (movedR g to).2 = 0 by assumption)]; done)
      | (simp only [rmovedR, if_pos (rmay_yes hmay hr), if_pos (show (movedR g to).2 = 0 by assumption)]; done)
      | (simp only [rmovedR, if_pos (rmay_yes hmay hr), if_pos (show (movedR g to).2 = 0 by assumption), hinv.done hmn hmr (by omega) (by omega)]; done)
  have e1 : (canonS out : List (List Int)) = ((rmovedR g r to).2.1) := by
    first
      | (simp only [rmovedR, if_pos (rmay_yes hmay hr), if_neg (show ¬ (movedR g to).2 = 0 by assumption)]; done)
      | (simp only [rmovedR, if_pos (rmay_yes hmay hr), if_pos (show (movedR g to).2 = 0 by assumption)]; done)
      | (simp only [rmovedR, if_pos (rmay_yes hmay hr), if_pos (show (movedR g to).2 = 0 by assumption), hinv.done hmn hmr (by omega) (by omega)]; done)
  have e2 : (0 : Int) = ((rmovedR g r to).2.2) := by
    first
      | (simp only [rmovedR, if_pos (rmay_yes hmay hr), if_neg (show ¬ (movedR g to).2 = 0 by assumption)]; done)
      | (simp only [rmovedR, if_pos (rmay_yes hmay hr), if_pos (show (movedR g to).2 = 0 by assumption)]; done)
      | (simp only [rmovedR, if_pos (rmay_yes hmay hr), if_pos (show (movedR g to).2 = 0 by assumption), hinv.done hmn hmr (by omega) (by omega)]; done)
  exact ⟨(fin w0 g56 (fun n => if n = 3 then 1 else if n = 6 then 2 else 0), v14, v54), (congr3 (a := ((movedR g to).1)) (b := canonS out) (c := 0) (fun (z0 : (Int) × (List ((Int) × (Int)))) (z1 : List (List Int)) (z2 : Int) => Ending.returned (Value.tuple (List.toArray [Value.agg (List.toArray [Value.int .i64 z0.1, v14]), v54, Value.int .i64 z2]))) e0 e1 e2), hbase.fresh _, ((congrArg (fun (z : (Int) × (List ((Int) × (Int)))) => z.2) e0) ▸ (o15.glue (γ := c0) (ren := (fun n => if n = 3 then 1 else if n = 6 then 2 else 0)) (k := 1) hbase.col rfl rfl)), (e1 ▸ (o55.glue (γ := c0) (ren := (fun n => if n = 3 then 1 else if n = 6 then 2 else 0)) (k := 2) hbase.col rfl rfl))⟩
 refine run_cond_t rfl (congrArg Bool.not (decide_eq_false p2)) ?_
 refine run_seq ?_
 clear o15 bx25
 refine run_region rfl ?_
 refine lv (Value.agg (List.toArray [Value.int .i64 0, Value.slice none 0 0])) rfl (e_build (vs := []) rfl (by kernel_rfl)) ?_
 refine lv (Value.int .i64 ((movedR g to).2)) rfl (e_move rfl) ?_
 refine l_op rfl ?_
 have C67 : Chg (inl [4]) _ _ _ _ := (ch17.n).seq ((ch19.n).seq (ch24.l rfl))
 replace bx10 := bx10.chg C67 (is_nl rfl)
 refine o_store_bx (cs' := [Value.int .i64 0, Value.slice none 0 0]) tp24_k rfl rfl bx10 rfl (Nat.le_of_ble_eq_true rfl) (AllOne.all (.cons rfl (.cons rfl .nil))) rfl ?_
 intro w64 ch65 bx66
 clear bx10
 refine lv (Value.slice none 0 0) rfl (e_assign rfl) ?_
 refine lv (Value.int .i64 ((movedR g to).2)) rfl (e_assign rfl) ?_
 refine l_nil ?_
 refine run_ret (vs := [Value.agg (List.toArray [Value.int .i64 0, Value.slice none 0 0]), Value.slice none 0 0, Value.int .i64 ((movedR g to).2)]) Try.func64 (.cell rfl (load_bxN (ds := [Value.int .i64 0, Value.slice none 0 0]) tp24_k bx66 rfl rfl) (.tmp rfl (.tmp rfl .nil))) ?_
 have C68 : Chg (inl [2, 4]) _ _ _ _ := (ch2.n).seq ((ch7.n).seq ((ch17.n).seq ((ch19.n).seq ((ch24.l rfl).seq (ch65.l rfl)))))
 replace hbase := hbase.chg C68 (is_nl rfl)
 have e0 : ((0, []) : (Int) × (List ((Int) × (Int)))) = ((rmovedR g r to).1) := by
   first
     | (simp only [rmovedR, if_pos (rmay_yes hmay hr), if_neg (show ¬ (movedR g to).2 = 0 by assumption)]; done)
     | (simp only [rmovedR, if_pos (rmay_yes hmay hr), if_pos (show (movedR g to).2 = 0 by assumption)]; done)
     | (simp only [rmovedR, if_pos (rmay_yes hmay hr), if_pos (show (movedR g to).2 = 0 by assumption), hinv.done hmn hmr (by omega) (by omega)]; done)
 have e1 : ([] : List (List Int)) = ((rmovedR g r to).2.1) := by
   first
     | (simp only [rmovedR, if_pos (rmay_yes hmay hr), if_neg (show ¬ (movedR g to).2 = 0 by assumption)]; done)
     | (simp only [rmovedR, if_pos (rmay_yes hmay hr), if_pos (show (movedR g to).2 = 0 by assumption)]; done)
     | (simp only [rmovedR, if_pos (rmay_yes hmay hr), if_pos (show (movedR g to).2 = 0 by assumption), hinv.done hmn hmr (by omega) (by omega)]; done)
 have e2 : ((movedR g to).2 : Int) = ((rmovedR g r to).2.2) := by
   first
     | (simp only [rmovedR, if_pos (rmay_yes hmay hr), if_neg (show ¬ (movedR g to).2 = 0 by assumption)]; done)
     | (simp only [rmovedR, if_pos (rmay_yes hmay hr), if_pos (show (movedR g to).2 = 0 by assumption)]; done)
     | (simp only [rmovedR, if_pos (rmay_yes hmay hr), if_pos (show (movedR g to).2 = 0 by assumption), hinv.done hmn hmr (by omega) (by omega)]; done)
 exact ⟨(fin w0 g21 (fun n => 0), (Value.slice none 0 0), (Value.slice none 0 0)), (congr3 (a := (0, [])) (b := []) (c := (movedR g to).2) (fun (z0 : (Int) × (List ((Int) × (Int)))) (z1 : List (List Int)) (z2 : Int) => Ending.returned (Value.tuple (List.toArray [Value.agg (List.toArray [Value.int .i64 z0.1, Value.slice none 0 0]), Value.slice none 0 0, Value.int .i64 z2]))) e0 e1 e2), hbase.fresh _, ((congrArg (fun (z : (Int) × (List ((Int) × (Int)))) => z.2) e0) ▸ Ow.nil), (e1 ▸ Nst.nil)⟩
end TL
