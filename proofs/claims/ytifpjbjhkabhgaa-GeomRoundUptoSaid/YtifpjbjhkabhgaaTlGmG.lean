import Derived.Test.YtifpjbjhkabhgaaTlGmA
import Derived.Test.YtifpjbjhkabhgaaTlAround
import Derived.Test.YtifpjbjhkabhgaaProg
import Derived.Test.YtifpjbjhkabhgaaTlNet2
import Derived.Test.YtifpjbjhkabhgaaTlEq
import Derived.Test.YtifpjbjhkabhgaaTlHold
import Derived.Test.YtifpjbjhkabhgaaTlDraw
import Derived.Test.YtifpjbjhkabhgaaTlMap
set_option linter.all false
set_option maxRecDepth 20000
namespace TL
open Go Go.Proofs
theorem mixed_gg : Try.prog.follows .mixedOrders = true := by kernel_rfl
theorem tp3_gg : Tp Try.prog 3 false 1 8 (.int .i64 0) := Tp.of (by kernel_rfl)
theorem tp23_gg : Tp Try.prog 23 true 2 16 (.agg #[.int .i64 0, .int .i64 0]) := Tp.of (by kernel_rfl)
theorem tp25_gg : Tp Try.prog 25 false 1 24 (.slice none 0 0) := Tp.of (by kernel_rfl)
theorem bd40_gg : Try.f40.body.isNone = false := rfl
theorem nm40_gg : (Try.f40.name == "runtime.NumGoroutine") = false := by decide +kernel
theorem bd41_gg : Try.f41.body.isNone = false := rfl
theorem nm41_gg : (Try.f41.name == "runtime.NumGoroutine") = false := by decide +kernel
theorem bd42_gg : Try.f42.body.isNone = false := rfl
theorem nm42_gg : (Try.f42.name == "runtime.NumGoroutine") = false := by decide +kernel
theorem bd43_gg : Try.f43.body.isNone = false := rfl
theorem nm43_gg : (Try.f43.name == "runtime.NumGoroutine") = false := by decide +kernel
theorem bd44_gg : Try.f44.body.isNone = false := rfl
theorem nm44_gg : (Try.f44.name == "runtime.NumGoroutine") = false := by decide +kernel

set_option maxHeartbeats 8000000 in
theorem Around1_ok (w0 : World) (i : Int) (k : Int) (ps : List ((Int) × (Int))) (ps_v : Value) (hps_v : Ro w0 ps_v ps) (ps_b : Nat) (hps_b : Bx c0 (is 0) w0 ps_b [ps_v]) (o : (Int) × (Int)) (o_b : Nat) (ho_b : Bx c0 (is 0) w0 o_b [Value.int .i64 o.1, Value.int .i64 o.2]) (hi : 0 ≤ i ∧ i < ps.length) (hk : 0 ≤ k ∧ k < ps.length) (ho : okP o) (hps : okL ps) :
    Calls Try.prog 39 #[Value.int .i64 i, Value.int .i64 k, Value.pointer (some ⟨ps_b, 0, none⟩), Value.pointer (some ⟨o_b, 0, none⟩)] w0 (fun ee w => ee = .returned (Value.int .i64 (cfA o ps i k)) ∧ Bel w0.heap.size w0 w) := by
 refine calls_of_run Try.func39 rfl (Nat.le_of_ble_eq_true rfl) ?_
 have hbase := Base.start w0
 have r_ps_v := hps_v.sl
 obtain ⟨hi0, hi1⟩ := hi
 obtain ⟨hk0, hk1⟩ := hk
 have hbi := (hps.2 _ (gI_mem hi0 hi1)).bd
 have hbk := (hps.2 _ (gI_mem hk0 hk1)).bd
 have hbo := ho.bd
 have hwi := bdW_mns hbo hbi
 have hwk := bdW_mns hbo hbk
 obtain ⟨hs1, hs2⟩ := vA_sq ho hps hi0 hi1
 obtain ⟨hs3, hs4⟩ := vA_sq ho hps hk0 hk1
 unfold vA at hs1 hs2 hs3 hs4
 refine run_seq (run_region rfl ?_)
 refine l_val (v := Value.int .i64 0) rfl (e_assign rfl) ?_
 refine l_nil (run_seq ?_)
 refine region_midh (σ := Nat × Nat × Cmap) (fun ⟨b11, b17, gq⟩ f w => Base w0 gq w ∧ f 0 = Value.int .i64 i ∧ f 1 = Value.int .i64 k ∧ f 7 = Value.pointer (some ⟨b11, 0, none⟩) ∧ f 8 = Value.pointer (some ⟨b17, 0, none⟩) ∧ Sl gq (is 0) w ps_v ps ∧ Bx gq (is 0) w ps_b [ps_v] ∧ Bx gq (is 0) w o_b [Value.int .i64 o.1, Value.int .i64 o.2] ∧ Bx gq (is 1) w b11 [Value.int .i64 ((mns (gI ps i) o).1), Value.int .i64 ((mns (gI ps i) o).2)] ∧ Bx gq (is 2) w b17 [Value.int .i64 ((mns (gI ps k) o).1), Value.int .i64 ((mns (gI ps k) o).2)]) c0 (inl [1, 2]) mixed_gg ?_ ?_
 ·
  intro mid
  intro w2 ch1
  replace hps_b := hps_b.chg ch1 (not_no _)
  refine h_take (v := ps_v) 0 rfl (by kernel_rfl) (by kernel_rfl) rfl (Chg.refl _ _ _) (fun w' hw' => e_load_bx1 tp25_gg rfl (hps_b.chg hw' (is_nl rfl)) rfl) ?_
  refine h_take (v := Value.int .i64 i) 1 rfl (by kernel_rfl) (by kernel_rfl) rfl (Chg.refl _ _ _) (fun w' hw' => e_move rfl) ?_
  replace r_ps_v := r_ps_v.chg ch1 (not_no _)
  refine h_take (v := Value.pointer (some (eAddr ps_v 2 (Int.toNat i)))) 2 rfl (by kernel_rfl) (by kernel_rfl) rfl (Chg.refl _ _ _) (fun w' hw' => e_indexAddr (α := (Int) × (Int)) (xs := ps) (v := ps_v) (i := i) Try.underlying25 rfl rfl (r_ps_v.chg hw' (is_nl rfl)) rfl (by omega) (by omega)) ?_
  refine h_take (v := Value.agg (List.toArray [Value.int .i64 ((gI ps i).1), Value.int .i64 ((gI ps i).2)])) 3 rfl (by kernel_rfl) (by kernel_rfl) rfl (Chg.refl _ _ _) (fun w' hw' => e_load_elN (α := (Int) × (Int)) (xs := ps) (v := ps_v) (i := i) tp23_gg rfl (r_ps_v.chg hw' (is_nl rfl)) (by omega) (by omega) rfl) ?_
  replace ho_b := ho_b.chg ch1 (not_no _)
  refine h_take (v := Value.agg (List.toArray [Value.int .i64 o.1, Value.int .i64 o.2])) 4 rfl (by kernel_rfl) (by kernel_rfl) rfl (Chg.refl _ _ _) (fun w' hw' => e_load_bxN (ds := [Value.int .i64 o.1, Value.int .i64 o.2]) tp23_gg rfl (ho_b.chg hw' (is_nl rfl)) rfl rfl) ?_
  refine h_take (v := ps_v) 6 rfl (by kernel_rfl) (by kernel_rfl) rfl (Chg.refl _ _ _) (fun w' hw' => e_load_bx1 tp25_gg rfl (hps_b.chg hw' (is_nl rfl)) rfl) ?_
  refine h_take (v := Value.int .i64 k) 7 rfl (by kernel_rfl) (by kernel_rfl) rfl (Chg.refl _ _ _) (fun w' hw' => e_move rfl) ?_
  refine h_take (v := Value.pointer (some (eAddr ps_v 2 (Int.toNat k)))) 8 rfl (by kernel_rfl) (by kernel_rfl) rfl (Chg.refl _ _ _) (fun w' hw' => e_indexAddr (α := (Int) × (Int)) (xs := ps) (v := ps_v) (i := k) Try.underlying25 rfl rfl (r_ps_v.chg hw' (is_nl rfl)) rfl (by omega) (by omega)) ?_
  refine h_take (v := Value.agg (List.toArray [Value.int .i64 ((gI ps k).1), Value.int .i64 ((gI ps k).2)])) 9 rfl (by kernel_rfl) (by kernel_rfl) rfl (Chg.refl _ _ _) (fun w' hw' => e_load_elN (α := (Int) × (Int)) (xs := ps) (v := ps_v) (i := k) tp23_gg rfl (r_ps_v.chg hw' (is_nl rfl)) (by omega) (by omega) rfl) ?_
  refine h_take (v := Value.agg (List.toArray [Value.int .i64 o.1, Value.int .i64 o.2])) 10 rfl (by kernel_rfl) (by kernel_rfl) rfl (Chg.refl _ _ _) (fun w' hw' => e_load_bxN (ds := [Value.int .i64 o.1, Value.int .i64 o.2]) tp23_gg rfl (ho_b.chg hw' (is_nl rfl)) rfl rfl) ?_
  refine h_many 5 [12, 13] (by kernel_rfl) ⟨h_of 5 rfl (by kernel_rfl) rfl ?_, h_of 12 rfl (by kernel_rfl) rfl ?_, h_of 13 rfl (by kernel_rfl) rfl ?_, trivial⟩
  ·
   refine o_call (v := Value.agg (List.toArray [Value.int .i64 ((mns (gI ps i) o).1), Value.int .i64 ((mns (gI ps i) o).2)])) (e_call (vals := [Value.agg (List.toArray [Value.int .i64 ((gI ps i).1), Value.int .i64 ((gI ps i).2)]), Value.agg (List.toArray [Value.int .i64 o.1, Value.int .i64 o.2])]) Try.func40 bd40_gg nm40_gg rfl) (minus_ok w2 (gI ps i) o (by assumption) (by assumption)) ?_
   intro w3 hb4
   replace hb4 := chg_below hb4 c0
   have hs5 : Chg (inl [1, 2]) _ _ _ _ := hb4.n
   refine ⟨hs5.same, ?_⟩
   refine h_many 11 [12, 13] (by kernel_rfl) ⟨h_of 11 rfl (by kernel_rfl) rfl ?_, h_of 12 rfl (by kernel_rfl) rfl ?_, h_of 13 rfl (by kernel_rfl) rfl ?_, trivial⟩
   ·
    refine o_call (v := Value.agg (List.toArray [Value.int .i64 ((mns (gI ps k) o).1), Value.int .i64 ((mns (gI ps k) o).2)])) (e_call (vals := [Value.agg (List.toArray [Value.int .i64 ((gI ps k).1), Value.int .i64 ((gI ps k).2)]), Value.agg (List.toArray [Value.int .i64 o.1, Value.int .i64 o.2])]) Try.func40 bd40_gg nm40_gg rfl) (minus_ok w3 (gI ps k) o (by assumption) (by assumption)) ?_
    intro w6 hb7
    replace hb7 := chg_below hb7 c0
    have hs8 := hs5.seq (hb7.n)
    refine ⟨hs8.same, ?_⟩
    refine h_many 12 [13] (by kernel_rfl) ⟨h_of 12 rfl (by kernel_rfl) rfl ?_, h_of 13 rfl (by kernel_rfl) rfl ?_, trivial⟩
    ·
     refine o_alloc c0 (is 1) (1, 0) rfl tp23_gg ?_
     intro g12 w9 b11 ch10 bx13
     replace bx13 : Bx g12 (is 1) w9 b11 [Value.int .i64 0, Value.int .i64 0] := bx13
     have hs14 := hs8.seq (ch10.n)
     refine ⟨hs14.same, ?_⟩
     refine h_one 13 rfl (by kernel_rfl) rfl ?_
     refine o_alloc g12 (is 2) (2, 0) rfl tp23_gg ?_
     intro g18 w15 b17 ch16 bx19
     replace bx19 : Bx g18 (is 2) w15 b17 [Value.int .i64 0, Value.int .i64 0] := bx19
     have hs20 := hs14.seq (ch16.n)
     refine ⟨hs20.same, ?_⟩
     refine h_one 14 rfl (by kernel_rfl) rfl ?_
     replace bx13 := bx13.chg ch16 (not_no _)
     refine o_store_bx (cs' := [Value.int .i64 ((mns (gI ps i) o).1), Value.int .i64 ((mns (gI ps i) o).2)]) tp23_gg rfl rfl bx13 rfl (Nat.le_of_ble_eq_true rfl) (AllOne.all (.cons rfl (.cons rfl .nil))) rfl ?_
     intro w21 ch22 bx23
     clear bx13
     have hs24 := hs20.seq (ch22.l rfl)
     refine ⟨hs24.same, ?_⟩
     refine h_one 15 rfl (by kernel_rfl) rfl ?_
     replace bx19 := bx19.chg ch22 (is_ne rfl)
     refine o_store_bx (cs' := [Value.int .i64 ((mns (gI ps k) o).1), Value.int .i64 ((mns (gI ps k) o).2)]) tp23_gg rfl rfl bx19 rfl (Nat.le_of_ble_eq_true rfl) (AllOne.all (.cons rfl (.cons rfl .nil))) rfl ?_
     intro w25 ch26 bx27
     clear bx19
     have hs28 := hs24.seq (ch26.l rfl)
     refine ⟨hs28.same, ?_⟩
     refine h_nil (by kernel_rfl) ?_
     have C29 : Chg (inl [1, 2]) _ _ _ _ := (ch1.n).seq ((hb4.n).seq ((hb7.n).seq ((ch10.n).seq ((ch16.n).seq ((ch22.l rfl).seq (ch26.l rfl))))))
     replace hbase := hbase.chg C29 (is_nl rfl)
     replace bx23 := bx23.chg ch26 (is_ne rfl)
     exact mid (b11, b17, g18) _ _ ⟨hbase, rfl, rfl, rfl, rfl, (r_ps_v.chg hs28 (is_nl rfl)), (hps_b.chg hs28 (is_nl rfl)), (ho_b.chg hs28 (is_nl rfl)), bx23, bx27⟩
    ·
     refine o_alloc c0 (is 2) (2, 0) rfl tp23_gg ?_
     intro g33 w30 b32 ch31 bx34
     replace bx34 : Bx g33 (is 2) w30 b32 [Value.int .i64 0, Value.int .i64 0] := bx34
     have hs35 := hs8.seq (ch31.n)
     refine ⟨hs35.same, ?_⟩
     refine h_one 12 rfl (by kernel_rfl) rfl ?_
     refine o_alloc g33 (is 1) (1, 0) rfl tp23_gg ?_
     intro g39 w36 b38 ch37 bx40
     replace bx40 : Bx g39 (is 1) w36 b38 [Value.int .i64 0, Value.int .i64 0] := bx40
     have hs41 := hs35.seq (ch37.n)
     refine ⟨hs41.same, ?_⟩
     refine h_one 14 rfl (by kernel_rfl) rfl ?_
     refine o_store_bx (cs' := [Value.int .i64 ((mns (gI ps i) o).1), Value.int .i64 ((mns (gI ps i) o).2)]) tp23_gg rfl rfl bx40 rfl (Nat.le_of_ble_eq_true rfl) (AllOne.all (.cons rfl (.cons rfl .nil))) rfl ?_
     intro w42 ch43 bx44
     clear bx40
     have hs45 := hs41.seq (ch43.l rfl)
     refine ⟨hs45.same, ?_⟩
     refine h_one 15 rfl (by kernel_rfl) rfl ?_
     replace bx34 := (bx34.chg ch37 (not_no _)).chg ch43 (is_ne rfl)
     refine o_store_bx (cs' := [Value.int .i64 ((mns (gI ps k) o).1), Value.int .i64 ((mns (gI ps k) o).2)]) tp23_gg rfl rfl bx34 rfl (Nat.le_of_ble_eq_true rfl) (AllOne.all (.cons rfl (.cons rfl .nil))) rfl ?_
     intro w46 ch47 bx48
     clear bx34
     have hs49 := hs45.seq (ch47.l rfl)
     refine ⟨hs49.same, ?_⟩
     refine h_nil (by kernel_rfl) ?_
     have C50 : Chg (inl [1, 2]) _ _ _ _ := (ch1.n).seq ((hb4.n).seq ((hb7.n).seq ((ch31.n).seq ((ch37.n).seq ((ch43.l rfl).seq (ch47.l rfl))))))
     replace hbase := hbase.chg C50 (is_nl rfl)
     replace bx44 := bx44.chg ch47 (is_ne rfl)
     exact mid (b38, b32, g39) _ _ ⟨hbase, rfl, rfl, rfl, rfl, (r_ps_v.chg hs49 (is_nl rfl)), (hps_b.chg hs49 (is_nl rfl)), (ho_b.chg hs49 (is_nl rfl)), bx44, bx48⟩
   ·
    refine o_alloc c0 (is 1) (1, 0) rfl tp23_gg ?_
    intro g54 w51 b53 ch52 bx55
    replace bx55 : Bx g54 (is 1) w51 b53 [Value.int .i64 0, Value.int .i64 0] := bx55
    have hs56 := hs5.seq (ch52.n)
    refine ⟨hs56.same, ?_⟩
    refine h_many 11 [13] (by kernel_rfl) ⟨h_of 11 rfl (by kernel_rfl) rfl ?_, h_of 13 rfl (by kernel_rfl) rfl ?_, trivial⟩
    ·
     refine o_call (v := Value.agg (List.toArray [Value.int .i64 ((mns (gI ps k) o).1), Value.int .i64 ((mns (gI ps k) o).2)])) (e_call (vals := [Value.agg (List.toArray [Value.int .i64 ((gI ps k).1), Value.int .i64 ((gI ps k).2)]), Value.agg (List.toArray [Value.int .i64 o.1, Value.int .i64 o.2])]) Try.func40 bd40_gg nm40_gg rfl) (minus_ok w51 (gI ps k) o (by assumption) (by assumption)) ?_
     intro w57 hb58
     replace hb58 := chg_below hb58 g54
     have hs59 := hs56.seq (hb58.n)
     refine ⟨hs59.same, ?_⟩
     refine h_one 13 rfl (by kernel_rfl) rfl ?_
     refine o_alloc g54 (is 2) (2, 0) rfl tp23_gg ?_
     intro g63 w60 b62 ch61 bx64
     replace bx64 : Bx g63 (is 2) w60 b62 [Value.int .i64 0, Value.int .i64 0] := bx64
     have hs65 := hs59.seq (ch61.n)
     refine ⟨hs65.same, ?_⟩
     refine h_one 14 rfl (by kernel_rfl) rfl ?_
     replace bx55 := (bx55.chg hb58 (not_no _)).chg ch61 (not_no _)
     refine o_store_bx (cs' := [Value.int .i64 ((mns (gI ps i) o).1), Value.int .i64 ((mns (gI ps i) o).2)]) tp23_gg rfl rfl bx55 rfl (Nat.le_of_ble_eq_true rfl) (AllOne.all (.cons rfl (.cons rfl .nil))) rfl ?_
     intro w66 ch67 bx68
     clear bx55
     have hs69 := hs65.seq (ch67.l rfl)
     refine ⟨hs69.same, ?_⟩
     refine h_one 15 rfl (by kernel_rfl) rfl ?_
     replace bx64 := bx64.chg ch67 (is_ne rfl)
     refine o_store_bx (cs' := [Value.int .i64 ((mns (gI ps k) o).1), Value.int .i64 ((mns (gI ps k) o).2)]) tp23_gg rfl rfl bx64 rfl (Nat.le_of_ble_eq_true rfl) (AllOne.all (.cons rfl (.cons rfl .nil))) rfl ?_
     intro w70 ch71 bx72
     clear bx64
     have hs73 := hs69.seq (ch71.l rfl)
     refine ⟨hs73.same, ?_⟩
     refine h_nil (by kernel_rfl) ?_
     have C74 : Chg (inl [1, 2]) _ _ _ _ := (ch1.n).seq ((hb4.n).seq ((ch52.n).seq ((hb58.n).seq ((ch61.n).seq ((ch67.l rfl).seq (ch71.l rfl))))))
     replace hbase := hbase.chg C74 (is_nl rfl)
     replace bx68 := bx68.chg ch71 (is_ne rfl)
     exact mid (b53, b62, g63) _ _ ⟨hbase, rfl, rfl, rfl, rfl, (r_ps_v.chg hs73 (is_nl rfl)), (hps_b.chg hs73 (is_nl rfl)), (ho_b.chg hs73 (is_nl rfl)), bx68, bx72⟩
    ·
     refine o_alloc g54 (is 2) (2, 0) rfl tp23_gg ?_
     intro g78 w75 b77 ch76 bx79
     replace bx79 : Bx g78 (is 2) w75 b77 [Value.int .i64 0, Value.int .i64 0] := bx79
     have hs80 := hs56.seq (ch76.n)
     refine ⟨hs80.same, ?_⟩
     refine h_one 11 rfl (by kernel_rfl) rfl ?_
     refine o_call (v := Value.agg (List.toArray [Value.int .i64 ((mns (gI ps k) o).1), Value.int .i64 ((mns (gI ps k) o).2)])) (e_call (vals := [Value.agg (List.toArray [Value.int .i64 ((gI ps k).1), Value.int .i64 ((gI ps k).2)]), Value.agg (List.toArray [Value.int .i64 o.1, Value.int .i64 o.2])]) Try.func40 bd40_gg nm40_gg rfl) (minus_ok w75 (gI ps k) o (by assumption) (by assumption)) ?_
     intro w81 hb82
     replace hb82 := chg_below hb82 g78
     have hs83 := hs80.seq (hb82.n)
     refine ⟨hs83.same, ?_⟩
     refine h_one 14 rfl (by kernel_rfl) rfl ?_
     replace bx55 := (bx55.chg ch76 (not_no _)).chg hb82 (not_no _)
     refine o_store_bx (cs' := [Value.int .i64 ((mns (gI ps i) o).1), Value.int .i64 ((mns (gI ps i) o).2)]) tp23_gg rfl rfl bx55 rfl (Nat.le_of_ble_eq_true rfl) (AllOne.all (.cons rfl (.cons rfl .nil))) rfl ?_
     intro w84 ch85 bx86
     clear bx55
     have hs87 := hs83.seq (ch85.l rfl)
     refine ⟨hs87.same, ?_⟩
     refine h_one 15 rfl (by kernel_rfl) rfl ?_
     replace bx79 := (bx79.chg hb82 (not_no _)).chg ch85 (is_ne rfl)
     refine o_store_bx (cs' := [Value.int .i64 ((mns (gI ps k) o).1), Value.int .i64 ((mns (gI ps k) o).2)]) tp23_gg rfl rfl bx79 rfl (Nat.le_of_ble_eq_true rfl) (AllOne.all (.cons rfl (.cons rfl .nil))) rfl ?_
     intro w88 ch89 bx90
     clear bx79
     have hs91 := hs87.seq (ch89.l rfl)
     refine ⟨hs91.same, ?_⟩
     refine h_nil (by kernel_rfl) ?_
     have C92 : Chg (inl [1, 2]) _ _ _ _ := (ch1.n).seq ((hb4.n).seq ((ch52.n).seq ((ch76.n).seq ((hb82.n).seq ((ch85.l rfl).seq (ch89.l rfl))))))
     replace hbase := hbase.chg C92 (is_nl rfl)
     replace bx86 := bx86.chg ch89 (is_ne rfl)
     exact mid (b53, b77, g78) _ _ ⟨hbase, rfl, rfl, rfl, rfl, (r_ps_v.chg hs91 (is_nl rfl)), (hps_b.chg hs91 (is_nl rfl)), (ho_b.chg hs91 (is_nl rfl)), bx86, bx90⟩
   ·
    refine o_alloc c0 (is 2) (2, 0) rfl tp23_gg ?_
    intro g96 w93 b95 ch94 bx97
    replace bx97 : Bx g96 (is 2) w93 b95 [Value.int .i64 0, Value.int .i64 0] := bx97
    have hs98 := hs5.seq (ch94.n)
    refine ⟨hs98.same, ?_⟩
    refine h_many 11 [12] (by kernel_rfl) ⟨h_of 11 rfl (by kernel_rfl) rfl ?_, h_of 12 rfl (by kernel_rfl) rfl ?_, trivial⟩
    ·
     refine o_call (v := Value.agg (List.toArray [Value.int .i64 ((mns (gI ps k) o).1), Value.int .i64 ((mns (gI ps k) o).2)])) (e_call (vals := [Value.agg (List.toArray [Value.int .i64 ((gI ps k).1), Value.int .i64 ((gI ps k).2)]), Value.agg (List.toArray [Value.int .i64 o.1, Value.int .i64 o.2])]) Try.func40 bd40_gg nm40_gg rfl) (minus_ok w93 (gI ps k) o (by assumption) (by assumption)) ?_
     intro w99 hb100
     replace hb100 := chg_below hb100 g96
     have hs101 := hs98.seq (hb100.n)
     refine ⟨hs101.same, ?_⟩
     refine h_one 12 rfl (by kernel_rfl) rfl ?_
     refine o_alloc g96 (is 1) (1, 0) rfl tp23_gg ?_
     intro g105 w102 b104 ch103 bx106
     replace bx106 : Bx g105 (is 1) w102 b104 [Value.int .i64 0, Value.int .i64 0] := bx106
     have hs107 := hs101.seq (ch103.n)
     refine ⟨hs107.same, ?_⟩
     refine h_one 14 rfl (by kernel_rfl) rfl ?_
     refine o_store_bx (cs' := [Value.int .i64 ((mns (gI ps i) o).1), Value.int .i64 ((mns (gI ps i) o).2)]) tp23_gg rfl rfl bx106 rfl (Nat.le_of_ble_eq_true rfl) (AllOne.all (.cons rfl (.cons rfl .nil))) rfl ?_
     intro w108 ch109 bx110
     clear bx106
     have hs111 := hs107.seq (ch109.l rfl)
     refine ⟨hs111.same, ?_⟩
     refine h_one 15 rfl (by kernel_rfl) rfl ?_
     have C115 : Chg (inl [1]) _ _ _ _ := (hb100.n).seq ((ch103.n).seq (ch109.l rfl))
     replace bx97 := bx97.chg C115 (is_nl rfl)
     refine o_store_bx (cs' := [Value.int .i64 ((mns (gI ps k) o).1), Value.int .i64 ((mns (gI ps k) o).2)]) tp23_gg rfl rfl bx97 rfl (Nat.le_of_ble_eq_true rfl) (AllOne.all (.cons rfl (.cons rfl .nil))) rfl ?_
     intro w112 ch113 bx114
     clear bx97
     have hs116 := hs111.seq (ch113.l rfl)
     refine ⟨hs116.same, ?_⟩
     refine h_nil (by kernel_rfl) ?_
     have C117 : Chg (inl [1, 2]) _ _ _ _ := (ch1.n).seq ((hb4.n).seq ((ch94.n).seq ((hb100.n).seq ((ch103.n).seq ((ch109.l rfl).seq (ch113.l rfl))))))
     replace hbase := hbase.chg C117 (is_nl rfl)
     replace bx110 := bx110.chg ch113 (is_ne rfl)
     exact mid (b104, b95, g105) _ _ ⟨hbase, rfl, rfl, rfl, rfl, (r_ps_v.chg hs116 (is_nl rfl)), (hps_b.chg hs116 (is_nl rfl)), (ho_b.chg hs116 (is_nl rfl)), bx110, bx114⟩
    ·
     refine o_alloc g96 (is 1) (1, 0) rfl tp23_gg ?_
     intro g121 w118 b120 ch119 bx122
     replace bx122 : Bx g121 (is 1) w118 b120 [Value.int .i64 0, Value.int .i64 0] := bx122
     have hs123 := hs98.seq (ch119.n)
     refine ⟨hs123.same, ?_⟩
     refine h_one 11 rfl (by kernel_rfl) rfl ?_
     refine o_call (v := Value.agg (List.toArray [Value.int .i64 ((mns (gI ps k) o).1), Value.int .i64 ((mns (gI ps k) o).2)])) (e_call (vals := [Value.agg (List.toArray [Value.int .i64 ((gI ps k).1), Value.int .i64 ((gI ps k).2)]), Value.agg (List.toArray [Value.int .i64 o.1, Value.int .i64 o.2])]) Try.func40 bd40_gg nm40_gg rfl) (minus_ok w118 (gI ps k) o (by assumption) (by assumption)) ?_
     intro w124 hb125
     replace hb125 := chg_below hb125 g121
     have hs126 := hs123.seq (hb125.n)
     refine ⟨hs126.same, ?_⟩
     refine h_one 14 rfl (by kernel_rfl) rfl ?_
     replace bx122 := bx122.chg hb125 (not_no _)
     refine o_store_bx (cs' := [Value.int .i64 ((mns (gI ps i) o).1), Value.int .i64 ((mns (gI ps i) o).2)]) tp23_gg rfl rfl bx122 rfl (Nat.le_of_ble_eq_true rfl) (AllOne.all (.cons rfl (.cons rfl .nil))) rfl ?_
     intro w127 ch128 bx129
     clear bx122
     have hs130 := hs126.seq (ch128.l rfl)
     refine ⟨hs130.same, ?_⟩
     refine h_one 15 rfl (by kernel_rfl) rfl ?_
     have C134 : Chg (inl [1]) _ _ _ _ := (ch119.n).seq ((hb125.n).seq (ch128.l rfl))
     replace bx97 := bx97.chg C134 (is_nl rfl)
     refine o_store_bx (cs' := [Value.int .i64 ((mns (gI ps k) o).1), Value.int .i64 ((mns (gI ps k) o).2)]) tp23_gg rfl rfl bx97 rfl (Nat.le_of_ble_eq_true rfl) (AllOne.all (.cons rfl (.cons rfl .nil))) rfl ?_
     intro w131 ch132 bx133
     clear bx97
     have hs135 := hs130.seq (ch132.l rfl)
     refine ⟨hs135.same, ?_⟩
     refine h_nil (by kernel_rfl) ?_
     have C136 : Chg (inl [1, 2]) _ _ _ _ := (ch1.n).seq ((hb4.n).seq ((ch94.n).seq ((ch119.n).seq ((hb125.n).seq ((ch128.l rfl).seq (ch132.l rfl))))))
     replace hbase := hbase.chg C136 (is_nl rfl)
     replace bx129 := bx129.chg ch132 (is_ne rfl)
     exact mid (b120, b95, g121) _ _ ⟨hbase, rfl, rfl, rfl, rfl, (r_ps_v.chg hs135 (is_nl rfl)), (hps_b.chg hs135 (is_nl rfl)), (ho_b.chg hs135 (is_nl rfl)), bx129, bx133⟩
  ·
   refine o_alloc c0 (is 1) (1, 0) rfl tp23_gg ?_
   intro g140 w137 b139 ch138 bx141
   replace bx141 : Bx g140 (is 1) w137 b139 [Value.int .i64 0, Value.int .i64 0] := bx141
   have hs142 : Chg (inl [1, 2]) _ _ _ _ := ch138.n
   refine ⟨hs142.same, ?_⟩
   refine h_many 5 [13] (by kernel_rfl) ⟨h_of 5 rfl (by kernel_rfl) rfl ?_, h_of 13 rfl (by kernel_rfl) rfl ?_, trivial⟩
   ·
    refine o_call (v := Value.agg (List.toArray [Value.int .i64 ((mns (gI ps i) o).1), Value.int .i64 ((mns (gI ps i) o).2)])) (e_call (vals := [Value.agg (List.toArray [Value.int .i64 ((gI ps i).1), Value.int .i64 ((gI ps i).2)]), Value.agg (List.toArray [Value.int .i64 o.1, Value.int .i64 o.2])]) Try.func40 bd40_gg nm40_gg rfl) (minus_ok w137 (gI ps i) o (by assumption) (by assumption)) ?_
    intro w143 hb144
    replace hb144 := chg_below hb144 g140
    have hs145 := hs142.seq (hb144.n)
    refine ⟨hs145.same, ?_⟩
    refine h_many 11 [13] (by kernel_rfl) ⟨h_of 11 rfl (by kernel_rfl) rfl ?_, h_of 13 rfl (by kernel_rfl) rfl ?_, trivial⟩
    ·
     refine o_call (v := Value.agg (List.toArray [Value.int .i64 ((mns (gI ps k) o).1), Value.int .i64 ((mns (gI ps k) o).2)])) (e_call (vals := [Value.agg (List.toArray [Value.int .i64 ((gI ps k).1), Value.int .i64 ((gI ps k).2)]), Value.agg (List.toArray [Value.int .i64 o.1, Value.int .i64 o.2])]) Try.func40 bd40_gg nm40_gg rfl) (minus_ok w143 (gI ps k) o (by assumption) (by assumption)) ?_
     intro w146 hb147
     replace hb147 := chg_below hb147 g140
     have hs148 := hs145.seq (hb147.n)
     refine ⟨hs148.same, ?_⟩
     refine h_one 13 rfl (by kernel_rfl) rfl ?_
     refine o_alloc g140 (is 2) (2, 0) rfl tp23_gg ?_
     intro g152 w149 b151 ch150 bx153
     replace bx153 : Bx g152 (is 2) w149 b151 [Value.int .i64 0, Value.int .i64 0] := bx153
     have hs154 := hs148.seq (ch150.n)
     refine ⟨hs154.same, ?_⟩
     refine h_one 14 rfl (by kernel_rfl) rfl ?_
     have C158 : Chg (inl []) _ _ _ _ := (hb144.n).seq ((hb147.n).seq (ch150.n))
     replace bx141 := bx141.chg C158 (is_nl rfl)
     refine o_store_bx (cs' := [Value.int .i64 ((mns (gI ps i) o).1), Value.int .i64 ((mns (gI ps i) o).2)]) tp23_gg rfl rfl bx141 rfl (Nat.le_of_ble_eq_true rfl) (AllOne.all (.cons rfl (.cons rfl .nil))) rfl ?_
     intro w155 ch156 bx157
     clear bx141
     have hs159 := hs154.seq (ch156.l rfl)
     refine ⟨hs159.same, ?_⟩
     refine h_one 15 rfl (by kernel_rfl) rfl ?_
     replace bx153 := bx153.chg ch156 (is_ne rfl)
     refine o_store_bx (cs' := [Value.int .i64 ((mns (gI ps k) o).1), Value.int .i64 ((mns (gI ps k) o).2)]) tp23_gg rfl rfl bx153 rfl (Nat.le_of_ble_eq_true rfl) (AllOne.all (.cons rfl (.cons rfl .nil))) rfl ?_
     intro w160 ch161 bx162
     clear bx153
     have hs163 := hs159.seq (ch161.l rfl)
     refine ⟨hs163.same, ?_⟩
     refine h_nil (by kernel_rfl) ?_
     have C164 : Chg (inl [1, 2]) _ _ _ _ := (ch1.n).seq ((ch138.n).seq ((hb144.n).seq ((hb147.n).seq ((ch150.n).seq ((ch156.l rfl).seq (ch161.l rfl))))))
     replace hbase := hbase.chg C164 (is_nl rfl)
     replace bx157 := bx157.chg ch161 (is_ne rfl)
     exact mid (b139, b151, g152) _ _ ⟨hbase, rfl, rfl, rfl, rfl, (r_ps_v.chg hs163 (is_nl rfl)), (hps_b.chg hs163 (is_nl rfl)), (ho_b.chg hs163 (is_nl rfl)), bx157, bx162⟩
    ·
     refine o_alloc g140 (is 2) (2, 0) rfl tp23_gg ?_
     intro g168 w165 b167 ch166 bx169
     replace bx169 : Bx g168 (is 2) w165 b167 [Value.int .i64 0, Value.int .i64 0] := bx169
     have hs170 := hs145.seq (ch166.n)
     refine ⟨hs170.same, ?_⟩
     refine h_one 11 rfl (by kernel_rfl) rfl ?_
     refine o_call (v := Value.agg (List.toArray [Value.int .i64 ((mns (gI ps k) o).1), Value.int .i64 ((mns (gI ps k) o).2)])) (e_call (vals := [Value.agg (List.toArray [Value.int .i64 ((gI ps k).1), Value.int .i64 ((gI ps k).2)]), Value.agg (List.toArray [Value.int .i64 o.1, Value.int .i64 o.2])]) Try.func40 bd40_gg nm40_gg rfl) (minus_ok w165 (gI ps k) o (by assumption) (by assumption)) ?_
     intro w171 hb172
     replace hb172 := chg_below hb172 g168
     have hs173 := hs170.seq (hb172.n)
     refine ⟨hs173.same, ?_⟩
     refine h_one 14 rfl (by kernel_rfl) rfl ?_
     have C177 : Chg (inl []) _ _ _ _ := (hb144.n).seq ((ch166.n).seq (hb172.n))
     replace bx141 := bx141.chg C177 (is_nl rfl)
     refine o_store_bx (cs' := [Value.int .i64 ((mns (gI ps i) o).1), Value.int .i64 ((mns (gI ps i) o).2)]) tp23_gg rfl rfl bx141 rfl (Nat.le_of_ble_eq_true rfl) (AllOne.all (.cons rfl (.cons rfl .nil))) rfl ?_
     intro w174 ch175 bx176
     clear bx141
     have hs178 := hs173.seq (ch175.l rfl)
     refine ⟨hs178.same, ?_⟩
     refine h_one 15 rfl (by kernel_rfl) rfl ?_
     replace bx169 := (bx169.chg hb172 (not_no _)).chg ch175 (is_ne rfl)
     refine o_store_bx (cs' := [Value.int .i64 ((mns (gI ps k) o).1), Value.int .i64 ((mns (gI ps k) o).2)]) tp23_gg rfl rfl bx169 rfl (Nat.le_of_ble_eq_true rfl) (AllOne.all (.cons rfl (.cons rfl .nil))) rfl ?_
     intro w179 ch180 bx181
     clear bx169
     have hs182 := hs178.seq (ch180.l rfl)
     refine ⟨hs182.same, ?_⟩
     refine h_nil (by kernel_rfl) ?_
     have C183 : Chg (inl [1, 2]) _ _ _ _ := (ch1.n).seq ((ch138.n).seq ((hb144.n).seq ((ch166.n).seq ((hb172.n).seq ((ch175.l rfl).seq (ch180.l rfl))))))
     replace hbase := hbase.chg C183 (is_nl rfl)
     replace bx176 := bx176.chg ch180 (is_ne rfl)
     exact mid (b139, b167, g168) _ _ ⟨hbase, rfl, rfl, rfl, rfl, (r_ps_v.chg hs182 (is_nl rfl)), (hps_b.chg hs182 (is_nl rfl)), (ho_b.chg hs182 (is_nl rfl)), bx176, bx181⟩
   ·
    refine o_alloc g140 (is 2) (2, 0) rfl tp23_gg ?_
    intro g187 w184 b186 ch185 bx188
    replace bx188 : Bx g187 (is 2) w184 b186 [Value.int .i64 0, Value.int .i64 0] := bx188
    have hs189 := hs142.seq (ch185.n)
    refine ⟨hs189.same, ?_⟩
    refine h_one 5 rfl (by kernel_rfl) rfl ?_
    refine o_call (v := Value.agg (List.toArray [Value.int .i64 ((mns (gI ps i) o).1), Value.int .i64 ((mns (gI ps i) o).2)])) (e_call (vals := [Value.agg (List.toArray [Value.int .i64 ((gI ps i).1), Value.int .i64 ((gI ps i).2)]), Value.agg (List.toArray [Value.int .i64 o.1, Value.int .i64 o.2])]) Try.func40 bd40_gg nm40_gg rfl) (minus_ok w184 (gI ps i) o (by assumption) (by assumption)) ?_
    intro w190 hb191
    replace hb191 := chg_below hb191 g187
    have hs192 := hs189.seq (hb191.n)
    refine ⟨hs192.same, ?_⟩
    refine h_one 11 rfl (by kernel_rfl) rfl ?_
    refine o_call (v := Value.agg (List.toArray [Value.int .i64 ((mns (gI ps k) o).1), Value.int .i64 ((mns (gI ps k) o).2)])) (e_call (vals := [Value.agg (List.toArray [Value.int .i64 ((gI ps k).1), Value.int .i64 ((gI ps k).2)]), Value.agg (List.toArray [Value.int .i64 o.1, Value.int .i64 o.2])]) Try.func40 bd40_gg nm40_gg rfl) (minus_ok w190 (gI ps k) o (by assumption) (by assumption)) ?_
    intro w193 hb194
    replace hb194 := chg_below hb194 g187
    have hs195 := hs192.seq (hb194.n)
    refine ⟨hs195.same, ?_⟩
    refine h_one 14 rfl (by kernel_rfl) rfl ?_
    have C199 : Chg (inl []) _ _ _ _ := (ch185.n).seq ((hb191.n).seq (hb194.n))
    replace bx141 := bx141.chg C199 (is_nl rfl)
    refine o_store_bx (cs' := [Value.int .i64 ((mns (gI ps i) o).1), Value.int .i64 ((mns (gI ps i) o).2)]) tp23_gg rfl rfl bx141 rfl (Nat.le_of_ble_eq_true rfl) (AllOne.all (.cons rfl (.cons rfl .nil))) rfl ?_
    intro w196 ch197 bx198
    clear bx141
    have hs200 := hs195.seq (ch197.l rfl)
    refine ⟨hs200.same, ?_⟩
    refine h_one 15 rfl (by kernel_rfl) rfl ?_
    have C204 : Chg (inl [1]) _ _ _ _ := (hb191.n).seq ((hb194.n).seq (ch197.l rfl))
    replace bx188 := bx188.chg C204 (is_nl rfl)
    refine o_store_bx (cs' := [Value.int .i64 ((mns (gI ps k) o).1), Value.int .i64 ((mns (gI ps k) o).2)]) tp23_gg rfl rfl bx188 rfl (Nat.le_of_ble_eq_true rfl) (AllOne.all (.cons rfl (.cons rfl .nil))) rfl ?_
    intro w201 ch202 bx203
    clear bx188
    have hs205 := hs200.seq (ch202.l rfl)
    refine ⟨hs205.same, ?_⟩
    refine h_nil (by kernel_rfl) ?_
    have C206 : Chg (inl [1, 2]) _ _ _ _ := (ch1.n).seq ((ch138.n).seq ((ch185.n).seq ((hb191.n).seq ((hb194.n).seq ((ch197.l rfl).seq (ch202.l rfl))))))
    replace hbase := hbase.chg C206 (is_nl rfl)
    replace bx198 := bx198.chg ch202 (is_ne rfl)
    exact mid (b139, b186, g187) _ _ ⟨hbase, rfl, rfl, rfl, rfl, (r_ps_v.chg hs205 (is_nl rfl)), (hps_b.chg hs205 (is_nl rfl)), (ho_b.chg hs205 (is_nl rfl)), bx198, bx203⟩
  ·
   refine o_alloc c0 (is 2) (2, 0) rfl tp23_gg ?_
   intro g210 w207 b209 ch208 bx211
   replace bx211 : Bx g210 (is 2) w207 b209 [Value.int .i64 0, Value.int .i64 0] := bx211
   have hs212 : Chg (inl [1, 2]) _ _ _ _ := ch208.n
   refine ⟨hs212.same, ?_⟩
   refine h_many 5 [12] (by kernel_rfl) ⟨h_of 5 rfl (by kernel_rfl) rfl ?_, h_of 12 rfl (by kernel_rfl) rfl ?_, trivial⟩
   ·
    refine o_call (v := Value.agg (List.toArray [Value.int .i64 ((mns (gI ps i) o).1), Value.int .i64 ((mns (gI ps i) o).2)])) (e_call (vals := [Value.agg (List.toArray [Value.int .i64 ((gI ps i).1), Value.int .i64 ((gI ps i).2)]), Value.agg (List.toArray [Value.int .i64 o.1, Value.int .i64 o.2])]) Try.func40 bd40_gg nm40_gg rfl) (minus_ok w207 (gI ps i) o (by assumption) (by assumption)) ?_
    intro w213 hb214
    replace hb214 := chg_below hb214 g210
    have hs215 := hs212.seq (hb214.n)
    refine ⟨hs215.same, ?_⟩
    refine h_many 11 [12] (by kernel_rfl) ⟨h_of 11 rfl (by kernel_rfl) rfl ?_, h_of 12 rfl (by kernel_rfl) rfl ?_, trivial⟩
    ·
     refine o_call (v := Value.agg (List.toArray [Value.int .i64 ((mns (gI ps k) o).1), Value.int .i64 ((mns (gI ps k) o).2)])) (e_call (vals := [Value.agg (List.toArray [Value.int .i64 ((gI ps k).1), Value.int .i64 ((gI ps k).2)]), Value.agg (List.toArray [Value.int .i64 o.1, Value.int .i64 o.2])]) Try.func40 bd40_gg nm40_gg rfl) (minus_ok w213 (gI ps k) o (by assumption) (by assumption)) ?_
     intro w216 hb217
     replace hb217 := chg_below hb217 g210
     have hs218 := hs215.seq (hb217.n)
     refine ⟨hs218.same, ?_⟩
     refine h_one 12 rfl (by kernel_rfl) rfl ?_
     refine o_alloc g210 (is 1) (1, 0) rfl tp23_gg ?_
     intro g222 w219 b221 ch220 bx223
     replace bx223 : Bx g222 (is 1) w219 b221 [Value.int .i64 0, Value.int .i64 0] := bx223
     have hs224 := hs218.seq (ch220.n)
     refine ⟨hs224.same, ?_⟩
     refine h_one 14 rfl (by kernel_rfl) rfl ?_
     refine o_store_bx (cs' := [Value.int .i64 ((mns (gI ps i) o).1), Value.int .i64 ((mns (gI ps i) o).2)]) tp23_gg rfl rfl bx223 rfl (Nat.le_of_ble_eq_true rfl) (AllOne.all (.cons rfl (.cons rfl .nil))) rfl ?_
     intro w225 ch226 bx227
     clear bx223
     have hs228 := hs224.seq (ch226.l rfl)
     refine ⟨hs228.same, ?_⟩
     refine h_one 15 rfl (by kernel_rfl) rfl ?_
     have C232 : Chg (inl [1]) _ _ _ _ := (hb214.n).seq ((hb217.n).seq ((ch220.n).seq (ch226.l rfl)))
     replace bx211 := bx211.chg C232 (is_nl rfl)
     refine o_store_bx (cs' := [Value.int .i64 ((mns (gI ps k) o).1), Value.int .i64 ((mns (gI ps k) o).2)]) tp23_gg rfl rfl bx211 rfl (Nat.le_of_ble_eq_true rfl) (AllOne.all (.cons rfl (.cons rfl .nil))) rfl ?_
     intro w229 ch230 bx231
     clear bx211
     have hs233 := hs228.seq (ch230.l rfl)
     refine ⟨hs233.same, ?_⟩
     refine h_nil (by kernel_rfl) ?_
     have C234 : Chg (inl [1, 2]) _ _ _ _ := (ch1.n).seq ((ch208.n).seq ((hb214.n).seq ((hb217.n).seq ((ch220.n).seq ((ch226.l rfl).seq (ch230.l rfl))))))
     replace hbase := hbase.chg C234 (is_nl rfl)
     replace bx227 := bx227.chg ch230 (is_ne rfl)
     exact mid (b221, b209, g222) _ _ ⟨hbase, rfl, rfl, rfl, rfl, (r_ps_v.chg hs233 (is_nl rfl)), (hps_b.chg hs233 (is_nl rfl)), (ho_b.chg hs233 (is_nl rfl)), bx227, bx231⟩
    ·
     refine o_alloc g210 (is 1) (1, 0) rfl tp23_gg ?_
     intro g238 w235 b237 ch236 bx239
     replace bx239 : Bx g238 (is 1) w235 b237 [Value.int .i64 0, Value.int .i64 0] := bx239
     have hs240 := hs215.seq (ch236.n)
     refine ⟨hs240.same, ?_⟩
     refine h_one 11 rfl (by kernel_rfl) rfl ?_
     refine o_call (v := Value.agg (List.toArray [Value.int .i64 ((mns (gI ps k) o).1), Value.int .i64 ((mns (gI ps k) o).2)])) (e_call (vals := [Value.agg (List.toArray [Value.int .i64 ((gI ps k).1), Value.int .i64 ((gI ps k).2)]), Value.agg (List.toArray [Value.int .i64 o.1, Value.int .i64 o.2])]) Try.func40 bd40_gg nm40_gg rfl) (minus_ok w235 (gI ps k) o (by assumption) (by assumption)) ?_
     intro w241 hb242
     replace hb242 := chg_below hb242 g238
     have hs243 := hs240.seq (hb242.n)
     refine ⟨hs243.same, ?_⟩
     refine h_one 14 rfl (by kernel_rfl) rfl ?_
     replace bx239 := bx239.chg hb242 (not_no _)
     refine o_store_bx (cs' := [Value.int .i64 ((mns (gI ps i) o).1), Value.int .i64 ((mns (gI ps i) o).2)]) tp23_gg rfl rfl bx239 rfl (Nat.le_of_ble_eq_true rfl) (AllOne.all (.cons rfl (.cons rfl .nil))) rfl ?_
     intro w244 ch245 bx246
     clear bx239
     have hs247 := hs243.seq (ch245.l rfl)
     refine ⟨hs247.same, ?_⟩
     refine h_one 15 rfl (by kernel_rfl) rfl ?_
     have C251 : Chg (inl [1]) _ _ _ _ := (hb214.n).seq ((ch236.n).seq ((hb242.n).seq (ch245.l rfl)))
     replace bx211 := bx211.chg C251 (is_nl rfl)
     refine o_store_bx (cs' := [Value.int .i64 ((mns (gI ps k) o).1), Value.int .i64 ((mns (gI ps k) o).2)]) tp23_gg rfl rfl bx211 rfl (Nat.le_of_ble_eq_true rfl) (AllOne.all (.cons rfl (.cons rfl .nil))) rfl ?_
     intro w248 ch249 bx250
     clear bx211
     have hs252 := hs247.seq (ch249.l rfl)
     refine ⟨hs252.same, ?_⟩
     refine h_nil (by kernel_rfl) ?_
     have C253 : Chg (inl [1, 2]) _ _ _ _ := (ch1.n).seq ((ch208.n).seq ((hb214.n).seq ((ch236.n).seq ((hb242.n).seq ((ch245.l rfl).seq (ch249.l rfl))))))
     replace hbase := hbase.chg C253 (is_nl rfl)
     replace bx246 := bx246.chg ch249 (is_ne rfl)
     exact mid (b237, b209, g238) _ _ ⟨hbase, rfl, rfl, rfl, rfl, (r_ps_v.chg hs252 (is_nl rfl)), (hps_b.chg hs252 (is_nl rfl)), (ho_b.chg hs252 (is_nl rfl)), bx246, bx250⟩
   ·
    refine o_alloc g210 (is 1) (1, 0) rfl tp23_gg ?_
    intro g257 w254 b256 ch255 bx258
    replace bx258 : Bx g257 (is 1) w254 b256 [Value.int .i64 0, Value.int .i64 0] := bx258
    have hs259 := hs212.seq (ch255.n)
    refine ⟨hs259.same, ?_⟩
    refine h_one 5 rfl (by kernel_rfl) rfl ?_
    refine o_call (v := Value.agg (List.toArray [Value.int .i64 ((mns (gI ps i) o).1), Value.int .i64 ((mns (gI ps i) o).2)])) (e_call (vals := [Value.agg (List.toArray [Value.int .i64 ((gI ps i).1), Value.int .i64 ((gI ps i).2)]), Value.agg (List.toArray [Value.int .i64 o.1, Value.int .i64 o.2])]) Try.func40 bd40_gg nm40_gg rfl) (minus_ok w254 (gI ps i) o (by assumption) (by assumption)) ?_
    intro w260 hb261
    replace hb261 := chg_below hb261 g257
    have hs262 := hs259.seq (hb261.n)
    refine ⟨hs262.same, ?_⟩
    refine h_one 11 rfl (by kernel_rfl) rfl ?_
    refine o_call (v := Value.agg (List.toArray [Value.int .i64 ((mns (gI ps k) o).1), Value.int .i64 ((mns (gI ps k) o).2)])) (e_call (vals := [Value.agg (List.toArray [Value.int .i64 ((gI ps k).1), Value.int .i64 ((gI ps k).2)]), Value.agg (List.toArray [Value.int .i64 o.1, Value.int .i64 o.2])]) Try.func40 bd40_gg nm40_gg rfl) (minus_ok w260 (gI ps k) o (by assumption) (by assumption)) ?_
    intro w263 hb264
    replace hb264 := chg_below hb264 g257
    have hs265 := hs262.seq (hb264.n)
    refine ⟨hs265.same, ?_⟩
    refine h_one 14 rfl (by kernel_rfl) rfl ?_
    replace bx258 := (bx258.chg hb261 (not_no _)).chg hb264 (not_no _)
    refine o_store_bx (cs' := [Value.int .i64 ((mns (gI ps i) o).1), Value.int .i64 ((mns (gI ps i) o).2)]) tp23_gg rfl rfl bx258 rfl (Nat.le_of_ble_eq_true rfl) (AllOne.all (.cons rfl (.cons rfl .nil))) rfl ?_
    intro w266 ch267 bx268
    clear bx258
    have hs269 := hs265.seq (ch267.l rfl)
    refine ⟨hs269.same, ?_⟩
    refine h_one 15 rfl (by kernel_rfl) rfl ?_
    have C273 : Chg (inl [1]) _ _ _ _ := (ch255.n).seq ((hb261.n).seq ((hb264.n).seq (ch267.l rfl)))
    replace bx211 := bx211.chg C273 (is_nl rfl)
    refine o_store_bx (cs' := [Value.int .i64 ((mns (gI ps k) o).1), Value.int .i64 ((mns (gI ps k) o).2)]) tp23_gg rfl rfl bx211 rfl (Nat.le_of_ble_eq_true rfl) (AllOne.all (.cons rfl (.cons rfl .nil))) rfl ?_
    intro w270 ch271 bx272
    clear bx211
    have hs274 := hs269.seq (ch271.l rfl)
    refine ⟨hs274.same, ?_⟩
    refine h_nil (by kernel_rfl) ?_
    have C275 : Chg (inl [1, 2]) _ _ _ _ := (ch1.n).seq ((ch208.n).seq ((ch255.n).seq ((hb261.n).seq ((hb264.n).seq ((ch267.l rfl).seq (ch271.l rfl))))))
    replace hbase := hbase.chg C275 (is_nl rfl)
    replace bx268 := bx268.chg ch271 (is_ne rfl)
    exact mid (b256, b209, g257) _ _ ⟨hbase, rfl, rfl, rfl, rfl, (r_ps_v.chg hs274 (is_nl rfl)), (hps_b.chg hs274 (is_nl rfl)), (ho_b.chg hs274 (is_nl rfl)), bx268, bx272⟩
 clear r_ps_v
 clear hps_b
 clear ho_b
 clear hbase
 rintro ⟨b11, b17, g278⟩ f276 w277 ⟨hbase, zs0, zs1, zs7, zs8, r_ps_v, hps_b, ho_b, bx23, bx27⟩
 refine run_seq ?_
 refine run_region_h g278 (inl []) mixed_gg ?_
 intro w280 ch279
 replace bx23 := bx23.chg ch279 (not_no _)
 refine h_take (v := Value.agg (List.toArray [Value.int .i64 ((mns (gI ps i) o).1), Value.int .i64 ((mns (gI ps i) o).2)])) 0 rfl (by kernel_rfl) (by kernel_rfl) rfl (Chg.refl _ _ _) (fun w' hw' => e_load_bxN (ds := [Value.int .i64 ((mns (gI ps i) o).1), Value.int .i64 ((mns (gI ps i) o).2)]) tp23_gg (by exact zs7) (bx23.chg hw' (is_nl rfl)) rfl rfl) ?_
 replace bx27 := bx27.chg ch279 (not_no _)
 refine h_take (v := Value.agg (List.toArray [Value.int .i64 ((mns (gI ps k) o).1), Value.int .i64 ((mns (gI ps k) o).2)])) 2 rfl (by kernel_rfl) (by kernel_rfl) rfl (Chg.refl _ _ _) (fun w' hw' => e_load_bxN (ds := [Value.int .i64 ((mns (gI ps k) o).1), Value.int .i64 ((mns (gI ps k) o).2)]) tp23_gg (by exact zs8) (bx27.chg hw' (is_nl rfl)) rfl rfl) ?_
 refine h_take (v := Value.agg (List.toArray [Value.int .i64 ((mns (gI ps i) o).1), Value.int .i64 ((mns (gI ps i) o).2)])) 5 rfl (by kernel_rfl) (by kernel_rfl) rfl (Chg.refl _ _ _) (fun w' hw' => e_load_bxN (ds := [Value.int .i64 ((mns (gI ps i) o).1), Value.int .i64 ((mns (gI ps i) o).2)]) tp23_gg (by exact zs7) (bx23.chg hw' (is_nl rfl)) rfl rfl) ?_
 refine h_take (v := Value.agg (List.toArray [Value.int .i64 ((mns (gI ps k) o).1), Value.int .i64 ((mns (gI ps k) o).2)])) 6 rfl (by kernel_rfl) (by kernel_rfl) rfl (Chg.refl _ _ _) (fun w' hw' => e_load_bxN (ds := [Value.int .i64 ((mns (gI ps k) o).1), Value.int .i64 ((mns (gI ps k) o).2)]) tp23_gg (by exact zs8) (bx27.chg hw' (is_nl rfl)) rfl rfl) ?_
 refine h_take (v := Value.pointer (some ⟨b11, 0, none⟩)) 9 rfl (by kernel_rfl) (by kernel_rfl) rfl (Chg.refl _ _ _) (fun w' hw' => e_fieldAddr Try.underlying23 rfl rfl (by exact zs7) rfl) ?_
 refine h_take (v := Value.int .i64 ((mns (gI ps i) o).1)) 10 rfl (by kernel_rfl) (by kernel_rfl) rfl (Chg.refl _ _ _) (fun w' hw' => e_load_bx1 tp3_gg rfl (bx23.chg hw' (is_nl rfl)) rfl) ?_
 refine h_take (v := Value.pointer (some ⟨b11, 0, none⟩)) 11 rfl (by kernel_rfl) (by kernel_rfl) rfl (Chg.refl _ _ _) (fun w' hw' => e_fieldAddr Try.underlying23 rfl rfl (by exact zs7) rfl) ?_
 refine h_take (v := Value.int .i64 ((mns (gI ps i) o).1)) 12 rfl (by kernel_rfl) (by kernel_rfl) rfl (Chg.refl _ _ _) (fun w' hw' => e_load_bx1 tp3_gg rfl (bx23.chg hw' (is_nl rfl)) rfl) ?_
 refine h_take (v := Value.int .i64 (((mns (gI ps i) o).1) * ((mns (gI ps i) o).1))) 13 rfl (by kernel_rfl) (by kernel_rfl) rfl (Chg.refl _ _ _) (fun w' hw' => e_mul (m := (mns (gI ps i) o).1) (n := (mns (gI ps i) o).1) rfl rfl (by (simp only [inI]; omega))) ?_
 refine h_take (v := Value.pointer (some ⟨b11, 1, none⟩)) 14 rfl (by kernel_rfl) (by kernel_rfl) rfl (Chg.refl _ _ _) (fun w' hw' => e_fieldAddr Try.underlying23 rfl rfl (by exact zs7) rfl) ?_
 refine h_take (v := Value.int .i64 ((mns (gI ps i) o).2)) 15 rfl (by kernel_rfl) (by kernel_rfl) rfl (Chg.refl _ _ _) (fun w' hw' => e_load_bx1 tp3_gg rfl (bx23.chg hw' (is_nl rfl)) rfl) ?_
 refine h_take (v := Value.pointer (some ⟨b11, 1, none⟩)) 16 rfl (by kernel_rfl) (by kernel_rfl) rfl (Chg.refl _ _ _) (fun w' hw' => e_fieldAddr Try.underlying23 rfl rfl (by exact zs7) rfl) ?_
 refine h_take (v := Value.int .i64 ((mns (gI ps i) o).2)) 17 rfl (by kernel_rfl) (by kernel_rfl) rfl (Chg.refl _ _ _) (fun w' hw' => e_load_bx1 tp3_gg rfl (bx23.chg hw' (is_nl rfl)) rfl) ?_
 refine h_take (v := Value.int .i64 (((mns (gI ps i) o).2) * ((mns (gI ps i) o).2))) 18 rfl (by kernel_rfl) (by kernel_rfl) rfl (Chg.refl _ _ _) (fun w' hw' => e_mul (m := (mns (gI ps i) o).2) (n := (mns (gI ps i) o).2) rfl rfl (by (simp only [inI]; omega))) ?_
 refine h_take (v := Value.int .i64 ((((mns (gI ps i) o).1) * ((mns (gI ps i) o).1)) + (((mns (gI ps i) o).2) * ((mns (gI ps i) o).2)))) 19 rfl (by kernel_rfl) (by kernel_rfl) rfl (Chg.refl _ _ _) (fun w' hw' => e_add (m := ((mns (gI ps i) o).1) * ((mns (gI ps i) o).1)) (n := ((mns (gI ps i) o).2) * ((mns (gI ps i) o).2)) rfl rfl (by (simp only [inI]; omega))) ?_
 refine h_take (v := Value.pointer (some ⟨b17, 0, none⟩)) 20 rfl (by kernel_rfl) (by kernel_rfl) rfl (Chg.refl _ _ _) (fun w' hw' => e_fieldAddr Try.underlying23 rfl rfl (by exact zs8) rfl) ?_
 refine h_take (v := Value.int .i64 ((mns (gI ps k) o).1)) 21 rfl (by kernel_rfl) (by kernel_rfl) rfl (Chg.refl _ _ _) (fun w' hw' => e_load_bx1 tp3_gg rfl (bx27.chg hw' (is_nl rfl)) rfl) ?_
 refine h_take (v := Value.pointer (some ⟨b17, 0, none⟩)) 22 rfl (by kernel_rfl) (by kernel_rfl) rfl (Chg.refl _ _ _) (fun w' hw' => e_fieldAddr Try.underlying23 rfl rfl (by exact zs8) rfl) ?_
 refine h_take (v := Value.int .i64 ((mns (gI ps k) o).1)) 23 rfl (by kernel_rfl) (by kernel_rfl) rfl (Chg.refl _ _ _) (fun w' hw' => e_load_bx1 tp3_gg rfl (bx27.chg hw' (is_nl rfl)) rfl) ?_
 refine h_take (v := Value.int .i64 (((mns (gI ps k) o).1) * ((mns (gI ps k) o).1))) 24 rfl (by kernel_rfl) (by kernel_rfl) rfl (Chg.refl _ _ _) (fun w' hw' => e_mul (m := (mns (gI ps k) o).1) (n := (mns (gI ps k) o).1) rfl rfl (by (simp only [inI]; omega))) ?_
 refine h_take (v := Value.pointer (some ⟨b17, 1, none⟩)) 25 rfl (by kernel_rfl) (by kernel_rfl) rfl (Chg.refl _ _ _) (fun w' hw' => e_fieldAddr Try.underlying23 rfl rfl (by exact zs8) rfl) ?_
 refine h_take (v := Value.int .i64 ((mns (gI ps k) o).2)) 26 rfl (by kernel_rfl) (by kernel_rfl) rfl (Chg.refl _ _ _) (fun w' hw' => e_load_bx1 tp3_gg rfl (bx27.chg hw' (is_nl rfl)) rfl) ?_
 refine h_take (v := Value.pointer (some ⟨b17, 1, none⟩)) 27 rfl (by kernel_rfl) (by kernel_rfl) rfl (Chg.refl _ _ _) (fun w' hw' => e_fieldAddr Try.underlying23 rfl rfl (by exact zs8) rfl) ?_
 refine h_take (v := Value.int .i64 ((mns (gI ps k) o).2)) 28 rfl (by kernel_rfl) (by kernel_rfl) rfl (Chg.refl _ _ _) (fun w' hw' => e_load_bx1 tp3_gg rfl (bx27.chg hw' (is_nl rfl)) rfl) ?_
 refine h_take (v := Value.int .i64 (((mns (gI ps k) o).2) * ((mns (gI ps k) o).2))) 29 rfl (by kernel_rfl) (by kernel_rfl) rfl (Chg.refl _ _ _) (fun w' hw' => e_mul (m := (mns (gI ps k) o).2) (n := (mns (gI ps k) o).2) rfl rfl (by (simp only [inI]; omega))) ?_
 refine h_take (v := Value.int .i64 ((((mns (gI ps k) o).1) * ((mns (gI ps k) o).1)) + (((mns (gI ps k) o).2) * ((mns (gI ps k) o).2)))) 30 rfl (by kernel_rfl) (by kernel_rfl) rfl (Chg.refl _ _ _) (fun w' hw' => e_add (m := ((mns (gI ps k) o).1) * ((mns (gI ps k) o).1)) (n := ((mns (gI ps k) o).2) * ((mns (gI ps k) o).2)) rfl rfl (by (simp only [inI]; omega))) ?_
 refine h_take (v := Value.int .i64 i) 32 rfl (by kernel_rfl) (by kernel_rfl) rfl (Chg.refl _ _ _) (fun w' hw' => e_move (by exact zs0)) ?_
 refine h_take (v := Value.int .i64 k) 33 rfl (by kernel_rfl) (by kernel_rfl) rfl (Chg.refl _ _ _) (fun w' hw' => e_move (by exact zs1)) ?_
 refine h_one 1 rfl (by kernel_rfl) rfl ?_
 refine o_call (v := Value.int .i64 (halfS (mns (gI ps i) o))) (e_call (vals := [Value.agg (List.toArray [Value.int .i64 ((mns (gI ps i) o).1), Value.int .i64 ((mns (gI ps i) o).2)])]) Try.func43 bd43_gg nm43_gg rfl) (half_ok w280 (mns (gI ps i) o)) ?_
 intro w281 hb282
 replace hb282 := chg_below hb282 g278
 have hs283 : Chg (inl []) _ _ _ _ := hb282.n
 refine ⟨hs283.same, ?_⟩
 refine h_one 3 rfl (by kernel_rfl) rfl ?_
 refine o_call (v := Value.int .i64 (halfS (mns (gI ps k) o))) (e_call (vals := [Value.agg (List.toArray [Value.int .i64 ((mns (gI ps k) o).1), Value.int .i64 ((mns (gI ps k) o).2)])]) Try.func43 bd43_gg nm43_gg rfl) (half_ok w281 (mns (gI ps k) o)) ?_
 intro w284 hb285
 replace hb285 := chg_below hb285 g278
 have hs286 := hs283.seq (hb285.n)
 refine ⟨hs286.same, ?_⟩
 refine h_one 4 rfl (by kernel_rfl) rfl ?_
 refine o_call (v := Value.int .i64 (cmpI (halfS (mns (gI ps i) o)) (halfS (mns (gI ps k) o)))) (e_call (vals := [Value.int .i64 (halfS (mns (gI ps i) o)), Value.int .i64 (halfS (mns (gI ps k) o))]) Try.func42 bd42_gg nm42_gg rfl) (Compare_ok w284 (halfS (mns (gI ps i) o)) (halfS (mns (gI ps k) o))) ?_
 intro w287 hb288
 replace hb288 := chg_below hb288 g278
 have hs289 := hs286.seq (hb288.n)
 refine ⟨hs289.same, ?_⟩
 refine h_one 7 rfl (by kernel_rfl) rfl ?_
 refine o_call (v := Value.int .i64 (crs (mns (gI ps i) o) (mns (gI ps k) o))) (e_call (vals := [Value.agg (List.toArray [Value.int .i64 ((mns (gI ps i) o).1), Value.int .i64 ((mns (gI ps i) o).2)]), Value.agg (List.toArray [Value.int .i64 ((mns (gI ps k) o).1), Value.int .i64 ((mns (gI ps k) o).2)])]) Try.func44 bd44_gg nm44_gg rfl) (cross_ok w287 (mns (gI ps i) o) (mns (gI ps k) o) (by assumption) (by assumption)) ?_
 intro w290 hb291
 replace hb291 := chg_below hb291 g278
 have hs292 := hs289.seq (hb291.n)
 refine ⟨hs292.same, ?_⟩
 refine h_one 8 rfl (by kernel_rfl) rfl ?_
 refine o_call (v := Value.int .i64 (cmpI (crs (mns (gI ps i) o) (mns (gI ps k) o)) 0)) (e_call (vals := [Value.int .i64 (crs (mns (gI ps i) o) (mns (gI ps k) o)), Value.int .i64 0]) Try.func42 bd42_gg nm42_gg rfl) (Compare_ok w290 (crs (mns (gI ps i) o) (mns (gI ps k) o)) 0) ?_
 intro w293 hb294
 replace hb294 := chg_below hb294 g278
 have hs295 := hs292.seq (hb294.n)
 refine ⟨hs295.same, ?_⟩
 refine h_one 31 rfl (by kernel_rfl) rfl ?_
 refine o_call (v := Value.int .i64 (cmpI ((((mns (gI ps i) o).1) * ((mns (gI ps i) o).1)) + (((mns (gI ps i) o).2) * ((mns (gI ps i) o).2))) ((((mns (gI ps k) o).1) * ((mns (gI ps k) o).1)) + (((mns (gI ps k) o).2) * ((mns (gI ps k) o).2))))) (e_call (vals := [Value.int .i64 ((((mns (gI ps i) o).1) * ((mns (gI ps i) o).1)) + (((mns (gI ps i) o).2) * ((mns (gI ps i) o).2))), Value.int .i64 ((((mns (gI ps k) o).1) * ((mns (gI ps k) o).1)) + (((mns (gI ps k) o).2) * ((mns (gI ps k) o).2)))]) Try.func42 bd42_gg nm42_gg rfl) (Compare_ok w293 ((((mns (gI ps i) o).1) * ((mns (gI ps i) o).1)) + (((mns (gI ps i) o).2) * ((mns (gI ps i) o).2))) ((((mns (gI ps k) o).1) * ((mns (gI ps k) o).1)) + (((mns (gI ps k) o).2) * ((mns (gI ps k) o).2)))) ?_
 intro w296 hb297
 replace hb297 := chg_below hb297 g278
 have hs298 := hs295.seq (hb297.n)
 refine ⟨hs298.same, ?_⟩
 refine h_one 34 rfl (by kernel_rfl) rfl ?_
 refine o_call (v := Value.int .i64 (cmpI i k)) (e_call (vals := [Value.int .i64 i, Value.int .i64 k]) Try.func42 bd42_gg nm42_gg rfl) (Compare_ok w296 i k) ?_
 intro w299 hb300
 replace hb300 := chg_below hb300 g278
 have hs301 := hs298.seq (hb300.n)
 refine ⟨hs301.same, ?_⟩
 refine h_one 35 rfl (by kernel_rfl) rfl ?_
 refine o_buildSlice (α := Int) g278 (is 3) (is 3) (3, 0) rfl ([cmpI (halfS (mns (gI ps i) o)) (halfS (mns (gI ps k) o)), cmpI (crs (mns (gI ps i) o) (mns (gI ps k) o)) 0, cmpI ((((mns (gI ps i) o).1) * ((mns (gI ps i) o).1)) + (((mns (gI ps i) o).2) * ((mns (gI ps i) o).2))) ((((mns (gI ps k) o).1) * ((mns (gI ps k) o).1)) + (((mns (gI ps k) o).2) * ((mns (gI ps k) o).2))), cmpI i k] : List Int) Try.underlying34 tp3_gg (by decide) (by decide) (vs := [(0, Value.int .i64 (cmpI (halfS (mns (gI ps i) o)) (halfS (mns (gI ps k) o)))), (1, Value.int .i64 (cmpI (crs (mns (gI ps i) o) (mns (gI ps k) o)) 0)), (2, Value.int .i64 (cmpI ((((mns (gI ps i) o).1) * ((mns (gI ps i) o).1)) + (((mns (gI ps i) o).2) * ((mns (gI ps i) o).2))) ((((mns (gI ps k) o).1) * ((mns (gI ps k) o).1)) + (((mns (gI ps k) o).2) * ((mns (gI ps k) o).2))))), (3, Value.int .i64 (cmpI i k))]) rfl rfl (.cons rfl (.cons rfl (.cons rfl (.cons rfl .nil)))) ?_
 intro g302 w303 v304 ch305 o306
 have hs307 := hs301.seq (ch305.n)
 refine ⟨hs307.same, ?_⟩
 refine h_one 36 rfl (by kernel_rfl) rfl ?_
 refine o_call (v := Value.int .i64 (orL ([cmpI (halfS (mns (gI ps i) o)) (halfS (mns (gI ps k) o)), cmpI (crs (mns (gI ps i) o) (mns (gI ps k) o)) 0, cmpI ((((mns (gI ps i) o).1) * ((mns (gI ps i) o).1)) + (((mns (gI ps i) o).2) * ((mns (gI ps i) o).2))) ((((mns (gI ps k) o).1) * ((mns (gI ps k) o).1)) + (((mns (gI ps k) o).2) * ((mns (gI ps k) o).2))), cmpI i k] : List Int))) (e_call (vals := [v304]) Try.func41 bd41_gg nm41_gg rfl) (Or_ok w303 ([cmpI (halfS (mns (gI ps i) o)) (halfS (mns (gI ps k) o)), cmpI (crs (mns (gI ps i) o) (mns (gI ps k) o)) 0, cmpI ((((mns (gI ps i) o).1) * ((mns (gI ps i) o).1)) + (((mns (gI ps i) o).2) * ((mns (gI ps i) o).2))) ((((mns (gI ps k) o).1) * ((mns (gI ps k) o).1)) + (((mns (gI ps k) o).2) * ((mns (gI ps k) o).2))), cmpI i k] : List Int) v304 (o306.flat).ro) ?_
 intro w308 hb309
 replace hb309 := chg_below hb309 g302
 have hs310 := hs307.seq (hb309.n)
 refine ⟨hs310.same, ?_⟩
 refine h_take (v := Value.int .i64 (orL ([cmpI (halfS (mns (gI ps i) o)) (halfS (mns (gI ps k) o)), cmpI (crs (mns (gI ps i) o) (mns (gI ps k) o)) 0, cmpI ((((mns (gI ps i) o).1) * ((mns (gI ps i) o).1)) + (((mns (gI ps i) o).2) * ((mns (gI ps i) o).2))) ((((mns (gI ps k) o).1) * ((mns (gI ps k) o).1)) + (((mns (gI ps k) o).2) * ((mns (gI ps k) o).2))), cmpI i k] : List Int))) 37 rfl (by kernel_rfl) (by kernel_rfl) rfl hs310.same (fun w' hw' => e_assign rfl) ?_
 refine h_nil (by kernel_rfl) ?_
 refine run_ret (vs := [Value.int .i64 (orL ([cmpI (halfS (mns (gI ps i) o)) (halfS (mns (gI ps k) o)), cmpI (crs (mns (gI ps i) o) (mns (gI ps k) o)) 0, cmpI ((((mns (gI ps i) o).1) * ((mns (gI ps i) o).1)) + (((mns (gI ps i) o).2) * ((mns (gI ps i) o).2))) ((((mns (gI ps k) o).1) * ((mns (gI ps k) o).1)) + (((mns (gI ps k) o).2) * ((mns (gI ps k) o).2))), cmpI i k] : List Int))]) Try.func39 (.tmp rfl .nil) ?_
 -- return 0
 have e0 : (orL ([cmpI (halfS (mns (gI ps i) o)) (halfS (mns (gI ps k) o)), cmpI (crs (mns (gI ps i) o) (mns (gI ps k) o)) 0, cmpI ((((mns (gI ps i) o).1) * ((mns (gI ps i) o).1)) + (((mns (gI ps i) o).2) * ((mns (gI ps i) o).2))) ((((mns (gI ps k) o).1) * ((mns (gI ps k) o).1)) + (((mns (gI ps k) o).2) * ((mns (gI ps k) o).2))), cmpI i k] : List Int) : Int) = (cfA o ps i k) := by
   rfl
 have C311 : Chg (inl []) _ _ _ _ := (ch279.n).seq ((hb282.n).seq ((hb285.n).seq ((hb288.n).seq ((hb291.n).seq ((hb294.n).seq ((hb297.n).seq ((hb300.n).seq ((ch305.n).seq (hb309.n)))))))))
 replace hbase := hbase.chg C311 (is_nl rfl)
 exact ⟨(congrArg (a₁ := orL ([cmpI (halfS (mns (gI ps i) o)) (halfS (mns (gI ps k) o)), cmpI (crs (mns (gI ps i) o) (mns (gI ps k) o)) 0, cmpI ((((mns (gI ps i) o).1) * ((mns (gI ps i) o).1)) + (((mns (gI ps i) o).2) * ((mns (gI ps i) o).2))) ((((mns (gI ps k) o).1) * ((mns (gI ps k) o).1)) + (((mns (gI ps k) o).2) * ((mns (gI ps k) o).2))), cmpI i k] : List Int)) (fun (z0 : Int) => Ending.returned (Value.int .i64 z0)) e0), hbase.below⟩
end TL
