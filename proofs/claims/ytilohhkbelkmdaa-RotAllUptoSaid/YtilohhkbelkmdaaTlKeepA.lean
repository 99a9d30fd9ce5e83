/-
  TlKeepA: the lists of a list kept, one by one, while the list itself stays readable.
  By an AI agent.
-/
import Derived.Test.YtilohhkbelkmdaaProg
import Derived.Test.YtilohhkbelkmdaaTlP2
import Derived.Test.YtilohhkbelkmdaaTlGenR
set_option linter.all false
namespace TL
open Go Go.Proofs
theorem mixed_ka : Try.prog.follows .mixedOrders = true := by kernel_rfl
theorem tpI_ka : Tp Try.prog 3 false 1 8 (.int .i64 0) := Tp.of (by kernel_rfl)
theorem tpLL_ka : Tp Try.prog 25 false 1 24 (.slice none 0 0) := Tp.of (by kernel_rfl)
theorem tpL_ka : Tp Try.prog 27 false 1 24 (.slice none 0 0) := Tp.of (by kernel_rfl)
theorem bdK_ka : Try.f38.body.isNone = false := rfl
theorem nmK_ka : (Try.f38.name == "runtime.NumGoroutine") = false := by decide +kernel
theorem bdR_ka : Try.f65.body.isNone = false := rfl
theorem nmR_ka : (Try.f65.name == "runtime.NumGoroutine") = false := by decide +kernel
theorem chgJ {J : Col → Prop} {γ γ1 γ2 : Cmap} {w w1 w2 : World} (h : Chg J γ w γ1 w1) (h' : Chg J γ1 w1 γ2 w2) : Chg J γ w γ2 w2 := h.trans h' fun _ _ h => h.elim id id
theorem chgN {J : Col → Prop} {γ γ1 : Cmap} {w w1 : World} (h : Chg no γ w γ1 w1) : Chg J γ w γ1 w1 := h.mono fun _ h => h.elim
theorem beq_of_ne {a b : Nat} (h : a ≠ b) : Nat.beq a b = false := by
  cases hb : Nat.beq a b with
  | false => rfl
  | true => exact absurd (Nat.eq_of_beq_eq_true hb) h
set_option maxRecDepth 20000 in
set_option maxHeartbeats 1000000 in
theorem Keep_one {γ : Cmap} {w : World} {q i k j p bb : Nat} {bl lsv u : Value} {c : Vc} {K : List (List Int)} {s : Int} {x : List Int}
    (hbx : Bx γ (is q) w bb [bl, Value.int .i64 s]) (hK : Nst γ i w bl K) (hu : Ow γ (row k (j + 1)) (row k (j + 1)) w u x) (hc : c.v = u) (hls : Ow γ (is p) (is p) w lsv [c]) (hj : KInv K s)
    (qi : q ≠ i) (qk : q ≠ k) (ki : k ≠ i) (pq : p ≠ q) (pi : p ≠ i) (pk : p ≠ k) :
    Calls Try.prog 38 (List.toArray [Value.pointer (some ⟨bb, 0, none⟩), lsv]) w (fun ee w' => ∃ xx : Value × List (List Int) × Int × Cmap, ee = .returned (Value.tuple (List.toArray [])) ∧ (Chg (jr q i k (j + 1)) γ w xx.2.2.2 w' ∧ Bx xx.2.2.2 (is q) w' bb [xx.1, Value.int .i64 xx.2.2.1] ∧ Nst xx.2.2.2 i w' xx.1 xx.2.1 ∧ KInv xx.2.1 xx.2.2.1 ∧ Sl xx.2.2.2 (gv i k (j + 1)) w' u x)) := by
  have hjl := hj.len
  have qi' := beq_of_ne qi
  have iq' := beq_of_ne qi.symm
  have qk' := beq_of_ne qk
  have kq' := beq_of_ne qk.symm
  have ki' := beq_of_ne ki
  have ik' := beq_of_ne ki.symm
  have pq' := beq_of_ne pq
  have pi' := beq_of_ne pi
  have pk' := beq_of_ne pk
  refine calls_of_run Try.func38 rfl (Nat.le_of_ble_eq_true rfl) ?_
  refine run_seq (run_region rfl ?_)
  refine lv (Value.int .i64 0) rfl (e_assign rfl) ?_
  refine l_nil ?_
  refine run_block ?_
  refine run_loop0 ?_
  refine run_seq ?_
  refine run_seq ?_
  refine run_region rfl ?_
  refine lv (Value.int .i64 0) rfl (e_move rfl) ?_
  refine lv (lsv) rfl (e_move rfl) ?_
  refine lv (Value.int .i64 1) rfl (e_len (α := Vc) (xs := [c]) Try.underlying25 rfl hls.flat) ?_
  refine lv (Value.bool true) rfl (e_lss (m := 0) (n := 1) rfl rfl) ?_
  refine l_nil ?_
  refine run_cond_t rfl rfl ?_
  refine run_skip ?_
  refine run_seq ?_
  refine run_block ?_
  refine run_seq ?_
  refine run_mid [false, true, false, false, false] (σ := Value × (List (List Int)) × Int × Cmap) (fun ⟨b0, b1, b2, gq⟩ f w' => f 0 = Value.pointer (some ⟨bb, 0, none⟩) ∧ f 1 = lsv ∧ f 4 = Value.int .i64 0 ∧ Chg (jr q i k (j + 1)) γ w gq w' ∧ Bx gq (is q) w' bb [b0, Value.int .i64 b2] ∧ Nst gq i w' b0 b1 ∧ Ow gq (is p) (is p) w' lsv [c] ∧ KInv b1 b2 ∧ Sl gq (gv i k (j + 1)) w' u x) ?_ ?_
  ·
   intro mid
   refine region_q γ rfl mixed_ka (by kernel_rfl) ?_
   intro w1 ch1
   refine q_val (v := lsv) rfl (fun w' hw' => e_move rfl) ?_
   refine q_val (v := Value.int .i64 0) rfl (fun w' hw' => e_move rfl) ?_
   replace hu := hu.chg ch1 (not_no _) (not_no _)
   replace hls := hls.chg ch1 (not_no _) (not_no _)
   replace hbx := hbx.chg ch1 (not_no _)
   replace hK := hK.chg ch1 (not_no _)
   refine q_val (v := Value.pointer (some (eAddr lsv 1 (Int.toNat 0)))) rfl (fun w' hw' => e_indexAddr (α := List Int) (xs := [x]) (v := lsv) (i := 0) Try.underlying25 rfl rfl ((vc_sl hls (VcR.consv hc hu.flat.ro VcR.nil)).bel hw') rfl (by omega) (by simp)) ?_
   refine q_val (v := u) rfl (fun w' hw' => e_load1 tpL_ka rfl (ow_atv hc (hls.bel hw') rfl)) ?_
   have len1 := hu.flat.small
   refine q_val (v := Value.int .i64 (List.length x : Int)) rfl (fun w' hw' => e_len Try.underlying27 rfl (hu.flat.bel hw')) ?_
   refine q_val (v := lsv) rfl (fun w' hw' => e_move rfl) ?_
   refine q_val (v := Value.int .i64 0) rfl (fun w' hw' => e_move rfl) ?_
   refine q_val (v := Value.pointer (some (eAddr lsv 1 (Int.toNat 0)))) rfl (fun w' hw' => e_indexAddr (α := List Int) (xs := [x]) (v := lsv) (i := 0) Try.underlying25 rfl rfl ((vc_sl hls (VcR.consv hc hu.flat.ro VcR.nil)).bel hw') rfl (by omega) (by simp)) ?_
   refine q_val (v := u) rfl (fun w' hw' => e_load1 tpL_ka rfl (ow_atv hc (hls.bel hw') rfl)) ?_
   have cap1 := Sl.cap hu.flat
   refine q_val (v := Value.int .i64 (sCap u : Int)) rfl (fun w' hw' => e_cap Try.underlying27 rfl (hu.flat.bel hw')) ?_
   refine q_call (v := Value.int .i64 (min (sCap u : Int) ((List.length x : Int) + 2000))) rfl (fun w' hw' => e_call (vals := [Value.int .i64 (List.length x : Int), Value.int .i64 (sCap u : Int)]) Try.func65 bdR_ka nmR_ka rfl) (fun w' hw' => (Room_ok w' (List.length x : Int) (sCap u : Int) (by omega)).mono fun e w2 h2 => ⟨h2.1, hw'.trans (h2.2.mono hw'.size)⟩) ?_
   refine q_val (v := Value.int .i64 (min (sCap u : Int) ((List.length x : Int) + 2000))) rfl (fun w' hw' => e_assign rfl) ?_
   refine q_nil ?_
   intro w2 hc2
   replace hc2 := chg_below hc2 γ
   replace hu := hu.chg hc2 (not_no _) (not_no _)
   replace hls := hls.chg hc2 (not_no _) (not_no _)
   replace hbx := hbx.chg hc2 (not_no _)
   replace hK := hK.chg hc2 (not_no _)
   have C2 : Chg (jr q i k (j + 1)) γ w γ w2 := chgJ (chgN ch1) (chgN hc2)
   have hleft : Sl γ (gv i k (j + 1)) w2 u x := hu.flat.mono fun c h => .inr (by unfold row at h; subst h; exact ⟨rfl, by omega, Nat.le_refl _⟩)
   refine run_seq ?_
   refine run_region rfl ?_
   refine lv (Value.int .i64 (min (sCap u : Int) ((List.length x : Int) + 2000))) rfl (e_move rfl) ?_
   refine lv (Value.bool (decide (0 < (min (sCap u : Int) ((List.length x : Int) + 2000))))) rfl (e_gtr (m := min (sCap u : Int) ((List.length x : Int) + 2000)) (n := 0) rfl rfl) ?_
   refine lv (Value.bool (decide (0 < (min (sCap u : Int) ((List.length x : Int) + 2000))))) rfl (e_move rfl) ?_
   by_cases c1 : 0 < (min (sCap u : Int) ((List.length x : Int) + 2000))
   ·
    refine lv (Value.pointer (some ⟨bb, 0, none⟩)) (want_y rfl rfl rfl (decide_eq_true c1)) (e_move rfl) ?_
    refine lv (Value.pointer (some ⟨bb, 0, none⟩)) (want_y rfl rfl rfl (decide_eq_true c1)) (e_nilCheck rfl) ?_
    refine lv (Value.pointer (some ⟨bb, 1, none⟩)) (want_y rfl rfl rfl (decide_eq_true c1)) (e_fieldAddr Try.underlying36 rfl rfl rfl rfl) ?_
    refine lv (Value.int .i64 s) (want_y rfl rfl rfl (decide_eq_true c1)) (e_load_bx1 tpI_ka rfl hbx rfl) ?_
    refine lv (Value.int .i64 (min (sCap u : Int) ((List.length x : Int) + 2000))) (want_y rfl rfl rfl (decide_eq_true c1)) (e_move rfl) ?_
    refine lv (Value.int .i64 (s + (min (sCap u : Int) ((List.length x : Int) + 2000)))) (want_y rfl rfl rfl (decide_eq_true c1)) (e_add (m := s) (n := min (sCap u : Int) ((List.length x : Int) + 2000)) rfl rfl (by omega)) ?_
    refine lv (Value.bool (decide ((s + (min (sCap u : Int) ((List.length x : Int) + 2000))) ≤ 1048576))) (want_y rfl rfl rfl (decide_eq_true c1)) (e_leq (m := s + (min (sCap u : Int) ((List.length x : Int) + 2000))) (n := 1048576) rfl rfl) ?_
    refine lv (Value.bool (decide ((s + (min (sCap u : Int) ((List.length x : Int) + 2000))) ≤ 1048576))) rfl (e_pick_t rfl (decide_eq_true c1) rfl) ?_
    refine l_nil ?_
    by_cases c2 : (s + (min (sCap u : Int) ((List.length x : Int) + 2000))) ≤ 1048576
    ·
     refine run_cond_t rfl (decide_eq_true c2) ?_
     refine run_seq ?_
     refine run_region rfl ?_
     refine lv (Value.pointer (some ⟨bb, 0, none⟩)) rfl (e_move rfl) ?_
     refine lv (Value.pointer (some ⟨bb, 0, none⟩)) rfl (e_move rfl) ?_
     refine lv (Value.pointer (some ⟨bb, 0, none⟩)) rfl (e_nilCheck rfl) ?_
     refine lv (Value.pointer (some ⟨bb, 1, none⟩)) rfl (e_fieldAddr Try.underlying36 rfl rfl rfl rfl) ?_
     refine lv (Value.int .i64 s) rfl (e_load_bx1 tpI_ka rfl hbx rfl) ?_
     refine lv (Value.int .i64 (min (sCap u : Int) ((List.length x : Int) + 2000))) rfl (e_move rfl) ?_
     refine lv (Value.int .i64 (s + (min (sCap u : Int) ((List.length x : Int) + 2000)))) rfl (e_add (m := s) (n := min (sCap u : Int) ((List.length x : Int) + 2000)) rfl rfl (by omega)) ?_
     refine lv (Value.pointer (some ⟨bb, 0, none⟩)) rfl (e_nilCheck rfl) ?_
     refine lv (Value.pointer (some ⟨bb, 1, none⟩)) rfl (e_fieldAddr Try.underlying36 rfl rfl rfl rfl) ?_
     refine l_op rfl ?_
     refine o_store_bx (cs' := [bl, Value.int .i64 (s + (min (sCap u : Int) ((List.length x : Int) + 2000)))]) tpI_ka rfl rfl hbx rfl (Nat.le_of_ble_eq_true rfl) (AllOne.all (.cons rfl .nil)) rfl ?_
     intro w3 ch3 bx3
     clear hbx
     have hrq : ∀ c, row k (j + 1) c → ¬ is q c := row_ne kq'
     replace hu := hu.chg ch3 hrq hrq
     replace hls := hls.chg ch3 (is_ne pq') (is_ne pq')
     replace hK := hK.chg ch3 (is_ne iq')
     refine l_nil ?_
     refine run_region_x γ [0, 1, 2, 3, 4, 5, 6, 7, 8, 11, 12] mixed_ka ?_
     intro w4 ch4
     replace hu := hu.chg ch4 (not_no _) (not_no _)
     replace hls := hls.chg ch4 (not_no _) (not_no _)
     replace hK := hK.chg ch4 (not_no _)
     replace bx3 := bx3.chg ch4 (not_no _)
     refine x_pure (v := Value.pointer (some ⟨bb, 0, none⟩)) 0 rfl (by kernel_rfl) (by kernel_rfl) rfl (fun w => e_move rfl) ?_
     refine x_pure (v := Value.pointer (some ⟨bb, 0, none⟩)) 1 rfl (by kernel_rfl) (by kernel_rfl) rfl (fun w => e_move rfl) ?_
     refine x_pure (v := Value.pointer (some ⟨bb, 0, none⟩)) 2 rfl (by kernel_rfl) (by kernel_rfl) rfl (fun w => e_nilCheck rfl) ?_
     refine x_pure (v := Value.pointer (some ⟨bb, 0, none⟩)) 3 rfl (by kernel_rfl) (by kernel_rfl) rfl (fun w => e_fieldAddr Try.underlying36 rfl rfl rfl rfl) ?_
     refine x_held (v := bl) 4 [3, 2, 1, 0, 5, 6, 7, 8, 9] rfl (by kernel_rfl) (by kernel_rfl) rfl (fun w' hw' => e_load_bx1 tpLL_ka rfl (bx3.bel hw') rfl) ?_
     refine x_pure (v := lsv) 5 rfl (by kernel_rfl) (by kernel_rfl) rfl (fun w => e_move rfl) ?_
     refine x_pure (v := Value.int .i64 0) 6 rfl (by kernel_rfl) (by kernel_rfl) rfl (fun w => e_move rfl) ?_
     refine x_val (v := Value.pointer (some (eAddr lsv 1 (Int.toNat 0)))) 7 [6, 5, 4, 3, 2, 1, 0] rfl (by kernel_rfl) (by kernel_rfl) rfl (e_indexAddr (α := List Int) (xs := [x]) (v := lsv) (i := 0) Try.underlying25 rfl rfl (vc_sl hls (VcR.consv hc hu.flat.ro VcR.nil)) rfl (by omega) (by simp)) ?_
     refine x_val (v := u) 8 [7, 6, 5, 4, 3, 2, 1, 0] rfl (by kernel_rfl) (by kernel_rfl) rfl (e_load1 tpL_ka rfl (ow_atv hc hls rfl)) ?_
     refine x_one 9 rfl (by kernel_rfl) rfl ?_
     refine o_buildSlice (α := Vc) γ (is p) (is p) (p, 0) rfl [c] Try.underlying25 tpL_ka (by decide) (by decide) (vs := [(0, u)]) rfl rfl (.cons (vc_els hc (sl_cells1 hu.flat)) .nil) ?_
     intro g5 w5 v5 ch5 o5
     refine x_one 10 rfl (by kernel_rfl) rfl ?_
     replace hu := hu.chg ch5 (not_no _) (not_no _)
     replace hls := hls.chg ch5 (not_no _) (not_no _)
     replace hK := hK.chg ch5 (not_no _)
     replace bx3 := bx3.chg ch5 (not_no _)
     refine o_append_row hc (α := Int) (xss := K) (i := i) (γ := g5) Try.underlying25 tpL_ka rfl rfl rfl hK o5.flat hu ki' (by decide) (by omega) ?_
     intro g6 w6 v6 ch6 o6 r6
     refine x_pure (v := Value.pointer (some ⟨bb, 0, none⟩)) 11 rfl (by kernel_rfl) (by kernel_rfl) rfl (fun w => e_nilCheck rfl) ?_
     refine x_pure (v := Value.pointer (some ⟨bb, 0, none⟩)) 12 rfl (by kernel_rfl) (by kernel_rfl) rfl (fun w => e_fieldAddr Try.underlying36 rfl rfl rfl rfl) ?_
     refine x_one 13 rfl (by kernel_rfl) rfl ?_
     have hn6 : ∀ {m : Nat}, m ≠ i → m ≠ k → ∀ c, is m c → ¬ (row i 0 c ∨ row k (j + 1) c) := fun {m} h1 h2 c h3 h4 => by
       have e3 : c.1 = m := h3
       rcases h4 with h4 | h4
       · exact h1 (e3.symm.trans (row_is c h4))
       · exact h2 (e3.symm.trans (row_is c h4))
     replace bx3 := bx3.chg ch6 (hn6 qi qk)
     replace hls := hls.chg ch6 (hn6 pi pk) (hn6 pi pk)
     refine o_store_bx1 (cs' := [v6, Value.int .i64 (s + (min (sCap u : Int) ((List.length x : Int) + 2000)))]) tpLL_ka rfl rfl bx3 (sl_cells1 o6.sl) (Nat.le_of_ble_eq_true rfl) (sl_one o6.sl) rfl ?_
     intro w7 ch7 bx7
     refine x_nil (by kernel_rfl) ?_
     refine run_inBlock ?_
     refine mid (v6, K ++ [x], s + (min (sCap u : Int) ((List.length x : Int) + 2000)), g6) _ _ ⟨rfl, rfl, rfl, ?_, bx7, o6.chg ch7 (is_ne iq'), hls.chg ch7 (is_ne pq') (is_ne pq'), KInv.add hj c1 c2 (by omega), r6.chg ch7 ?_⟩
     · refine chgJ C2 (chgJ (ch3.mono fun c h => .inl h) (chgJ (chgN ch4) (chgJ (chgN ch5) (chgJ (ch6.mono fun c h => ?_) (ch7.mono fun c h => .inl h)))))
       rcases h with h | h
       · unfold row at h; subst h; exact .inr (.inl ⟨rfl, rfl⟩)
       · unfold row at h; subst h; exact .inr (.inr ⟨rfl, rfl⟩)
     · intro c h1 h2
       have e2 : c.1 = q := h2
       rcases h1 with h1 | h1
       · exact qi (e2.symm.trans h1.1)
       · exact qk (e2.symm.trans h1.1)
    refine run_cond_f rfl (decide_eq_false c2) ?_
    refine run_skip ?_
    refine run_inBlock ?_
    exact mid (bl, K, s, γ) _ _ ⟨rfl, rfl, rfl, C2, hbx, hK, hls, hj, hleft⟩
   refine l_skip (want_n rfl rfl rfl (decide_eq_false c1)) ?_
   refine l_skip (want_n rfl rfl rfl (decide_eq_false c1)) ?_
   refine l_skip (want_n rfl rfl rfl (decide_eq_false c1)) ?_
   refine l_skip (want_n rfl rfl rfl (decide_eq_false c1)) ?_
   refine l_skip (want_n rfl rfl rfl (decide_eq_false c1)) ?_
   refine l_skip (want_n rfl rfl rfl (decide_eq_false c1)) ?_
   refine l_skip (want_n rfl rfl rfl (decide_eq_false c1)) ?_
   refine lv (Value.bool false) rfl (e_pick_f rfl (decide_eq_false c1) rfl) ?_
   refine l_nil ?_
   refine run_cond_f rfl rfl ?_
   refine run_skip ?_
   refine run_inBlock ?_
   exact mid (bl, K, s, γ) _ _ ⟨rfl, rfl, rfl, C2, hbx, hK, hls, hj, hleft⟩
  clear hbx hK hu hls hj
  rintro ⟨b0, b1, b2, g1⟩ f1 w1 ⟨z0, z1, z4, hch, hbx, hK, hls, hj, hs⟩
  refine run_region rfl ?_
  refine lv (Value.int .i64 0) rfl (e_move z4) ?_
  refine lv (Value.int .i64 1) rfl (e_add (m := 0) (n := 1) rfl rfl (by omega)) ?_
  refine lv (Value.int .i64 1) rfl (e_assign rfl) ?_
  refine l_nil ?_
  refine run_inLoop ?_
  refine run_seq ?_
  refine run_seq ?_
  refine run_region rfl ?_
  refine lv (Value.int .i64 1) rfl (e_move rfl) ?_
  refine lv (lsv) rfl (e_move z1) ?_
  refine lv (Value.int .i64 1) rfl (e_len (α := Vc) (xs := [c]) Try.underlying25 rfl hls.flat) ?_
  refine lv (Value.bool false) rfl (e_lss (m := 1) (n := 1) rfl rfl) ?_
  refine l_nil ?_
  refine run_cond_f rfl rfl ?_
  refine run_exit rfl ?_
  refine run_end (vs := []) Try.func38 .nil ?_
  exact ⟨(b0, b1, b2, g1), rfl, hch, hbx, hK, hj, hs⟩
set_option maxRecDepth 20000 in
set_option maxHeartbeats 1000000 in
theorem KeepAll_lift {γ : Cmap} {w : World} {q i k bb : Nat} {bl l_v : Value} {K : List (List Int)} {s : Int} {xss : List (List Int)}
    (hbx : Bx γ (is q) w bb [bl, Value.int .i64 s]) (hK : Nst γ i w bl K) (hl : Nst γ k w l_v xss) (hj : KInv K s) (hlen : xss.length ≤ 1000000)
    (qi : Nat.beq q i = false) (qk : Nat.beq q k = false) (ki : Nat.beq k i = false) :
    Calls Try.prog 37 (List.toArray [Value.pointer (some ⟨bb, 0, none⟩), l_v]) w (fun ee w' => ∃ xx : Value × List (List Int) × Int × Cmap, ee = .returned ((fun _ => Value.tuple (List.toArray [])) xx) ∧ (fun (xx : Value × List (List Int) × Int × Cmap) (w' : World) => Chg (j3 q i k) γ w xx.2.2.2 w' ∧ Bx xx.2.2.2 (is q) w' bb [xx.1, Value.int .i64 xx.2.2.1] ∧ Nst xx.2.2.2 i w' xx.1 xx.2.1 ∧ KInv xx.2.1 xx.2.2.1 ∧ Sl xx.2.2.2 (isr k i) w' l_v xss) xx w') := by
  obtain ⟨us, hg⟩ := GvInv.start (i := i) hl
  have qi0 := beq_ne qi
  have qk0 := beq_ne qk
  have ki0 := beq_ne ki
  refine calls_of_run Try.func37 rfl (Nat.le_of_ble_eq_true rfl) ?_
  refine run_seq (run_region rfl ?_)
  refine lv (Value.int .i64 0) rfl (e_assign rfl) ?_
  refine l_nil ?_
  refine run_block ?_
  refine run_loop (σ := Nat × Value × (List (List Int)) × Int × Cmap) (fun ⟨j, b0, b1, b2, gq⟩ f w' => f 0 = Value.pointer (some ⟨bb, 0, none⟩) ∧ f 1 = l_v ∧ f 4 = Value.int .i64 (j : Int) ∧ j ≤ xss.length ∧ Chg (j3 q i k) γ w gq w' ∧ Bx gq (is q) w' bb [b0, Value.int .i64 b2] ∧ Nst gq i w' b0 b1 ∧ KInv b1 b2 ∧ GvInv gq i k j w' l_v us xss) (fun ⟨j, _⟩ => xss.length - j) (0, bl, K, s, γ) ⟨rfl, rfl, rfl, Nat.zero_le _, Chg.refl _ _ _, hbx, hK, hj, hg⟩ ?_
  clear hbx hK hl hj hg
  rintro ⟨j, b0, b1, b2, g1⟩ f1 w1 ⟨z0, z1, z4, hjl, hch, hbx, hK, hj, hg⟩ back
  have hul := hg.len
  have hsm := hg.heads.flat.small
  refine run_seq (run_seq (run_region rfl ?_))
  refine lv (Value.int .i64 (j : Int)) rfl (e_move z4) ?_
  refine lv (l_v) rfl (e_move z1) ?_
  refine lv (Value.int .i64 (us.length : Int)) rfl (e_len (α := Vc) (xs := us) Try.underlying25 rfl hg.heads.flat) ?_
  refine lv (Value.bool (decide ((j : Int) < (us.length : Int)))) rfl (e_lss (m := (j : Int)) (n := (us.length : Int)) rfl rfl) ?_
  refine l_nil ?_
  by_cases hc : (j : Int) < (us.length : Int)
  ·
   have hjx : j < xss.length := by omega
   have hju : j < us.length := by omega
   refine run_cond_t rfl (decide_eq_true hc) ?_
   refine run_skip ?_
   refine run_seq ?_
   refine run_block ?_
   have hu : us[j]? = some us[j] := List.getElem?_eq_getElem hju
   have hx : xss[j]? = some xss[j] := List.getElem?_eq_getElem hjx
   have hrow := (hg.rows j _ _ hu hx).2 (by omega)
   refine run_region rfl ?_
   refine lv (Value.pointer (some ⟨bb, 0, none⟩)) rfl (e_move z0) ?_
   refine lv (l_v) rfl (e_move z1) ?_
   refine lv (Value.int .i64 (j : Int)) rfl (e_move z4) ?_
   refine lv (Value.pointer (some (eAddr l_v 1 (Int.toNat (j : Int))))) rfl (e_indexAddr (α := Vc) (xs := us) (v := l_v) (i := (j : Int)) Try.underlying25 rfl rfl hg.heads.flat rfl (by omega) (by omega)) ?_
   refine lv (us[j].v) rfl (e_load1 tpL_ka rfl (ow_at hg.heads hu)) ?_
   refine l_op rfl ?_
   refine o_buildSlice (α := Vc) g1 (is (q + i + k + 1)) (is (q + i + k + 1)) (q + i + k + 1, 0) rfl [us[j]] Try.underlying25 tpL_ka (by decide) (by decide) (vs := [(0, us[j].v)]) rfl rfl (.cons (vc_els rfl (sl_cells1 hrow.flat)) .nil) ?_
   intro g2 w2 v2 ch2 o2
   refine l_op rfl ?_
   have hn0 : ∀ r c, row k r c → ¬ no c := fun r c _ h => h
   refine o_callx (σ := Value × (List (List Int)) × Int × Cmap) (V := fun _ => Value.tuple (List.toArray [])) (e_call (vals := [Value.pointer (some ⟨bb, 0, none⟩), v2]) Try.func38 bdK_ka nmK_ka rfl) (Keep_one (q := q) (i := i) (k := k) (j := j) (p := q + i + k + 1) (hbx.chg ch2 (not_no _)) (hK.chg ch2 (not_no _)) (hrow.chg ch2 (not_no _) (not_no _)) rfl o2 hj qi0 qk0 ki0 (by omega) (by omega) (by omega)) ?_
   rintro ⟨b0', b1', b2', g3⟩ w3 ⟨ch3, hbx3, hK3, hj3, hs3⟩
   have hg2 : GvInv g2 i k j w2 l_v us xss := ⟨hg.heads.chg ch2 (not_no _) (not_no _), hg.len, fun r u x h1 h2 => ⟨fun h => ((hg.rows r u x h1 h2).1 h).chg ch2 (fun c _ h => h), fun h => ((hg.rows r u x h1 h2).2 h).chg ch2 (not_no _) (not_no _)⟩⟩
   have hg3 := hg2.next ch3 (beq_of_ne qk0.symm) (beq_of_ne ki0) (beq_of_ne qi0.symm) hu hx hs3
   refine l_nil ?_
   refine run_inBlock ?_
   refine run_region rfl ?_
   refine lv (Value.int .i64 (j : Int)) rfl (e_move z4) ?_
   refine lv (Value.int .i64 ((j : Int) + 1)) rfl (e_add (m := (j : Int)) (n := 1) rfl rfl (by omega)) ?_
   refine lv (Value.int .i64 ((j : Int) + 1)) rfl (e_assign rfl) ?_
   refine l_nil ?_
   refine back (j + 1, b0', b1', b2', g3) _ _ ⟨z0, z1, rfl, by omega, chgJ hch (chgJ (chgN ch2) (ch3.mono jr_j3)), hbx3, hK3, hj3, hg3⟩ ?_
   show xss.length - (j + 1) < xss.length - j
   omega
  refine run_cond_f rfl (decide_eq_false hc) ?_
  refine run_exit rfl ?_
  refine run_end (vs := []) Try.func37 .nil ?_
  exact ⟨(b0, b1, b2, g1), rfl, hch, hbx, hK, hj, hg.done (by omega)⟩
end TL
