import Derived.Test.YtbadiajeohbpcaaGTlP2
import Derived.Test.YtbadiajeohbpcaaGTlGmA
import Derived.Test.YtbadiajeohbpcaaProg
set_option linter.all false
set_option maxRecDepth 20000
namespace TL
open Go Go.Proofs
theorem ky : Try.prog.follows .mixedOrders = true := by kernel_rfl
theorem ik : Tp Try.prog 25 false 1 24 (.slice none 0 0) := Tp.of (by kernel_rfl)
theorem lc : Try.f60.body.isNone = false := rfl
theorem lf : (Try.f60.name == "runtime.NumGoroutine") = false := by decide +kernel
set_option maxHeartbeats 8000000 in
theorem kW (w0 : World) (i : Int) (k : Int) (ps : List ((Int) × (Int))) (ps_v : Value) (hps_v : Ro w0 ps_v ps) (ps_b : Nat) (hps_b : Bx c0 (is 0) w0 ps_b [ps_v]) (o : (Int) × (Int)) (o_b : Nat) (ho_b : Bx c0 (is 0) w0 o_b [vi o.1, vi o.2]) (hi : 0 ≤ i ∧ i < ps.length) (hk : 0 ≤ k ∧ k < ps.length) (ho : c4 o) (hps : cX ps) :
    Calls Try.prog 56 #[vi i, vi k, vp ps_b 0, vp o_b 0] w0 (fun ee w => ee = .returned (vi (ss o ps i k)) ∧ cQ w0.heap.size w0 w) := by
 refine aC Try.func56 rfl (Nat.le_of_ble_eq_true rfl) ?_
 have bH := bf.start w0
 have Rps := hps_v.sl
 obtain ⟨hi0, hi1⟩ := hi
 obtain ⟨hk0, hk1⟩ := hk
 have hbi := (hps.2 _ (bq hi0 hi1)).bd
 have hbk := (hps.2 _ (bq hk0 hk1)).bd
 have hbo := ho.bd
 have hwi := il hbo hbi
 have hwk := il hbo hbk
 obtain ⟨hs1, hs2⟩ := re ho hps hi0 hi1
 obtain ⟨hs3, hs4⟩ := re ho hps hk0 hk1
 unfold vA at hs1 hs2 hs3 hs4
 refine a7 (a6 rfl (ai 0 (aa (a7 ?_))))
 refine cR (σ := Nat × Nat × aP) (fun ⟨b11, b17, gq⟩ f w => bf w0 gq w ∧ f 0 = vi i ∧ f 1 = vi k ∧ f 7 = vp b11 0 ∧ f 8 = vp b17 0 ∧ Sl gq (is 0) w ps_v ps ∧ Bx gq (is 0) w ps_b [ps_v] ∧ Bx gq (is 0) w o_b [vi o.1, vi o.2] ∧ Bx gq (is 1) w b11 [vi ((aS (gI ps i) o).1), vi ((aS (gI ps i) o).2)] ∧ Bx gq (is 2) w b17 [vi ((aS (gI ps k) o).1), vi ((aS (gI ps k) o).2)]) c0 (bR [1, 2]) ky ?_ ?_
 ·
  intro mid
  intro w2 ch1
  replace hps_b := hps_b.cn ch1
  refine ht 0 rfl (aO.refl _ _ _) (fun w' hw' => af ik rfl (hps_b.chg hw' (bB rfl)) rfl) (ht (v := vi i) 1 rfl (aO.refl _ _ _) (fun w' hw' => aI rfl) ?_)
  replace Rps := Rps.cn ch1
  refine ht 2 rfl (aO.refl _ _ _) (fun w' hw' => ar (v := ps_v) (i := i) Try.underlying25 rfl rfl (Rps.chg hw' (bB rfl)) rfl (by omega) (by omega)) (ht (v := vg [vi ((gI ps i).1), vi ((gI ps i).2)]) 3 rfl (aO.refl _ _ _) (fun w' hw' => aN (v := ps_v) (i := i) ab rfl (Rps.chg hw' (bB rfl)) (by omega) (by omega) rfl) ?_)
  replace ho_b := ho_b.cn ch1
  refine ht 4 rfl (aO.refl _ _ _) (fun w' hw' => ad (ds := [vi o.1, vi o.2]) ab rfl (ho_b.chg hw' (bB rfl)) rfl rfl) (ht 6 rfl (aO.refl _ _ _) (fun w' hw' => af ik rfl (hps_b.chg hw' (bB rfl)) rfl) (ht (v := vi k) 7 rfl (aO.refl _ _ _) (fun w' hw' => aI rfl) (ht 8 rfl (aO.refl _ _ _) (fun w' hw' => ar (v := ps_v) (i := k) Try.underlying25 rfl rfl (Rps.chg hw' (bB rfl)) rfl (by omega) (by omega)) (ht (v := vg [vi ((gI ps k).1), vi ((gI ps k).2)]) 9 rfl (aO.refl _ _ _) (fun w' hw' => aN (v := ps_v) (i := k) ab rfl (Rps.chg hw' (bB rfl)) (by omega) (by omega) rfl) (ht 10 rfl (aO.refl _ _ _) (fun w' hw' => ad (ds := [vi o.1, vi o.2]) ab rfl (ho_b.chg hw' (bB rfl)) rfl rfl) ?_)))))
  refine bx 5 [12, 13] (by kernel_rfl) ⟨bl 5 rfl (by kernel_rfl) rfl ?_, bl 12 rfl (by kernel_rfl) rfl ?_, bl 13 rfl (by kernel_rfl) rfl ?_, trivial⟩
  ·
   refine aF (v := vg [vi ((aS (gI ps i) o).1), vi ((aS (gI ps i) o).2)]) (aw (vals := [vg [vi ((gI ps i).1), vi ((gI ps i).2)], vg [vi o.1, vi o.2]]) Try.func57 cA cw rfl) (c7 w2 (gI ps i) o ‹_› ‹_›) ?_
   intro w3 hb4
   replace hb4 := ak hb4 c0
   have hs5 : aO (bR [1, 2]) _ _ _ _ := hb4.n
   refine ⟨hs5.same, ?_⟩
   refine bx 11 [12, 13] (by kernel_rfl) ⟨bl 11 rfl (by kernel_rfl) rfl ?_, bl 12 rfl (by kernel_rfl) rfl ?_, bl 13 rfl (by kernel_rfl) rfl ?_, trivial⟩
   ·
    refine aF (v := vg [vi ((aS (gI ps k) o).1), vi ((aS (gI ps k) o).2)]) (aw (vals := [vg [vi ((gI ps k).1), vi ((gI ps k).2)], vg [vi o.1, vi o.2]]) Try.func57 cA cw rfl) (c7 w3 (gI ps k) o ‹_› ‹_›) ?_
    intro w6 hb7
    replace hb7 := ak hb7 c0
    have hs8 := hs5.seq (hb7.n)
    refine ⟨hs8.same, ?_⟩
    refine bx 12 [13] (by kernel_rfl) ⟨bl 12 rfl (by kernel_rfl) rfl ?_, bl 13 rfl (by kernel_rfl) rfl ?_, trivial⟩
    ·
     refine aQ c0 (is 1) (1, 0) rfl ab ?_
     intro g12 w9 b11 ch10 bx13
     replace bx13 : Bx g12 (is 1) w9 b11 [vi 0, vi 0] := bx13
     have hs14 := hs8.seq (ch10.n)
     refine ⟨hs14.same, ?_⟩
     refine aB 13 rfl (by kernel_rfl) rfl (aQ g12 (is 2) (2, 0) rfl ab ?_)
     intro g18 w15 b17 ch16 bx19
     replace bx19 : Bx g18 (is 2) w15 b17 [vi 0, vi 0] := bx19
     have hs20 := hs14.seq (ch16.n)
     refine ⟨hs20.same, ?_⟩
     refine aB 14 rfl (by kernel_rfl) rfl ?_
     replace bx13 := bx13.cn ch16
     refine ag (cs' := [vi ((aS (gI ps i) o).1), vi ((aS (gI ps i) o).2)]) ab rfl rfl bx13 rfl (Nat.le_of_ble_eq_true rfl) (AllOne.all (.cons rfl (.cons rfl .nil))) rfl ?_
     intro w21 ch22 bx23
     clear bx13
     have hs24 := hs20.seq (ch22.l rfl)
     refine ⟨hs24.same, ?_⟩
     refine aB 15 rfl (by kernel_rfl) rfl ?_
     replace bx19 := bx19.ce ch22
     refine ag (cs' := [vi ((aS (gI ps k) o).1), vi ((aS (gI ps k) o).2)]) ab rfl rfl bx19 rfl (Nat.le_of_ble_eq_true rfl) (AllOne.all (.cons rfl (.cons rfl .nil))) rfl ?_
     intro w25 ch26 bx27
     clear bx19
     have hs28 := hs24.seq (ch26.l rfl)
     refine ⟨hs28.same, ?_⟩
     refine bm (by kernel_rfl) ?_
     have C29 := cg [1, 2] (ch1.n.seq (hb4.n.seq (hb7.n.seq (ch10.n.seq (ch16.n.seq ((ch22.l rfl).seq (ch26.l rfl)))))))
     exact mid (b11, b17, g18) _ _ ⟨bH.ca C29, rfl, rfl, rfl, rfl, (Rps.ca hs28), (hps_b.ca hs28), (ho_b.ca hs28), bx23.ce ch26, bx27⟩
    ·
     refine aQ c0 (is 2) (2, 0) rfl ab ?_
     intro g33 w30 b32 ch31 bx34
     replace bx34 : Bx g33 (is 2) w30 b32 [vi 0, vi 0] := bx34
     have hs35 := hs8.seq (ch31.n)
     refine ⟨hs35.same, ?_⟩
     refine aB 12 rfl (by kernel_rfl) rfl (aQ g33 (is 1) (1, 0) rfl ab ?_)
     intro g39 w36 b38 ch37 bx40
     replace bx40 : Bx g39 (is 1) w36 b38 [vi 0, vi 0] := bx40
     have hs41 := hs35.seq (ch37.n)
     refine ⟨hs41.same, ?_⟩
     refine aB 14 rfl (by kernel_rfl) rfl (ag (cs' := [vi ((aS (gI ps i) o).1), vi ((aS (gI ps i) o).2)]) ab rfl rfl bx40 rfl (Nat.le_of_ble_eq_true rfl) (AllOne.all (.cons rfl (.cons rfl .nil))) rfl ?_)
     intro w42 ch43 bx44
     clear bx40
     have hs45 := hs41.seq (ch43.l rfl)
     refine ⟨hs45.same, ?_⟩
     refine aB 15 rfl (by kernel_rfl) rfl ?_
     replace bx34 := (bx34.cn ch37).ce ch43
     refine ag (cs' := [vi ((aS (gI ps k) o).1), vi ((aS (gI ps k) o).2)]) ab rfl rfl bx34 rfl (Nat.le_of_ble_eq_true rfl) (AllOne.all (.cons rfl (.cons rfl .nil))) rfl ?_
     intro w46 ch47 bx48
     clear bx34
     have hs49 := hs45.seq (ch47.l rfl)
     refine ⟨hs49.same, ?_⟩
     refine bm (by kernel_rfl) ?_
     have C50 := cg [1, 2] (ch1.n.seq (hb4.n.seq (hb7.n.seq (ch31.n.seq (ch37.n.seq ((ch43.l rfl).seq (ch47.l rfl)))))))
     exact mid (b38, b32, g39) _ _ ⟨bH.ca C50, rfl, rfl, rfl, rfl, (Rps.ca hs49), (hps_b.ca hs49), (ho_b.ca hs49), bx44.ce ch47, bx48⟩
   ·
    refine aQ c0 (is 1) (1, 0) rfl ab ?_
    intro g54 w51 b53 ch52 bx55
    replace bx55 : Bx g54 (is 1) w51 b53 [vi 0, vi 0] := bx55
    have hs56 := hs5.seq (ch52.n)
    refine ⟨hs56.same, ?_⟩
    refine bx 11 [13] (by kernel_rfl) ⟨bl 11 rfl (by kernel_rfl) rfl ?_, bl 13 rfl (by kernel_rfl) rfl ?_, trivial⟩
    ·
     refine aF (v := vg [vi ((aS (gI ps k) o).1), vi ((aS (gI ps k) o).2)]) (aw (vals := [vg [vi ((gI ps k).1), vi ((gI ps k).2)], vg [vi o.1, vi o.2]]) Try.func57 cA cw rfl) (c7 w51 (gI ps k) o ‹_› ‹_›) ?_
     intro w57 hb58
     replace hb58 := ak hb58 g54
     have hs59 := hs56.seq (hb58.n)
     refine ⟨hs59.same, ?_⟩
     refine aB 13 rfl (by kernel_rfl) rfl (aQ g54 (is 2) (2, 0) rfl ab ?_)
     intro g63 w60 b62 ch61 bx64
     replace bx64 : Bx g63 (is 2) w60 b62 [vi 0, vi 0] := bx64
     have hs65 := hs59.seq (ch61.n)
     refine ⟨hs65.same, ?_⟩
     refine aB 14 rfl (by kernel_rfl) rfl ?_
     replace bx55 := (bx55.cn hb58).cn ch61
     refine ag (cs' := [vi ((aS (gI ps i) o).1), vi ((aS (gI ps i) o).2)]) ab rfl rfl bx55 rfl (Nat.le_of_ble_eq_true rfl) (AllOne.all (.cons rfl (.cons rfl .nil))) rfl ?_
     intro w66 ch67 bx68
     clear bx55
     have hs69 := hs65.seq (ch67.l rfl)
     refine ⟨hs69.same, ?_⟩
     refine aB 15 rfl (by kernel_rfl) rfl ?_
     replace bx64 := bx64.ce ch67
     refine ag (cs' := [vi ((aS (gI ps k) o).1), vi ((aS (gI ps k) o).2)]) ab rfl rfl bx64 rfl (Nat.le_of_ble_eq_true rfl) (AllOne.all (.cons rfl (.cons rfl .nil))) rfl ?_
     intro w70 ch71 bx72
     clear bx64
     have hs73 := hs69.seq (ch71.l rfl)
     refine ⟨hs73.same, ?_⟩
     refine bm (by kernel_rfl) ?_
     have C74 := cg [1, 2] (ch1.n.seq (hb4.n.seq (ch52.n.seq (hb58.n.seq (ch61.n.seq ((ch67.l rfl).seq (ch71.l rfl)))))))
     exact mid (b53, b62, g63) _ _ ⟨bH.ca C74, rfl, rfl, rfl, rfl, (Rps.ca hs73), (hps_b.ca hs73), (ho_b.ca hs73), bx68.ce ch71, bx72⟩
    ·
     refine aQ g54 (is 2) (2, 0) rfl ab ?_
     intro g78 w75 b77 ch76 bx79
     replace bx79 : Bx g78 (is 2) w75 b77 [vi 0, vi 0] := bx79
     have hs80 := hs56.seq (ch76.n)
     refine ⟨hs80.same, ?_⟩
     refine aB 11 rfl (by kernel_rfl) rfl (aF (v := vg [vi ((aS (gI ps k) o).1), vi ((aS (gI ps k) o).2)]) (aw (vals := [vg [vi ((gI ps k).1), vi ((gI ps k).2)], vg [vi o.1, vi o.2]]) Try.func57 cA cw rfl) (c7 w75 (gI ps k) o ‹_› ‹_›) ?_)
     intro w81 hb82
     replace hb82 := ak hb82 g78
     have hs83 := hs80.seq (hb82.n)
     refine ⟨hs83.same, ?_⟩
     refine aB 14 rfl (by kernel_rfl) rfl ?_
     replace bx55 := (bx55.cn ch76).cn hb82
     refine ag (cs' := [vi ((aS (gI ps i) o).1), vi ((aS (gI ps i) o).2)]) ab rfl rfl bx55 rfl (Nat.le_of_ble_eq_true rfl) (AllOne.all (.cons rfl (.cons rfl .nil))) rfl ?_
     intro w84 ch85 bx86
     clear bx55
     have hs87 := hs83.seq (ch85.l rfl)
     refine ⟨hs87.same, ?_⟩
     refine aB 15 rfl (by kernel_rfl) rfl ?_
     replace bx79 := (bx79.cn hb82).ce ch85
     refine ag (cs' := [vi ((aS (gI ps k) o).1), vi ((aS (gI ps k) o).2)]) ab rfl rfl bx79 rfl (Nat.le_of_ble_eq_true rfl) (AllOne.all (.cons rfl (.cons rfl .nil))) rfl ?_
     intro w88 ch89 bx90
     clear bx79
     have hs91 := hs87.seq (ch89.l rfl)
     refine ⟨hs91.same, ?_⟩
     refine bm (by kernel_rfl) ?_
     have C92 := cg [1, 2] (ch1.n.seq (hb4.n.seq (ch52.n.seq (ch76.n.seq (hb82.n.seq ((ch85.l rfl).seq (ch89.l rfl)))))))
     exact mid (b53, b77, g78) _ _ ⟨bH.ca C92, rfl, rfl, rfl, rfl, (Rps.ca hs91), (hps_b.ca hs91), (ho_b.ca hs91), bx86.ce ch89, bx90⟩
   ·
    refine aQ c0 (is 2) (2, 0) rfl ab ?_
    intro g96 w93 b95 ch94 bx97
    replace bx97 : Bx g96 (is 2) w93 b95 [vi 0, vi 0] := bx97
    have hs98 := hs5.seq (ch94.n)
    refine ⟨hs98.same, ?_⟩
    refine bx 11 [12] (by kernel_rfl) ⟨bl 11 rfl (by kernel_rfl) rfl ?_, bl 12 rfl (by kernel_rfl) rfl ?_, trivial⟩
    ·
     refine aF (v := vg [vi ((aS (gI ps k) o).1), vi ((aS (gI ps k) o).2)]) (aw (vals := [vg [vi ((gI ps k).1), vi ((gI ps k).2)], vg [vi o.1, vi o.2]]) Try.func57 cA cw rfl) (c7 w93 (gI ps k) o ‹_› ‹_›) ?_
     intro w99 hb100
     replace hb100 := ak hb100 g96
     have hs101 := hs98.seq (hb100.n)
     refine ⟨hs101.same, ?_⟩
     refine aB 12 rfl (by kernel_rfl) rfl (aQ g96 (is 1) (1, 0) rfl ab ?_)
     intro g105 w102 b104 ch103 bx106
     replace bx106 : Bx g105 (is 1) w102 b104 [vi 0, vi 0] := bx106
     have hs107 := hs101.seq (ch103.n)
     refine ⟨hs107.same, ?_⟩
     refine aB 14 rfl (by kernel_rfl) rfl (ag (cs' := [vi ((aS (gI ps i) o).1), vi ((aS (gI ps i) o).2)]) ab rfl rfl bx106 rfl (Nat.le_of_ble_eq_true rfl) (AllOne.all (.cons rfl (.cons rfl .nil))) rfl ?_)
     intro w108 ch109 bx110
     clear bx106
     have hs111 := hs107.seq (ch109.l rfl)
     refine ⟨hs111.same, ?_⟩
     refine aB 15 rfl (by kernel_rfl) rfl ?_
     have C115 := cg [1] (hb100.n.seq (ch103.n.seq (ch109.l rfl)))
     replace bx97 := bx97.ca C115
     refine ag (cs' := [vi ((aS (gI ps k) o).1), vi ((aS (gI ps k) o).2)]) ab rfl rfl bx97 rfl (Nat.le_of_ble_eq_true rfl) (AllOne.all (.cons rfl (.cons rfl .nil))) rfl ?_
     intro w112 ch113 bx114
     clear bx97
     have hs116 := hs111.seq (ch113.l rfl)
     refine ⟨hs116.same, ?_⟩
     refine bm (by kernel_rfl) ?_
     have C117 := cg [1, 2] (ch1.n.seq (hb4.n.seq (ch94.n.seq (hb100.n.seq (ch103.n.seq ((ch109.l rfl).seq (ch113.l rfl)))))))
     exact mid (b104, b95, g105) _ _ ⟨bH.ca C117, rfl, rfl, rfl, rfl, (Rps.ca hs116), (hps_b.ca hs116), (ho_b.ca hs116), bx110.ce ch113, bx114⟩
    ·
     refine aQ g96 (is 1) (1, 0) rfl ab ?_
     intro g121 w118 b120 ch119 bx122
     replace bx122 : Bx g121 (is 1) w118 b120 [vi 0, vi 0] := bx122
     have hs123 := hs98.seq (ch119.n)
     refine ⟨hs123.same, ?_⟩
     refine aB 11 rfl (by kernel_rfl) rfl (aF (v := vg [vi ((aS (gI ps k) o).1), vi ((aS (gI ps k) o).2)]) (aw (vals := [vg [vi ((gI ps k).1), vi ((gI ps k).2)], vg [vi o.1, vi o.2]]) Try.func57 cA cw rfl) (c7 w118 (gI ps k) o ‹_› ‹_›) ?_)
     intro w124 hb125
     replace hb125 := ak hb125 g121
     have hs126 := hs123.seq (hb125.n)
     refine ⟨hs126.same, ?_⟩
     refine aB 14 rfl (by kernel_rfl) rfl ?_
     replace bx122 := bx122.cn hb125
     refine ag (cs' := [vi ((aS (gI ps i) o).1), vi ((aS (gI ps i) o).2)]) ab rfl rfl bx122 rfl (Nat.le_of_ble_eq_true rfl) (AllOne.all (.cons rfl (.cons rfl .nil))) rfl ?_
     intro w127 ch128 bx129
     clear bx122
     have hs130 := hs126.seq (ch128.l rfl)
     refine ⟨hs130.same, ?_⟩
     refine aB 15 rfl (by kernel_rfl) rfl ?_
     have C134 := cg [1] (ch119.n.seq (hb125.n.seq (ch128.l rfl)))
     replace bx97 := bx97.ca C134
     refine ag (cs' := [vi ((aS (gI ps k) o).1), vi ((aS (gI ps k) o).2)]) ab rfl rfl bx97 rfl (Nat.le_of_ble_eq_true rfl) (AllOne.all (.cons rfl (.cons rfl .nil))) rfl ?_
     intro w131 ch132 bx133
     clear bx97
     have hs135 := hs130.seq (ch132.l rfl)
     refine ⟨hs135.same, ?_⟩
     refine bm (by kernel_rfl) ?_
     have C136 := cg [1, 2] (ch1.n.seq (hb4.n.seq (ch94.n.seq (ch119.n.seq (hb125.n.seq ((ch128.l rfl).seq (ch132.l rfl)))))))
     exact mid (b120, b95, g121) _ _ ⟨bH.ca C136, rfl, rfl, rfl, rfl, (Rps.ca hs135), (hps_b.ca hs135), (ho_b.ca hs135), bx129.ce ch132, bx133⟩
  ·
   refine aQ c0 (is 1) (1, 0) rfl ab ?_
   intro g140 w137 b139 ch138 bx141
   replace bx141 : Bx g140 (is 1) w137 b139 [vi 0, vi 0] := bx141
   have hs142 : aO (bR [1, 2]) _ _ _ _ := ch138.n
   refine ⟨hs142.same, ?_⟩
   refine bx 5 [13] (by kernel_rfl) ⟨bl 5 rfl (by kernel_rfl) rfl ?_, bl 13 rfl (by kernel_rfl) rfl ?_, trivial⟩
   ·
    refine aF (v := vg [vi ((aS (gI ps i) o).1), vi ((aS (gI ps i) o).2)]) (aw (vals := [vg [vi ((gI ps i).1), vi ((gI ps i).2)], vg [vi o.1, vi o.2]]) Try.func57 cA cw rfl) (c7 w137 (gI ps i) o ‹_› ‹_›) ?_
    intro w143 hb144
    replace hb144 := ak hb144 g140
    have hs145 := hs142.seq (hb144.n)
    refine ⟨hs145.same, ?_⟩
    refine bx 11 [13] (by kernel_rfl) ⟨bl 11 rfl (by kernel_rfl) rfl ?_, bl 13 rfl (by kernel_rfl) rfl ?_, trivial⟩
    ·
     refine aF (v := vg [vi ((aS (gI ps k) o).1), vi ((aS (gI ps k) o).2)]) (aw (vals := [vg [vi ((gI ps k).1), vi ((gI ps k).2)], vg [vi o.1, vi o.2]]) Try.func57 cA cw rfl) (c7 w143 (gI ps k) o ‹_› ‹_›) ?_
     intro w146 hb147
     replace hb147 := ak hb147 g140
     have hs148 := hs145.seq (hb147.n)
     refine ⟨hs148.same, ?_⟩
     refine aB 13 rfl (by kernel_rfl) rfl (aQ g140 (is 2) (2, 0) rfl ab ?_)
     intro g152 w149 b151 ch150 bx153
     replace bx153 : Bx g152 (is 2) w149 b151 [vi 0, vi 0] := bx153
     have hs154 := hs148.seq (ch150.n)
     refine ⟨hs154.same, ?_⟩
     refine aB 14 rfl (by kernel_rfl) rfl ?_
     have C158 := cg [] (hb144.n.seq (hb147.n.seq ch150.n))
     replace bx141 := bx141.ca C158
     refine ag (cs' := [vi ((aS (gI ps i) o).1), vi ((aS (gI ps i) o).2)]) ab rfl rfl bx141 rfl (Nat.le_of_ble_eq_true rfl) (AllOne.all (.cons rfl (.cons rfl .nil))) rfl ?_
     intro w155 ch156 bx157
     clear bx141
     have hs159 := hs154.seq (ch156.l rfl)
     refine ⟨hs159.same, ?_⟩
     refine aB 15 rfl (by kernel_rfl) rfl ?_
     replace bx153 := bx153.ce ch156
     refine ag (cs' := [vi ((aS (gI ps k) o).1), vi ((aS (gI ps k) o).2)]) ab rfl rfl bx153 rfl (Nat.le_of_ble_eq_true rfl) (AllOne.all (.cons rfl (.cons rfl .nil))) rfl ?_
     intro w160 ch161 bx162
     clear bx153
     have hs163 := hs159.seq (ch161.l rfl)
     refine ⟨hs163.same, ?_⟩
     refine bm (by kernel_rfl) ?_
     have C164 := cg [1, 2] (ch1.n.seq (ch138.n.seq (hb144.n.seq (hb147.n.seq (ch150.n.seq ((ch156.l rfl).seq (ch161.l rfl)))))))
     exact mid (b139, b151, g152) _ _ ⟨bH.ca C164, rfl, rfl, rfl, rfl, (Rps.ca hs163), (hps_b.ca hs163), (ho_b.ca hs163), bx157.ce ch161, bx162⟩
    ·
     refine aQ g140 (is 2) (2, 0) rfl ab ?_
     intro g168 w165 b167 ch166 bx169
     replace bx169 : Bx g168 (is 2) w165 b167 [vi 0, vi 0] := bx169
     have hs170 := hs145.seq (ch166.n)
     refine ⟨hs170.same, ?_⟩
     refine aB 11 rfl (by kernel_rfl) rfl (aF (v := vg [vi ((aS (gI ps k) o).1), vi ((aS (gI ps k) o).2)]) (aw (vals := [vg [vi ((gI ps k).1), vi ((gI ps k).2)], vg [vi o.1, vi o.2]]) Try.func57 cA cw rfl) (c7 w165 (gI ps k) o ‹_› ‹_›) ?_)
     intro w171 hb172
     replace hb172 := ak hb172 g168
     have hs173 := hs170.seq (hb172.n)
     refine ⟨hs173.same, ?_⟩
     refine aB 14 rfl (by kernel_rfl) rfl ?_
     have C177 := cg [] (hb144.n.seq (ch166.n.seq hb172.n))
     replace bx141 := bx141.ca C177
     refine ag (cs' := [vi ((aS (gI ps i) o).1), vi ((aS (gI ps i) o).2)]) ab rfl rfl bx141 rfl (Nat.le_of_ble_eq_true rfl) (AllOne.all (.cons rfl (.cons rfl .nil))) rfl ?_
     intro w174 ch175 bx176
     clear bx141
     have hs178 := hs173.seq (ch175.l rfl)
     refine ⟨hs178.same, ?_⟩
     refine aB 15 rfl (by kernel_rfl) rfl ?_
     replace bx169 := (bx169.cn hb172).ce ch175
     refine ag (cs' := [vi ((aS (gI ps k) o).1), vi ((aS (gI ps k) o).2)]) ab rfl rfl bx169 rfl (Nat.le_of_ble_eq_true rfl) (AllOne.all (.cons rfl (.cons rfl .nil))) rfl ?_
     intro w179 ch180 bx181
     clear bx169
     have hs182 := hs178.seq (ch180.l rfl)
     refine ⟨hs182.same, ?_⟩
     refine bm (by kernel_rfl) ?_
     have C183 := cg [1, 2] (ch1.n.seq (ch138.n.seq (hb144.n.seq (ch166.n.seq (hb172.n.seq ((ch175.l rfl).seq (ch180.l rfl)))))))
     exact mid (b139, b167, g168) _ _ ⟨bH.ca C183, rfl, rfl, rfl, rfl, (Rps.ca hs182), (hps_b.ca hs182), (ho_b.ca hs182), bx176.ce ch180, bx181⟩
   ·
    refine aQ g140 (is 2) (2, 0) rfl ab ?_
    intro g187 w184 b186 ch185 bx188
    replace bx188 : Bx g187 (is 2) w184 b186 [vi 0, vi 0] := bx188
    have hs189 := hs142.seq (ch185.n)
    refine ⟨hs189.same, ?_⟩
    refine aB 5 rfl (by kernel_rfl) rfl (aF (v := vg [vi ((aS (gI ps i) o).1), vi ((aS (gI ps i) o).2)]) (aw (vals := [vg [vi ((gI ps i).1), vi ((gI ps i).2)], vg [vi o.1, vi o.2]]) Try.func57 cA cw rfl) (c7 w184 (gI ps i) o ‹_› ‹_›) ?_)
    intro w190 hb191
    replace hb191 := ak hb191 g187
    have hs192 := hs189.seq (hb191.n)
    refine ⟨hs192.same, ?_⟩
    refine aB 11 rfl (by kernel_rfl) rfl (aF (v := vg [vi ((aS (gI ps k) o).1), vi ((aS (gI ps k) o).2)]) (aw (vals := [vg [vi ((gI ps k).1), vi ((gI ps k).2)], vg [vi o.1, vi o.2]]) Try.func57 cA cw rfl) (c7 w190 (gI ps k) o ‹_› ‹_›) ?_)
    intro w193 hb194
    replace hb194 := ak hb194 g187
    have hs195 := hs192.seq (hb194.n)
    refine ⟨hs195.same, ?_⟩
    refine aB 14 rfl (by kernel_rfl) rfl ?_
    have C199 := cg [] (ch185.n.seq (hb191.n.seq hb194.n))
    replace bx141 := bx141.ca C199
    refine ag (cs' := [vi ((aS (gI ps i) o).1), vi ((aS (gI ps i) o).2)]) ab rfl rfl bx141 rfl (Nat.le_of_ble_eq_true rfl) (AllOne.all (.cons rfl (.cons rfl .nil))) rfl ?_
    intro w196 ch197 bx198
    clear bx141
    have hs200 := hs195.seq (ch197.l rfl)
    refine ⟨hs200.same, ?_⟩
    refine aB 15 rfl (by kernel_rfl) rfl ?_
    have C204 := cg [1] (hb191.n.seq (hb194.n.seq (ch197.l rfl)))
    replace bx188 := bx188.ca C204
    refine ag (cs' := [vi ((aS (gI ps k) o).1), vi ((aS (gI ps k) o).2)]) ab rfl rfl bx188 rfl (Nat.le_of_ble_eq_true rfl) (AllOne.all (.cons rfl (.cons rfl .nil))) rfl ?_
    intro w201 ch202 bx203
    clear bx188
    have hs205 := hs200.seq (ch202.l rfl)
    refine ⟨hs205.same, ?_⟩
    refine bm (by kernel_rfl) ?_
    have C206 := cg [1, 2] (ch1.n.seq (ch138.n.seq (ch185.n.seq (hb191.n.seq (hb194.n.seq ((ch197.l rfl).seq (ch202.l rfl)))))))
    exact mid (b139, b186, g187) _ _ ⟨bH.ca C206, rfl, rfl, rfl, rfl, (Rps.ca hs205), (hps_b.ca hs205), (ho_b.ca hs205), bx198.ce ch202, bx203⟩
  ·
   refine aQ c0 (is 2) (2, 0) rfl ab ?_
   intro g210 w207 b209 ch208 bx211
   replace bx211 : Bx g210 (is 2) w207 b209 [vi 0, vi 0] := bx211
   have hs212 : aO (bR [1, 2]) _ _ _ _ := ch208.n
   refine ⟨hs212.same, ?_⟩
   refine bx 5 [12] (by kernel_rfl) ⟨bl 5 rfl (by kernel_rfl) rfl ?_, bl 12 rfl (by kernel_rfl) rfl ?_, trivial⟩
   ·
    refine aF (v := vg [vi ((aS (gI ps i) o).1), vi ((aS (gI ps i) o).2)]) (aw (vals := [vg [vi ((gI ps i).1), vi ((gI ps i).2)], vg [vi o.1, vi o.2]]) Try.func57 cA cw rfl) (c7 w207 (gI ps i) o ‹_› ‹_›) ?_
    intro w213 hb214
    replace hb214 := ak hb214 g210
    have hs215 := hs212.seq (hb214.n)
    refine ⟨hs215.same, ?_⟩
    refine bx 11 [12] (by kernel_rfl) ⟨bl 11 rfl (by kernel_rfl) rfl ?_, bl 12 rfl (by kernel_rfl) rfl ?_, trivial⟩
    ·
     refine aF (v := vg [vi ((aS (gI ps k) o).1), vi ((aS (gI ps k) o).2)]) (aw (vals := [vg [vi ((gI ps k).1), vi ((gI ps k).2)], vg [vi o.1, vi o.2]]) Try.func57 cA cw rfl) (c7 w213 (gI ps k) o ‹_› ‹_›) ?_
     intro w216 hb217
     replace hb217 := ak hb217 g210
     have hs218 := hs215.seq (hb217.n)
     refine ⟨hs218.same, ?_⟩
     refine aB 12 rfl (by kernel_rfl) rfl (aQ g210 (is 1) (1, 0) rfl ab ?_)
     intro g222 w219 b221 ch220 bx223
     replace bx223 : Bx g222 (is 1) w219 b221 [vi 0, vi 0] := bx223
     have hs224 := hs218.seq (ch220.n)
     refine ⟨hs224.same, ?_⟩
     refine aB 14 rfl (by kernel_rfl) rfl (ag (cs' := [vi ((aS (gI ps i) o).1), vi ((aS (gI ps i) o).2)]) ab rfl rfl bx223 rfl (Nat.le_of_ble_eq_true rfl) (AllOne.all (.cons rfl (.cons rfl .nil))) rfl ?_)
     intro w225 ch226 bx227
     clear bx223
     have hs228 := hs224.seq (ch226.l rfl)
     refine ⟨hs228.same, ?_⟩
     refine aB 15 rfl (by kernel_rfl) rfl ?_
     have C232 := cg [1] (hb214.n.seq (hb217.n.seq (ch220.n.seq (ch226.l rfl))))
     replace bx211 := bx211.ca C232
     refine ag (cs' := [vi ((aS (gI ps k) o).1), vi ((aS (gI ps k) o).2)]) ab rfl rfl bx211 rfl (Nat.le_of_ble_eq_true rfl) (AllOne.all (.cons rfl (.cons rfl .nil))) rfl ?_
     intro w229 ch230 bx231
     clear bx211
     have hs233 := hs228.seq (ch230.l rfl)
     refine ⟨hs233.same, ?_⟩
     refine bm (by kernel_rfl) ?_
     have C234 := cg [1, 2] (ch1.n.seq (ch208.n.seq (hb214.n.seq (hb217.n.seq (ch220.n.seq ((ch226.l rfl).seq (ch230.l rfl)))))))
     exact mid (b221, b209, g222) _ _ ⟨bH.ca C234, rfl, rfl, rfl, rfl, (Rps.ca hs233), (hps_b.ca hs233), (ho_b.ca hs233), bx227.ce ch230, bx231⟩
    ·
     refine aQ g210 (is 1) (1, 0) rfl ab ?_
     intro g238 w235 b237 ch236 bx239
     replace bx239 : Bx g238 (is 1) w235 b237 [vi 0, vi 0] := bx239
     have hs240 := hs215.seq (ch236.n)
     refine ⟨hs240.same, ?_⟩
     refine aB 11 rfl (by kernel_rfl) rfl (aF (v := vg [vi ((aS (gI ps k) o).1), vi ((aS (gI ps k) o).2)]) (aw (vals := [vg [vi ((gI ps k).1), vi ((gI ps k).2)], vg [vi o.1, vi o.2]]) Try.func57 cA cw rfl) (c7 w235 (gI ps k) o ‹_› ‹_›) ?_)
     intro w241 hb242
     replace hb242 := ak hb242 g238
     have hs243 := hs240.seq (hb242.n)
     refine ⟨hs243.same, ?_⟩
     refine aB 14 rfl (by kernel_rfl) rfl ?_
     replace bx239 := bx239.cn hb242
     refine ag (cs' := [vi ((aS (gI ps i) o).1), vi ((aS (gI ps i) o).2)]) ab rfl rfl bx239 rfl (Nat.le_of_ble_eq_true rfl) (AllOne.all (.cons rfl (.cons rfl .nil))) rfl ?_
     intro w244 ch245 bx246
     clear bx239
     have hs247 := hs243.seq (ch245.l rfl)
     refine ⟨hs247.same, ?_⟩
     refine aB 15 rfl (by kernel_rfl) rfl ?_
     have C251 := cg [1] (hb214.n.seq (ch236.n.seq (hb242.n.seq (ch245.l rfl))))
     replace bx211 := bx211.ca C251
     refine ag (cs' := [vi ((aS (gI ps k) o).1), vi ((aS (gI ps k) o).2)]) ab rfl rfl bx211 rfl (Nat.le_of_ble_eq_true rfl) (AllOne.all (.cons rfl (.cons rfl .nil))) rfl ?_
     intro w248 ch249 bx250
     clear bx211
     have hs252 := hs247.seq (ch249.l rfl)
     refine ⟨hs252.same, ?_⟩
     refine bm (by kernel_rfl) ?_
     have C253 := cg [1, 2] (ch1.n.seq (ch208.n.seq (hb214.n.seq (ch236.n.seq (hb242.n.seq ((ch245.l rfl).seq (ch249.l rfl)))))))
     exact mid (b237, b209, g238) _ _ ⟨bH.ca C253, rfl, rfl, rfl, rfl, (Rps.ca hs252), (hps_b.ca hs252), (ho_b.ca hs252), bx246.ce ch249, bx250⟩
   ·
    refine aQ g210 (is 1) (1, 0) rfl ab ?_
    intro g257 w254 b256 ch255 bx258
    replace bx258 : Bx g257 (is 1) w254 b256 [vi 0, vi 0] := bx258
    have hs259 := hs212.seq (ch255.n)
    refine ⟨hs259.same, ?_⟩
    refine aB 5 rfl (by kernel_rfl) rfl (aF (v := vg [vi ((aS (gI ps i) o).1), vi ((aS (gI ps i) o).2)]) (aw (vals := [vg [vi ((gI ps i).1), vi ((gI ps i).2)], vg [vi o.1, vi o.2]]) Try.func57 cA cw rfl) (c7 w254 (gI ps i) o ‹_› ‹_›) ?_)
    intro w260 hb261
    replace hb261 := ak hb261 g257
    have hs262 := hs259.seq (hb261.n)
    refine ⟨hs262.same, ?_⟩
    refine aB 11 rfl (by kernel_rfl) rfl (aF (v := vg [vi ((aS (gI ps k) o).1), vi ((aS (gI ps k) o).2)]) (aw (vals := [vg [vi ((gI ps k).1), vi ((gI ps k).2)], vg [vi o.1, vi o.2]]) Try.func57 cA cw rfl) (c7 w260 (gI ps k) o ‹_› ‹_›) ?_)
    intro w263 hb264
    replace hb264 := ak hb264 g257
    have hs265 := hs262.seq (hb264.n)
    refine ⟨hs265.same, ?_⟩
    refine aB 14 rfl (by kernel_rfl) rfl ?_
    replace bx258 := (bx258.cn hb261).cn hb264
    refine ag (cs' := [vi ((aS (gI ps i) o).1), vi ((aS (gI ps i) o).2)]) ab rfl rfl bx258 rfl (Nat.le_of_ble_eq_true rfl) (AllOne.all (.cons rfl (.cons rfl .nil))) rfl ?_
    intro w266 ch267 bx268
    clear bx258
    have hs269 := hs265.seq (ch267.l rfl)
    refine ⟨hs269.same, ?_⟩
    refine aB 15 rfl (by kernel_rfl) rfl ?_
    have C273 := cg [1] (ch255.n.seq (hb261.n.seq (hb264.n.seq (ch267.l rfl))))
    replace bx211 := bx211.ca C273
    refine ag (cs' := [vi ((aS (gI ps k) o).1), vi ((aS (gI ps k) o).2)]) ab rfl rfl bx211 rfl (Nat.le_of_ble_eq_true rfl) (AllOne.all (.cons rfl (.cons rfl .nil))) rfl ?_
    intro w270 ch271 bx272
    clear bx211
    have hs274 := hs269.seq (ch271.l rfl)
    refine ⟨hs274.same, ?_⟩
    refine bm (by kernel_rfl) ?_
    have C275 := cg [1, 2] (ch1.n.seq (ch208.n.seq (ch255.n.seq (hb261.n.seq (hb264.n.seq ((ch267.l rfl).seq (ch271.l rfl)))))))
    exact mid (b256, b209, g257) _ _ ⟨bH.ca C275, rfl, rfl, rfl, rfl, (Rps.ca hs274), (hps_b.ca hs274), (ho_b.ca hs274), bx268.ce ch271, bx272⟩
 clear Rps hps_b ho_b bH
 rintro ⟨b11, b17, g278⟩ f276 w277 ⟨bH, zs0, zs1, zs7, zs8, Rps, hps_b, ho_b, bx23, bx27⟩
 refine a7 (dH g278 (bR []) ky ?_)
 intro w280 ch279
 replace bx23 := bx23.cn ch279
 refine ht 0 rfl (aO.refl _ _ _) (fun w' hw' => ad (ds := [vi ((aS (gI ps i) o).1), vi ((aS (gI ps i) o).2)]) ab zs7 (bx23.chg hw' (bB rfl)) rfl rfl) ?_
 replace bx27 := bx27.cn ch279
 refine ht 2 rfl (aO.refl _ _ _) (fun w' hw' => ad (ds := [vi ((aS (gI ps k) o).1), vi ((aS (gI ps k) o).2)]) ab zs8 (bx27.chg hw' (bB rfl)) rfl rfl) (ht 5 rfl (aO.refl _ _ _) (fun w' hw' => ad (ds := [vi ((aS (gI ps i) o).1), vi ((aS (gI ps i) o).2)]) ab zs7 (bx23.chg hw' (bB rfl)) rfl rfl) (ht 6 rfl (aO.refl _ _ _) (fun w' hw' => ad (ds := [vi ((aS (gI ps k) o).1), vi ((aS (gI ps k) o).2)]) ab zs8 (bx27.chg hw' (bB rfl)) rfl rfl) (ht 9 rfl (aO.refl _ _ _) (fun w' hw' => a8 Try.underlying45 rfl rfl zs7 rfl) (ht 10 rfl (aO.refl _ _ _) (fun w' hw' => af bc rfl (bx23.chg hw' (bB rfl)) rfl) (ht 11 rfl (aO.refl _ _ _) (fun w' hw' => a8 Try.underlying45 rfl rfl zs7 rfl) ?_)))))
 refine ht 12 rfl (aO.refl _ _ _) (fun w' hw' => af bc rfl (bx23.chg hw' (bB rfl)) rfl) (ht 13 rfl (aO.refl _ _ _) (fun w' hw' => cP (m := (aS (gI ps i) o).1) (n := (aS (gI ps i) o).1) rfl rfl (by (simp only [lY]; omega))) (ht 14 rfl (aO.refl _ _ _) (fun w' hw' => a8 Try.underlying45 rfl rfl zs7 rfl) (ht 15 rfl (aO.refl _ _ _) (fun w' hw' => af bc rfl (bx23.chg hw' (bB rfl)) rfl) (ht 16 rfl (aO.refl _ _ _) (fun w' hw' => a8 Try.underlying45 rfl rfl zs7 rfl) (ht 17 rfl (aO.refl _ _ _) (fun w' hw' => af bc rfl (bx23.chg hw' (bB rfl)) rfl) (ht 18 rfl (aO.refl _ _ _) (fun w' hw' => cP (m := (aS (gI ps i) o).2) (n := (aS (gI ps i) o).2) rfl rfl (by (simp only [lY]; omega))) ?_))))))
 refine ht 19 rfl (aO.refl _ _ _) (fun w' hw' => aT (m := ((aS (gI ps i) o).1) * ((aS (gI ps i) o).1)) (n := ((aS (gI ps i) o).2) * ((aS (gI ps i) o).2)) rfl rfl (by (simp only [lY]; omega))) (ht 20 rfl (aO.refl _ _ _) (fun w' hw' => a8 Try.underlying45 rfl rfl zs8 rfl) (ht 21 rfl (aO.refl _ _ _) (fun w' hw' => af bc rfl (bx27.chg hw' (bB rfl)) rfl) (ht 22 rfl (aO.refl _ _ _) (fun w' hw' => a8 Try.underlying45 rfl rfl zs8 rfl) (ht 23 rfl (aO.refl _ _ _) (fun w' hw' => af bc rfl (bx27.chg hw' (bB rfl)) rfl) (ht 24 rfl (aO.refl _ _ _) (fun w' hw' => cP (m := (aS (gI ps k) o).1) (n := (aS (gI ps k) o).1) rfl rfl (by (simp only [lY]; omega))) (ht 25 rfl (aO.refl _ _ _) (fun w' hw' => a8 Try.underlying45 rfl rfl zs8 rfl) ?_))))))
 refine ht 26 rfl (aO.refl _ _ _) (fun w' hw' => af bc rfl (bx27.chg hw' (bB rfl)) rfl) (ht 27 rfl (aO.refl _ _ _) (fun w' hw' => a8 Try.underlying45 rfl rfl zs8 rfl) (ht 28 rfl (aO.refl _ _ _) (fun w' hw' => af bc rfl (bx27.chg hw' (bB rfl)) rfl) (ht 29 rfl (aO.refl _ _ _) (fun w' hw' => cP (m := (aS (gI ps k) o).2) (n := (aS (gI ps k) o).2) rfl rfl (by (simp only [lY]; omega))) (ht 30 rfl (aO.refl _ _ _) (fun w' hw' => aT (m := ((aS (gI ps k) o).1) * ((aS (gI ps k) o).1)) (n := ((aS (gI ps k) o).2) * ((aS (gI ps k) o).2)) rfl rfl (by (simp only [lY]; omega))) (ht (v := vi i) 32 rfl (aO.refl _ _ _) (fun w' hw' => aI zs0) (ht (v := vi k) 33 rfl (aO.refl _ _ _) (fun w' hw' => aI zs1) (aB 1 rfl (by kernel_rfl) rfl ?_)))))))
 refine aF (v := vi (bN (aS (gI ps i) o))) (aw (vals := [vg [vi ((aS (gI ps i) o).1), vi ((aS (gI ps i) o).2)]]) Try.func60 lc lf rfl) (lg w280 (aS (gI ps i) o)) ?_
 intro w281 hb282
 replace hb282 := ak hb282 g278
 have hs283 : aO (bR []) _ _ _ _ := hb282.n
 refine ⟨hs283.same, ?_⟩
 refine aB 3 rfl (by kernel_rfl) rfl (aF (v := vi (bN (aS (gI ps k) o))) (aw (vals := [vg [vi ((aS (gI ps k) o).1), vi ((aS (gI ps k) o).2)]]) Try.func60 lc lf rfl) (lg w281 (aS (gI ps k) o)) ?_)
 intro w284 hb285
 replace hb285 := ak hb285 g278
 have hs286 := hs283.seq (hb285.n)
 refine ⟨hs286.same, ?_⟩
 refine aB 4 rfl (by kernel_rfl) rfl (aF (v := vi (bE (bN (aS (gI ps i) o)) (bN (aS (gI ps k) o)))) (aw (vals := [vi (bN (aS (gI ps i) o)), vi (bN (aS (gI ps k) o))]) Try.func59 eX ff rfl) (dA w284 (bN (aS (gI ps i) o)) (bN (aS (gI ps k) o))) ?_)
 intro w287 hb288
 replace hb288 := ak hb288 g278
 have hs289 := hs286.seq (hb288.n)
 refine ⟨hs289.same, ?_⟩
 refine aB 7 rfl (by kernel_rfl) rfl (aF (v := vi (dh (aS (gI ps i) o) (aS (gI ps k) o))) (aw (vals := [vg [vi ((aS (gI ps i) o).1), vi ((aS (gI ps i) o).2)], vg [vi ((aS (gI ps k) o).1), vi ((aS (gI ps k) o).2)]]) Try.func61 lO lI rfl) (kx w287 (aS (gI ps i) o) (aS (gI ps k) o) ‹_› ‹_›) ?_)
 intro w290 hb291
 replace hb291 := ak hb291 g278
 have hs292 := hs289.seq (hb291.n)
 refine ⟨hs292.same, ?_⟩
 refine aB 8 rfl (by kernel_rfl) rfl (aF (v := vi (bE (dh (aS (gI ps i) o) (aS (gI ps k) o)) 0)) (aw (vals := [vi (dh (aS (gI ps i) o) (aS (gI ps k) o)), vi 0]) Try.func59 eX ff rfl) (dA w290 (dh (aS (gI ps i) o) (aS (gI ps k) o)) 0) ?_)
 intro w293 hb294
 replace hb294 := ak hb294 g278
 have hs295 := hs292.seq (hb294.n)
 refine ⟨hs295.same, ?_⟩
 refine aB 31 rfl (by kernel_rfl) rfl (aF (v := vi (bE ((((aS (gI ps i) o).1) * ((aS (gI ps i) o).1)) + (((aS (gI ps i) o).2) * ((aS (gI ps i) o).2))) ((((aS (gI ps k) o).1) * ((aS (gI ps k) o).1)) + (((aS (gI ps k) o).2) * ((aS (gI ps k) o).2))))) (aw (vals := [vi ((((aS (gI ps i) o).1) * ((aS (gI ps i) o).1)) + (((aS (gI ps i) o).2) * ((aS (gI ps i) o).2))), vi ((((aS (gI ps k) o).1) * ((aS (gI ps k) o).1)) + (((aS (gI ps k) o).2) * ((aS (gI ps k) o).2)))]) Try.func59 eX ff rfl) (dA w293 ((((aS (gI ps i) o).1) * ((aS (gI ps i) o).1)) + (((aS (gI ps i) o).2) * ((aS (gI ps i) o).2))) ((((aS (gI ps k) o).1) * ((aS (gI ps k) o).1)) + (((aS (gI ps k) o).2) * ((aS (gI ps k) o).2)))) ?_)
 intro w296 hb297
 replace hb297 := ak hb297 g278
 have hs298 := hs295.seq (hb297.n)
 refine ⟨hs298.same, ?_⟩
 refine aB 34 rfl (by kernel_rfl) rfl (aF (v := vi (bE i k)) (aw (vals := [vi i, vi k]) Try.func59 eX ff rfl) (dA w296 i k) ?_)
 intro w299 hb300
 replace hb300 := ak hb300 g278
 have hs301 := hs298.seq (hb300.n)
 refine ⟨hs301.same, ?_⟩
 refine aB 35 rfl (by kernel_rfl) rfl ?_
 refine aJ (α := Int) g278 (is 3) (is 3) (3, 0) rfl ([bE (bN (aS (gI ps i) o)) (bN (aS (gI ps k) o)), bE (dh (aS (gI ps i) o) (aS (gI ps k) o)) 0, bE ((((aS (gI ps i) o).1) * ((aS (gI ps i) o).1)) + (((aS (gI ps i) o).2) * ((aS (gI ps i) o).2))) ((((aS (gI ps k) o).1) * ((aS (gI ps k) o).1)) + (((aS (gI ps k) o).2) * ((aS (gI ps k) o).2))), bE i k] : List Int) Try.underlying39 bc (by decide) (by decide) (vs := [(0, vi (bE (bN (aS (gI ps i) o)) (bN (aS (gI ps k) o)))), (1, vi (bE (dh (aS (gI ps i) o) (aS (gI ps k) o)) 0)), (2, vi (bE ((((aS (gI ps i) o).1) * ((aS (gI ps i) o).1)) + (((aS (gI ps i) o).2) * ((aS (gI ps i) o).2))) ((((aS (gI ps k) o).1) * ((aS (gI ps k) o).1)) + (((aS (gI ps k) o).2) * ((aS (gI ps k) o).2))))), (3, vi (bE i k))]) rfl rfl (.cons rfl (.cons rfl (.cons rfl (.cons rfl .nil)))) ?_
 intro g302 w303 v304 ch305 o306
 have hs307 := hs301.seq (ch305.n)
 refine ⟨hs307.same, ?_⟩
 refine aB 36 rfl (by kernel_rfl) rfl (aF (v := vi (io ([bE (bN (aS (gI ps i) o)) (bN (aS (gI ps k) o)), bE (dh (aS (gI ps i) o) (aS (gI ps k) o)) 0, bE ((((aS (gI ps i) o).1) * ((aS (gI ps i) o).1)) + (((aS (gI ps i) o).2) * ((aS (gI ps i) o).2))) ((((aS (gI ps k) o).1) * ((aS (gI ps k) o).1)) + (((aS (gI ps k) o).2) * ((aS (gI ps k) o).2))), bE i k] : List Int))) (aw (vals := [v304]) Try.func58 lq lJ rfl) (qW w303 ([bE (bN (aS (gI ps i) o)) (bN (aS (gI ps k) o)), bE (dh (aS (gI ps i) o) (aS (gI ps k) o)) 0, bE ((((aS (gI ps i) o).1) * ((aS (gI ps i) o).1)) + (((aS (gI ps i) o).2) * ((aS (gI ps i) o).2))) ((((aS (gI ps k) o).1) * ((aS (gI ps k) o).1)) + (((aS (gI ps k) o).2) * ((aS (gI ps k) o).2))), bE i k] : List Int) v304 (o306.flat).ro) ?_)
 intro w308 hb309
 replace hb309 := ak hb309 g302
 have hs310 := hs307.seq (hb309.n)
 refine ⟨hs310.same, ?_⟩
 refine ht (v := vi (io ([bE (bN (aS (gI ps i) o)) (bN (aS (gI ps k) o)), bE (dh (aS (gI ps i) o) (aS (gI ps k) o)) 0, bE ((((aS (gI ps i) o).1) * ((aS (gI ps i) o).1)) + (((aS (gI ps i) o).2) * ((aS (gI ps i) o).2))) ((((aS (gI ps k) o).1) * ((aS (gI ps k) o).1)) + (((aS (gI ps k) o).2) * ((aS (gI ps k) o).2))), bE i k] : List Int))) 37 rfl hs310.same (fun w' hw' => bP rfl) (bm (by kernel_rfl) (al (vs := [vi (io ([bE (bN (aS (gI ps i) o)) (bN (aS (gI ps k) o)), bE (dh (aS (gI ps i) o) (aS (gI ps k) o)) 0, bE ((((aS (gI ps i) o).1) * ((aS (gI ps i) o).1)) + (((aS (gI ps i) o).2) * ((aS (gI ps i) o).2))) ((((aS (gI ps k) o).1) * ((aS (gI ps k) o).1)) + (((aS (gI ps k) o).2) * ((aS (gI ps k) o).2))), bE i k] : List Int))]) Try.func56 (.tmp rfl .nil) ?_))
 have e0 : (io ([bE (bN (aS (gI ps i) o)) (bN (aS (gI ps k) o)), bE (dh (aS (gI ps i) o) (aS (gI ps k) o)) 0, bE ((((aS (gI ps i) o).1) * ((aS (gI ps i) o).1)) + (((aS (gI ps i) o).2) * ((aS (gI ps i) o).2))) ((((aS (gI ps k) o).1) * ((aS (gI ps k) o).1)) + (((aS (gI ps k) o).2) * ((aS (gI ps k) o).2))), bE i k] : List Int) : Int) = (ss o ps i k) := by
   rfl
 have C311 := cg [] (ch279.n.seq (hb282.n.seq (hb285.n.seq (hb288.n.seq (hb291.n.seq (hb294.n.seq (hb297.n.seq (hb300.n.seq (ch305.n.seq hb309.n)))))))))
 replace bH := bH.ca C311
 exact ⟨(congrArg (a₁ := io ([bE (bN (aS (gI ps i) o)) (bN (aS (gI ps k) o)), bE (dh (aS (gI ps i) o) (aS (gI ps k) o)) 0, bE ((((aS (gI ps i) o).1) * ((aS (gI ps i) o).1)) + (((aS (gI ps i) o).2) * ((aS (gI ps i) o).2))) ((((aS (gI ps k) o).1) * ((aS (gI ps k) o).1)) + (((aS (gI ps k) o).2) * ((aS (gI ps k) o).2))), bE i k] : List Int)) (fun (z0 : Int) => Ending.returned (vi z0)) e0), bH.below⟩
end TL
