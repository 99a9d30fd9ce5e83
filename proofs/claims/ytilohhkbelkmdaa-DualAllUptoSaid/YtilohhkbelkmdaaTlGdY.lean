import Derived.Test.YtilohhkbelkmdaaTlP3
import Derived.Test.YtilohhkbelkmdaaTlGenA
import Derived.Test.YtilohhkbelkmdaaTlGenD
import Derived.Test.YtilohhkbelkmdaaTlGenX
import Derived.Test.YtilohhkbelkmdaaTlGdA
import Derived.Test.YtilohhkbelkmdaaTlGdB
import Derived.Test.YtilohhkbelkmdaaTlGdE
import Derived.Test.YtilohhkbelkmdaaTlGdD
import Derived.Test.YtilohhkbelkmdaaTlGdF
import Derived.Test.YtilohhkbelkmdaaTlGdM
import Derived.Test.YtilohhkbelkmdaaTlGdN
import Derived.Test.YtilohhkbelkmdaaTlKeepA
import Derived.Test.YtilohhkbelkmdaaTlTwinA
import Derived.Test.YtilohhkbelkmdaaProg
set_option linter.all false
set_option maxRecDepth 20000
namespace TL
open Go Go.Proofs
theorem jy : Try.prog.follows .mixedOrders = true := by kernel_rfl
theorem ue : Try.f11.body.isNone = false := rfl
theorem sS : (Try.f11.name == "runtime.NumGoroutine") = false := by decide +kernel
theorem um : Try.f12.body.isNone = false := rfl
theorem ux : (Try.f12.name == "runtime.NumGoroutine") = false := by decide +kernel
theorem tk : Try.f13.body.isNone = false := rfl
theorem t8 : (Try.f13.name == "runtime.NumGoroutine") = false := by decide +kernel
theorem uC : Try.f14.body.isNone = false := rfl
theorem vj : (Try.f14.name == "runtime.NumGoroutine") = false := by decide +kernel
theorem tD : Try.f18.body.isNone = false := rfl
theorem tK : (Try.f18.name == "runtime.NumGoroutine") = false := by decide +kernel
theorem tH : Try.f19.body.isNone = false := rfl
theorem ut : (Try.f19.name == "runtime.NumGoroutine") = false := by decide +kernel
theorem tF : Try.f20.body.isNone = false := rfl
theorem tp : (Try.f20.name == "runtime.NumGoroutine") = false := by decide +kernel
theorem tw : Try.f21.body.isNone = false := rfl
theorem tf : (Try.f21.name == "runtime.NumGoroutine") = false := by decide +kernel
theorem ua : Try.f28.body.isNone = false := rfl
theorem ul : (Try.f28.name == "runtime.NumGoroutine") = false := by decide +kernel
theorem u5 : Try.f32.body.isNone = false := rfl
theorem tW : (Try.f32.name == "runtime.NumGoroutine") = false := by decide +kernel
theorem ur : Try.f36.body.isNone = false := rfl
theorem u7 : (Try.f36.name == "runtime.NumGoroutine") = false := by decide +kernel
theorem kP : Try.f37.body.isNone = false := rfl
theorem kD : (Try.f37.name == "runtime.NumGoroutine") = false := by decide +kernel
theorem vf : Try.f38.body.isNone = false := rfl
theorem uS : (Try.f38.name == "runtime.NumGoroutine") = false := by decide +kernel
theorem sP : Try.f39.body.isNone = false := rfl
theorem ui : (Try.f39.name == "runtime.NumGoroutine") = false := by decide +kernel
theorem uq : Try.f41.body.isNone = false := rfl
theorem uV : (Try.f41.name == "runtime.NumGoroutine") = false := by decide +kernel
theorem tA : Try.f42.body.isNone = false := rfl
theorem tn : (Try.f42.name == "runtime.NumGoroutine") = false := by decide +kernel
theorem u6 : Try.f43.body.isNone = false := rfl
theorem sT : (Try.f43.name == "runtime.NumGoroutine") = false := by decide +kernel
theorem uh : Try.f44.body.isNone = false := rfl
theorem un : (Try.f44.name == "runtime.NumGoroutine") = false := by decide +kernel
theorem kE : Try.f45.body.isNone = false := rfl
theorem kw : (Try.f45.name == "runtime.NumGoroutine") = false := by decide +kernel
theorem pJ : Try.f65.body.isNone = false := rfl
theorem pF : (Try.f65.name == "runtime.NumGoroutine") = false := by decide +kernel
set_option maxHeartbeats 16000000 in
theorem oK (w0 : World) (g : (Int) × (List ((Int) × (Int)))) (g_v : Value) (hg_v : Ro w0 g_v g.2) (r : bj) (r_v : Value) (hr_v : Ro w0 r_v r) (a : (Int) × (Int)) (b : (Int) × (Int)) (e : Int) (from_ : Int) (to : Int) (hb : (r.length : Int) ≤ 1048576 ∧ ∀ l_ ∈ r, l_.length ≤ 1048576) :
    Calls Try.prog 9 #[vg [vi g.1, g_v], r_v, vg [vi a.1, vi a.2], vg [vi b.1, vi b.2], vi e, vi from_, vi to] w0 (fun ee w => ee = .returned (Value.bool true) ∧ dH w0.heap.size w0 w) := by
 refine az Try.func9 rfl (Nat.le_of_ble_eq_true rfl) ?_
 have bH := b9.start w0
 have Rg := hg_v.sl
 have Rr := hr_v.sl
 refine a9 (a8 rfl (cr rfl (bR c0 (is 1) (1, 0) rfl rfl ?_)))
 intro g4 w1 b3 ch2 bx5
 replace bx5 : Bx g4 (is 1) w1 b3 [vi g.1, g_v] := bx5
 refine lo (bR g4 (is 2) (2, 0) rfl rfl ?_)
 intro g9 w6 b8 ch7 bx10
 replace bx10 : Bx g9 (is 2) w6 b8 [vi a.1, vi a.2] := bx10
 refine lo (bR g9 (is 3) (3, 0) rfl rfl ?_)
 intro g14 w11 b13 ch12 bx15
 replace bx15 : Bx g14 (is 3) w11 b13 [vi b.1, vi b.2] := bx15
 refine ma (Value.bool false) (aa (a9 (a9 (a8 rfl (cr rfl (bO (v := Value.bool true) (aD (vals := []) Try.func21 tw tf rfl) (qK w11 ) ?_))))))
 intro w16 hb17
 replace hb17 := aG hb17 g14
 refine lx (dr (b := true) rfl) (aa (ag rfl rfl (aj (a9 (a9 (a8 rfl ?_))))))
 have C18 := cg [] (ch7.n.seq (ch12.n.seq hb17.n))
 replace bx5 := bx5.ca C18
 refine lx (aq (ds := [vi g.1, g_v]) ak rfl bx5 rfl rfl) (mv r_v ?_)
 have C19 := cg [] (ch2.n.seq (ch7.n.seq (ch12.n.seq hb17.n)))
 replace Rg := Rg.ca C19
 replace Rr := Rr.ca C19
 refine lo (bO (v := Value.bool (decide ((g.2.length ≤ 300 ∧ (g.1 ≤ 300 ∨ ¬ bx g)) ∧ g.1 ≤ 200 ∧ r.length + r.flatten.length ≤ 1000))) (aD (vals := [vg [vi g.1, g_v], r_v]) Try.func11 ue sS rfl) (qX w16 g g_v (Rg).ro r r_v (Rr).ro ‹_›) ?_)
 intro w20 hb21
 replace hb21 := aG hb21 g14
 refine lx (dr (b := (decide ((g.2.length ≤ 300 ∧ (g.1 ≤ 300 ∨ ¬ bx g)) ∧ g.1 ≤ 200 ∧ r.length + r.flatten.length ≤ 1000))) rfl) (aa ?_)
 by_cases p3 : (decide ((g.2.length ≤ 300 ∧ (g.1 ≤ 300 ∨ ¬ bx g)) ∧ g.1 ≤ 200 ∧ r.length + r.flatten.length ≤ 1000)) = true
 ·
  have hli := of_decide_eq_true p3
  have hl300 := hli.1.1
  have hr1000 : r.length ≤ 1000 := by omega
  obtain ⟨hDd, hDl, hDt, hDs⟩ := x2.mk' (g := g) (r := r) (a := a) (b := b) (e := e) (from_ := from_) (to := to) hr1000
  refine ag rfl (congrArg Bool.not p3) (aj (a9 (a8 rfl ?_)))
  replace bx5 := bx5.cn hb21
  refine lx (aq (ds := [vi g.1, g_v]) ak rfl bx5 rfl rfl) (mv r_v ?_)
  replace Rg := Rg.cn hb21
  replace Rr := Rr.cn hb21
  refine lo (bO (v := vi (aK g r)) (aD (vals := [vg [vi g.1, g_v], r_v]) Try.func12 um ux rfl) (sb w20 g g_v (Rg).ro r r_v (Rr).ro) ?_)
  intro w22 hb23
  replace hb23 := aG hb23 g14
  refine ai (aK g r) (aa (a9 (a8 rfl ?_)))
  replace bx5 := bx5.cn hb23
  refine lx (aq (ds := [vi g.1, g_v]) ak rfl bx5 rfl rfl) ?_
  replace Rg := Rg.cn hb23
  refine lo (aV (aD (vals := [vg [vi g.1, g_v]]) Try.func13 tk t8 rfl) (u8 w22 g g_v (Rg).ro (by omega)) ?_)
  rintro ⟨d25, v27⟩ w24 ⟨fr26, o28⟩
  obtain ⟨g29, ch30, G29⟩ := dw g14 fr26 (fun n => if n = 1 then 4 else 0)
  replace o28 := o28.gl G29 4
  have r31 := pG o28.flat
  refine mv r_v ?_
  replace Rr := (Rr.cn hb23).cn ch30
  refine lo (aV (aD (vals := [r_v]) Try.func14 uC vj rfl) (rM w24 r r_v (Rr).ro (by exact wC hli.2.2)) ?_)
  rintro ⟨d33, v35⟩ w32 ⟨fr34, o36⟩
  obtain ⟨g37, ch38, G37⟩ := dw g29 fr34 (fun n => if n = 1 then 5 else 0)
  replace o36 := o36.gl G37 5
  have r39 := vW o36.sl_same
  refine lo (bw g37 (is 6) (6, 0) rfl ak ?_)
  intro g43 w40 b42 ch41 bx44
  replace bx44 : Bx g43 (is 6) w40 b42 [vi 0, vn] := bx44
  refine lo ?_
  replace r31 := (r31.cn ch38).cn ch41
  refine aC (cs' := [vi g.1, v27]) ak rfl rfl bx44 rfl (Nat.le_of_ble_eq_true rfl) (AllOne.all (.cons rfl (.cons (bm r31) .nil))) rfl ?_
  intro w45 ch46 bx47
  clear bx44
  refine ma v35 (aa (a9 (a8 rfl (lw (vg [vn, vi 0]) (bn (vs := []) rfl (by kernel_rfl)) (lo (bR g43 (is 7) (7, 0) rfl rfl ?_))))))
  intro g51 w48 b50 ch49 bx52
  replace bx52 : Bx g51 (is 7) w48 b50 [vn, vi 0] := bx52
  refine ma (vp b50 0) (aa (a9 (a9 (a8 rfl (ai 0 (aa (ah ?_)))))))
  refine aN (σ := Value × bj × Int × Nat × aE) (fun ⟨b_0_v, b_0, b_1, turn, gq⟩ f w => b9 w0 gq w ∧ f 1 = r_v ∧ f 4 = vi e ∧ f 5 = vi from_ ∧ f 6 = vi to ∧ f 7 = vp b3 0 ∧ f 9 = vp b8 0 ∧ f 10 = vp b13 0 ∧ f 15 = vi (aK g r) ∧ f 16 = vp b42 0 ∧ f 17 = v35 ∧ f 18 = vp b50 0 ∧ f 19 = vi (turn : Int) ∧ Sl gq (is 0) w g_v g.2 ∧ Sl gq (is 0) w r_v r ∧ Bx gq (is 1) w b3 [vi g.1, g_v] ∧ Bx gq (is 2) w b8 [vi a.1, vi a.2] ∧ Bx gq (is 3) w b13 [vi b.1, vi b.2] ∧ Ow gq (is 4) (is 4) w (ft v27) (g.2 ++ [((-7 : Int), (7 : Int))]) ∧ Sl gq (is 4) w v27 g.2 ∧ Ow gq (is 5) (is 5) w (ft v35) (kK r) ∧ Sl gq (is 5) w v35 r ∧ Bx gq (is 6) w b42 [vi g.1, v27] ∧ Bx gq (is 7) w b50 [b_0_v, vi b_1] ∧ cj gq 21 w b_0_v b_0 ∧ (turn : Int) ≤ (2 : Int) ∧ (e8 b_0 b_1)) (fun ⟨b_0_v, b_0, b_1, turn, gq⟩ => Int.toNat ((2 : Int) - (turn : Int))) (vn, [], 0, 0, g51) ?_ ?_
  have C58 := cg [6] (ch41.n.seq ((ch46.l rfl).seq ch49.n))
  have C55 := ch38.n.seq C58
  have C54 := ch30.n.seq C55
  have C57 := hb17.n.seq (hb21.n.seq (hb23.n.seq C54))
  have C56 := ch12.n.seq C57
  have C53 := ch2.n.seq (ch7.n.seq C56)
  · exact ⟨bH.ca C53, rfl, rfl, rfl, rfl, rfl, rfl, rfl, rfl, rfl, rfl, rfl, rfl, Rg.ca C54, Rr.ca C55, bx5.ca C54, bx10.ca C56, bx15.ca C57, o28.ca C55, (r31.ce ch46).cn ch49, o36.ca C58, r39.ca C58, bx47.cn ch49, bx52, cj.nil, by omega, by exact e8.nil⟩
  clear Rg Rr bx5 bx10 bx15 o28 r31 o36 r39 bx47 bx52 bH
  rintro ⟨b_0_v, b_0, b_1, turn, g61⟩ f59 w60 ⟨bH, zs1, zs4, zs5, zs6, zs7, zs9, zs10, zs15, zs16, zs17, zs18, zs19, Rg, Rr, bx5, bx10, bx15, o28, r31, o36, r39, bx47, bx52, o_b_0, hle_turn, hk⟩ back9
  obtain ⟨hka, hkb, hkc⟩ := hk.len
  refine a9 (a9 (a8 rfl (mz zs19 (lx (bc (m := (turn : Int)) (n := 2) rfl rfl) (aa ?_)))))
  by_cases p9 : (turn : Int) < 2
  ·
   refine ae rfl (dt p9) (aj (a9 (ah (a9 (a8 rfl (lx (aq (ds := [vi g.1, v27]) ak zs16 bx47 rfl rfl) (mz zs17 (lo (aV (aD (vals := [vg [vi g.1, v27], v35]) Try.func22 pA pu rfl) (rX w60 g v27 (r31).ro r v35 (r39).ro) ?_)))))))))
   rintro ⟨d63, v65, v67⟩ w62 ⟨fr64, o66, o68⟩
   obtain ⟨g69, ch70, G69⟩ := dw g61 fr64 (fun n => if n = 1 then 8 else if n = 2 then 9 else 0)
   replace o66 := o66.gl G69 8
   replace o68 := o68.gl G69 9
   refine mv (vt [vg [vi (((aT g r).1).1), v65], v67, vi ((aT g r).2.2)]) (lx (aH rfl rfl) (lx (aH rfl rfl) (lx (aH rfl rfl) (lo (bw g69 (is 10) (10, 0) rfl ak ?_)))))
   intro g74 w71 b73 ch72 bx75
   replace bx75 : Bx g74 (is 10) w71 b73 [vi 0, vn] := bx75
   refine lo ?_
   replace o66 := o66.cn ch72
   refine aC (cs' := [vi (((aT g r).1).1), v65]) ak rfl rfl bx75 rfl (Nat.le_of_ble_eq_true rfl) (AllOne.all (.cons rfl (.cons (bm o66.flat) .nil))) rfl ?_
   intro w76 ch77 bx78
   clear bx75
   refine ma v67 (ai ((aT g r).2.2) (aa (a9 (a8 rfl ?_))))
   have C79 := cg [10] (ch70.n.seq (ch72.n.seq (ch77.l rfl)))
   replace bx47 := bx47.ca C79
   refine lx (aq (ds := [vi g.1, v27]) ak zs16 bx47 rfl rfl) (mz zs17 ?_)
   replace bx10 := bx10.ca C79
   refine lx (aq (ds := [vi a.1, vi a.2]) dG zs9 bx10 rfl rfl) ?_
   replace r31 := r31.ca C79
   replace r39 := r39.ca C79
   refine lo (bO (v := vt [vi ((aU g r a).1), vi ((aU g r a).2)]) (aD (vals := [vg [vi g.1, v27], v35, vg [vi a.1, vi a.2]]) Try.func36 ur u7 rfl) (sg w76 g v27 (r31).ro r v35 (r39).ro a) ?_)
   intro w80 hb81
   replace hb81 := aG hb81 g74
   refine mv (vt [vi ((aU g r a).1), vi ((aU g r a).2)]) (lx (aH rfl rfl) (lx (aH rfl rfl) (ai ((aU g r a).1) (ai ((aU g r a).2) (aa (a9 (a8 rfl ?_)))))))
   replace bx47 := bx47.cn hb81
   refine lx (aq (ds := [vi g.1, v27]) ak zs16 bx47 rfl rfl) (mz zs17 ?_)
   replace bx10 := bx10.cn hb81
   refine lx (aq (ds := [vi a.1, vi a.2]) dG zs9 bx10 rfl rfl) ?_
   have C82 := cg [10] (ch70.n.seq (ch72.n.seq ((ch77.l rfl).seq hb81.n)))
   replace bx15 := bx15.ca C82
   refine lx (aq (ds := [vi b.1, vi b.2]) dG zs10 bx15 rfl rfl) ?_
   replace r31 := r31.cn hb81
   replace r39 := r39.cn hb81
   refine lo (aV (aD (vals := [vg [vi g.1, v27], v35, vg [vi a.1, vi a.2], vg [vi b.1, vi b.2]]) Try.func30 qg qd rfl) (sA w80 g v27 (r31).ro r v35 (r39).ro a b) ?_)
   rintro ⟨d84, v86, v88⟩ w83 ⟨fr85, o87, o89⟩
   obtain ⟨g90, ch91, G90⟩ := dw g74 fr85 (fun n => if n = 1 then 11 else if n = 2 then 12 else 0)
   replace o87 := o87.gl G90 11
   replace o89 := o89.gl G90 12
   refine mv (vt [vg [vi (((bg g r a b).1).1), v86], v88, vi ((bg g r a b).2.2)]) (lx (aH rfl rfl) (lx (aH rfl rfl) (lx (aH rfl rfl) (lo (bw g90 (is 13) (13, 0) rfl ak ?_)))))
   intro g95 w92 b94 ch93 bx96
   replace bx96 : Bx g95 (is 13) w92 b94 [vi 0, vn] := bx96
   refine lo ?_
   replace o87 := o87.cn ch93
   refine aC (cs' := [vi (((bg g r a b).1).1), v86]) ak rfl rfl bx96 rfl (Nat.le_of_ble_eq_true rfl) (AllOne.all (.cons rfl (.cons (bm o87.flat) .nil))) rfl ?_
   intro w97 ch98 bx99
   clear bx96
   refine ma v88 (ai ((bg g r a b).2.2) (aa (a9 (a8 rfl ?_))))
   have C100 := cg [13] (ch91.n.seq (ch93.n.seq (ch98.l rfl)))
   replace bx47 := bx47.ca C100
   refine lx (aq (ds := [vi g.1, v27]) ak zs16 bx47 rfl rfl) (mz zs17 (mz zs4 ?_))
   replace r31 := r31.ca C100
   replace r39 := r39.ca C100
   refine lo (aV (aD (vals := [vg [vi g.1, v27], v35, vi e]) Try.func32 u5 tW rfl) (tV w97 g v27 (r31).ro r v35 (r39).ro e) ?_)
   rintro ⟨d102, v104, v106⟩ w101 ⟨fr103, o105, o107⟩
   obtain ⟨g108, ch109, G108⟩ := dw g95 fr103 (fun n => if n = 1 then 14 else if n = 2 then 15 else 0)
   replace o105 := o105.gl G108 14
   replace o107 := o107.gl G108 15
   refine mv (vt [vg [vi (((aX g r e).1).1), v104], v106, vi ((aX g r e).2.2)]) (lx (aH rfl rfl) (lx (aH rfl rfl) (lx (aH rfl rfl) (lo (bw g108 (is 16) (16, 0) rfl ak ?_)))))
   intro g113 w110 b112 ch111 bx114
   replace bx114 : Bx g113 (is 16) w110 b112 [vi 0, vn] := bx114
   refine lo ?_
   replace o105 := o105.cn ch111
   refine aC (cs' := [vi (((aX g r e).1).1), v104]) ak rfl rfl bx114 rfl (Nat.le_of_ble_eq_true rfl) (AllOne.all (.cons rfl (.cons (bm o105.flat) .nil))) rfl ?_
   intro w115 ch116 bx117
   clear bx114
   refine ma v106 (ai ((aX g r e).2.2) (aa (a9 (a8 rfl ?_))))
   have C118 := cg [16] (ch109.n.seq (ch111.n.seq (ch116.l rfl)))
   replace bx47 := bx47.ca C118
   refine lx (aq (ds := [vi g.1, v27]) ak zs16 bx47 rfl rfl) (mz zs17 (mz zs4 ?_))
   replace r31 := r31.ca C118
   replace r39 := r39.ca C118
   refine lo (aV (aD (vals := [vg [vi g.1, v27], v35, vi e]) Try.func28 ua ul rfl) (qD w115 g v27 (r31).ro r v35 (r39).ro e) ?_)
   rintro ⟨d120, v122, v124⟩ w119 ⟨fr121, o123, o125⟩
   obtain ⟨g126, ch127, G126⟩ := dw g113 fr121 (fun n => if n = 1 then 17 else if n = 2 then 18 else 0)
   replace o123 := o123.gl G126 17
   replace o125 := o125.gl G126 18
   refine mv (vt [vg [vi (((aF g r e).1).1), v122], v124, vi ((aF g r e).2.2)]) (lx (aH rfl rfl) (lx (aH rfl rfl) (lx (aH rfl rfl) (lo (bw g126 (is 19) (19, 0) rfl ak ?_)))))
   intro g131 w128 b130 ch129 bx132
   replace bx132 : Bx g131 (is 19) w128 b130 [vi 0, vn] := bx132
   refine lo ?_
   replace o123 := o123.cn ch129
   refine aC (cs' := [vi (((aF g r e).1).1), v122]) ak rfl rfl bx132 rfl (Nat.le_of_ble_eq_true rfl) (AllOne.all (.cons rfl (.cons (bm o123.flat) .nil))) rfl ?_
   intro w133 ch134 bx135
   clear bx132
   refine ma v124 (ai ((aF g r e).2.2) (aa (a9 (a8 rfl ?_))))
   have C136 := cg [19] (ch127.n.seq (ch129.n.seq (ch134.l rfl)))
   replace bx47 := bx47.ca C136
   refine lx (aq (ds := [vi g.1, v27]) ak zs16 bx47 rfl rfl) (mz zs17 (mz zs5 (mz zs6 ?_)))
   replace r31 := r31.ca C136
   replace r39 := r39.ca C136
   refine lo (aV (aD (vals := [vg [vi g.1, v27], v35, vi from_, vi to]) Try.func25 pr pS rfl) (ri w133 g v27 (r31).ro r v35 (r39).ro from_ to) ?_)
   rintro ⟨d138, v140⟩ w137 ⟨fr139, o141⟩
   obtain ⟨g142, ch143, G142⟩ := dw g131 fr139 (fun n => if n = 1 then 20 else 0)
   replace o141 := o141.gl G142 20
   refine mv (vt [v140, vi ((bB g r from_ to).2)]) (lx (aH rfl rfl) (lx (aH rfl rfl) (ma v140 (ai ((bB g r from_ to).2) (aa (a9 (a8 rfl (mz zs18 (mv v67 (lo ?_))))))))))
   have C145 := cg [10, 13, 16, 19] (ch72.n.seq ((ch77.l rfl).seq (hb81.n.seq (ch91.n.seq (ch93.n.seq ((ch98.l rfl).seq (ch109.n.seq (ch111.n.seq ((ch116.l rfl).seq (ch127.n.seq (ch129.n.seq ((ch134.l rfl).seq ch143.n))))))))))))
   have C144 := ch70.n.seq C145
   replace o_b_0 := o_b_0.ca C144
   replace bx52 := bx52.ca C144
   replace o68 := o68.ca C145
   refine aV (σ := Value × bj × Int × aE) (V := fun _ => vt []) (aD (vals := [vp b50 0, v67]) Try.func37 kP kD rfl) (fx (γ := g142) (q := 7) (i := 21) (k := 9) (K := b_0) (s := b_1) bx52 o_b_0 o68 ‹_› (by omega) rfl rfl rfl) ?_
   rintro ⟨v146, K147, s148, g149⟩ w150 ⟨ch151, o152, o153, hj154, r155⟩
   replace ch151 : bq (j3 7 21 9) g142 w137 g149 w150 := ch151
   replace o152 : Bx g149 (is 7) w150 b50 [v146, vi s148] := o152
   replace o153 : cj g149 21 w150 v146 K147 := o153
   replace hj154 : e8 K147 s148 := hj154
   replace r155 : Sl g149 (lS 9 21) w150 v67 ((aT g r).2.1) := r155
   obtain ⟨hj154a, hj154b, hj154c⟩ := hj154.len
   clear bx52 o_b_0 o68
   refine aa (a9 (a8 rfl (mz zs18 (mv v88 (lo ?_)))))
   have C156 := cg [7, 9, 13, 16, 19, 21] (ch93.n.seq ((ch98.l rfl).seq (ch109.n.seq (ch111.n.seq ((ch116.l rfl).seq (ch127.n.seq (ch129.n.seq ((ch134.l rfl).seq (ch143.n.seq (ch151.l3 rfl rfl rfl))))))))))
   replace o89 := o89.ca C156
   refine aV (σ := Value × bj × Int × aE) (V := fun _ => vt []) (aD (vals := [vp b50 0, v88]) Try.func37 kP kD rfl) (fx (γ := g149) (q := 7) (i := 21) (k := 12) (K := K147) (s := s148) o152 o153 o89 ‹_› (by omega) rfl rfl rfl) ?_
   rintro ⟨v157, K158, s159, g160⟩ w161 ⟨ch162, o163, o164, hj165, r166⟩
   replace ch162 : bq (j3 7 21 12) g149 w150 g160 w161 := ch162
   replace o163 : Bx g160 (is 7) w161 b50 [v157, vi s159] := o163
   replace o164 : cj g160 21 w161 v157 K158 := o164
   replace hj165 : e8 K158 s159 := hj165
   replace r166 : Sl g160 (lS 12 21) w161 v88 ((bg g r a b).2.1) := r166
   obtain ⟨hj165a, hj165b, hj165c⟩ := hj165.len
   clear o89 o152 o153
   refine aa (a9 (a8 rfl (mz zs18 (mv v106 (lo ?_)))))
   have C167 := cg [7, 9, 12, 16, 19, 21] (ch111.n.seq ((ch116.l rfl).seq (ch127.n.seq (ch129.n.seq ((ch134.l rfl).seq (ch143.n.seq ((ch151.l3 rfl rfl rfl).seq (ch162.l3 rfl rfl rfl))))))))
   replace o107 := o107.ca C167
   refine aV (σ := Value × bj × Int × aE) (V := fun _ => vt []) (aD (vals := [vp b50 0, v106]) Try.func37 kP kD rfl) (fx (γ := g160) (q := 7) (i := 21) (k := 15) (K := K158) (s := s159) o163 o164 o107 ‹_› (by omega) rfl rfl rfl) ?_
   rintro ⟨v168, K169, s170, g171⟩ w172 ⟨ch173, o174, o175, hj176, r177⟩
   replace ch173 : bq (j3 7 21 15) g160 w161 g171 w172 := ch173
   replace o174 : Bx g171 (is 7) w172 b50 [v168, vi s170] := o174
   replace o175 : cj g171 21 w172 v168 K169 := o175
   replace hj176 : e8 K169 s170 := hj176
   replace r177 : Sl g171 (lS 15 21) w172 v106 ((aX g r e).2.1) := r177
   obtain ⟨hj176a, hj176b, hj176c⟩ := hj176.len
   clear o107 o163 o164
   refine aa (a9 (a8 rfl (mz zs18 (mv v124 (lo ?_)))))
   have C178 := cg [7, 9, 12, 15, 19, 21] (ch129.n.seq ((ch134.l rfl).seq (ch143.n.seq ((ch151.l3 rfl rfl rfl).seq ((ch162.l3 rfl rfl rfl).seq (ch173.l3 rfl rfl rfl))))))
   replace o125 := o125.ca C178
   refine aV (σ := Value × bj × Int × aE) (V := fun _ => vt []) (aD (vals := [vp b50 0, v124]) Try.func37 kP kD rfl) (fx (γ := g171) (q := 7) (i := 21) (k := 18) (K := K169) (s := s170) o174 o175 o125 ‹_› (by omega) rfl rfl rfl) ?_
   rintro ⟨v179, K180, s181, g182⟩ w183 ⟨ch184, o185, o186, hj187, r188⟩
   replace ch184 : bq (j3 7 21 18) g171 w172 g182 w183 := ch184
   replace o185 : Bx g182 (is 7) w183 b50 [v179, vi s181] := o185
   replace o186 : cj g182 21 w183 v179 K180 := o186
   replace hj187 : e8 K180 s181 := hj187
   replace r188 : Sl g182 (lS 18 21) w183 v124 ((aF g r e).2.1) := r188
   obtain ⟨hj187a, hj187b, hj187c⟩ := hj187.len
   clear o125 o174 o175
   refine aa (a9 (a8 rfl (mz zs18 (mv v140 (lo ?_)))))
   have C191 := cg [7, 9, 12, 15, 18, 21] ((ch151.l3 rfl rfl rfl).seq ((ch162.l3 rfl rfl rfl).seq ((ch173.l3 rfl rfl rfl).seq (ch184.l3 rfl rfl rfl))))
   replace o141 := o141.ca C191
   obtain ⟨c189, hv190⟩ := gx (u := v140) (bm o141.flat)
   refine aA (α := Vc) g182 (is 22) (is 22) (22, 0) rfl [c189] Try.underlying25 aL (by decide) (by decide) (vs := [(0, v140)]) rfl rfl (.cons (em hv190 (c6 o141.flat)) .nil) ?_
   intro g192 w193 v194 ch195 o196
   refine lo ?_
   refine aV (σ := Value × bj × Int × aE) (V := fun ⟨b_0_c1_v, b_0_c1, b_1_c1, gq⟩ => vt []) (S := fun ⟨b_0_c1_v, b_0_c1, b_1_c1, gq⟩ w => b9 w0 gq w ∧ Sl gq (is 0) w g_v g.2 ∧ Sl gq (is 0) w r_v r ∧ Bx gq (is 1) w b3 [vi g.1, g_v] ∧ Bx gq (is 2) w b8 [vi a.1, vi a.2] ∧ Bx gq (is 3) w b13 [vi b.1, vi b.2] ∧ Ow gq (is 4) (is 4) w (ft v27) (g.2 ++ [((-7 : Int), (7 : Int))]) ∧ Sl gq (is 4) w v27 g.2 ∧ Ow gq (is 5) (is 5) w (ft v35) (kK r) ∧ Sl gq (is 5) w v35 r ∧ Bx gq (is 6) w b42 [vi g.1, v27] ∧ Ow gq (is 8) (is 8) w v65 (((aT g r).1).2) ∧ Bx gq (is 10) w b73 [vi (((aT g r).1).1), v65] ∧ Ow gq (is 11) (is 11) w v86 (((bg g r a b).1).2) ∧ Bx gq (is 13) w b94 [vi (((bg g r a b).1).1), v86] ∧ Ow gq (is 14) (is 14) w v104 (((aX g r e).1).2) ∧ Bx gq (is 16) w b112 [vi (((aX g r e).1).1), v104] ∧ Ow gq (is 17) (is 17) w v122 (((aF g r e).1).2) ∧ Bx gq (is 19) w b130 [vi (((aF g r e).1).1), v122] ∧ Sl gq (lS 20 21) w v140 ((bB g r from_ to).1) ∧ Sl gq (lS 9 21) w v67 ((aT g r).2.1) ∧ Sl gq (lS 12 21) w v88 ((bg g r a b).2.1) ∧ Sl gq (lS 15 21) w v106 ((aX g r e).2.1) ∧ Bx gq (is 7) w b50 [b_0_c1_v, vi b_1_c1] ∧ Sl gq (lS 18 21) w v124 ((aF g r e).2.1) ∧ Ow gq (is 22) (is 22) w v194 ([c189]) ∧ cj gq 21 w b_0_c1_v b_0_c1 ∧ (e8 b_0_c1 b_1_c1)) (aD (vals := [vp b50 0, v194]) Try.func38 vf uS rfl) ?_ ?_
   ·
    refine az Try.func38 rfl (Nat.le_of_ble_eq_true rfl) ?_
    replace o186 := o186.cn ch195
    replace o141 := o141.cn ch195
    refine a9 (a8 rfl (ai 0 (aa (ah (fB (a9 (a9 (a8 rfl (mi 0 (mv v194 (lx (aO Try.underlying25 rfl o196.flat) (lx (bc (m := 0) (n := 1) rfl rfl) ?_))))))))))))
    refine aa (ae rfl rfl (aj (a9 (ah (a9 ?_)))))
    refine ku [false, true, false, false, false] (σ := Value × bj × Int × aE) (fun ⟨b_0_j2_v, b_0_j2, b_1_j2, gq⟩ f w => b9 w0 gq w ∧ f 0 = vp b50 0 ∧ f 1 = v194 ∧ f 4 = vi 0 ∧ Sl gq (is 0) w g_v g.2 ∧ Sl gq (is 0) w r_v r ∧ Bx gq (is 1) w b3 [vi g.1, g_v] ∧ Bx gq (is 2) w b8 [vi a.1, vi a.2] ∧ Bx gq (is 3) w b13 [vi b.1, vi b.2] ∧ Ow gq (is 4) (is 4) w (ft v27) (g.2 ++ [((-7 : Int), (7 : Int))]) ∧ Sl gq (is 4) w v27 g.2 ∧ Ow gq (is 5) (is 5) w (ft v35) (kK r) ∧ Sl gq (is 5) w v35 r ∧ Bx gq (is 6) w b42 [vi g.1, v27] ∧ Ow gq (is 8) (is 8) w v65 (((aT g r).1).2) ∧ Bx gq (is 10) w b73 [vi (((aT g r).1).1), v65] ∧ Ow gq (is 11) (is 11) w v86 (((bg g r a b).1).2) ∧ Bx gq (is 13) w b94 [vi (((bg g r a b).1).1), v86] ∧ Ow gq (is 14) (is 14) w v104 (((aX g r e).1).2) ∧ Bx gq (is 16) w b112 [vi (((aX g r e).1).1), v104] ∧ Ow gq (is 17) (is 17) w v122 (((aF g r e).1).2) ∧ Bx gq (is 19) w b130 [vi (((aF g r e).1).1), v122] ∧ Sl gq (lS 20 21) w v140 ((bB g r from_ to).1) ∧ Sl gq (lS 9 21) w v67 ((aT g r).2.1) ∧ Sl gq (lS 12 21) w v88 ((bg g r a b).2.1) ∧ Sl gq (lS 15 21) w v106 ((aX g r e).2.1) ∧ Bx gq (is 7) w b50 [b_0_j2_v, vi b_1_j2] ∧ Sl gq (lS 18 21) w v124 ((aF g r e).2.1) ∧ Ow gq (is 22) (is 22) w v194 ([c189]) ∧ cj gq 21 w b_0_j2_v b_0_j2 ∧ (e8 b_0_j2 b_1_j2)) ?_ ?_
    ·
     intro mid_j2
     refine ck g192 rfl jy (by kernel_rfl) ?_
     intro w198 ch197
     refine qm v194 (qm (vi 0) ?_)
     replace o141 := o141.cn ch197
     replace o196 := o196.cn ch197
     refine qx (fun w' hw' => ab (v := v194) (i := 0) Try.underlying25 rfl rfl ((jl o196 (VcR.consv hv190 (o141.flat).ro VcR.nil)).bel hw') rfl (by omega) (by (simp only [List.length_set, List.length_append, List.length_cons, List.length_nil, List.length_replicate, List.length_map, List.length_take, List.length_drop]; omega))) (qx (fun w' hw' => aS aL rfl (jE hv190 (o196.bel hw') rfl)) ?_)
     have len199 := (o141.flat).small
     refine qx (fun w' hw' => aO Try.underlying27 rfl (o141.flat.bel hw')) (qm v194 (qm (vi 0) (qx (fun w' hw' => ab (v := v194) (i := 0) Try.underlying25 rfl rfl ((jl o196 (VcR.consv hv190 (o141.flat).ro VcR.nil)).bel hw') rfl (by omega) (by (simp only [List.length_set, List.length_append, List.length_cons, List.length_nil, List.length_replicate, List.length_map, List.length_take, List.length_drop]; omega))) (qx (fun w' hw' => aS aL rfl (jE hv190 (o196.bel hw') rfl)) ?_))))
     have cap200 := Sl.cap o141.flat
     refine qv (vi (cz v140 : Int)) (fun w' hw' => rg Try.underlying27 rfl (o141.flat.bel hw')) (eL (v := vi (min (cz v140 : Int) ((List.length ((bB g r from_ to).1) : Int) + 2000))) rfl (fun w' hw' => aD (vals := [vi (List.length ((bB g r from_ to).1) : Int), vi (cz v140 : Int)]) Try.func65 pJ pF rfl) (fun w' hw' => (mC w' (List.length ((bB g r from_ to).1) : Int) (cz v140 : Int) (by omega)).mono fun e w2 h2 => ⟨h2.1, hw'.trans (h2.2.mono hw'.size)⟩) (qv (vi (min (cz v140 : Int) ((List.length ((bB g r from_ to).1) : Int) + 2000))) (fun w' hw' => bz rfl) (cV ?_)))
     intro w201 hc202
     replace hc202 := aG hc202 g192
     refine a9 (a8 rfl (mi (min (cz v140 : Int) ((List.length ((bB g r from_ to).1) : Int) + 2000)) (lx (fW (m := min (cz v140 : Int) ((List.length ((bB g r from_ to).1) : Int) + 2000)) (n := 0) rfl rfl) (mv (Value.bool (decide (0 < (min (cz v140 : Int) ((List.length ((bB g r from_ to).1) : Int) + 2000))))) ?_))))
     by_cases q25_c1 : 0 < (min (cz v140 : Int) ((List.length ((bB g r from_ to).1) : Int) + 2000))
     ·
      refine lv (vp b50 0) (wy (dt q25_c1)) (au rfl) (lv (vp b50 0) (wy (dt q25_c1)) (bA rfl) (lv (vp b50 1) (wy (dt q25_c1)) (ad Try.underlying36 rfl rfl rfl rfl) ?_))
      have C203 := cg [] (ch195.n.seq (ch197.n.seq hc202.n))
      replace o185 := o185.ca C203
      refine lv (vi s181) (wy (dt q25_c1)) (af am rfl o185 rfl) (lv (vi (min (cz v140 : Int) ((List.length ((bB g r from_ to).1) : Int) + 2000))) (wy (dt q25_c1)) (au rfl) (lv (vi (s181 + (min (cz v140 : Int) ((List.length ((bB g r from_ to).1) : Int) + 2000)))) (wy (dt q25_c1)) (aQ (m := s181) (n := min (cz v140 : Int) ((List.length ((bB g r from_ to).1) : Int) + 2000)) rfl rfl (by omega)) (lv (Value.bool (decide ((s181 + (min (cz v140 : Int) ((List.length ((bB g r from_ to).1) : Int) + 2000))) ≤ 1048576))) (wy (dt q25_c1)) (m7 (m := s181 + (min (cz v140 : Int) ((List.length ((bB g r from_ to).1) : Int) + 2000))) (n := 1048576) rfl rfl) ?_)))
      refine lw (Value.bool (decide ((s181 + (min (cz v140 : Int) ((List.length ((bB g r from_ to).1) : Int) + 2000))) ≤ 1048576))) (aY rfl (dt q25_c1) rfl) (aa ?_)
      by_cases p4_c1 : (s181 + (min (cz v140 : Int) ((List.length ((bB g r from_ to).1) : Int) + 2000))) ≤ 1048576
      ·
       refine ae rfl (dt p4_c1) (a9 (a8 rfl (mv (vp b50 0) (mv (vp b50 0) (lw (vp b50 0) (bA rfl) (lx (ad Try.underlying36 rfl rfl rfl rfl) (lx (af am rfl o185 rfl) (mi (min (cz v140 : Int) ((List.length ((bB g r from_ to).1) : Int) + 2000)) (lx (aQ (m := s181) (n := min (cz v140 : Int) ((List.length ((bB g r from_ to).1) : Int) + 2000)) rfl rfl (by omega)) (lw (vp b50 0) (bA rfl) ?_))))))))))
       refine lx (ad Try.underlying36 rfl rfl rfl rfl) (lo (aC (cs' := [v179, vi (s181 + (min (cz v140 : Int) ((List.length ((bB g r from_ to).1) : Int) + 2000)))]) am rfl rfl o185 rfl (Nat.le_of_ble_eq_true rfl) (AllOne.all (.cons rfl .nil)) rfl ?_))
       intro w204 ch205 bx206
       clear o185
       refine aa (ch g192 [0, 1, 2, 3, 4, 5, 6, 7, 8, 11, 12] jy ?_)
       intro w208 ch207
       refine xp (v := vp b50 0) 0 rfl (fun w => au rfl) (xp (v := vp b50 0) 1 rfl (fun w => au rfl) (xp (v := vp b50 0) 2 rfl (fun w => bA rfl) (xp 3 rfl (fun w => ad Try.underlying36 rfl rfl rfl rfl) ?_)))
       replace bx206 := bx206.cn ch207
       refine xh 4 [3, 2, 1, 0, 5, 6, 7, 8, 9] rfl (fun w' hw' => af cW rfl (bx206.bel hw') rfl) (xp (v := v194) 5 rfl (fun w => au rfl) (xp (v := vi 0) 6 rfl (fun w => au rfl) ?_))
       have C209 := cg [7] (hc202.n.seq ((ch205.l rfl).seq ch207.n))
       replace o141 := o141.ca C209
       replace o196 := o196.ca C209
       refine xv 7 [6, 5, 4, 3, 2, 1, 0] rfl (ab (v := v194) (i := 0) Try.underlying25 rfl rfl (jl o196 (VcR.consv hv190 (o141.flat).ro VcR.nil)) rfl (by omega) (by (simp only [List.length_set, List.length_append, List.length_cons, List.length_nil, List.length_replicate, List.length_map, List.length_take, List.length_drop]; omega))) (xv 8 [7, 6, 5, 4, 3, 2, 1, 0] rfl (aS aL rfl (jE hv190 o196 rfl)) (bM 9 rfl (by kernel_rfl) rfl ?_))
       obtain ⟨c210, hv211⟩ := gx (u := v140) (bm o141.flat)
       refine aA (α := Vc) g192 (is 23) (is 23) (23, 0) rfl [c210] Try.underlying25 aL (by decide) (by decide) (vs := [(0, v140)]) rfl rfl (.cons (em hv211 (c6 o141.flat)) .nil) ?_
       intro g212 w213 v214 ch215 o216
       refine bM 10 rfl (by kernel_rfl) rfl ?_
       have C217 := cg [7] (ch197.n.seq (hc202.n.seq ((ch205.l rfl).seq (ch207.n.seq ch215.n))))
       replace o186 := o186.ca C217
       replace o141 := o141.cn ch215
       refine fy hv211 (α := Int) (xss := K180) (i := 21) (γ := g212) Try.underlying25 aL rfl rfl rfl o186 (o216.flat) o141 rfl (by decide) (by omega) ?_
       intro g218 w219 v220 ch221 o222 r223
       clear o141 o186
       refine xp (v := vp b50 0) 11 rfl (fun w => bA rfl) (xp 12 rfl (fun w => ad Try.underlying36 rfl rfl rfl rfl) (bM 13 rfl (by kernel_rfl) rfl ?_))
       replace bx206 := (bx206.cn ch215).chg ch221 (dq rfl rfl)
       refine cK (cs' := [v220, vi (s181 + (min (cz v140 : Int) ((List.length ((bB g r from_ to).1) : Int) + 2000)))]) cW rfl rfl bx206 (c6 o222.sl) (Nat.le_of_ble_eq_true rfl) (bm o222.sl) rfl ?_
       intro w224 ch225 bx226
       clear bx206
       refine cO (by kernel_rfl) (ao ?_)
       clear o216
       have C230 := cg [7, 9, 10, 12, 13, 15, 16, 18, 19, 20, 21] ((ch77.l rfl).seq (hb81.n.seq (ch91.n.seq (ch93.n.seq ((ch98.l rfl).seq (ch109.n.seq (ch111.n.seq ((ch116.l rfl).seq (ch127.n.seq (ch129.n.seq ((ch134.l rfl).seq (ch143.n.seq ((ch151.l3 rfl rfl rfl).seq ((ch162.l3 rfl rfl rfl).seq ((ch173.l3 rfl rfl rfl).seq ((ch184.l3 rfl rfl rfl).seq (ch195.n.seq (ch197.n.seq (hc202.n.seq ((ch205.l rfl).seq (ch207.n.seq (ch215.n.seq ((ch221.lx rfl rfl).seq (ch225.l rfl))))))))))))))))))))))))
       have C227 := ch70.n.seq (ch72.n.seq C230)
       have C232 := cg [7, 9, 12, 13, 15, 16, 18, 19, 20, 21] ((ch98.l rfl).seq (ch109.n.seq (ch111.n.seq ((ch116.l rfl).seq (ch127.n.seq (ch129.n.seq ((ch134.l rfl).seq (ch143.n.seq ((ch151.l3 rfl rfl rfl).seq ((ch162.l3 rfl rfl rfl).seq ((ch173.l3 rfl rfl rfl).seq ((ch184.l3 rfl rfl rfl).seq (ch195.n.seq (ch197.n.seq (hc202.n.seq ((ch205.l rfl).seq (ch207.n.seq (ch215.n.seq ((ch221.lx rfl rfl).seq (ch225.l rfl))))))))))))))))))))
       have C228 := ch91.n.seq (ch93.n.seq C232)
       have C231 := hb81.n.seq C228
       have C229 := cg [7, 9, 12, 15, 18, 20, 21] (ch143.n.seq ((ch151.l3 rfl rfl rfl).seq ((ch162.l3 rfl rfl rfl).seq ((ch173.l3 rfl rfl rfl).seq ((ch184.l3 rfl rfl rfl).seq (ch195.n.seq (ch197.n.seq (hc202.n.seq ((ch205.l rfl).seq (ch207.n.seq (ch215.n.seq ((ch221.lx rfl rfl).seq (ch225.l rfl)))))))))))))
       have C234 := cg [7, 9, 12, 15, 16, 18, 19, 20, 21] ((ch116.l rfl).seq (ch127.n.seq (ch129.n.seq ((ch134.l rfl).seq (ch143.n.seq ((ch151.l3 rfl rfl rfl).seq ((ch162.l3 rfl rfl rfl).seq ((ch173.l3 rfl rfl rfl).seq ((ch184.l3 rfl rfl rfl).seq (ch195.n.seq (ch197.n.seq (hc202.n.seq ((ch205.l rfl).seq (ch207.n.seq (ch215.n.seq ((ch221.lx rfl rfl).seq (ch225.l rfl)))))))))))))))))
       have C233 := ch109.n.seq (ch111.n.seq C234)
       have C236 := cg [7, 9, 12, 15, 18, 19, 20, 21] ((ch134.l rfl).seq (ch143.n.seq ((ch151.l3 rfl rfl rfl).seq ((ch162.l3 rfl rfl rfl).seq ((ch173.l3 rfl rfl rfl).seq ((ch184.l3 rfl rfl rfl).seq (ch195.n.seq (ch197.n.seq (hc202.n.seq ((ch205.l rfl).seq (ch207.n.seq (ch215.n.seq ((ch221.lx rfl rfl).seq (ch225.l rfl))))))))))))))
       have C235 := ch127.n.seq (ch129.n.seq C236)
       have C237 := cg [7, 20, 21] (ch215.n.seq ((ch221.lx rfl rfl).seq (ch225.l rfl)))
       refine mid_j2 (v220, (K180 ++ [(bB g r from_ to).1]), s181 + (min (cz v140 : Int) ((List.length ((bB g r from_ to).1) : Int) + 2000)), g218) _ _ ⟨bH.ca C227, rfl, rfl, rfl, Rg.ca C227, Rr.ca C227, bx5.ca C227, bx10.ca C228, bx15.ca C228, o28.ca C227, r31.ca C229, o36.ca C227, r39.ca C229, bx47.ca C229, o66.ca C230, bx78.ca C231, o87.ca C232, bx99.ca C233, o105.ca C234, bx117.ca C235, o123.ca C236, bx135.ca C229, r223.chg ch225 (cE rfl rfl), ((((((((((r155.chg ch162 (dK rfl rfl rfl rfl rfl)).chg ch173 (dK rfl rfl rfl rfl rfl)).chg ch184 (dK rfl rfl rfl rfl rfl)).cn ch195).cn ch197).cn hc202).chg ch205 (cE rfl rfl)).cn ch207).cn ch215).chg ch221 (kx rfl rfl rfl)).chg ch225 (cE rfl rfl), (((((((((r166.chg ch173 (dK rfl rfl rfl rfl rfl)).chg ch184 (dK rfl rfl rfl rfl rfl)).cn ch195).cn ch197).cn hc202).chg ch205 (cE rfl rfl)).cn ch207).cn ch215).chg ch221 (kx rfl rfl rfl)).chg ch225 (cE rfl rfl), ((((((((r177.chg ch184 (dK rfl rfl rfl rfl rfl)).cn ch195).cn ch197).cn hc202).chg ch205 (cE rfl rfl)).cn ch207).cn ch215).chg ch221 (kx rfl rfl rfl)).chg ch225 (cE rfl rfl), bx226, (((((((r188.cn ch195).cn ch197).cn hc202).chg ch205 (cE rfl rfl)).cn ch207).cn ch215).chg ch221 (kx rfl rfl rfl)).chg ch225 (cE rfl rfl), o196.ca C237, o222.ce ch225, ?_⟩
       show e8 (K180 ++ [(bB g r from_ to).1]) (s181 + (min (cz v140 : Int) ((List.length ((bB g r from_ to).1) : Int) + 2000)))
       exact (e8.add ‹_› (by omega) (by omega) (by omega))
      refine ag rfl (df p4_c1) (aj (ao ?_))
      have C241 := cg [7, 9, 10, 12, 13, 15, 16, 18, 19, 21] ((ch77.l rfl).seq (hb81.n.seq (ch91.n.seq (ch93.n.seq ((ch98.l rfl).seq (ch109.n.seq (ch111.n.seq ((ch116.l rfl).seq (ch127.n.seq (ch129.n.seq ((ch134.l rfl).seq (ch143.n.seq ((ch151.l3 rfl rfl rfl).seq ((ch162.l3 rfl rfl rfl).seq ((ch173.l3 rfl rfl rfl).seq ((ch184.l3 rfl rfl rfl).seq (ch195.n.seq (ch197.n.seq hc202.n))))))))))))))))))
      have C238 := ch70.n.seq (ch72.n.seq C241)
      have C243 := cg [7, 9, 12, 13, 15, 16, 18, 19, 21] ((ch98.l rfl).seq (ch109.n.seq (ch111.n.seq ((ch116.l rfl).seq (ch127.n.seq (ch129.n.seq ((ch134.l rfl).seq (ch143.n.seq ((ch151.l3 rfl rfl rfl).seq ((ch162.l3 rfl rfl rfl).seq ((ch173.l3 rfl rfl rfl).seq ((ch184.l3 rfl rfl rfl).seq (ch195.n.seq (ch197.n.seq hc202.n))))))))))))))
      have C239 := ch91.n.seq (ch93.n.seq C243)
      have C242 := hb81.n.seq C239
      have C240 := cg [7, 9, 12, 15, 18, 21] (ch143.n.seq ((ch151.l3 rfl rfl rfl).seq ((ch162.l3 rfl rfl rfl).seq ((ch173.l3 rfl rfl rfl).seq ((ch184.l3 rfl rfl rfl).seq (ch195.n.seq (ch197.n.seq hc202.n)))))))
      have C245 := cg [7, 9, 12, 15, 16, 18, 19, 21] ((ch116.l rfl).seq (ch127.n.seq (ch129.n.seq ((ch134.l rfl).seq (ch143.n.seq ((ch151.l3 rfl rfl rfl).seq ((ch162.l3 rfl rfl rfl).seq ((ch173.l3 rfl rfl rfl).seq ((ch184.l3 rfl rfl rfl).seq (ch195.n.seq (ch197.n.seq hc202.n)))))))))))
      have C244 := ch109.n.seq (ch111.n.seq C245)
      have C247 := cg [7, 9, 12, 15, 18, 19, 21] ((ch134.l rfl).seq (ch143.n.seq ((ch151.l3 rfl rfl rfl).seq ((ch162.l3 rfl rfl rfl).seq ((ch173.l3 rfl rfl rfl).seq ((ch184.l3 rfl rfl rfl).seq (ch195.n.seq (ch197.n.seq hc202.n))))))))
      have C246 := ch127.n.seq (ch129.n.seq C247)
      replace o141 := o141.cn hc202
      refine mid_j2 (v179, K180, s181, g192) _ _ ⟨bH.ca C238, rfl, rfl, rfl, Rg.ca C238, Rr.ca C238, bx5.ca C238, bx10.ca C239, bx15.ca C239, o28.ca C238, r31.ca C240, o36.ca C238, r39.ca C240, bx47.ca C240, o66.ca C241, bx78.ca C242, o87.ca C243, bx99.ca C244, o105.ca C245, bx117.ca C246, o123.ca C247, bx135.ca C240, o141.slk, (((((r155.chg ch162 (dK rfl rfl rfl rfl rfl)).chg ch173 (dK rfl rfl rfl rfl rfl)).chg ch184 (dK rfl rfl rfl rfl rfl)).cn ch195).cn ch197).cn hc202, ((((r166.chg ch173 (dK rfl rfl rfl rfl rfl)).chg ch184 (dK rfl rfl rfl rfl rfl)).cn ch195).cn ch197).cn hc202, (((r177.chg ch184 (dK rfl rfl rfl rfl rfl)).cn ch195).cn ch197).cn hc202, o185, ((r188.cn ch195).cn ch197).cn hc202, o196.cn hc202, (o186.cn ch197).cn hc202, ?_⟩
      show e8 K180 s181
      assumption
     refine al (wn (df q25_c1)) (al (wn (df q25_c1)) (al (wn (df q25_c1)) (al (wn (df q25_c1)) (al (wn (df q25_c1)) (al (wn (df q25_c1)) (al (wn (df q25_c1)) (lw (Value.bool false) (b7 rfl (df q25_c1) rfl) (aa (ag rfl rfl ?_)))))))))
     refine aj (ao ?_)
     have C251 := cg [7, 9, 10, 12, 13, 15, 16, 18, 19, 21] ((ch77.l rfl).seq (hb81.n.seq (ch91.n.seq (ch93.n.seq ((ch98.l rfl).seq (ch109.n.seq (ch111.n.seq ((ch116.l rfl).seq (ch127.n.seq (ch129.n.seq ((ch134.l rfl).seq (ch143.n.seq ((ch151.l3 rfl rfl rfl).seq ((ch162.l3 rfl rfl rfl).seq ((ch173.l3 rfl rfl rfl).seq ((ch184.l3 rfl rfl rfl).seq (ch195.n.seq (ch197.n.seq hc202.n))))))))))))))))))
     have C248 := ch70.n.seq (ch72.n.seq C251)
     have C253 := cg [7, 9, 12, 13, 15, 16, 18, 19, 21] ((ch98.l rfl).seq (ch109.n.seq (ch111.n.seq ((ch116.l rfl).seq (ch127.n.seq (ch129.n.seq ((ch134.l rfl).seq (ch143.n.seq ((ch151.l3 rfl rfl rfl).seq ((ch162.l3 rfl rfl rfl).seq ((ch173.l3 rfl rfl rfl).seq ((ch184.l3 rfl rfl rfl).seq (ch195.n.seq (ch197.n.seq hc202.n))))))))))))))
     have C249 := ch91.n.seq (ch93.n.seq C253)
     have C252 := hb81.n.seq C249
     have C250 := cg [7, 9, 12, 15, 18, 21] (ch143.n.seq ((ch151.l3 rfl rfl rfl).seq ((ch162.l3 rfl rfl rfl).seq ((ch173.l3 rfl rfl rfl).seq ((ch184.l3 rfl rfl rfl).seq (ch195.n.seq (ch197.n.seq hc202.n)))))))
     have C255 := cg [7, 9, 12, 15, 16, 18, 19, 21] ((ch116.l rfl).seq (ch127.n.seq (ch129.n.seq ((ch134.l rfl).seq (ch143.n.seq ((ch151.l3 rfl rfl rfl).seq ((ch162.l3 rfl rfl rfl).seq ((ch173.l3 rfl rfl rfl).seq ((ch184.l3 rfl rfl rfl).seq (ch195.n.seq (ch197.n.seq hc202.n)))))))))))
     have C254 := ch109.n.seq (ch111.n.seq C255)
     have C257 := cg [7, 9, 12, 15, 18, 19, 21] ((ch134.l rfl).seq (ch143.n.seq ((ch151.l3 rfl rfl rfl).seq ((ch162.l3 rfl rfl rfl).seq ((ch173.l3 rfl rfl rfl).seq ((ch184.l3 rfl rfl rfl).seq (ch195.n.seq (ch197.n.seq hc202.n))))))))
     have C256 := ch127.n.seq (ch129.n.seq C257)
     have C258 := cg [] (ch195.n.seq (ch197.n.seq hc202.n))
     replace o141 := o141.cn hc202
     refine mid_j2 (v179, K180, s181, g192) _ _ ⟨bH.ca C248, rfl, rfl, rfl, Rg.ca C248, Rr.ca C248, bx5.ca C248, bx10.ca C249, bx15.ca C249, o28.ca C248, r31.ca C250, o36.ca C248, r39.ca C250, bx47.ca C250, o66.ca C251, bx78.ca C252, o87.ca C253, bx99.ca C254, o105.ca C255, bx117.ca C256, o123.ca C257, bx135.ca C250, o141.slk, (((((r155.chg ch162 (dK rfl rfl rfl rfl rfl)).chg ch173 (dK rfl rfl rfl rfl rfl)).chg ch184 (dK rfl rfl rfl rfl rfl)).cn ch195).cn ch197).cn hc202, ((((r166.chg ch173 (dK rfl rfl rfl rfl rfl)).chg ch184 (dK rfl rfl rfl rfl rfl)).cn ch195).cn ch197).cn hc202, (((r177.chg ch184 (dK rfl rfl rfl rfl rfl)).cn ch195).cn ch197).cn hc202, o185.ca C258, ((r188.cn ch195).cn ch197).cn hc202, o196.cn hc202, (o186.cn ch197).cn hc202, ?_⟩
     show e8 K180 s181
     assumption
    clear Rg Rr bx5 bx10 bx15 o28 r31 o36 r39 bx47 o66 bx78 o87 bx99 o105 bx117 o123 bx135 o141 r155 r166 r177 o185 o186 r188 o196 bH
    rintro ⟨b_0_j2_v, b_0_j2, b_1_j2, g261⟩ f259 w260 ⟨bH, z262_0, z262_1, z262_4, Rg, Rr, bx5, bx10, bx15, o28, r31, o36, r39, bx47, o66, bx78, o87, bx99, o105, bx117, o123, bx135, o141, r155, r166, r177, o185, r188, o196, o_b_0_j2, hj_j2⟩
    obtain ⟨hja_j2, hjb_j2, hjc_j2⟩ := hj_j2.len
    refine a8 rfl (mz z262_4 (lx (aQ (m := 0) (n := 1) rfl rfl (by omega)) (ai 1 (aa (dF (a9 (a9 (a8 rfl (mi 1 (mz z262_1 (lx (aO Try.underlying25 rfl o196.flat) ?_)))))))))))
    refine lx (bc (m := 1) (n := 1) rfl rfl) (aa (ag rfl rfl (aI rfl (gN (vs := []) Try.func38 .nil ?_))))
    refine ⟨(b_0_j2_v, b_0_j2, b_1_j2, g261), rfl, bH, Rg, Rr, bx5, bx10, bx15, o28, r31, o36, r39, bx47, o66, bx78, o87, bx99, o105, bx117, o123, bx135, o141, r155, r166, r177, o185, r188, o196, o_b_0_j2, ?_⟩
    show e8 b_0_j2 b_1_j2
    assumption
   clear Rg Rr bx5 bx10 bx15 o28 r31 o36 r39 bx47 o66 bx78 o87 bx99 o105 bx117 o123 bx135 o141 r155 r166 r177 o185 o186 r188 o196 bH
   rintro ⟨b_0_c1_v, b_0_c1, b_1_c1, g264⟩ w263 ⟨bH, Rg, Rr, bx5, bx10, bx15, o28, r31, o36, r39, bx47, o66, bx78, o87, bx99, o105, bx117, o123, bx135, o141, r155, r166, r177, o185, r188, o196, o_b_0_c1, hj_c1⟩
   obtain ⟨hja_c1, hjb_c1, hjc_c1⟩ := hj_c1.len
   refine aa (a9 (a9 ?_))
   clear o196
   refine a8 rfl (lx (aq (ds := [vi g.1, v27]) ak zs16 bx47 rfl rfl) (lx (aq (ds := [vi g.1, g_v]) ak zs7 bx5 rfl rfl) (lo (bO (v := Value.bool (decide (g = g))) (aD (vals := [vg [vi g.1, v27], vg [vi g.1, g_v]]) Try.func18 tD tK rfl) (uO w263 g v27 (r31).ro g g_v (Rg).ro (by exact Sl.ro (Ow.flat ‹_›))) ?_))))
   intro w265 hb266
   replace hb266 := aG hb266 g264
   refine lx (dr (b := (decide (g = g))) rfl) (mv (Value.bool (!(decide (g = g)))) ?_)
   have q138 : (decide (g = g)) = true := by exact dt rfl
   refine lv (v35) (wy (congrArg Bool.not q138)) (au zs17) (lv (r_v) (wy (congrArg Bool.not q138)) (au zs1) ?_)
   replace o28 := o28.cn hb266
   replace o36 := o36.cn hb266
   replace r39 := r39.cn hb266
   replace Rr := Rr.cn hb266
   refine cr (wy (congrArg Bool.not q138)) (bO (v := Value.bool (decide (r = r))) (aD (vals := [v35, r_v]) Try.func19 tH ut rfl) (rT w265 r v35 (r39).ro r r_v (Rr).ro (by exact Sl.ro (Ow.sl_same ‹_›))) ?_)
   intro w267 hb268
   replace hb268 := aG hb268 g264
   refine lv (Value.bool (!(decide (r = r)))) (wy (congrArg Bool.not q138)) (dr (b := (decide (r = r))) rfl) (lw (Value.bool (!(decide (r = r)))) (b7 rfl (congrArg Bool.not q138) rfl) (aa ?_))
   have p22 : (decide (r = r)) = true := by exact dt rfl
   refine ag rfl (congrArg Bool.not p22) (aj (a9 (a9 (a8 rfl (mz zs15 (lx (cl (m := aK g r) (n := 0) rfl rfl) (aa ?_)))))))
   by_cases p24 : (aK g r) = 0
   ·
    obtain ⟨hm, hrp⟩ := dD p24
    refine ag rfl (congrArg Bool.not (dt p24)) (aj (a9 (a8 rfl ?_)))
    replace bx5 := (bx5.cn hb266).cn hb268
    refine lx (aq (ds := [vi g.1, g_v]) ak zs7 bx5 rfl rfl) (mz zs1 ?_)
    replace Rg := (Rg.cn hb266).cn hb268
    replace Rr := Rr.cn hb268
    refine lo (aV (aD (vals := [vg [vi g.1, g_v], r_v]) Try.func39 sP ui rfl) (tG w267 g g_v (Rg).ro r r_v (Rr).ro (by exact hm) (by exact hrp)) ?_)
    rintro ⟨d270, v272, v274⟩ w269 ⟨fr271, o273, o275⟩
    obtain ⟨g276, ch277, G276⟩ := dw g264 fr271 (fun n => if n = 1 then 24 else if n = 2 then 25 else 0)
    replace o273 := o273.gl G276 24
    replace o275 := o275.gl G276 25
    refine mv (vt [vg [vi (((aT g r).1).1), v272], v274, vi ((aT g r).2.2)]) (lx (aH rfl rfl) (lx (aH rfl rfl) (lx (aH rfl rfl) (lo (bw g276 (is 26) (26, 0) rfl ak ?_)))))
    intro g281 w278 b280 ch279 bx282
    replace bx282 : Bx g281 (is 26) w278 b280 [vi 0, vn] := bx282
    refine lo ?_
    replace o273 := o273.cn ch279
    refine aC (cs' := [vi (((aT g r).1).1), v272]) ak rfl rfl bx282 rfl (Nat.le_of_ble_eq_true rfl) (AllOne.all (.cons rfl (.cons (bm o273.flat) .nil))) rfl ?_
    intro w283 ch284 bx285
    clear bx282
    refine ma v274 (ai ((aT g r).2.2) (aa (a9 (a8 rfl ?_))))
    have C286 := cg [26] (ch277.n.seq (ch279.n.seq (ch284.l rfl)))
    replace bx5 := bx5.ca C286
    refine lx (aq (ds := [vi g.1, g_v]) ak zs7 bx5 rfl rfl) (mz zs1 ?_)
    have C287 := cg [26] (hb266.n.seq (hb268.n.seq (ch277.n.seq (ch279.n.seq (ch284.l rfl)))))
    replace bx10 := bx10.ca C287
    refine lx (aq (ds := [vi a.1, vi a.2]) dG zs9 bx10 rfl rfl) ?_
    replace Rg := Rg.ca C286
    replace Rr := Rr.ca C286
    refine lo (bO (v := vt [vi ((aU g r a).1), vi ((aU g r a).2)]) (aD (vals := [vg [vi g.1, g_v], r_v, vg [vi a.1, vi a.2]]) Try.func40 n7 mH rfl) (jW w283 g g_v (Rg).ro r r_v (Rr).ro a (by exact hm) (by exact hrp)) ?_)
    intro w288 hb289
    replace hb289 := aG hb289 g281
    refine mv (vt [vi ((aU g r a).1), vi ((aU g r a).2)]) (lx (aH rfl rfl) (lx (aH rfl rfl) (ai ((aU g r a).1) (ai ((aU g r a).2) (aa (a9 (a8 rfl ?_)))))))
    replace bx5 := bx5.cn hb289
    refine lx (aq (ds := [vi g.1, g_v]) ak zs7 bx5 rfl rfl) (mz zs1 ?_)
    replace bx10 := bx10.cn hb289
    refine lx (aq (ds := [vi a.1, vi a.2]) dG zs9 bx10 rfl rfl) ?_
    have C290 := cg [26] (hb266.n.seq (hb268.n.seq (ch277.n.seq (ch279.n.seq ((ch284.l rfl).seq hb289.n)))))
    replace bx15 := bx15.ca C290
    refine lx (aq (ds := [vi b.1, vi b.2]) dG zs10 bx15 rfl rfl) ?_
    replace Rg := Rg.cn hb289
    replace Rr := Rr.cn hb289
    refine lo (aV (aD (vals := [vg [vi g.1, g_v], r_v, vg [vi a.1, vi a.2], vg [vi b.1, vi b.2]]) Try.func41 uq uV rfl) (tZ w288 g g_v (Rg).ro r r_v (Rr).ro a b (by exact hm) (by exact hrp)) ?_)
    rintro ⟨d292, v294, v296⟩ w291 ⟨fr293, o295, o297⟩
    obtain ⟨g298, ch299, G298⟩ := dw g281 fr293 (fun n => if n = 1 then 27 else if n = 2 then 28 else 0)
    replace o295 := o295.gl G298 27
    replace o297 := o297.gl G298 28
    refine mv (vt [vg [vi (((bg g r a b).1).1), v294], v296, vi ((bg g r a b).2.2)]) (lx (aH rfl rfl) (lx (aH rfl rfl) (lx (aH rfl rfl) (lo (bw g298 (is 29) (29, 0) rfl ak ?_)))))
    intro g303 w300 b302 ch301 bx304
    replace bx304 : Bx g303 (is 29) w300 b302 [vi 0, vn] := bx304
    refine lo ?_
    replace o295 := o295.cn ch301
    refine aC (cs' := [vi (((bg g r a b).1).1), v294]) ak rfl rfl bx304 rfl (Nat.le_of_ble_eq_true rfl) (AllOne.all (.cons rfl (.cons (bm o295.flat) .nil))) rfl ?_
    intro w305 ch306 bx307
    clear bx304
    refine ma v296 (ai ((bg g r a b).2.2) (aa (a9 (a8 rfl ?_))))
    have C308 := cg [29] (ch299.n.seq (ch301.n.seq (ch306.l rfl)))
    replace bx5 := bx5.ca C308
    refine lx (aq (ds := [vi g.1, g_v]) ak zs7 bx5 rfl rfl) (mz zs1 (mz zs4 ?_))
    replace Rg := Rg.ca C308
    replace Rr := Rr.ca C308
    refine lo (aV (aD (vals := [vg [vi g.1, g_v], r_v, vi e]) Try.func42 tA tn rfl) (rY w305 g g_v (Rg).ro r r_v (Rr).ro e (by exact hm) (by exact hrp)) ?_)
    rintro ⟨d310, v312, v314⟩ w309 ⟨fr311, o313, o315⟩
    obtain ⟨g316, ch317, G316⟩ := dw g303 fr311 (fun n => if n = 1 then 30 else if n = 2 then 31 else 0)
    replace o313 := o313.gl G316 30
    replace o315 := o315.gl G316 31
    refine mv (vt [vg [vi (((aX g r e).1).1), v312], v314, vi ((aX g r e).2.2)]) (lx (aH rfl rfl) (lx (aH rfl rfl) (lx (aH rfl rfl) (lo (bw g316 (is 32) (32, 0) rfl ak ?_)))))
    intro g321 w318 b320 ch319 bx322
    replace bx322 : Bx g321 (is 32) w318 b320 [vi 0, vn] := bx322
    refine lo ?_
    replace o313 := o313.cn ch319
    refine aC (cs' := [vi (((aX g r e).1).1), v312]) ak rfl rfl bx322 rfl (Nat.le_of_ble_eq_true rfl) (AllOne.all (.cons rfl (.cons (bm o313.flat) .nil))) rfl ?_
    intro w323 ch324 bx325
    clear bx322
    refine ma v314 (ai ((aX g r e).2.2) (aa (a9 (a8 rfl ?_))))
    have C326 := cg [32] (ch317.n.seq (ch319.n.seq (ch324.l rfl)))
    replace bx5 := bx5.ca C326
    refine lx (aq (ds := [vi g.1, g_v]) ak zs7 bx5 rfl rfl) (mz zs1 (mz zs4 ?_))
    replace Rg := Rg.ca C326
    replace Rr := Rr.ca C326
    refine lo (aV (aD (vals := [vg [vi g.1, g_v], r_v, vi e]) Try.func43 u6 sT rfl) (oW w323 g g_v (Rg).ro r r_v (Rr).ro e (by exact hm) (by exact hrp)) ?_)
    rintro ⟨d328, v330, v332⟩ w327 ⟨fr329, o331, o333⟩
    obtain ⟨g334, ch335, G334⟩ := dw g321 fr329 (fun n => if n = 1 then 33 else if n = 2 then 34 else 0)
    replace o331 := o331.gl G334 33
    replace o333 := o333.gl G334 34
    refine mv (vt [vg [vi (((aF g r e).1).1), v330], v332, vi ((aF g r e).2.2)]) (lx (aH rfl rfl) (lx (aH rfl rfl) (lx (aH rfl rfl) (lo (bw g334 (is 35) (35, 0) rfl ak ?_)))))
    intro g339 w336 b338 ch337 bx340
    replace bx340 : Bx g339 (is 35) w336 b338 [vi 0, vn] := bx340
    refine lo ?_
    replace o331 := o331.cn ch337
    refine aC (cs' := [vi (((aF g r e).1).1), v330]) ak rfl rfl bx340 rfl (Nat.le_of_ble_eq_true rfl) (AllOne.all (.cons rfl (.cons (bm o331.flat) .nil))) rfl ?_
    intro w341 ch342 bx343
    clear bx340
    refine ma v332 (ai ((aF g r e).2.2) (aa (a9 (a8 rfl ?_))))
    have C344 := cg [35] (ch335.n.seq (ch337.n.seq (ch342.l rfl)))
    replace bx5 := bx5.ca C344
    refine lx (aq (ds := [vi g.1, g_v]) ak zs7 bx5 rfl rfl) (mz zs1 (mz zs5 (mz zs6 ?_)))
    replace Rg := Rg.ca C344
    replace Rr := Rr.ca C344
    refine lo (aV (aD (vals := [vg [vi g.1, g_v], r_v, vi from_, vi to]) Try.func44 uh un rfl) (sK w341 g g_v (Rg).ro r r_v (Rr).ro from_ to (by exact hm) (by exact hrp)) ?_)
    rintro ⟨d346, v348⟩ w345 ⟨fr347, o349⟩
    obtain ⟨g350, ch351, G350⟩ := dw g339 fr347 (fun n => if n = 1 then 36 else 0)
    replace o349 := o349.gl G350 36
    refine mv (vt [v348, vi ((bB g r from_ to).2)]) (lx (aH rfl rfl) (lx (aH rfl rfl) (ma v348 (ai ((bB g r from_ to).2) (aa (a9 (a8 rfl (mi ((aT g r).2.2) (mi ((aT g r).2.2) (lx (cl (m := (aT g r).2.2) (n := (aT g r).2.2) rfl rfl) (mv (Value.bool (!(decide (((aT g r).2.2) = ((aT g r).2.2))))) ?_)))))))))))
    have q255 : ((aT g r).2.2) = ((aT g r).2.2) := by rfl
    have C352 := cg [26, 29, 32, 35] (hb266.n.seq (hb268.n.seq (ch277.n.seq (ch279.n.seq ((ch284.l rfl).seq (hb289.n.seq (ch299.n.seq (ch301.n.seq ((ch306.l rfl).seq (ch317.n.seq (ch319.n.seq ((ch324.l rfl).seq (ch335.n.seq (ch337.n.seq ((ch342.l rfl).seq ch351.n)))))))))))))))
    replace bx78 := bx78.ca C352
    refine lv (vg [vi (((aT g r).1).1), v65]) (wy (congrArg Bool.not (dt q255))) (aq (ds := [vi (((aT g r).1).1), v65]) ak rfl bx78 rfl rfl) (lv (v67) (wy (congrArg Bool.not (dt q255))) (au rfl) ?_)
    have C353 := cg [29, 32, 35] (hb289.n.seq (ch299.n.seq (ch301.n.seq ((ch306.l rfl).seq (ch317.n.seq (ch319.n.seq ((ch324.l rfl).seq (ch335.n.seq (ch337.n.seq ((ch342.l rfl).seq ch351.n))))))))))
    replace bx285 := bx285.ca C353
    refine lv (vg [vi (((aT g r).1).1), v272]) (wy (congrArg Bool.not (dt q255))) (aq (ds := [vi (((aT g r).1).1), v272]) ak rfl bx285 rfl rfl) (lv (v274) (wy (congrArg Bool.not (dt q255))) (au rfl) ?_)
    replace o66 := o66.ca C352
    replace r155 := (((((((((((((((r155.cn hb266).cn hb268).cn ch277).cn ch279).chg ch284 (cE rfl rfl)).cn hb289).cn ch299).cn ch301).chg ch306 (cE rfl rfl)).cn ch317).cn ch319).chg ch324 (cE rfl rfl)).cn ch335).cn ch337).chg ch342 (cE rfl rfl)).cn ch351
    have C354 := cg [26, 29, 32, 35] ((ch284.l rfl).seq (hb289.n.seq (ch299.n.seq (ch301.n.seq ((ch306.l rfl).seq (ch317.n.seq (ch319.n.seq ((ch324.l rfl).seq (ch335.n.seq (ch337.n.seq ((ch342.l rfl).seq ch351.n)))))))))))
    have C355 := ch279.n.seq C354
    replace o273 := o273.ca C354
    replace o275 := o275.ca C355
    refine cr (wy (congrArg Bool.not (dt q255))) (bO (v := Value.bool (decide (((aT g r).1) = ((aT g r).1) ∧ ((aT g r).2.1) = ((aT g r).2.1)))) (aD (vals := [vg [vi (((aT g r).1).1), v65], v67, vg [vi (((aT g r).1).1), v272], v274]) Try.func45 kE kw rfl) (ky w345 ((aT g r).1) v65 (o66.flat).ro ((aT g r).2.1) v67 (r155).ro ((aT g r).1) v272 (o273.flat).ro ((aT g r).2.1) v274 (o275.sl).ro) ?_)
    intro w356 hb357
    replace hb357 := aG hb357 g350
    refine lv (Value.bool (!(decide (((aT g r).1) = ((aT g r).1) ∧ ((aT g r).2.1) = ((aT g r).2.1))))) (wy (congrArg Bool.not (dt q255))) (dr (b := (decide (((aT g r).1) = ((aT g r).1) ∧ ((aT g r).2.1) = ((aT g r).2.1)))) rfl) (lw (Value.bool (!(decide (((aT g r).1) = ((aT g r).1) ∧ ((aT g r).2.1) = ((aT g r).2.1))))) (b7 rfl (congrArg Bool.not (dt q255)) rfl) (mv (Value.bool (!(decide (((aT g r).1) = ((aT g r).1) ∧ ((aT g r).2.1) = ((aT g r).2.1))))) ?_))
    have q263 : (decide (((aT g r).1) = ((aT g r).1) ∧ ((aT g r).2.1) = ((aT g r).2.1))) = true := by exact dt ⟨rfl, rfl⟩
    refine lv (vi ((aU g r a).2)) (wy (congrArg Bool.not q263)) (au rfl) (lv (vi ((aU g r a).2)) (wy (congrArg Bool.not q263)) (au rfl) (lv (Value.bool (!(decide (((aU g r a).2) = ((aU g r a).2))))) (wy (congrArg Bool.not q263)) (cl (m := (aU g r a).2) (n := (aU g r a).2) rfl rfl) (lw (Value.bool (!(decide (((aU g r a).2) = ((aU g r a).2))))) (b7 rfl (congrArg Bool.not q263) rfl) (mv (Value.bool (!(decide (((aU g r a).2) = ((aU g r a).2))))) ?_))))
    have q268 : ((aU g r a).2) = ((aU g r a).2) := by rfl
    refine lv (vi ((aU g r a).1)) (wy (congrArg Bool.not (dt q268))) (au rfl) (lv (vi ((aU g r a).1)) (wy (congrArg Bool.not (dt q268))) (au rfl) (lv (Value.bool (!(decide (((aU g r a).1) = ((aU g r a).1))))) (wy (congrArg Bool.not (dt q268))) (cl (m := (aU g r a).1) (n := (aU g r a).1) rfl rfl) (lw (Value.bool (!(decide (((aU g r a).1) = ((aU g r a).1))))) (b7 rfl (congrArg Bool.not (dt q268)) rfl) (mv (Value.bool (!(decide (((aU g r a).1) = ((aU g r a).1))))) ?_))))
    have q273 : ((aU g r a).1) = ((aU g r a).1) := by rfl
    refine lv (vi ((bg g r a b).2.2)) (wy (congrArg Bool.not (dt q273))) (au rfl) (lv (vi ((bg g r a b).2.2)) (wy (congrArg Bool.not (dt q273))) (au rfl) (lv (Value.bool (!(decide (((bg g r a b).2.2) = ((bg g r a b).2.2))))) (wy (congrArg Bool.not (dt q273))) (cl (m := (bg g r a b).2.2) (n := (bg g r a b).2.2) rfl rfl) (lw (Value.bool (!(decide (((bg g r a b).2.2) = ((bg g r a b).2.2))))) (b7 rfl (congrArg Bool.not (dt q273)) rfl) (mv (Value.bool (!(decide (((bg g r a b).2.2) = ((bg g r a b).2.2))))) ?_))))
    have q278 : ((bg g r a b).2.2) = ((bg g r a b).2.2) := by rfl
    have C358 := cg [26, 29, 32, 35] (hb266.n.seq (hb268.n.seq (ch277.n.seq (ch279.n.seq ((ch284.l rfl).seq (hb289.n.seq (ch299.n.seq (ch301.n.seq ((ch306.l rfl).seq (ch317.n.seq (ch319.n.seq ((ch324.l rfl).seq (ch335.n.seq (ch337.n.seq ((ch342.l rfl).seq (ch351.n.seq hb357.n))))))))))))))))
    replace bx99 := bx99.ca C358
    refine lv (vg [vi (((bg g r a b).1).1), v86]) (wy (congrArg Bool.not (dt q278))) (aq (ds := [vi (((bg g r a b).1).1), v86]) ak rfl bx99 rfl rfl) (lv (v88) (wy (congrArg Bool.not (dt q278))) (au rfl) ?_)
    have C359 := cg [32, 35] (ch317.n.seq (ch319.n.seq ((ch324.l rfl).seq (ch335.n.seq (ch337.n.seq ((ch342.l rfl).seq (ch351.n.seq hb357.n)))))))
    replace bx307 := bx307.ca C359
    refine lv (vg [vi (((bg g r a b).1).1), v294]) (wy (congrArg Bool.not (dt q278))) (aq (ds := [vi (((bg g r a b).1).1), v294]) ak rfl bx307 rfl rfl) (lv (v296) (wy (congrArg Bool.not (dt q278))) (au rfl) ?_)
    replace o87 := o87.ca C358
    replace r166 := ((((((((((((((((r166.cn hb266).cn hb268).cn ch277).cn ch279).chg ch284 (cE rfl rfl)).cn hb289).cn ch299).cn ch301).chg ch306 (cE rfl rfl)).cn ch317).cn ch319).chg ch324 (cE rfl rfl)).cn ch335).cn ch337).chg ch342 (cE rfl rfl)).cn ch351).cn hb357
    have C360 := cg [29, 32, 35] ((ch306.l rfl).seq (ch317.n.seq (ch319.n.seq ((ch324.l rfl).seq (ch335.n.seq (ch337.n.seq ((ch342.l rfl).seq (ch351.n.seq hb357.n))))))))
    have C361 := ch301.n.seq C360
    replace o295 := o295.ca C360
    replace o297 := o297.ca C361
    refine cr (wy (congrArg Bool.not (dt q278))) (bO (v := Value.bool (decide (((bg g r a b).1) = ((bg g r a b).1) ∧ ((bg g r a b).2.1) = ((bg g r a b).2.1)))) (aD (vals := [vg [vi (((bg g r a b).1).1), v86], v88, vg [vi (((bg g r a b).1).1), v294], v296]) Try.func45 kE kw rfl) (ky w356 ((bg g r a b).1) v86 (o87.flat).ro ((bg g r a b).2.1) v88 (r166).ro ((bg g r a b).1) v294 (o295.flat).ro ((bg g r a b).2.1) v296 (o297.sl).ro) ?_)
    intro w362 hb363
    replace hb363 := aG hb363 g350
    refine lv (Value.bool (!(decide (((bg g r a b).1) = ((bg g r a b).1) ∧ ((bg g r a b).2.1) = ((bg g r a b).2.1))))) (wy (congrArg Bool.not (dt q278))) (dr (b := (decide (((bg g r a b).1) = ((bg g r a b).1) ∧ ((bg g r a b).2.1) = ((bg g r a b).2.1)))) rfl) (lw (Value.bool (!(decide (((bg g r a b).1) = ((bg g r a b).1) ∧ ((bg g r a b).2.1) = ((bg g r a b).2.1))))) (b7 rfl (congrArg Bool.not (dt q278)) rfl) (mv (Value.bool (!(decide (((bg g r a b).1) = ((bg g r a b).1) ∧ ((bg g r a b).2.1) = ((bg g r a b).2.1))))) ?_))
    have q286 : (decide (((bg g r a b).1) = ((bg g r a b).1) ∧ ((bg g r a b).2.1) = ((bg g r a b).2.1))) = true := by exact dt ⟨rfl, rfl⟩
    refine lv (vi ((aX g r e).2.2)) (wy (congrArg Bool.not q286)) (au rfl) (lv (vi ((aX g r e).2.2)) (wy (congrArg Bool.not q286)) (au rfl) (lv (Value.bool (!(decide (((aX g r e).2.2) = ((aX g r e).2.2))))) (wy (congrArg Bool.not q286)) (cl (m := (aX g r e).2.2) (n := (aX g r e).2.2) rfl rfl) (lw (Value.bool (!(decide (((aX g r e).2.2) = ((aX g r e).2.2))))) (b7 rfl (congrArg Bool.not q286) rfl) (mv (Value.bool (!(decide (((aX g r e).2.2) = ((aX g r e).2.2))))) ?_))))
    have q291 : ((aX g r e).2.2) = ((aX g r e).2.2) := by rfl
    have C364 := cg [26, 29, 32, 35] (hb266.n.seq (hb268.n.seq (ch277.n.seq (ch279.n.seq ((ch284.l rfl).seq (hb289.n.seq (ch299.n.seq (ch301.n.seq ((ch306.l rfl).seq (ch317.n.seq (ch319.n.seq ((ch324.l rfl).seq (ch335.n.seq (ch337.n.seq ((ch342.l rfl).seq (ch351.n.seq (hb357.n.seq hb363.n)))))))))))))))))
    replace bx117 := bx117.ca C364
    refine lv (vg [vi (((aX g r e).1).1), v104]) (wy (congrArg Bool.not (dt q291))) (aq (ds := [vi (((aX g r e).1).1), v104]) ak rfl bx117 rfl rfl) (lv (v106) (wy (congrArg Bool.not (dt q291))) (au rfl) ?_)
    have C365 := cg [35] (ch335.n.seq (ch337.n.seq ((ch342.l rfl).seq (ch351.n.seq (hb357.n.seq hb363.n)))))
    replace bx325 := bx325.ca C365
    refine lv (vg [vi (((aX g r e).1).1), v312]) (wy (congrArg Bool.not (dt q291))) (aq (ds := [vi (((aX g r e).1).1), v312]) ak rfl bx325 rfl rfl) (lv (v314) (wy (congrArg Bool.not (dt q291))) (au rfl) ?_)
    replace o105 := o105.ca C364
    replace r177 := (((((((((((((((((r177.cn hb266).cn hb268).cn ch277).cn ch279).chg ch284 (cE rfl rfl)).cn hb289).cn ch299).cn ch301).chg ch306 (cE rfl rfl)).cn ch317).cn ch319).chg ch324 (cE rfl rfl)).cn ch335).cn ch337).chg ch342 (cE rfl rfl)).cn ch351).cn hb357).cn hb363
    have C366 := cg [32, 35] ((ch324.l rfl).seq (ch335.n.seq (ch337.n.seq ((ch342.l rfl).seq (ch351.n.seq (hb357.n.seq hb363.n))))))
    have C367 := ch319.n.seq C366
    replace o313 := o313.ca C366
    replace o315 := o315.ca C367
    refine cr (wy (congrArg Bool.not (dt q291))) (bO (v := Value.bool (decide (((aX g r e).1) = ((aX g r e).1) ∧ ((aX g r e).2.1) = ((aX g r e).2.1)))) (aD (vals := [vg [vi (((aX g r e).1).1), v104], v106, vg [vi (((aX g r e).1).1), v312], v314]) Try.func45 kE kw rfl) (ky w362 ((aX g r e).1) v104 (o105.flat).ro ((aX g r e).2.1) v106 (r177).ro ((aX g r e).1) v312 (o313.flat).ro ((aX g r e).2.1) v314 (o315.sl).ro) ?_)
    intro w368 hb369
    replace hb369 := aG hb369 g350
    refine lv (Value.bool (!(decide (((aX g r e).1) = ((aX g r e).1) ∧ ((aX g r e).2.1) = ((aX g r e).2.1))))) (wy (congrArg Bool.not (dt q291))) (dr (b := (decide (((aX g r e).1) = ((aX g r e).1) ∧ ((aX g r e).2.1) = ((aX g r e).2.1)))) rfl) (lw (Value.bool (!(decide (((aX g r e).1) = ((aX g r e).1) ∧ ((aX g r e).2.1) = ((aX g r e).2.1))))) (b7 rfl (congrArg Bool.not (dt q291)) rfl) (mv (Value.bool (!(decide (((aX g r e).1) = ((aX g r e).1) ∧ ((aX g r e).2.1) = ((aX g r e).2.1))))) ?_))
    have q299 : (decide (((aX g r e).1) = ((aX g r e).1) ∧ ((aX g r e).2.1) = ((aX g r e).2.1))) = true := by exact dt ⟨rfl, rfl⟩
    refine lv (vi ((aF g r e).2.2)) (wy (congrArg Bool.not q299)) (au rfl) (lv (vi ((aF g r e).2.2)) (wy (congrArg Bool.not q299)) (au rfl) (lv (Value.bool (!(decide (((aF g r e).2.2) = ((aF g r e).2.2))))) (wy (congrArg Bool.not q299)) (cl (m := (aF g r e).2.2) (n := (aF g r e).2.2) rfl rfl) (lw (Value.bool (!(decide (((aF g r e).2.2) = ((aF g r e).2.2))))) (b7 rfl (congrArg Bool.not q299) rfl) (mv (Value.bool (!(decide (((aF g r e).2.2) = ((aF g r e).2.2))))) ?_))))
    have q304 : ((aF g r e).2.2) = ((aF g r e).2.2) := by rfl
    have C370 := cg [26, 29, 32, 35] (hb266.n.seq (hb268.n.seq (ch277.n.seq (ch279.n.seq ((ch284.l rfl).seq (hb289.n.seq (ch299.n.seq (ch301.n.seq ((ch306.l rfl).seq (ch317.n.seq (ch319.n.seq ((ch324.l rfl).seq (ch335.n.seq (ch337.n.seq ((ch342.l rfl).seq (ch351.n.seq (hb357.n.seq (hb363.n.seq hb369.n))))))))))))))))))
    replace bx135 := bx135.ca C370
    refine lv (vg [vi (((aF g r e).1).1), v122]) (wy (congrArg Bool.not (dt q304))) (aq (ds := [vi (((aF g r e).1).1), v122]) ak rfl bx135 rfl rfl) (lv (v124) (wy (congrArg Bool.not (dt q304))) (au rfl) ?_)
    have C371 := cg [] (ch351.n.seq (hb357.n.seq (hb363.n.seq hb369.n)))
    replace bx343 := bx343.ca C371
    refine lv (vg [vi (((aF g r e).1).1), v330]) (wy (congrArg Bool.not (dt q304))) (aq (ds := [vi (((aF g r e).1).1), v330]) ak rfl bx343 rfl rfl) (lv (v332) (wy (congrArg Bool.not (dt q304))) (au rfl) ?_)
    replace o123 := o123.ca C370
    replace r188 := ((((((((((((((((((r188.cn hb266).cn hb268).cn ch277).cn ch279).chg ch284 (cE rfl rfl)).cn hb289).cn ch299).cn ch301).chg ch306 (cE rfl rfl)).cn ch317).cn ch319).chg ch324 (cE rfl rfl)).cn ch335).cn ch337).chg ch342 (cE rfl rfl)).cn ch351).cn hb357).cn hb363).cn hb369
    have C372 := cg [35] ((ch342.l rfl).seq (ch351.n.seq (hb357.n.seq (hb363.n.seq hb369.n))))
    have C373 := ch337.n.seq C372
    replace o331 := o331.ca C372
    replace o333 := o333.ca C373
    refine cr (wy (congrArg Bool.not (dt q304))) (bO (v := Value.bool (decide (((aF g r e).1) = ((aF g r e).1) ∧ ((aF g r e).2.1) = ((aF g r e).2.1)))) (aD (vals := [vg [vi (((aF g r e).1).1), v122], v124, vg [vi (((aF g r e).1).1), v330], v332]) Try.func45 kE kw rfl) (ky w368 ((aF g r e).1) v122 (o123.flat).ro ((aF g r e).2.1) v124 (r188).ro ((aF g r e).1) v330 (o331.flat).ro ((aF g r e).2.1) v332 (o333.sl).ro) ?_)
    intro w374 hb375
    replace hb375 := aG hb375 g350
    refine lv (Value.bool (!(decide (((aF g r e).1) = ((aF g r e).1) ∧ ((aF g r e).2.1) = ((aF g r e).2.1))))) (wy (congrArg Bool.not (dt q304))) (dr (b := (decide (((aF g r e).1) = ((aF g r e).1) ∧ ((aF g r e).2.1) = ((aF g r e).2.1)))) rfl) (lw (Value.bool (!(decide (((aF g r e).1) = ((aF g r e).1) ∧ ((aF g r e).2.1) = ((aF g r e).2.1))))) (b7 rfl (congrArg Bool.not (dt q304)) rfl) (mv (Value.bool (!(decide (((aF g r e).1) = ((aF g r e).1) ∧ ((aF g r e).2.1) = ((aF g r e).2.1))))) ?_))
    have q312 : (decide (((aF g r e).1) = ((aF g r e).1) ∧ ((aF g r e).2.1) = ((aF g r e).2.1))) = true := by exact dt ⟨rfl, rfl⟩
    refine lv (vi ((bB g r from_ to).2)) (wy (congrArg Bool.not q312)) (au rfl) (lv (vi ((bB g r from_ to).2)) (wy (congrArg Bool.not q312)) (au rfl) (lv (Value.bool (!(decide (((bB g r from_ to).2) = ((bB g r from_ to).2))))) (wy (congrArg Bool.not q312)) (cl (m := (bB g r from_ to).2) (n := (bB g r from_ to).2) rfl rfl) (lw (Value.bool (!(decide (((bB g r from_ to).2) = ((bB g r from_ to).2))))) (b7 rfl (congrArg Bool.not q312) rfl) (mv (Value.bool (!(decide (((bB g r from_ to).2) = ((bB g r from_ to).2))))) ?_))))
    have q317 : ((bB g r from_ to).2) = ((bB g r from_ to).2) := by rfl
    refine lv (v140) (wy (congrArg Bool.not (dt q317))) (au rfl) (lv (v348) (wy (congrArg Bool.not (dt q317))) (au rfl) ?_)
    replace o141 := (((((((((((((((((((o141.cn hb266).cn hb268).cn ch277).cn ch279).chg ch284 (cE rfl rfl)).cn hb289).cn ch299).cn ch301).chg ch306 (cE rfl rfl)).cn ch317).cn ch319).chg ch324 (cE rfl rfl)).cn ch335).cn ch337).chg ch342 (cE rfl rfl)).cn ch351).cn hb357).cn hb363).cn hb369).cn hb375
    have C376 := cg [] (hb357.n.seq (hb363.n.seq (hb369.n.seq hb375.n)))
    replace o349 := o349.ca C376
    refine cr (wy (congrArg Bool.not (dt q317))) (bO (v := Value.bool (decide (((bB g r from_ to).1) = ((bB g r from_ to).1)))) (aD (vals := [v140, v348]) Try.func46 sI sD rfl) (nW w374 ((bB g r from_ to).1) v140 (o141).ro ((bB g r from_ to).1) v348 (o349.flat).ro) ?_)
    intro w377 hb378
    replace hb378 := aG hb378 g350
    refine lv (Value.bool (!(decide (((bB g r from_ to).1) = ((bB g r from_ to).1))))) (wy (congrArg Bool.not (dt q317))) (dr (b := (decide (((bB g r from_ to).1) = ((bB g r from_ to).1)))) rfl) (lw (Value.bool (!(decide (((bB g r from_ to).1) = ((bB g r from_ to).1))))) (b7 rfl (congrArg Bool.not (dt q317)) rfl) (aa ?_))
    have p33 : (decide (((bB g r from_ to).1) = ((bB g r from_ to).1))) = true := by exact dt rfl
    refine ag rfl (congrArg Bool.not p33) (aj (ao ?_))
    clear o66 bx78 o87 bx99 o105 bx117 o123 bx135 o141 r155 r166 r177 r188 o273 o275 bx285 o295 o297 bx307 o313 o315 bx325 o331 o333 bx343 o349
    refine a8 rfl (mz zs19 (lx (aQ (m := (turn : Int)) (n := 1) rfl rfl (by omega)) (ai ((turn : Int) + 1) (aa ?_))))
    have C382 := cg [26, 29, 32, 35] (hb268.n.seq (ch277.n.seq (ch279.n.seq ((ch284.l rfl).seq (hb289.n.seq (ch299.n.seq (ch301.n.seq ((ch306.l rfl).seq (ch317.n.seq (ch319.n.seq ((ch324.l rfl).seq (ch335.n.seq (ch337.n.seq ((ch342.l rfl).seq (ch351.n.seq (hb357.n.seq (hb363.n.seq (hb369.n.seq (hb375.n.seq hb378.n)))))))))))))))))))
    have C379 := hb266.n.seq C382
    have C380 := cg [] (ch351.n.seq (hb357.n.seq (hb363.n.seq (hb369.n.seq (hb375.n.seq hb378.n)))))
    have C381 := cg [29, 32, 35] (ch299.n.seq (ch301.n.seq ((ch306.l rfl).seq (ch317.n.seq (ch319.n.seq ((ch324.l rfl).seq (ch335.n.seq (ch337.n.seq ((ch342.l rfl).seq (ch351.n.seq (hb357.n.seq (hb363.n.seq (hb369.n.seq (hb375.n.seq hb378.n))))))))))))))
    refine back9 (b_0_c1_v, b_0_c1, b_1_c1, turn + 1, g350) _ _ ⟨bH.ca C379, zs1, zs4, zs5, zs6, zs7, zs9, zs10, zs15, zs16, zs17, zs18, rfl, Rg.ca C380, Rr.ca C380, bx5.ca C380, bx10.ca C381, bx15.ca C381, o28.ca C382, r31.ca C379, o36.ca C382, r39.ca C382, bx47.ca C379, o185.ca C379, o_b_0_c1.ca C379, by omega, ?_⟩ ?_
    · show e8 b_0_c1 b_1_c1
      assumption
    · show Int.toNat ((2 : Int) - ((turn + 1) : Int)) < Int.toNat ((2 : Int) - (turn : Int))
      omega
   obtain ⟨⟨hd1, hd2, hd3⟩, ⟨hf1, hf2⟩, ⟨hy1, hy2, hy3⟩, ⟨ht1, ht2, ht3⟩, ⟨hs1, hs2, hs3⟩, hh1, hh2⟩ := wY.mk' (g := g) (r := r) (a := a) (b := b) (e := e) (from_ := from_) (to := to) p24
   refine ae rfl (congrArg Bool.not (df p24)) (a9 (a9 (a8 rfl (mi ((aT g r).2.2) (mz zs15 (lx (cl (m := (aT g r).2.2) (n := aK g r) rfl rfl) (mv (Value.bool (!(decide (((aT g r).2.2) = (aK g r))))) ?_)))))))
   have q149 : ((aT g r).2.2) = (aK g r) := by assumption
   refine lv (vi ((aU g r a).2)) (wy (congrArg Bool.not (dt q149))) (au rfl) (lv (vi (aK g r)) (wy (congrArg Bool.not (dt q149))) (au zs15) (lv (Value.bool (!(decide (((aU g r a).2) = (aK g r))))) (wy (congrArg Bool.not (dt q149))) (cl (m := (aU g r a).2) (n := aK g r) rfl rfl) (lw (Value.bool (!(decide (((aU g r a).2) = (aK g r))))) (b7 rfl (congrArg Bool.not (dt q149)) rfl) (mv (Value.bool (!(decide (((aU g r a).2) = (aK g r))))) ?_))))
   have q154 : ((aU g r a).2) = (aK g r) := by assumption
   refine lv (vi ((bg g r a b).2.2)) (wy (congrArg Bool.not (dt q154))) (au rfl) (lv (vi (aK g r)) (wy (congrArg Bool.not (dt q154))) (au zs15) (lv (Value.bool (!(decide (((bg g r a b).2.2) = (aK g r))))) (wy (congrArg Bool.not (dt q154))) (cl (m := (bg g r a b).2.2) (n := aK g r) rfl rfl) (lw (Value.bool (!(decide (((bg g r a b).2.2) = (aK g r))))) (b7 rfl (congrArg Bool.not (dt q154)) rfl) (mv (Value.bool (!(decide (((bg g r a b).2.2) = (aK g r))))) ?_))))
   have q159 : ((bg g r a b).2.2) = (aK g r) := by assumption
   refine lv (vi ((aX g r e).2.2)) (wy (congrArg Bool.not (dt q159))) (au rfl) (lv (vi (aK g r)) (wy (congrArg Bool.not (dt q159))) (au zs15) (lv (Value.bool (!(decide (((aX g r e).2.2) = (aK g r))))) (wy (congrArg Bool.not (dt q159))) (cl (m := (aX g r e).2.2) (n := aK g r) rfl rfl) (lw (Value.bool (!(decide (((aX g r e).2.2) = (aK g r))))) (b7 rfl (congrArg Bool.not (dt q159)) rfl) (mv (Value.bool (!(decide (((aX g r e).2.2) = (aK g r))))) ?_))))
   have q164 : ((aX g r e).2.2) = (aK g r) := by assumption
   refine lv (vi ((aF g r e).2.2)) (wy (congrArg Bool.not (dt q164))) (au rfl) (lv (vi (aK g r)) (wy (congrArg Bool.not (dt q164))) (au zs15) (lv (Value.bool (!(decide (((aF g r e).2.2) = (aK g r))))) (wy (congrArg Bool.not (dt q164))) (cl (m := (aF g r e).2.2) (n := aK g r) rfl rfl) (lw (Value.bool (!(decide (((aF g r e).2.2) = (aK g r))))) (b7 rfl (congrArg Bool.not (dt q164)) rfl) (mv (Value.bool (!(decide (((aF g r e).2.2) = (aK g r))))) ?_))))
   have q169 : ((aF g r e).2.2) = (aK g r) := by assumption
   refine lv (vi ((bB g r from_ to).2)) (wy (congrArg Bool.not (dt q169))) (au rfl) (lv (vi (aK g r)) (wy (congrArg Bool.not (dt q169))) (au zs15) (lv (Value.bool (!(decide (((bB g r from_ to).2) = (aK g r))))) (wy (congrArg Bool.not (dt q169))) (cl (m := (bB g r from_ to).2) (n := aK g r) rfl rfl) (lw (Value.bool (!(decide (((bB g r from_ to).2) = (aK g r))))) (b7 rfl (congrArg Bool.not (dt q169)) rfl) (mv (Value.bool (!(decide (((bB g r from_ to).2) = (aK g r))))) ?_))))
   have q174 : ((bB g r from_ to).2) = (aK g r) := by assumption
   refine lv (vp b73 0) (wy (congrArg Bool.not (dt q174))) (ad Try.underlying24 rfl rfl rfl rfl) ?_
   replace bx78 := (bx78.cn hb266).cn hb268
   refine lv (vi (((aT g r).1).1)) (wy (congrArg Bool.not (dt q174))) (af am rfl bx78 rfl) (lv (vi ((aU g r a).1)) (wy (congrArg Bool.not (dt q174))) (au rfl) (lv (vi ((((aT g r).1).1) + ((aU g r a).1))) (wy (congrArg Bool.not (dt q174))) (aQ (m := ((aT g r).1).1) (n := (aU g r a).1) rfl rfl (by omega)) (lv (vp b94 0) (wy (congrArg Bool.not (dt q174))) (ad Try.underlying24 rfl rfl rfl rfl) ?_)))
   replace bx99 := (bx99.cn hb266).cn hb268
   refine lv (vi (((bg g r a b).1).1)) (wy (congrArg Bool.not (dt q174))) (af am rfl bx99 rfl) (lv (vi (((((aT g r).1).1) + ((aU g r a).1)) + (((bg g r a b).1).1))) (wy (congrArg Bool.not (dt q174))) (aQ (m := (((aT g r).1).1) + ((aU g r a).1)) (n := ((bg g r a b).1).1) rfl rfl (by omega)) (lv (vp b112 0) (wy (congrArg Bool.not (dt q174))) (ad Try.underlying24 rfl rfl rfl rfl) ?_))
   replace bx117 := (bx117.cn hb266).cn hb268
   refine lv (vi (((aX g r e).1).1)) (wy (congrArg Bool.not (dt q174))) (af am rfl bx117 rfl) (lv (vi ((((((aT g r).1).1) + ((aU g r a).1)) + (((bg g r a b).1).1)) + (((aX g r e).1).1))) (wy (congrArg Bool.not (dt q174))) (aQ (m := ((((aT g r).1).1) + ((aU g r a).1)) + (((bg g r a b).1).1)) (n := ((aX g r e).1).1) rfl rfl (by omega)) (lv (vp b130 0) (wy (congrArg Bool.not (dt q174))) (ad Try.underlying24 rfl rfl rfl rfl) ?_))
   replace bx135 := (bx135.cn hb266).cn hb268
   refine lv (vi (((aF g r e).1).1)) (wy (congrArg Bool.not (dt q174))) (af am rfl bx135 rfl) (lv (vi (((((((aT g r).1).1) + ((aU g r a).1)) + (((bg g r a b).1).1)) + (((aX g r e).1).1)) + (((aF g r e).1).1))) (wy (congrArg Bool.not (dt q174))) (aQ (m := (((((aT g r).1).1) + ((aU g r a).1)) + (((bg g r a b).1).1)) + (((aX g r e).1).1)) (n := ((aF g r e).1).1) rfl rfl (by omega)) (lv (v140) (wy (congrArg Bool.not (dt q174))) (au rfl) ?_))
   replace o141 := (o141.cn hb266).cn hb268
   have len383 := (o141).small
   refine lv (vi (List.length ((bB g r from_ to).1) : Int)) (wy (congrArg Bool.not (dt q174))) (aO Try.underlying27 rfl o141) (lv (vi ((((((((aT g r).1).1) + ((aU g r a).1)) + (((bg g r a b).1).1)) + (((aX g r e).1).1)) + (((aF g r e).1).1)) + (List.length ((bB g r from_ to).1) : Int))) (wy (congrArg Bool.not (dt q174))) (aQ (m := ((((((aT g r).1).1) + ((aU g r a).1)) + (((bg g r a b).1).1)) + (((aX g r e).1).1)) + (((aF g r e).1).1)) (n := (List.length ((bB g r from_ to).1) : Int)) rfl rfl (by omega)) (lv (v67) (wy (congrArg Bool.not (dt q174))) (au rfl) ?_))
   replace r155 := (r155.cn hb266).cn hb268
   have len384 := (r155).small
   refine lv (vi (List.length ((aT g r).2.1) : Int)) (wy (congrArg Bool.not (dt q174))) (aO Try.underlying26 rfl r155) (lv (vi (((((((((aT g r).1).1) + ((aU g r a).1)) + (((bg g r a b).1).1)) + (((aX g r e).1).1)) + (((aF g r e).1).1)) + (List.length ((bB g r from_ to).1) : Int)) + (List.length ((aT g r).2.1) : Int))) (wy (congrArg Bool.not (dt q174))) (aQ (m := (((((((aT g r).1).1) + ((aU g r a).1)) + (((bg g r a b).1).1)) + (((aX g r e).1).1)) + (((aF g r e).1).1)) + (List.length ((bB g r from_ to).1) : Int)) (n := (List.length ((aT g r).2.1) : Int)) rfl rfl (by omega)) (lv (v88) (wy (congrArg Bool.not (dt q174))) (au rfl) ?_))
   replace r166 := (r166.cn hb266).cn hb268
   have len385 := (r166).small
   refine lv (vi (List.length ((bg g r a b).2.1) : Int)) (wy (congrArg Bool.not (dt q174))) (aO Try.underlying26 rfl r166) (lv (vi ((((((((((aT g r).1).1) + ((aU g r a).1)) + (((bg g r a b).1).1)) + (((aX g r e).1).1)) + (((aF g r e).1).1)) + (List.length ((bB g r from_ to).1) : Int)) + (List.length ((aT g r).2.1) : Int)) + (List.length ((bg g r a b).2.1) : Int))) (wy (congrArg Bool.not (dt q174))) (aQ (m := ((((((((aT g r).1).1) + ((aU g r a).1)) + (((bg g r a b).1).1)) + (((aX g r e).1).1)) + (((aF g r e).1).1)) + (List.length ((bB g r from_ to).1) : Int)) + (List.length ((aT g r).2.1) : Int)) (n := (List.length ((bg g r a b).2.1) : Int)) rfl rfl (by omega)) (lv (v106) (wy (congrArg Bool.not (dt q174))) (au rfl) ?_))
   replace r177 := (r177.cn hb266).cn hb268
   have len386 := (r177).small
   refine lv (vi (List.length ((aX g r e).2.1) : Int)) (wy (congrArg Bool.not (dt q174))) (aO Try.underlying26 rfl r177) (lv (vi (((((((((((aT g r).1).1) + ((aU g r a).1)) + (((bg g r a b).1).1)) + (((aX g r e).1).1)) + (((aF g r e).1).1)) + (List.length ((bB g r from_ to).1) : Int)) + (List.length ((aT g r).2.1) : Int)) + (List.length ((bg g r a b).2.1) : Int)) + (List.length ((aX g r e).2.1) : Int))) (wy (congrArg Bool.not (dt q174))) (aQ (m := (((((((((aT g r).1).1) + ((aU g r a).1)) + (((bg g r a b).1).1)) + (((aX g r e).1).1)) + (((aF g r e).1).1)) + (List.length ((bB g r from_ to).1) : Int)) + (List.length ((aT g r).2.1) : Int)) + (List.length ((bg g r a b).2.1) : Int)) (n := (List.length ((aX g r e).2.1) : Int)) rfl rfl (by omega)) ?_)
   refine lv (v124) (wy (congrArg Bool.not (dt q174))) (au rfl) ?_
   replace r188 := (r188.cn hb266).cn hb268
   have len387 := (r188).small
   refine lv (vi (List.length ((aF g r e).2.1) : Int)) (wy (congrArg Bool.not (dt q174))) (aO Try.underlying26 rfl r188) ?_
   refine lv (vi ((((((((((((aT g r).1).1) + ((aU g r a).1)) + (((bg g r a b).1).1)) + (((aX g r e).1).1)) + (((aF g r e).1).1)) + (List.length ((bB g r from_ to).1) : Int)) + (List.length ((aT g r).2.1) : Int)) + (List.length ((bg g r a b).2.1) : Int)) + (List.length ((aX g r e).2.1) : Int)) + (List.length ((aF g r e).2.1) : Int))) (wy (congrArg Bool.not (dt q174))) (aQ (m := ((((((((((aT g r).1).1) + ((aU g r a).1)) + (((bg g r a b).1).1)) + (((aX g r e).1).1)) + (((aF g r e).1).1)) + (List.length ((bB g r from_ to).1) : Int)) + (List.length ((aT g r).2.1) : Int)) + (List.length ((bg g r a b).2.1) : Int)) + (List.length ((aX g r e).2.1) : Int)) (n := (List.length ((aF g r e).2.1) : Int)) rfl rfl (by omega)) ?_
   refine lv (Value.bool (!(decide (((((((((((((aT g r).1).1) + ((aU g r a).1)) + (((bg g r a b).1).1)) + (((aX g r e).1).1)) + (((aF g r e).1).1)) + (List.length ((bB g r from_ to).1) : Int)) + (List.length ((aT g r).2.1) : Int)) + (List.length ((bg g r a b).2.1) : Int)) + (List.length ((aX g r e).2.1) : Int)) + (List.length ((aF g r e).2.1) : Int)) = 0)))) (wy (congrArg Bool.not (dt q174))) (cl (m := (((((((((((aT g r).1).1) + ((aU g r a).1)) + (((bg g r a b).1).1)) + (((aX g r e).1).1)) + (((aF g r e).1).1)) + (List.length ((bB g r from_ to).1) : Int)) + (List.length ((aT g r).2.1) : Int)) + (List.length ((bg g r a b).2.1) : Int)) + (List.length ((aX g r e).2.1) : Int)) + (List.length ((aF g r e).2.1) : Int)) (n := 0) rfl rfl) ?_
   refine lw (Value.bool (!(decide (((((((((((((aT g r).1).1) + ((aU g r a).1)) + (((bg g r a b).1).1)) + (((aX g r e).1).1)) + (((aF g r e).1).1)) + (List.length ((bB g r from_ to).1) : Int)) + (List.length ((aT g r).2.1) : Int)) + (List.length ((bg g r a b).2.1) : Int)) + (List.length ((aX g r e).2.1) : Int)) + (List.length ((aF g r e).2.1) : Int)) = 0)))) (b7 rfl (congrArg Bool.not (dt q174)) rfl) (aa ?_)
   have p25 : ((((((((((((aT g r).1).1) + ((aU g r a).1)) + (((bg g r a b).1).1)) + (((aX g r e).1).1)) + (((aF g r e).1).1)) + (List.length ((bB g r from_ to).1) : Int)) + (List.length ((aT g r).2.1) : Int)) + (List.length ((bg g r a b).2.1) : Int)) + (List.length ((aX g r e).2.1) : Int)) + (List.length ((aF g r e).2.1) : Int)) = 0 := by omega
   refine ag rfl (congrArg Bool.not (dt p25)) (aj (aI rfl ?_))
   clear o66 bx78 o87 bx99 o105 bx117 o123 bx135 o141 r155 r166 r177 r188
   refine a8 rfl (mz zs19 (lx (aQ (m := (turn : Int)) (n := 1) rfl rfl (by omega)) (ai ((turn : Int) + 1) (aa ?_))))
   replace bH := bH.cn hb266
   refine back9 (b_0_c1_v, b_0_c1, b_1_c1, turn + 1, g264) _ _ ⟨bH.cn hb268, zs1, zs4, zs5, zs6, zs7, zs9, zs10, zs15, zs16, zs17, zs18, rfl, (Rg.cn hb266).cn hb268, Rr.cn hb268, (bx5.cn hb266).cn hb268, (bx10.cn hb266).cn hb268, (bx15.cn hb266).cn hb268, o28.cn hb268, (r31.cn hb266).cn hb268, o36.cn hb268, r39.cn hb268, (bx47.cn hb266).cn hb268, (o185.cn hb266).cn hb268, (o_b_0_c1.cn hb266).cn hb268, by omega, ?_⟩ ?_
   · show e8 b_0_c1 b_1_c1
     assumption
   · show Int.toNat ((2 : Int) - ((turn + 1) : Int)) < Int.toNat ((2 : Int) - (turn : Int))
     omega
  refine ag rfl (df p9) (aI rfl (a9 ?_))
  clear bx5 bx10 bx15 r31 r39 bx47
  refine a8 rfl (mz zs18 (lo (dv (aD (vals := [vp b50 0]) Try.func20 tF tp rfl) (az Try.func20 rfl (Nat.le_of_ble_eq_true rfl) (a9 (a8 rfl (ma (Value.bool false) (aa (a9 (a9 (a8 rfl (ai 0 (aa ?_)))))))))))))
  refine ah ?_
  refine aN (σ := Nat × bj × aE) (fun ⟨i_c2, L_c2, gq⟩ f w => b9 w0 gq w ∧ f 0 = vp b50 0 ∧ f 3 = vi (i_c2 : Int) ∧ Sl gq (is 0) w g_v g.2 ∧ Sl gq (is 0) w r_v r ∧ Ow gq (is 4) (is 4) w (ft v27) (g.2 ++ [((-7 : Int), (7 : Int))]) ∧ Ow gq (is 5) (is 5) w (ft v35) (kK r) ∧ Bx gq (is 7) w b50 [b_0_v, vi b_1] ∧ cj gq 21 w b_0_v L_c2 ∧ (ke L_c2 i_c2)) (fun ⟨i_c2, L_c2, gq⟩ => List.length L_c2 - i_c2) (0, b_0, g61) ?_ ?_
  · exact ⟨bH, rfl, rfl, Rg, Rr, o28, o36, bx52, o_b_0, by exact e8.ap ‹_›⟩
  clear Rg Rr o28 o36 bx52 o_b_0 bH
  rintro ⟨i_c2, L_c2, g390⟩ f388 w389 ⟨bH, zs0_c2, zs3_c2, Rg, Rr, o28, o36, bx52, o_b_0, ha_c2⟩ back2_c2
  have hale_c2 := ha_c2.le
  have hafew_c2 := ha_c2.few
  refine a9 (a9 (a8 rfl (mz zs3_c2 (mz zs0_c2 (lw (vp b50 0) (bA rfl) (lx (ad Try.underlying36 rfl rfl rfl rfl) (lx (af cW rfl bx52 rfl) ?_)))))))
  have len391 := (o_b_0.sl).small
  refine lx (aO Try.underlying25 rfl o_b_0.sl) (lx (bc (m := (i_c2 : Int)) (n := (L_c2.length : Int)) rfl rfl) (aa ?_))
  by_cases p2_c2 : (i_c2 : Int) < (L_c2.length : Int)
  ·
   refine ae rfl (dt p2_c2) ?_
   have hares_c2 := ha_c2.rest i_c2 (Nat.le_refl _) (by omega)
   refine aj (a9 (ah (a9 (a9 (ck g390 rfl jy (by kernel_rfl) ?_)))))
   intro w393 ch392
   refine qz zs0_c2 (qv (vp b50 0) (fun w' hw' => bA rfl) (qx (fun w' hw' => ad Try.underlying36 rfl rfl rfl rfl) ?_))
   replace bx52 := bx52.cn ch392
   refine qx (fun w' hw' => af cW rfl (bx52.bel hw') rfl) (qz zs3_c2 ?_)
   replace o_b_0 := o_b_0.cn ch392
   refine qx (fun w' hw' => ab (v := b_0_v) (i := (i_c2 : Int)) Try.underlying25 rfl rfl (o_b_0.sl.bel hw') rfl (by omega) (by omega)) ?_
   obtain ⟨v394, cel395, r396⟩ := bY (r := (i_c2 : Int)) o_b_0 (by omega) (by omega)
   refine qx (fun w' hw' => aS aL rfl (cX cel395 hw')) ?_
   have len397 := (r396.row_sl).small
   refine qx (fun w' hw' => aO Try.underlying27 rfl (r396.row_sl.bel hw')) (qz zs0_c2 (qv (vp b50 0) (fun w' hw' => bA rfl) (qx (fun w' hw' => ad Try.underlying36 rfl rfl rfl rfl) (qx (fun w' hw' => af cW rfl (bx52.bel hw') rfl) (qz zs3_c2 (qx (fun w' hw' => ab (v := b_0_v) (i := (i_c2 : Int)) Try.underlying25 rfl rfl (o_b_0.sl.bel hw') rfl (by omega) (by omega)) ?_))))))
   obtain ⟨v398, cel399, r400⟩ := bY (r := (i_c2 : Int)) o_b_0 (by omega) (by omega)
   refine qx (fun w' hw' => aS aL rfl (cX cel399 hw')) ?_
   have cap401 := Sl.cap r400.row_sl
   refine qv (vi (cz v398 : Int)) (fun w' hw' => rg Try.underlying27 rfl (r400.row_sl.bel hw')) (eL (v := vi (min (cz v398 : Int) ((List.length (gI L_c2 (i_c2 : Int)) : Int) + 2000))) rfl (fun w' hw' => aD (vals := [vi (List.length (gI L_c2 (i_c2 : Int)) : Int), vi (cz v398 : Int)]) Try.func65 pJ pF rfl) (fun w' hw' => (mC w' (List.length (gI L_c2 (i_c2 : Int)) : Int) (cz v398 : Int) (by omega)).mono fun e w2 h2 => ⟨h2.1, hw'.trans (h2.2.mono hw'.size)⟩) (qv (vi (min (cz v398 : Int) ((List.length (gI L_c2 (i_c2 : Int)) : Int) + 2000))) (fun w' hw' => bz rfl) (cV ?_)))
   intro w402 hc403
   replace hc403 := aG hc403 g390
   refine ah ?_
   clear cel395 r396 cel399 r400
   refine aN (σ := bj × aE) (fun ⟨L1_c2, gq⟩ f w => b9 w0 gq w ∧ f 0 = vp b50 0 ∧ f 3 = vi (i_c2 : Int) ∧ f 4 = vi (min (cz v398 : Int) ((List.length (gI L_c2 (i_c2 : Int)) : Int) + 2000)) ∧ Sl gq (is 0) w g_v g.2 ∧ Sl gq (is 0) w r_v r ∧ Ow gq (is 4) (is 4) w (ft v27) (g.2 ++ [((-7 : Int), (7 : Int))]) ∧ Ow gq (is 5) (is 5) w (ft v35) (kK r) ∧ Bx gq (is 7) w b50 [b_0_v, vi b_1] ∧ cj gq 21 w b_0_v L1_c2 ∧ (gY L1_c2 L_c2 i_c2 (min (cz v398 : Int) ((List.length (gI L_c2 (i_c2 : Int)) : Int) + 2000)))) (fun ⟨L1_c2, gq⟩ => Int.toNat ((min (cz v398 : Int) ((List.length (gI L_c2 (i_c2 : Int)) : Int) + 2000)) - (List.length (gI L1_c2 (i_c2 : Int)) : Int))) (L_c2, g390) ?_ ?_
   replace bH := bH.cn ch392
   · exact ⟨bH.cn hc403, zs0_c2, zs3_c2, rfl, (Rg.cn ch392).cn hc403, (Rr.cn ch392).cn hc403, (o28.cn ch392).cn hc403, (o36.cn ch392).cn hc403, bx52.cn hc403, o_b_0.cn hc403, by exact gY.start ha_c2 ‹_›⟩
   clear Rg Rr o28 o36 bx52 o_b_0 bH
   rintro ⟨L1_c2, g406⟩ f404 w405 ⟨bH, zs0_c2, zs3_c2, zs4_c2, Rg, Rr, o28, o36, bx52, o_b_0, hg_c2⟩ back5_c2
   have hgl_c2 := hg_c2.len
   have hgle_c2 := hg_c2.le
   refine a9 (a9 (a8 rfl (mz zs0_c2 (lw (vp b50 0) (bA rfl) (lx (ad Try.underlying36 rfl rfl rfl rfl) (lx (af cW rfl bx52 rfl) (mz zs3_c2 (lx (ab (v := b_0_v) (i := (i_c2 : Int)) Try.underlying25 rfl rfl o_b_0.sl rfl (by omega) (by omega)) ?_))))))))
   obtain ⟨v407, cel408, r409⟩ := bY (r := (i_c2 : Int)) o_b_0 (by omega) (by omega)
   refine lx (aS aL rfl cel408) ?_
   have len410 := (r409.row_sl).small
   refine lx (aO Try.underlying27 rfl r409.row_sl) (mz zs4_c2 (lx (bc (m := (List.length (gI L1_c2 (i_c2 : Int)) : Int)) (n := min (cz v398 : Int) ((List.length (gI L_c2 (i_c2 : Int)) : Int) + 2000)) rfl rfl) (aa ?_)))
   by_cases p5_c2 : (List.length (gI L1_c2 (i_c2 : Int)) : Int) < (min (cz v398 : Int) ((List.length (gI L_c2 (i_c2 : Int)) : Int) + 2000))
   ·
    refine ae rfl (dt p5_c2) (aj (ah ?_))
    clear cel408 r409
    refine el (σ := aE) (fun gq f w => b9 w0 gq w ∧ f 0 = vp b50 0 ∧ f 3 = vi (i_c2 : Int) ∧ f 4 = vi (min (cz v398 : Int) ((List.length (gI L_c2 (i_c2 : Int)) : Int) + 2000)) ∧ Sl gq (is 0) w g_v g.2 ∧ Sl gq (is 0) w r_v r ∧ Ow gq (is 4) (is 4) w (ft v27) (g.2 ++ [((-7 : Int), (7 : Int))]) ∧ Ow gq (is 5) (is 5) w (ft v35) (kK r) ∧ Bx gq (is 7) w b50 [b_0_v, vi b_1] ∧ cj gq 21 w b_0_v (List.set L1_c2 (Int.toNat (i_c2 : Int)) (gI L1_c2 (i_c2 : Int) ++ [0]))) g406 [0, 1, 2, 4, 5, 6, 7, 8, 9, 10, 11, 14] jy ?_ ?_
    ·
     intro mid
     intro w412 ch411
     refine xp (v := vp b50 0) 0 rfl (fun w => au zs0_c2) (xp (v := vp b50 0) 1 rfl (fun w => bA rfl) (xp 2 rfl (fun w => ad Try.underlying36 rfl rfl rfl rfl) (xp (v := vi (i_c2 : Int)) 4 rfl (fun w => au zs3_c2) (xp (v := vp b50 0) 5 rfl (fun w => au zs0_c2) (xp (v := vp b50 0) 6 rfl (fun w => bA rfl) (xp 7 rfl (fun w => ad Try.underlying36 rfl rfl rfl rfl) ?_))))))
     replace bx52 := bx52.cn ch411
     refine xh 8 [7, 6, 5, 4, 2, 1, 0, 3, 9, 12] rfl (fun w' hw' => af cW rfl (bx52.bel hw') rfl) (xp (v := vi (i_c2 : Int)) 9 rfl (fun w => au zs3_c2) ?_)
     replace o_b_0 := o_b_0.cn ch411
     refine xh 10 [9, 8, 7, 6, 5, 4, 2, 1, 0, 3, 12] rfl (fun w' hw' => ab (v := b_0_v) (i := (i_c2 : Int)) Try.underlying25 rfl rfl (o_b_0.sl.bel hw') rfl (by omega) (by omega)) ?_
     obtain ⟨v413, cel414, r415⟩ := bY (r := (i_c2 : Int)) o_b_0 (by omega) (by omega)
     refine xh 11 [10, 9, 8, 7, 6, 5, 4, 2, 1, 0, 3, 12] rfl (fun w' hw' => aS aL rfl (cX cel414 hw')) ?_
     refine gB 3 12 rfl rfl (by kernel_rfl) rfl rfl ?_ ?_
     ·
      refine aJ (v := b_0_v) (af cW rfl bx52 rfl) (bM 12 rfl (by kernel_rfl) rfl (aA (α := Int) g406 (is 37) (is 37) (37, 0) rfl [0] Try.underlying27 am (by decide) (by decide) (vs := [(0, vi 0)]) rfl rfl (.cons rfl .nil) ?_))
      intro g416 w417 v418 ch419 o420
      refine bM 13 rfl (by kernel_rfl) rfl ?_
      replace o_b_0 := o_b_0.cn ch419
      replace r415 := r415.cn ch419
      refine aR (α := Int) (xs := (gI L1_c2 (i_c2 : Int))) (ys := ([0])) g416 (J := row 21 (Int.toNat (i_c2 : Int) + 1)) (S := row 21 (Int.toNat (i_c2 : Int) + 1)) (21, Int.toNat (i_c2 : Int) + 1) rfl Try.underlying27 am (by decide) rfl rfl rfl r415 o420.flat (by decide) (by (simp; omega)) ?_
      intro g421 w422 v423 ch424 o425
      have o426 := o_b_0.rowchg ch424
      clear o_b_0 cel414 r415
      obtain ⟨us427, hl428, r429⟩ := o426.vc
      try simp only [List.length_set, List.length_append, List.length_cons, List.length_nil] at hl428
      refine xv 14 [13, 12, 3, 11, 10, 9, 8, 7, 6, 5, 4, 2, 1, 0] rfl (ab (v := b_0_v) (i := (i_c2 : Int)) Try.underlying25 rfl rfl r429 rfl (by omega) (by omega)) (bM 15 rfl (by kernel_rfl) rfl (bI (r := (i_c2 : Int)) aL rfl rfl o426 o425 (by omega) (by omega) ?_))
      intro w433 ch434 o435
      clear o426 o425
      refine cO (by kernel_rfl) ?_
      have C437 := cg [21] (ch419.n.seq ((ch424.lr rfl).seq (ch434.l rfl)))
      have C436 := ch411.n.seq C437
      exact mid (g421) _ _ ⟨bH.ca C436, zs0_c2, zs3_c2, zs4_c2, Rg.ca C436, Rr.ca C436, o28.ca C436, o36.ca C436, bx52.ca C437, o435⟩
     ·
      refine aA (α := Int) g406 (is 37) (is 37) (37, 0) rfl [0] Try.underlying27 am (by decide) (by decide) (vs := [(0, vi 0)]) rfl rfl (.cons rfl .nil) ?_
      intro g438 w439 v440 ch441 o442
      refine gB 3 13 rfl rfl (by kernel_rfl) rfl rfl ?_ ?_
      ·
       replace bx52 := bx52.cn ch441
       refine aJ (v := b_0_v) (af cW rfl bx52 rfl) (bM 13 rfl (by kernel_rfl) rfl ?_)
       replace o_b_0 := o_b_0.cn ch441
       replace r415 := r415.cn ch441
       refine aR (α := Int) (xs := (gI L1_c2 (i_c2 : Int))) (ys := ([0])) g438 (J := row 21 (Int.toNat (i_c2 : Int) + 1)) (S := row 21 (Int.toNat (i_c2 : Int) + 1)) (21, Int.toNat (i_c2 : Int) + 1) rfl Try.underlying27 am (by decide) rfl rfl rfl r415 o442.flat (by decide) (by (simp; omega)) ?_
       intro g443 w444 v445 ch446 o447
       have o448 := o_b_0.rowchg ch446
       clear o_b_0 cel414 r415
       obtain ⟨us449, hl450, r451⟩ := o448.vc
       try simp only [List.length_set, List.length_append, List.length_cons, List.length_nil] at hl450
       refine xv 14 [13, 3, 12, 11, 10, 9, 8, 7, 6, 5, 4, 2, 1, 0] rfl (ab (v := b_0_v) (i := (i_c2 : Int)) Try.underlying25 rfl rfl r451 rfl (by omega) (by omega)) (bM 15 rfl (by kernel_rfl) rfl (bI (r := (i_c2 : Int)) aL rfl rfl o448 o447 (by omega) (by omega) ?_))
       intro w455 ch456 o457
       clear o448 o447
       refine cO (by kernel_rfl) ?_
       have C458 := cg [21] (ch411.n.seq (ch441.n.seq ((ch446.lr rfl).seq (ch456.l rfl))))
       exact mid (g443) _ _ ⟨bH.ca C458, zs0_c2, zs3_c2, zs4_c2, Rg.ca C458, Rr.ca C458, o28.ca C458, o36.ca C458, (bx52.chg ch446 (dC rfl)).ce ch456, o457⟩
      ·
       replace o_b_0 := o_b_0.cn ch441
       replace r415 := r415.cn ch441
       refine aR (α := Int) (xs := (gI L1_c2 (i_c2 : Int))) (ys := ([0])) g438 (J := row 21 (Int.toNat (i_c2 : Int) + 1)) (S := row 21 (Int.toNat (i_c2 : Int) + 1)) (21, Int.toNat (i_c2 : Int) + 1) rfl Try.underlying27 am (by decide) rfl rfl rfl r415 o442.flat (by decide) (by (simp; omega)) ?_
       intro g459 w460 v461 ch462 o463
       have o464 := o_b_0.rowchg ch462
       clear o_b_0 cel414 r415
       replace bx52 := (bx52.cn ch441).chg ch462 (dC rfl)
       refine bM 3 rfl (by kernel_rfl) rfl (aJ (v := b_0_v) (af cW rfl bx52 rfl) ?_)
       obtain ⟨us465, hl466, r467⟩ := o464.vc
       try simp only [List.length_set, List.length_append, List.length_cons, List.length_nil] at hl466
       refine xv 14 [3, 13, 12, 11, 10, 9, 8, 7, 6, 5, 4, 2, 1, 0] rfl (ab (v := b_0_v) (i := (i_c2 : Int)) Try.underlying25 rfl rfl r467 rfl (by omega) (by omega)) (bM 15 rfl (by kernel_rfl) rfl (bI (r := (i_c2 : Int)) aL rfl rfl o464 o463 (by omega) (by omega) ?_))
       intro w471 ch472 o473
       clear o464 o463
       refine cO (by kernel_rfl) ?_
       have C474 := cg [21] (ch411.n.seq (ch441.n.seq ((ch462.lr rfl).seq (ch472.l rfl))))
       exact mid (g459) _ _ ⟨bH.ca C474, zs0_c2, zs3_c2, zs4_c2, Rg.ca C474, Rr.ca C474, o28.ca C474, o36.ca C474, bx52.ce ch472, o473⟩
    clear Rg Rr o28 o36 bx52 o_b_0 bH
    rintro g477 f475 w476 ⟨bH, zs0_c2, zs3_c2, zs4_c2, Rg, Rr, o28, o36, bx52, o433⟩
    refine ao ?_
    refine back5_c2 ((List.set L1_c2 (Int.toNat (i_c2 : Int)) (gI L1_c2 (i_c2 : Int) ++ [0])), g477) _ _ ⟨bH, zs0_c2, zs3_c2, zs4_c2, Rg, Rr, o28, o36, bx52, o433, ?_⟩ ?_
    · show gY (List.set L1_c2 (Int.toNat (i_c2 : Int)) (gI L1_c2 (i_c2 : Int) ++ [0])) L_c2 i_c2 (min (cz v398 : Int) ((List.length (gI L_c2 (i_c2 : Int)) : Int) + 2000))
      exact hg_c2.next ‹_› ‹_› (by omega)
    · show Int.toNat ((min (cz v398 : Int) ((List.length (gI L_c2 (i_c2 : Int)) : Int) + 2000)) - (List.length (gI (List.set L1_c2 (Int.toNat (i_c2 : Int)) (gI L1_c2 (i_c2 : Int) ++ [0])) (i_c2 : Int)) : Int)) < Int.toNat ((min (cz v398 : Int) ((List.length (gI L_c2 (i_c2 : Int)) : Int) + 2000)) - (List.length (gI L1_c2 (i_c2 : Int)) : Int))
      (have h1 := hg_c2.meas ‹_›; omega)
   refine ag rfl (df p5_c2) (aI rfl (a9 ?_))
   clear cel408 r409
   refine a8 rfl (ai 0 (aa (ah ?_)))
   refine aN (σ := Nat × bj × aE) (fun ⟨k_c2, L2_c2, gq⟩ f w => b9 w0 gq w ∧ f 0 = vp b50 0 ∧ f 3 = vi (i_c2 : Int) ∧ f 5 = vi (k_c2 : Int) ∧ Sl gq (is 0) w g_v g.2 ∧ Sl gq (is 0) w r_v r ∧ Ow gq (is 4) (is 4) w (ft v27) (g.2 ++ [((-7 : Int), (7 : Int))]) ∧ Ow gq (is 5) (is 5) w (ft v35) (kK r) ∧ Bx gq (is 7) w b50 [b_0_v, vi b_1] ∧ cj gq 21 w b_0_v L2_c2 ∧ (ka L2_c2 L_c2 i_c2 k_c2)) (fun ⟨k_c2, L2_c2, gq⟩ => List.length (gI L2_c2 (i_c2 : Int)) - k_c2) (0, L1_c2, g406) ?_ ?_
   · exact ⟨bH, zs0_c2, zs3_c2, rfl, Rg, Rr, o28, o36, bx52, o_b_0, by exact hg_c2.wr⟩
   clear Rg Rr o28 o36 bx52 o_b_0 bH
   rintro ⟨k_c2, L2_c2, g480⟩ f478 w479 ⟨bH, zs0_c2, zs3_c2, zs5_c2, Rg, Rr, o28, o36, bx52, o_b_0, hw_c2⟩ back8_c2
   have hwl_c2 := hw_c2.len
   have hwle_c2 := hw_c2.le
   have hwf_c2 := hw_c2.few
   refine a9 (a9 (a8 rfl (mz zs5_c2 (mz zs0_c2 (lw (vp b50 0) (bA rfl) (lx (ad Try.underlying36 rfl rfl rfl rfl) (lx (af cW rfl bx52 rfl) (mz zs3_c2 (lx (ab (v := b_0_v) (i := (i_c2 : Int)) Try.underlying25 rfl rfl o_b_0.sl rfl (by omega) (by omega)) ?_)))))))))
   obtain ⟨v481, cel482, r483⟩ := bY (r := (i_c2 : Int)) o_b_0 (by omega) (by omega)
   refine lx (aS aL rfl cel482) ?_
   have len484 := (r483.row_sl).small
   refine lx (aO Try.underlying27 rfl r483.row_sl) (lx (bc (m := (k_c2 : Int)) (n := (List.length (gI L2_c2 (i_c2 : Int)) : Int)) rfl rfl) (aa ?_))
   by_cases p8_c2 : (k_c2 : Int) < (List.length (gI L2_c2 (i_c2 : Int)) : Int)
   ·
    refine ae rfl (dt p8_c2) (aj (a9 (ah ?_)))
    clear cel482 r483
    refine a8 rfl (mz zs0_c2 (lw (vp b50 0) (bA rfl) (lx (ad Try.underlying36 rfl rfl rfl rfl) (lx (af cW rfl bx52 rfl) (mz zs3_c2 (lx (ab (v := b_0_v) (i := (i_c2 : Int)) Try.underlying25 rfl rfl o_b_0.sl rfl (by omega) (by omega)) ?_))))))
    obtain ⟨v485, cel486, r487⟩ := bY (r := (i_c2 : Int)) o_b_0 (by omega) (by omega)
    refine lx (aS aL rfl cel486) (mz zs5_c2 (mz zs3_c2 (lx (eR (m := -1000) (n := (i_c2 : Int)) rfl rfl (by omega)) (lx (ab (v := v485) (i := (k_c2 : Int)) Try.underlying27 rfl rfl r487.row_sl rfl (by omega) (by omega)) (lo (bP (i := (k_c2 : Int)) ((-1000) - (i_c2 : Int)) am rfl rfl r487 (by omega) (by omega) rfl ?_))))))
    intro w491 ch492 r493
    obtain ⟨o494, cel495⟩ := sf (r := (i_c2 : Int)) o_b_0 (by omega) (by omega) ch492 cel486 r493
    clear o_b_0 cel486 r487
    refine aa (ao ?_)
    clear cel495 r493
    refine a8 rfl (mz zs5_c2 (lx (aQ (m := (k_c2 : Int)) (n := 1) rfl rfl (by omega)) (ai ((k_c2 : Int) + 1) (aa ?_))))
    refine back8_c2 (k_c2 + 1, (List.set L2_c2 (Int.toNat (i_c2 : Int)) (List.set (gI L2_c2 (i_c2 : Int)) (Int.toNat (k_c2 : Int)) ((-1000) - (i_c2 : Int)))), g480) _ _ ⟨bH.chg ch492 (dC rfl), zs0_c2, zs3_c2, rfl, Rg.chg ch492 (dC rfl), Rr.chg ch492 (dC rfl), o28.chg ch492 (dC rfl) (dC rfl), o36.chg ch492 (dC rfl) (dC rfl), bx52.chg ch492 (dC rfl), o494, ?_⟩ ?_
    · show ka (List.set L2_c2 (Int.toNat (i_c2 : Int)) (List.set (gI L2_c2 (i_c2 : Int)) (Int.toNat (k_c2 : Int)) ((-1000) - (i_c2 : Int)))) L_c2 i_c2 (k_c2 + 1)
      exact (hw_c2.next ‹_› ‹_›).1
    · show List.length (gI (List.set L2_c2 (Int.toNat (i_c2 : Int)) (List.set (gI L2_c2 (i_c2 : Int)) (Int.toNat (k_c2 : Int)) ((-1000) - (i_c2 : Int)))) (i_c2 : Int)) - (k_c2 + 1) < List.length (gI L2_c2 (i_c2 : Int)) - k_c2
      (have h1 := (hw_c2.next ‹_› ‹_›).2; omega)
   refine ag rfl (df p8_c2) (aI rfl (ao ?_))
   clear cel482 r483
   refine a8 rfl (mz zs3_c2 (lx (aQ (m := (i_c2 : Int)) (n := 1) rfl rfl (by omega)) (ai ((i_c2 : Int) + 1) (aa ?_))))
   refine back2_c2 (i_c2 + 1, L2_c2, g480) _ _ ⟨bH, zs0_c2, rfl, Rg, Rr, o28, o36, bx52, o_b_0, ?_⟩ ?_
   · show ke L2_c2 (i_c2 + 1)
     exact hw_c2.fin ha_c2 ‹_› ‹_›
   · show List.length L2_c2 - (i_c2 + 1) < List.length L_c2 - i_c2
     (have h1 := hw_c2.len; omega)
  refine ag rfl (df p2_c2) (aI rfl (a9 (a9 (a8 rfl (ai 0 (aa (ah ?_)))))))
  refine aN (σ := Nat × aE) (fun ⟨m_c2, gq⟩ f w => b9 w0 gq w ∧ f 0 = vp b50 0 ∧ f 6 = vi (m_c2 : Int) ∧ Sl gq (is 0) w g_v g.2 ∧ Sl gq (is 0) w r_v r ∧ Ow gq (is 4) (is 4) w (ft v27) (g.2 ++ [((-7 : Int), (7 : Int))]) ∧ Ow gq (is 5) (is 5) w (ft v35) (kK r) ∧ Bx gq (is 7) w b50 [b_0_v, vi b_1] ∧ cj gq 21 w b_0_v L_c2 ∧ (m_c2 : Int) ≤ ((L_c2.length : Int) : Int) ∧ (True)) (fun ⟨m_c2, gq⟩ => Int.toNat (((L_c2.length : Int) : Int) - (m_c2 : Int))) (0, g390) ?_ ?_
  · exact ⟨bH, zs0_c2, rfl, Rg, Rr, o28, o36, bx52, o_b_0, by omega, by trivial⟩
  clear Rg Rr o28 o36 bx52 o_b_0 bH
  rintro ⟨m_c2, g498⟩ f496 w497 ⟨bH, zs0_c2, zs6_c2, Rg, Rr, o28, o36, bx52, o_b_0, hle_m_c2, hinv12_c2⟩ back12_c2
  refine a9 (a9 (a8 rfl (mz zs6_c2 (mz zs0_c2 (lw (vp b50 0) (bA rfl) (lx (ad Try.underlying36 rfl rfl rfl rfl) (lx (af cW rfl bx52 rfl) (lx (aO Try.underlying25 rfl o_b_0.sl) (lx (bc (m := (m_c2 : Int)) (n := (L_c2.length : Int)) rfl rfl) (aa ?_))))))))))
  by_cases p12_c2 : (m_c2 : Int) < (L_c2.length : Int)
  ·
   refine ae rfl (dt p12_c2) (aj (a9 (ah (a9 (a8 rfl (ai 0 (aa (ah ?_))))))))
   refine aN (σ := Nat × aE) (fun ⟨n_c2, gq⟩ f w => b9 w0 gq w ∧ f 0 = vp b50 0 ∧ f 6 = vi (m_c2 : Int) ∧ f 7 = vi (n_c2 : Int) ∧ Sl gq (is 0) w g_v g.2 ∧ Sl gq (is 0) w r_v r ∧ Ow gq (is 4) (is 4) w (ft v27) (g.2 ++ [((-7 : Int), (7 : Int))]) ∧ Ow gq (is 5) (is 5) w (ft v35) (kK r) ∧ Bx gq (is 7) w b50 [b_0_v, vi b_1] ∧ cj gq 21 w b_0_v L_c2 ∧ (n_c2 : Int) ≤ ((List.length (gI L_c2 (m_c2 : Int)) : Int) : Int) ∧ (True)) (fun ⟨n_c2, gq⟩ => Int.toNat (((List.length (gI L_c2 (m_c2 : Int)) : Int) : Int) - (n_c2 : Int))) (0, g498) ?_ ?_
   · exact ⟨bH, zs0_c2, zs6_c2, rfl, Rg, Rr, o28, o36, bx52, o_b_0, by omega, by trivial⟩
   clear Rg Rr o28 o36 bx52 o_b_0 bH
   rintro ⟨n_c2, g501⟩ f499 w500 ⟨bH, zs0_c2, zs6_c2, zs7_c2, Rg, Rr, o28, o36, bx52, o_b_0, hle_n_c2, hinv15_c2⟩ back15_c2
   refine a9 (a9 (a8 rfl (mz zs7_c2 (mz zs0_c2 (lw (vp b50 0) (bA rfl) (lx (ad Try.underlying36 rfl rfl rfl rfl) (lx (af cW rfl bx52 rfl) (mz zs6_c2 (lx (ab (v := b_0_v) (i := (m_c2 : Int)) Try.underlying25 rfl rfl o_b_0.sl rfl (by omega) (by omega)) ?_)))))))))
   obtain ⟨v502, cel503, r504⟩ := bY (r := (m_c2 : Int)) o_b_0 (by omega) (by omega)
   refine lx (aS aL rfl cel503) ?_
   have len505 := (r504.row_sl).small
   refine lx (aO Try.underlying27 rfl r504.row_sl) (lx (bc (m := (n_c2 : Int)) (n := (List.length (gI L_c2 (m_c2 : Int)) : Int)) rfl rfl) (aa ?_))
   by_cases p15_c2 : (n_c2 : Int) < (List.length (gI L_c2 (m_c2 : Int)) : Int)
   ·
    refine ae rfl (dt p15_c2) (aj (a9 (ah (a9 ?_))))
    clear cel503 r504
    refine a8 rfl (mz zs0_c2 (lw (vp b50 0) (bA rfl) (lx (ad Try.underlying36 rfl rfl rfl rfl) (lx (af cW rfl bx52 rfl) (mz zs6_c2 (lx (ab (v := b_0_v) (i := (m_c2 : Int)) Try.underlying25 rfl rfl o_b_0.sl rfl (by omega) (by omega)) ?_))))))
    obtain ⟨v506, cel507, r508⟩ := bY (r := (m_c2 : Int)) o_b_0 (by omega) (by omega)
    refine lx (aS aL rfl cel507) (mz zs7_c2 (lx (ab (v := v506) (i := (n_c2 : Int)) Try.underlying27 rfl rfl r508.row_sl rfl (by omega) (by omega)) (lx (ay (v := v506) (i := (n_c2 : Int)) am rfl r508.row_sl (by omega) (by omega) (by decide) rfl) (mz zs6_c2 (lx (eR (m := -1000) (n := (m_c2 : Int)) rfl rfl (by omega)) (lx (cl (m := (gI (gI L_c2 (m_c2 : Int)) (n_c2 : Int))) (n := (-1000) - (m_c2 : Int)) rfl rfl) (aa ?_)))))))
    have p17_c2 : (gI (gI L_c2 (m_c2 : Int)) (n_c2 : Int)) = ((-1000) - (m_c2 : Int)) := by exact ha_c2.read (by omega) ‹_› ‹_›
    refine ag rfl (congrArg Bool.not (dt p17_c2)) (aj (ao ?_))
    clear cel507 r508
    refine a8 rfl (mz zs7_c2 (lx (aQ (m := (n_c2 : Int)) (n := 1) rfl rfl (by omega)) (ai ((n_c2 : Int) + 1) (aa ?_))))
    refine back15_c2 (n_c2 + 1, g501) _ _ ⟨bH, zs0_c2, zs6_c2, rfl, Rg, Rr, o28, o36, bx52, o_b_0, by omega, ?_⟩ ?_
    · show True
      trivial
    · show Int.toNat (((List.length (gI L_c2 (m_c2 : Int)) : Int) : Int) - ((n_c2 + 1) : Int)) < Int.toNat (((List.length (gI L_c2 (m_c2 : Int)) : Int) : Int) - (n_c2 : Int))
      omega
   refine ag rfl (df p15_c2) (aI rfl (ao ?_))
   clear cel503 r504
   refine a8 rfl (mz zs6_c2 (lx (aQ (m := (m_c2 : Int)) (n := 1) rfl rfl (by omega)) (ai ((m_c2 : Int) + 1) (aa ?_))))
   refine back12_c2 (m_c2 + 1, g501) _ _ ⟨bH, zs0_c2, rfl, Rg, Rr, o28, o36, bx52, o_b_0, by omega, ?_⟩ ?_
   · show True
     trivial
   · show Int.toNat (((L_c2.length : Int) : Int) - ((m_c2 + 1) : Int)) < Int.toNat (((L_c2.length : Int) : Int) - (m_c2 : Int))
     omega
  refine ag rfl (df p12_c2) (aI rfl (a9 (a8 rfl (ma (Value.bool true) (aa (av (vs := [Value.bool true]) Try.func20 (.tmp rfl .nil) ?_))))))
  refine ⟨Value.bool true, rfl, ?_⟩
  refine ma (Value.bool true) (aa (av (vs := [Value.bool true]) Try.func9 (.tmp rfl .nil) ?_))
  have e0 : (true : Bool) = (true) := by
    rfl
  exact ⟨(congrArg (a₁ := true) (fun (z0 : Bool) => Ending.returned (Value.bool z0)) e0), bH.below⟩
 refine ae rfl (congrArg Bool.not (Bool.eq_false_iff.2 p3)) (a9 ?_)
 clear bx5 bx10 bx15
 refine a8 rfl (ma (Value.bool true) (aa (av (vs := [Value.bool true]) Try.func9 (.tmp rfl .nil) ?_)))
 have e0 : (true : Bool) = (true) := by
   rfl
 have C509 := cg [] (ch2.n.seq (ch7.n.seq (ch12.n.seq (hb17.n.seq hb21.n))))
 replace bH := bH.ca C509
 exact ⟨(congrArg (a₁ := true) (fun (z0 : Bool) => Ending.returned (Value.bool z0)) e0), bH.below⟩
end TL
