import Derived.Test.YtilohhkbelkmdaaTlP3
import Derived.Test.YtilohhkbelkmdaaTlGenA
import Derived.Test.YtilohhkbelkmdaaProg
set_option linter.all false
set_option maxRecDepth 20000
namespace TL
open Go Go.Proofs
theorem tC : Try.prog.follows .mixedOrders = true := by kernel_rfl
theorem vR : Try.f95.body.isNone = false := rfl
theorem vQ : (Try.f95.name == "runtime.NumGoroutine") = false := by decide +kernel
theorem qH (w0 : World) (g : (Int) × (List ((Int) × (Int)))) (g_v : Value) (hg_v : Ro w0 g_v g.2) (hmay : bx g) :
    Calls Try.prog 95 #[vg [vi g.1, g_v]] w0 (fun ee w => ∃ xx : aE × Value, ee = .returned ((fun ⟨δ, rv0⟩ => vg [vi g.1, rv0]) xx) ∧ (fun (⟨δ, rv0⟩ : aE × Value) (w : World) => cC w0 δ w ∧ Ow δ (is 1) (is 1) w rv0 g.2) xx w) := by
 refine az Try.func95 rfl (Nat.le_of_ble_eq_true rfl) ?_
 have bH := b9.start w0
 have Rg := hg_v.sl
 obtain ⟨hm1, hm2, hm3, hm4⟩ := hmay
 refine a9 (a8 rfl (cr rfl (bR c0 (is 1) (1, 0) rfl rfl ?_)))
 intro g4 w1 b3 ch2 bx5
 replace bx5 : Bx g4 (is 1) w1 b3 [vi g.1, g_v] := bx5
 refine lo (bw g4 (is 2) (2, 0) rfl ak ?_)
 intro g9 w6 b8 ch7 bx10
 replace bx10 : Bx g9 (is 2) w6 b8 [vi 0, vn] := bx10
 refine aa (a9 (cx g9 (bW [2, 3]) tC ?_))
 intro w12 ch11
 refine ht 0 rfl (bq.refl _ _ _) (fun w' hw' => ad Try.underlying24 rfl rfl rfl rfl) ?_
 replace bx5 := (bx5.cn ch7).cn ch11
 refine ht 1 rfl (bq.refl _ _ _) (fun w' hw' => af am rfl (bx5.chg hw' (bQ rfl)) rfl) (ht 2 rfl (bq.refl _ _ _) (fun w' hw' => ad Try.underlying24 rfl rfl rfl rfl) (ht 3 rfl (bq.refl _ _ _) (fun w' hw' => af bo rfl (bx5.chg hw' (bQ rfl)) rfl) ?_))
 have C13 := cg [] (ch2.n.seq (ch7.n.seq ch11.n))
 replace Rg := Rg.ca C13
 have len14 := (Rg).small
 refine ht 4 rfl (bq.refl _ _ _) (fun w' hw' => aO Try.underlying22 rfl Rg) (ht 5 rfl (bq.refl _ _ _) (fun w' hw' => aQ (m := (g.2.length : Int)) (n := 1) rfl rfl (by omega)) (ht 7 rfl (bq.refl _ _ _) (fun w' hw' => ad Try.underlying24 rfl rfl rfl rfl) (ht 8 rfl (bq.refl _ _ _) (fun w' hw' => af bo rfl (bx5.chg hw' (bQ rfl)) rfl) (aW 6 rfl (by kernel_rfl) rfl (dE (α := (Int) × (Int)) (l := 0) (cp := (g.2.length : Int) + 1) g9 (is 3) (is 3) (3, 0) rfl ((0 : Int), (0 : Int)) Try.underlying22 bD rfl rfl rfl (by omega) (by omega) (by omega) (by omega) ?_)))))
 intro g15 w16 v17 ch18 o19 _
 have hs20 : bq (bW [2, 3]) _ _ _ _ := ch18.n
 refine ⟨hs20.same, ?_⟩
 refine aW 9 rfl (by kernel_rfl) rfl (aR (α := (Int) × (Int)) (xs := (List.replicate (Int.toNat 0) ((0 : Int), (0 : Int)))) (ys := g.2) g15 (J := is 3) (S := is 3) (3, 0) rfl Try.underlying22 bD (by decide) rfl rfl rfl o19 (Rg.ca hs20) (by decide) (by (simp; omega)) ?_)
 intro g21 w22 v23 ch24 o25
 clear o19
 have hs26 := hs20.seq (ch24.l rfl)
 refine ⟨hs26.same, ?_⟩
 refine ht (v := vg [vi g.1, v23]) 10 rfl hs26.same (fun w' hw' => bn (vs := [(0, vi g.1), (1, v23)]) rfl (by rw [Sl.form o25.flat]; kernel_rfl)) (aW 11 rfl (by kernel_rfl) rfl ?_)
 have C30 := cg [3] (ch11.n.seq (ch18.n.seq (ch24.l rfl)))
 replace bx10 := bx10.ca C30
 refine aC (cs' := [vi g.1, v23]) ak rfl rfl bx10 rfl (Nat.le_of_ble_eq_true rfl) (AllOne.all (.cons rfl (.cons (bm o25.flat) .nil))) rfl ?_
 intro w27 ch28 bx29
 clear bx10
 have hs31 := hs26.seq (ch28.l rfl)
 refine ⟨hs31.same, ?_⟩
 refine cA (by kernel_rfl) (av (vs := [vg [vi g.1, v23]]) Try.func95 (.cell rfl (bk (ds := [vi g.1, v23]) ak bx29 rfl rfl) .nil) ?_)
 have C32 := cg [2, 3] (ch2.n.seq (ch7.n.seq (ch11.n.seq (ch18.n.seq ((ch24.l rfl).seq (ch28.l rfl))))))
 replace bH := bH.ca C32
 replace o25 := o25.ce ch28
 have e0 : ((g.1, ((List.replicate (Int.toNat 0) ((0 : Int), (0 : Int))) ++ g.2)) : (Int) × (List ((Int) × (Int)))) = (g) := by
   rfl
 exact ⟨(fin w0 g21 (fun n => if n = 3 then 1 else 0), v23), (congrArg (a₁ := (g.1, ((List.replicate (Int.toNat 0) ((0 : Int), (0 : Int))) ++ g.2))) (fun (z0 : (Int) × (List ((Int) × (Int)))) => Ending.returned (vg [vi z0.1, v23])) e0), bH.fresh _, ((congrArg (fun (z : (Int) × (List ((Int) × (Int)))) => z.2) e0) ▸ (o25.glue (γ := c0) (ren := (fun n => if n = 3 then 1 else 0)) (k := 1) bH.col rfl rfl))⟩
end TL
