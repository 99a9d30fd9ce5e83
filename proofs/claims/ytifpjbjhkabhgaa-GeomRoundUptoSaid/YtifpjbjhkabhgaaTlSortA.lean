/-
  TlSortA: points sorted round another one: the library's sort by the program's comparison.
  By an AI agent.
-/
import Derived.Test.YtifpjbjhkabhgaaProg
import Derived.Test.YtifpjbjhkabhgaaTlSort
import Derived.Test.YtifpjbjhkabhgaaTlAround
import Derived.Test.YtifpjbjhkabhgaaTlGmG
import Derived.Shelf.SlSortCmp.NoneTotal
set_option linter.all false
namespace TL
open Go Go.Proofs Go.Shelf Go.Sort Go.Lib
def sortA_ren : Go.Shelf.Ren := ⟨fun | 6 => 38 | 15 => 58 | 14 => 57 | 28 => 72 | 29 => 73 | 20 => 64 | 21 => 65 | 22 => 66 | 23 => 67 | 24 => 68 | 25 => 69 | 26 => 70 | 27 => 71 | 46 => 74 | 47 => 75 | 48 => 76 | 49 => 77 | 50 => 78 | 57 => 79 | n => n, fun | 22 => 34 | 24 => 3 | 25 => 63 | 3 => 3 | 39 => 76 | 0 => 0 | 53 => 87 | 55 => 89 | 4 => 4 | 46 => 80 | 45 => 79 | 50 => 84 | 5 => 5 | 9 => 9 | 66 => 90 | 70 => 94 | 76 => 96 | 77 => 97 | n => n, fun  | n => n⟩
theorem sortA : Go.Proofs.SlLaysF.n6 Try.prog sortA_ren where
  mixed := by kernel_rfl
  f6 := ⟨Try.f38.name, by decide +kernel, Try.func38.trans (congrArg some (by kernel_rfl))⟩
  f14 := ⟨Try.f57.name, by decide +kernel, Try.func57.trans (congrArg some (by kernel_rfl))⟩
  f15 := Try.func58.trans (congrArg some (by kernel_rfl))
  f20 := ⟨Try.f64.name, by decide +kernel, Try.func64.trans (congrArg some (by kernel_rfl))⟩
  f21 := ⟨Try.f65.name, by decide +kernel, Try.func65.trans (congrArg some (by kernel_rfl))⟩
  f22 := ⟨Try.f66.name, by decide +kernel, Try.func66.trans (congrArg some (by kernel_rfl))⟩
  f23 := ⟨Try.f67.name, by decide +kernel, Try.func67.trans (congrArg some (by kernel_rfl))⟩
  f24 := ⟨Try.f68.name, by decide +kernel, Try.func68.trans (congrArg some (by kernel_rfl))⟩
  f25 := ⟨Try.f69.name, by decide +kernel, Try.func69.trans (congrArg some (by kernel_rfl))⟩
  f26 := ⟨Try.f70.name, by decide +kernel, Try.func70.trans (congrArg some (by kernel_rfl))⟩
  f27 := ⟨Try.f71.name, by decide +kernel, Try.func71.trans (congrArg some (by kernel_rfl))⟩
  f28 := Try.func72.trans (congrArg some (by kernel_rfl))
  f29 := Try.func73.trans (congrArg some (by kernel_rfl))
  f46 := ⟨Try.f74.name, by decide +kernel, Try.func74.trans (congrArg some (by kernel_rfl))⟩
  f47 := Try.func75.trans (congrArg some (by kernel_rfl))
  f48 := Try.func76.trans (congrArg some (by kernel_rfl))
  f49 := ⟨Try.f77.name, by decide +kernel, Try.func77.trans (congrArg some (by kernel_rfl))⟩
  f50 := ⟨Try.f78.name, by decide +kernel, Try.func78.trans (congrArg some (by kernel_rfl))⟩
  f57 := ⟨Try.f79.name, by decide +kernel, Try.func79.trans (congrArg some (by kernel_rfl))⟩
  t0 := Try.underlying0
  a0 := Try.isAgg0
  z0 := Try.sizeOf0
  v0 := Try.zeroValue0
  t3 := Try.underlying3
  a3 := Try.isAgg3
  z3 := Try.sizeOf3
  v3 := Try.zeroValue3
  t4 := Try.underlying4
  a4 := Try.isAgg4
  z4 := Try.sizeOf4
  v4 := Try.zeroValue4
  t5 := Try.underlying5
  a5 := Try.isAgg5
  z5 := Try.sizeOf5
  v5 := Try.zeroValue5
  t9 := Try.underlying9
  a9 := Try.isAgg9
  z9 := Try.sizeOf9
  v9 := Try.zeroValue9
  t22 := Try.underlying34
  a22 := Try.isAgg34
  z22 := Try.sizeOf34
  v22 := Try.zeroValue34
  a24 := Try.isAgg3
  z24 := Try.sizeOf3
  t25 := Try.underlying63
  a25 := Try.isAgg63
  z25 := Try.sizeOf63
  v25 := Try.zeroValue63
  t39 := Try.underlying76
  a39 := Try.isAgg76
  z39 := Try.sizeOf76
  v39 := Try.zeroValue76
  t45 := Try.underlying79
  a45 := Try.isAgg79
  z45 := Try.sizeOf79
  v45 := Try.zeroValue79
  t46 := Try.underlying80
  a46 := Try.isAgg80
  z46 := Try.sizeOf80
  v46 := Try.zeroValue80
  t50 := Try.underlying84
  a50 := Try.isAgg84
  z50 := Try.sizeOf84
  v50 := Try.zeroValue84
  t53 := Try.underlying87
  a53 := Try.isAgg87
  z53 := Try.sizeOf87
  v53 := Try.zeroValue87
  t55 := Try.underlying89
  a55 := Try.isAgg89
  z55 := Try.sizeOf89
  v55 := Try.zeroValue89
  t66 := Try.underlying90
  a66 := Try.isAgg90
  z66 := Try.sizeOf90
  v66 := Try.zeroValue90
  t70 := Try.underlying94
  a70 := Try.isAgg94
  z70 := Try.sizeOf94
  v70 := Try.zeroValue94
  t76 := Try.underlying96
  a76 := Try.isAgg96
  z76 := Try.sizeOf96
  v76 := Try.zeroValue96
  t77 := Try.underlying97
  a77 := Try.isAgg97
  z77 := Try.sizeOf97
  v77 := Try.zeroValue97
theorem b2c {γ : Cmap} {J : Col → Prop} {w : World} {b : Nat} {cs : List Value} (h : Bx γ J w b cs) : Bx c0 (is 0) w b cs := ⟨rfl, h.2⟩

/-- the order of the closure, on the places of a list of points -/
def fi {n : Nat} (x : Fin n) : Int := ((x.val : Nat) : Int)
noncomputable def cfF (o : Pt) (ps : List Pt) {n : Nat} (x y : Fin n) : Int := cfA o ps (fi x) (fi y)
theorem ltF {o : Pt} {ps : List Pt} {n : Nat} {x y : Fin n} : ltOf (cfF o ps) x y = true ↔ ltA o ps (fi x) (fi y) := by
  unfold ltOf cfF
  rw [decide_eq_true_iff]; exact cfA_lt
theorem ltF0 {o : Pt} {ps : List Pt} {n : Nat} {x y : Fin n} : ltOf (cfF o ps) x y = false ↔ ¬ ltA o ps (fi x) (fi y) := by
  rw [← ltF]; simp
theorem swoF {o : Pt} {ps : List Pt} {n : Nat} (hn : n = ps.length) (hz : nzA o ps) : SWO (α := Fin n) (ltOf (cfF o ps)) := by
  have hb : ∀ x : Fin n, 0 ≤ fi x ∧ fi x < (ps.length : Int) := fun x => by have := x.isLt; unfold fi; omega
  refine ⟨fun x => ltF0.2 (ltV_irrefl _ _), fun x y z h1 h2 => ltF.2 (ltA_tr hz (hb x) (hb y) (hb z) (ltF.1 h1) (ltF.1 h2)), fun x y z h1 h2 => ltF0.2 fun h => ?_⟩
  have h1 := ltF0.1 h1
  have h2 := ltF0.1 h2
  by_cases e1 : fi x = fi y
  · unfold ltA at *; rw [e1] at h; exact h2 h
  · by_cases e2 : fi y = fi z
    · unfold ltA at *; rw [← e2] at h; exact h1 h
    · have a1 : ltA o ps (fi y) (fi x) := (ltV_tot e1).resolve_left h1
      have a2 : ltA o ps (fi z) (fi y) := (ltV_tot e2).resolve_left h2
      exact ltA_as hz (hb x) (hb z) h (ltA_tr hz (hb z) (hb y) (hb x) a2 a1)
theorem map_fi (n : Nat) : (List.finRange n).map fi = idxL n := by
  apply List.ext_getElem?
  intro i
  by_cases h : i < n
  · simp [idxL, fi, h]
  · simp [idxL, h]

theorem sortA_ok {γ : Cmap} {w : World} {j j1 j2 j3 : Nat} {v ps_v : Value} {xs : List Int} {ps : List Pt} {o : Pt} {bp bo : Nat} (hl : Ow γ (is j) (is j) w v xs)
    (h1 : Bx γ (is j1) w bp [ps_v]) (h2 : Sl γ (is j2) w ps_v ps) (h3 : Bx γ (is j3) w bo [Value.int .i64 o.1, Value.int .i64 o.2])
    (n1 : ∀ c, is j1 c → ¬ is j c) (n2 : ∀ c, is j2 c → ¬ is j c) (n3 : ∀ c, is j3 c → ¬ is j c) (hx : xs = idxL ps.length) (hz : nzA o ps) (ho : okP o) (hps : okL ps) :
    Calls Try.prog 38 (List.toArray [v, Value.func (.func 39) #[] (List.toArray [Value.pointer (some ⟨bp, 0, none⟩), Value.pointer (some ⟨bo, 0, none⟩)])]) w fun e w' => ∃ x : Unit, e = .returned ((fun _ => Value.tuple #[]) x) ∧ (fun (_ : Unit) (w' : World) => Chg (is j) γ w γ w' ∧ Ow γ (is j) (is j) w' v (arL o ps)) x w' := by
  subst hx
  by_cases hn : ps.length = 0
  · have e0 : idxL ps.length = [] := by rw [hn]; rfl
    rw [e0] at hl
    have ea : arL o ps = [] := List.eq_nil_of_length_eq_zero ((arP_len hz (Nat.le_refl _) (arL_ok hz)).trans hn)
    obtain ⟨p, c, hv⟩ : ∃ p c, v = Value.slice p 0 c := by
      rcases hl with ⟨h, _⟩ | ⟨b, cap, c, e, h, _⟩
      · exact ⟨_, _, h⟩
      · exact ⟨_, _, h⟩
    have key := AnyF.slices_SortFunc_none (P := Try.prog) (ρ := sortA_ren) { sortA with } p c (.func (.func 39) #[] (List.toArray [Value.pointer (some ⟨bp, 0, none⟩), Value.pointer (some ⟨bo, 0, none⟩)])) w
    rw [← hv] at key
    change Calls Try.prog 38 _ _ _ at key
    refine key.mono fun e w' ⟨q1, q2⟩ => ⟨(), q1, ?_⟩
    subst q2
    rw [ea]
    exact ⟨Chg.refl _ _ _, hl⟩
  · obtain ⟨m, hm⟩ : ∃ m, ps.length = m + 1 := ⟨ps.length - 1, by omega⟩
    have hl' : Ow γ (is j) (is j) w v ((List.finRange (m + 1)).map fi) := by rw [map_fi, ← hm]; exact hl
    have hb : ∀ x : Fin (m + 1), 0 ≤ fi x ∧ fi x < (ps.length : Int) := fun x => by have := x.isLt; unfold fi; omega
    have key := sort_ints sortA (α := Fin (m + 1)) fi (cfF o ps) (swoF hm.symm hz) 39 (List.toArray [Value.pointer (some ⟨bp, 0, none⟩), Value.pointer (some ⟨bo, 0, none⟩)]) (enters_of Try.func39 (by kernel_rfl) rfl)
      (fun h => by have := congrArg List.length h; simp at this) hl' fun W hW x y => by
        have h := Around1_ok W (fi x) (fi y) ps ps_v (h2.chg hW n2).ro bp (b2c (h1.chg hW n1)) o bo (b2c (h3.chg hW n3)) (hb x) (hb y) ho hps
        have e : (#[Value.int .i64 (fi x), Value.int .i64 (fi y)] ++ (List.toArray [Value.pointer (some ⟨bp, 0, none⟩), Value.pointer (some ⟨bo, 0, none⟩)]) : Array Value) = List.toArray [Value.int .i64 (fi x), Value.int .i64 (fi y), Value.pointer (some ⟨bp, 0, none⟩), Value.pointer (some ⟨bo, 0, none⟩)] := by simp
        rw [e]; exact h
    change Calls Try.prog 38 _ _ _ at key
    refine key.mono fun e w' ⟨q1, ds', hp, hs, hc, ho'⟩ => ⟨(), q1, hc, ?_⟩
    have : ds'.map fi = arL o ps := by
      refine arP_of_sort hz ?_ ?_
      · rw [hm, ← map_fi]; exact hp.map _
      · exact List.Pairwise.map _ (fun a b h => ltF0.1 h) hs
    rw [← this]; exact ho'
end TL
