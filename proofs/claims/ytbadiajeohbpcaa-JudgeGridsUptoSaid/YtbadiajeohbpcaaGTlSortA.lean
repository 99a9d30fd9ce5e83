/-
  TlSortA: points sorted round another one: the library's sort by the program's comparison.
  By an AI agent.
-/
import Derived.Test.YtbadiajeohbpcaaProg
import Derived.Test.YtbadiajeohbpcaaGTlP2
import Derived.Test.YtbadiajeohbpcaaGTlGmG
import Derived.Shelf.SlSortCmp.NoneTotal
set_option linter.all false
namespace TL
open Go Go.Proofs Go.Shelf Go.Sort Go.Lib
def jf : Go.Shelf.Ren := ⟨fun | 6 => 55 | 15 => 73 | 14 => 72 | 28 => 91 | 29 => 92 | 20 => 83 | 21 => 84 | 22 => 85 | 23 => 86 | 24 => 87 | 25 => 88 | 26 => 89 | 27 => 90 | 46 => 98 | 47 => 99 | 48 => 100 | 49 => 101 | 50 => 102 | 57 => 104 | n => n, fun | 22 => 39 | 24 => 3 | 25 => 87 | 3 => 3 | 39 => 113 | 0 => 0 | 53 => 129 | 55 => 131 | 4 => 4 | 46 => 122 | 45 => 121 | 50 => 126 | 5 => 5 | 9 => 9 | 66 => 135 | 70 => 139 | 76 => 141 | 77 => 142 | n => n, fun  | n => n⟩
theorem r9 : Go.Proofs.SlLaysF.n6 Try.prog jf where
  mixed := by kernel_rfl
  f6 := ⟨Try.f55.name, by decide +kernel, Try.func55.trans (congrArg some (by kernel_rfl))⟩
  f14 := ⟨Try.f72.name, by decide +kernel, Try.func72.trans (congrArg some (by kernel_rfl))⟩
  f15 := Try.func73.trans (congrArg some (by kernel_rfl))
  f20 := ⟨Try.f83.name, by decide +kernel, Try.func83.trans (congrArg some (by kernel_rfl))⟩
  f21 := ⟨Try.f84.name, by decide +kernel, Try.func84.trans (congrArg some (by kernel_rfl))⟩
  f22 := ⟨Try.f85.name, by decide +kernel, Try.func85.trans (congrArg some (by kernel_rfl))⟩
  f23 := ⟨Try.f86.name, by decide +kernel, Try.func86.trans (congrArg some (by kernel_rfl))⟩
  f24 := ⟨Try.f87.name, by decide +kernel, Try.func87.trans (congrArg some (by kernel_rfl))⟩
  f25 := ⟨Try.f88.name, by decide +kernel, Try.func88.trans (congrArg some (by kernel_rfl))⟩
  f26 := ⟨Try.f89.name, by decide +kernel, Try.func89.trans (congrArg some (by kernel_rfl))⟩
  f27 := ⟨Try.f90.name, by decide +kernel, Try.func90.trans (congrArg some (by kernel_rfl))⟩
  f28 := Try.func91.trans (congrArg some (by kernel_rfl))
  f29 := Try.func92.trans (congrArg some (by kernel_rfl))
  f46 := ⟨Try.f98.name, by decide +kernel, Try.func98.trans (congrArg some (by kernel_rfl))⟩
  f47 := Try.func99.trans (congrArg some (by kernel_rfl))
  f48 := Try.func100.trans (congrArg some (by kernel_rfl))
  f49 := ⟨Try.f101.name, by decide +kernel, Try.func101.trans (congrArg some (by kernel_rfl))⟩
  f50 := ⟨Try.f102.name, by decide +kernel, Try.func102.trans (congrArg some (by kernel_rfl))⟩
  f57 := ⟨Try.f104.name, by decide +kernel, Try.func104.trans (congrArg some (by kernel_rfl))⟩
  t0 := Try.underlying0
  a0 := Try.isAgg0
  z0 := Try.sizeOf0
  v0 := Try.zeroValue0
  t3 := Try.underlying3
  a3 := Try.isAgg3
  z3 := Try.sizeOf3
  v3 := Try.zeroValue3
  t4 := Try.underlying4
  a4 := Try.isAgg4
  z4 := Try.sizeOf4
  v4 := Try.zeroValue4
  t5 := Try.underlying5
  a5 := Try.isAgg5
  z5 := Try.sizeOf5
  v5 := Try.zeroValue5
  t9 := Try.underlying9
  a9 := Try.isAgg9
  z9 := Try.sizeOf9
  v9 := Try.zeroValue9
  t22 := Try.underlying39
  a22 := Try.isAgg39
  z22 := Try.sizeOf39
  v22 := Try.zeroValue39
  a24 := Try.isAgg3
  z24 := Try.sizeOf3
  t25 := Try.underlying87
  a25 := Try.isAgg87
  z25 := Try.sizeOf87
  v25 := Try.zeroValue87
  t39 := Try.underlying113
  a39 := Try.isAgg113
  z39 := Try.sizeOf113
  v39 := Try.zeroValue113
  t45 := Try.underlying121
  a45 := Try.isAgg121
  z45 := Try.sizeOf121
  v45 := Try.zeroValue121
  t46 := Try.underlying122
  a46 := Try.isAgg122
  z46 := Try.sizeOf122
  v46 := Try.zeroValue122
  t50 := Try.underlying126
  a50 := Try.isAgg126
  z50 := Try.sizeOf126
  v50 := Try.zeroValue126
  t53 := Try.underlying129
  a53 := Try.isAgg129
  z53 := Try.sizeOf129
  v53 := Try.zeroValue129
  t55 := Try.underlying131
  a55 := Try.isAgg131
  z55 := Try.sizeOf131
  v55 := Try.zeroValue131
  t66 := Try.underlying135
  a66 := Try.isAgg135
  z66 := Try.sizeOf135
  v66 := Try.zeroValue135
  t70 := Try.underlying139
  a70 := Try.isAgg139
  z70 := Try.sizeOf139
  v70 := Try.zeroValue139
  t76 := Try.underlying141
  a76 := Try.isAgg141
  z76 := Try.sizeOf141
  v76 := Try.zeroValue141
  t77 := Try.underlying142
  a77 := Try.isAgg142
  z77 := Try.sizeOf142
  v77 := Try.zeroValue142
theorem th {γ : aP} {J : c8 → Prop} {w : World} {b : Nat} {cs : List Value} (h : Bx γ J w b cs) : Bx c0 (is 0) w b cs := ⟨rfl, h.2⟩
/-- the order of the closure, on the places of a list of points -/
def fi {n : Nat} (x : Fin n) : Int := ((x.val : Nat) : Int)
noncomputable def cfF (o : Pt) (ps : List Pt) {n : Nat} (x y : Fin n) : Int := ss o ps (fi x) (fi y)
theorem sT {o : Pt} {ps : List Pt} {n : Nat} {x y : Fin n} : ltOf (cfF o ps) x y = true ↔ iQ o ps (fi x) (fi y) := by
  unfold ltOf cfF
  rw [decide_eq_true_iff]; exact rY
theorem ns {o : Pt} {ps : List Pt} {n : Nat} {x y : Fin n} : ltOf (cfF o ps) x y = false ↔ ¬ iQ o ps (fi x) (fi y) := by
  rw [← sT]; simp
theorem te {o : Pt} {ps : List Pt} {n : Nat} (hn : n = ps.length) (hz : gV o ps) : SWO (α := Fin n) (ltOf (cfF o ps)) := by
  have hb : ∀ x : Fin n, 0 ≤ fi x ∧ fi x < (ps.length : Int) := fun x => by have := x.isLt; unfold fi; omega
  refine ⟨fun x => ns.2 (eZ _ _), fun x y z h1 h2 => sT.2 (jt hz (hb x) (hb y) (hb z) (sT.1 h1) (sT.1 h2)), fun x y z h1 h2 => ns.2 fun h => ?_⟩
  have h1 := ns.1 h1
  have h2 := ns.1 h2
  by_cases e1 : fi x = fi y
  · unfold iQ at *; rw [e1] at h; exact h2 h
  · by_cases e2 : fi y = fi z
    · unfold iQ at *; rw [← e2] at h; exact h1 h
    · have a1 : iQ o ps (fi y) (fi x) := (ie e1).resolve_left h1
      have a2 : iQ o ps (fi z) (fi y) := (ie e2).resolve_left h2
      exact ot hz (hb x) (hb z) h (jt hz (hb z) (hb y) (hb x) a2 a1)
theorem nJ (n : Nat) : (List.finRange n).map fi = eC n := by
  apply List.ext_getElem?
  intro i
  by_cases h : i < n
  · simp [eC, fi, h]
  · simp [eC, h]
theorem oH {γ : aP} {w : World} {j j1 j2 j3 : Nat} {v ps_v : Value} {xs : List Int} {ps : List Pt} {o : Pt} {bp bo : Nat} (hl : Ow γ (is j) (is j) w v xs)
    (h1 : Bx γ (is j1) w bp [ps_v]) (h2 : Sl γ (is j2) w ps_v ps) (h3 : Bx γ (is j3) w bo [Value.int .i64 o.1, Value.int .i64 o.2])
    (n1 : ∀ c, is j1 c → ¬ is j c) (n2 : ∀ c, is j2 c → ¬ is j c) (n3 : ∀ c, is j3 c → ¬ is j c) (hx : xs = eC ps.length) (hz : gV o ps) (ho : c4 o) (hps : cX ps) :
    Calls Try.prog 55 (List.toArray [v, Value.func (.func 56) #[] (List.toArray [Value.pointer (some ⟨bp, 0, none⟩), Value.pointer (some ⟨bo, 0, none⟩)])]) w fun e w' => ∃ x : Unit, e = .returned ((fun _ => Value.tuple #[]) x) ∧ (fun (_ : Unit) (w' : World) => aO (is j) γ w γ w' ∧ Ow γ (is j) (is j) w' v (arL o ps)) x w' := by
  subst hx
  by_cases hn : ps.length = 0
  · have e0 : eC ps.length = [] := by rw [hn]; rfl
    rw [e0] at hl
    have ea : arL o ps = [] := List.eq_nil_of_length_eq_zero ((ly hz (Nat.le_refl _) (hP hz)).trans hn)
    obtain ⟨p, c, hv⟩ : ∃ p c, v = Value.slice p 0 c := by
      rcases hl with ⟨h, _⟩ | ⟨b, cap, c, e, h, _⟩
      · exact ⟨_, _, h⟩
      · exact ⟨_, _, h⟩
    have key := AnyF.slices_SortFunc_none (P := Try.prog) (ρ := jf) { r9 with } p c (.func (.func 56) #[] (List.toArray [Value.pointer (some ⟨bp, 0, none⟩), Value.pointer (some ⟨bo, 0, none⟩)])) w
    rw [← hv] at key
    change Calls Try.prog 55 _ _ _ at key
    refine key.mono fun e w' ⟨q1, q2⟩ => ⟨(), q1, ?_⟩
    subst q2
    rw [ea]
    exact ⟨aO.refl _ _ _, hl⟩
  · obtain ⟨m, hm⟩ : ∃ m, ps.length = m + 1 := ⟨ps.length - 1, by omega⟩
    have hl' : Ow γ (is j) (is j) w v ((List.finRange (m + 1)).map fi) := by rw [nJ, ← hm]; exact hl
    have hb : ∀ x : Fin (m + 1), 0 ≤ fi x ∧ fi x < (ps.length : Int) := fun x => by have := x.isLt; unfold fi; omega
    have key := mm r9 (α := Fin (m + 1)) fi (cfF o ps) (te hm.symm hz) 56 (List.toArray [Value.pointer (some ⟨bp, 0, none⟩), Value.pointer (some ⟨bo, 0, none⟩)]) (enters_of Try.func56 (by kernel_rfl) rfl)
      (fun h => by have := congrArg List.length h; simp at this) hl' fun W hW x y => by
        have h := kW W (fi x) (fi y) ps ps_v (h2.chg hW n2).ro bp (th (h1.chg hW n1)) o bo (th (h3.chg hW n3)) (hb x) (hb y) ho hps
        have e : (#[Value.int .i64 (fi x), Value.int .i64 (fi y)] ++ (List.toArray [Value.pointer (some ⟨bp, 0, none⟩), Value.pointer (some ⟨bo, 0, none⟩)]) : Array Value) = List.toArray [Value.int .i64 (fi x), Value.int .i64 (fi y), Value.pointer (some ⟨bp, 0, none⟩), Value.pointer (some ⟨bo, 0, none⟩)] := by simp
        rw [e]; exact h
    change Calls Try.prog 55 _ _ _ at key
    refine key.mono fun e w' ⟨q1, ds', hp, hs, hc, ho'⟩ => ⟨(), q1, hc, ?_⟩
    have : ds'.map fi = arL o ps := by
      refine kj hz ?_ ?_
      · rw [hm, ← nJ]; exact hp.map _
      · exact List.Pairwise.map _ (fun a b h => ns.1 h) hs
    rw [← this]; exact ho'
end TL
