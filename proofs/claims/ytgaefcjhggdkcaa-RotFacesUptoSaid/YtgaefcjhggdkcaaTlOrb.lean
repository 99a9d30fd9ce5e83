/-
  TlOrb: going round by a permutation; two places changed; what that does to the numbers of rounds.
  By an AI agent.
-/
import Derived.Test.YtgaefcjhggdkcaaTlCyc
set_option linter.all false
namespace TL
/-! classes joined -/
def Jn (R : Int → Int → Prop) (a b x y : Int) : Prop := R x y ∨ (R x a ∧ R b y) ∨ (R x b ∧ R a y)
theorem Jn.eqv {D : Int → Prop} {R : Int → Int → Prop} (h : Eqv D R) {a b : Int} (ha : D a) (hb : D b) : Eqv D (Jn R a b) := by
  refine ⟨fun x hx => .inl (h.rfl x hx), fun x y hx hy hxy => ?_, fun x y z hx hy hz h1 h2 => ?_⟩
  · rcases hxy with e | ⟨e1, e2⟩ | ⟨e1, e2⟩
    · exact .inl (h.symm _ _ hx hy e)
    · exact .inr (.inr ⟨h.symm _ _ hb hy e2, h.symm _ _ hx ha e1⟩)
    · exact .inr (.inl ⟨h.symm _ _ ha hy e2, h.symm _ _ hx hb e1⟩)
  · rcases h1 with e | ⟨e1, e2⟩ | ⟨e1, e2⟩
    · rcases h2 with f | ⟨f1, f2⟩ | ⟨f1, f2⟩
      · exact .inl (h.trans _ _ _ hx hy hz e f)
      · exact .inr (.inl ⟨h.trans _ _ _ hx hy ha e f1, f2⟩)
      · exact .inr (.inr ⟨h.trans _ _ _ hx hy hb e f1, f2⟩)
    · rcases h2 with f | ⟨f1, f2⟩ | ⟨f1, f2⟩
      · exact .inr (.inl ⟨e1, h.trans _ _ _ hb hy hz e2 f⟩)
      · exact .inr (.inl ⟨e1, f2⟩)
      · exact .inl (h.trans _ _ _ hx ha hz e1 f2)
    · rcases h2 with f | ⟨f1, f2⟩ | ⟨f1, f2⟩
      · exact .inr (.inr ⟨e1, h.trans _ _ _ ha hy hz e2 f⟩)
      · exact .inl (h.trans _ _ _ hx hb hz e1 f2)
      · exact .inr (.inr ⟨e1, f2⟩)
theorem Num.join {D : Int → Prop} {R : Int → Int → Prop} (he : Eqv D R) {a b : Int} (ha : D a) (hb : D b) (hab : ¬ R a b) {k : Nat} (h : Num D R k) : ∃ k', Num D (Jn R a b) k' ∧ k' + 1 = k := by
  obtain ⟨l, h, rfl⟩ := h
  obtain ⟨z, hz, hbz⟩ := h.all b hb
  have hzd := h.dom z hz
  refine ⟨(l.erase z).length, ⟨l.erase z, ⟨h.nd.erase z, fun x hx => h.dom x (List.mem_of_mem_erase hx), fun x hx => ?_, fun x hx y hy hxy => ?_⟩, rfl⟩, ?_⟩
  · obtain ⟨y, hy, hxy⟩ := h.all x hx
    by_cases e : y = z
    · subst e
      obtain ⟨w, hw, haw⟩ := h.all a ha
      refine ⟨w, (List.mem_erase_of_ne fun e => hab ?_).2 hw, .inr (.inr ⟨he.trans _ _ _ hx hzd hb hxy (he.symm _ _ hb hzd hbz), haw⟩)⟩
      subst e
      exact he.trans _ _ _ ha hzd hb haw (he.symm _ _ hb hzd hbz)
    · exact ⟨y, (List.mem_erase_of_ne e).2 hy, .inl hxy⟩
  · have hx' := h.nd.mem_erase_iff.1 hx
    have hy' := h.nd.mem_erase_iff.1 hy
    have hxd := h.dom x hx'.2
    have hyd := h.dom y hy'.2
    rcases hxy with e | ⟨_, e⟩ | ⟨e, _⟩
    · exact h.one x hx'.2 y hy'.2 e
    · exact absurd (h.one y hy'.2 z hz (he.trans _ _ _ hyd hb hzd (he.symm _ _ hb hyd e) hbz)) hy'.1
    · exact absurd (h.one x hx'.2 z hz (he.trans _ _ _ hxd hb hzd e hbz)) hx'.1
  · have h1 := List.length_erase_of_mem hz
    have h2 := List.length_pos_of_mem hz
    omega
def In (n x : Int) : Prop := 0 ≤ x ∧ x < n
theorem Num.ex {n : Int} {R : Int → Int → Prop} (he : Eqv (In n) R) : ∃ k, Num (In n) R k := by
  have key : ∀ m : Nat, (m : Int) ≤ n → ∃ l : List Int, l.Nodup ∧ (∀ x ∈ l, 0 ≤ x ∧ x < m) ∧ (∀ x : Int, 0 ≤ x → x < m → ∃ y ∈ l, R x y) ∧ ∀ x ∈ l, ∀ y ∈ l, R x y → x = y := by
    intro m
    induction m with
    | zero => exact fun _ => ⟨[], by simp, by simp, fun x h0 h1 => by omega, by simp⟩
    | succ m ih =>
      intro hm
      obtain ⟨l, h1, h2, h3, h4⟩ := ih (by omega)
      have hmd : In n (m : Int) := ⟨by omega, by omega⟩
      by_cases c : ∃ y ∈ l, R (m : Int) y
      · refine ⟨l, h1, fun x hx => by have := h2 x hx; omega, fun x h0 hx => ?_, h4⟩
        by_cases e : x = (m : Int)
        · subst e; exact c
        · exact h3 x h0 (by omega)
      · refine ⟨(m : Int) :: l, List.nodup_cons.2 ⟨fun hm => by have := h2 _ hm; omega, h1⟩, fun x hx => ?_, fun x h0 hx => ?_, fun x hx y hy hxy => ?_⟩
        · rcases List.mem_cons.1 hx with rfl | hx
          · omega
          · have := h2 x hx; omega
        · by_cases e : x = (m : Int)
          · subst e; exact ⟨(m : Int), by simp, he.rfl _ hmd⟩
          · obtain ⟨y, hy, hxy⟩ := h3 x h0 (by omega)
            exact ⟨y, by simp [hy], hxy⟩
        · have hlt : ∀ z ∈ l, In n z := fun z hz => by have := h2 z hz; exact ⟨by omega, by omega⟩
          rcases List.mem_cons.1 hx with rfl | hx
          · rcases List.mem_cons.1 hy with rfl | hy
            · rfl
            · exact absurd ⟨y, hy, hxy⟩ c
          · rcases List.mem_cons.1 hy with rfl | hy
            · exact absurd ⟨x, hx, he.symm _ _ (hlt x hx) hmd hxy⟩ c
            · exact h4 x hx y hy hxy
  by_cases hn : 0 ≤ n
  · obtain ⟨l, h1, h2, h3, h4⟩ := key n.toNat (by omega)
    exact ⟨l.length, l, ⟨h1, fun x hx => by have := h2 x hx; exact ⟨by omega, by omega⟩, fun x hx => h3 x hx.1 (by have := hx.2; omega), h4⟩, rfl⟩
  · exact ⟨0, [], ⟨by simp, by simp, fun x hx => by have := hx.1; have := hx.2; omega, by simp⟩, rfl⟩
/-! going round -/
def it (p : Int → Int) : Nat → Int → Int
  | 0, x => x
  | k + 1, x => it p k (p x)
theorem it_add (p : Int → Int) : ∀ (a b : Nat) (x : Int), it p (a + b) x = it p b (it p a x)
  | 0, b, x => by simp [it]
  | a + 1, b, x => by
    rw [show a + 1 + b = (a + b) + 1 by omega]
    simp only [it]
    exact it_add p a b (p x)
theorem it_succ (p : Int → Int) (k : Nat) (x : Int) : it p (k + 1) x = p (it p k x) := it_add p k 1 x
structure Pm (n : Int) (p : Int → Int) : Prop where
  rng : ∀ x, In n x → In n (p x)
  inj : ∀ x y, In n x → In n y → p x = p y → x = y
theorem Pm.it {n : Int} {p : Int → Int} (h : Pm n p) : ∀ (k : Nat) {x : Int}, In n x → In n (it p k x)
  | 0, x, hx => hx
  | k + 1, x, hx => h.it k (h.rng x hx)
theorem Pm.itinj {n : Int} {p : Int → Int} (h : Pm n p) : ∀ (k : Nat) {x y : Int}, In n x → In n y → TL.it p k x = TL.it p k y → x = y
  | 0, x, y, hx, hy, e => e
  | k + 1, x, y, hx, hy, e => h.inj x y hx hy (h.itinj k (h.rng x hx) (h.rng y hy) e)
theorem Pm.back {n : Int} {p : Int → Int} (h : Pm n p) {x : Int} (hx : In n x) : ∃ k, TL.it p (k + 1) x = x := by
  refine Classical.byContradiction fun hno => ?_
  have hnd : ((List.range (n.toNat + 1)).map fun k => TL.it p k x).Nodup := by
    refine List.pairwise_map.2 (List.Pairwise.imp (R := fun a b => a < b) (fun {a b} (hab : a < b) => fun (e : TL.it p a x = TL.it p b x) => hno ⟨b - a - 1, ?_⟩) List.pairwise_lt_range)
    have e2 : TL.it p b x = TL.it p a (TL.it p (b - a - 1 + 1) x) := by rw [← it_add]; congr 1; omega
    rw [e2] at e
    exact (h.itinj a hx (h.it _ hx) e).symm
  have := nodup_le (n := n) (by have := hx.1; have := hx.2; omega) hnd (fun y hy => by
    obtain ⟨k, _, rfl⟩ := List.mem_map.1 hy
    exact h.it k hx)
  simp at this
  have := hx.1; have := hx.2
  omega
def Orb (p : Int → Int) (x y : Int) : Prop := ∃ k, TL.it p k x = y
theorem Orb.step (p : Int → Int) (x : Int) : Orb p x (p x) := ⟨1, rfl⟩
theorem Orb.refl (p : Int → Int) (x : Int) : Orb p x x := ⟨0, rfl⟩
theorem Orb.trans {p : Int → Int} {x y z : Int} (h1 : Orb p x y) (h2 : Orb p y z) : Orb p x z := by
  obtain ⟨a, rfl⟩ := h1
  obtain ⟨b, rfl⟩ := h2
  exact ⟨a + b, it_add p a b x⟩
theorem Orb.ind {p : Int → Int} {S : Int → Prop} (hS : ∀ x, S x → S (p x)) {x y : Int} (h : Orb p x y) : S x → S y := by
  obtain ⟨k, rfl⟩ := h
  induction k generalizing x with
  | zero => exact fun h => h
  | succ k ih => exact fun h => ih (hS x h)
theorem Orb.mem {n : Int} {p : Int → Int} (hp : Pm n p) {x y : Int} (h : Orb p x y) (hx : In n x) : In n y := Orb.ind (S := In n) hp.rng h hx
theorem Pm.eqv {n : Int} {p : Int → Int} (h : Pm n p) : Eqv (In n) (Orb p) := by
  refine ⟨fun x _ => Orb.refl p x, fun x y hx hy hxy => ?_, fun x y z _ _ _ h1 h2 => h1.trans h2⟩
  obtain ⟨k, rfl⟩ := hxy
  obtain ⟨c, hc⟩ := h.back hx
  have hm : ∀ m : Nat, TL.it p (m * (c + 1)) x = x := by
    intro m
    induction m with
    | zero => simp [TL.it]
    | succ m ih => rw [show (m + 1) * (c + 1) = m * (c + 1) + (c + 1) by rw [Nat.add_mul]; omega, it_add, ih, hc]
  refine ⟨k * c, ?_⟩
  rw [← it_add, show k + k * c = k * (c + 1) by rw [Nat.mul_succ]; omega]
  exact hm k
theorem Orb.congr {n : Int} {p q : Int → Int} (hp : Pm n p) (h : ∀ x, In n x → p x = q x) {x y : Int} (hx : In n x) (ho : Orb p x y) : Orb q x y := by
  obtain ⟨k, rfl⟩ := ho
  refine ⟨k, ?_⟩
  induction k generalizing x with
  | zero => rfl
  | succ k ih =>
    show TL.it q k (q x) = TL.it p k (p x)
    rw [← h x hx]
    exact ih (hp.rng x hx)
theorem Pm.congr {n : Int} {p q : Int → Int} (hp : Pm n p) (h : ∀ x, In n x → p x = q x) : Pm n q :=
  ⟨fun x hx => by rw [← h x hx]; exact hp.rng x hx, fun x y hx hy e => hp.inj x y hx hy (by rw [h x hx, h y hy]; exact e)⟩
theorem Orb.iff {n : Int} {p q : Int → Int} (hp : Pm n p) (h : ∀ x, In n x → p x = q x) {x y : Int} (hx : In n x) : Orb p x y ↔ Orb q x y :=
  ⟨Orb.congr hp h hx, Orb.congr (hp.congr h) (fun x hx => (h x hx).symm) hx⟩
/-! two places changed -/
def tr (a b x : Int) : Int := if x = a then b else if x = b then a else x
theorem tr_tr (a b x : Int) : tr a b (tr a b x) = x := by
  unfold tr
  by_cases h1 : x = a
  · subst h1
    by_cases h2 : b = x <;> simp [h2]
  · by_cases h3 : x = b
    · subst h3; simp [h1]
    · simp [h1, h3]
theorem tr_in {n a b x : Int} (ha : In n a) (hb : In n b) (hx : In n x) : In n (tr a b x) := by
  unfold tr
  split
  · exact hb
  · split
    · exact ha
    · exact hx
def sw (p : Int → Int) (a b x : Int) : Int := p (tr a b x)
theorem sw_sw (p : Int → Int) (a b : Int) : sw (sw p a b) a b = p := funext fun x => by unfold sw; rw [tr_tr]
theorem sw_a (p : Int → Int) (a b : Int) : sw p a b a = p b := by simp [sw, tr]
theorem sw_b (p : Int → Int) {a b : Int} : sw p a b b = p a := by
  unfold sw tr
  by_cases h : b = a
  · subst h; simp
  · simp [h]
theorem sw_o (p : Int → Int) {a b x : Int} (h1 : x ≠ a) (h2 : x ≠ b) : sw p a b x = p x := by simp [sw, tr, h1, h2]
theorem Pm.sw {n : Int} {p : Int → Int} (h : Pm n p) {a b : Int} (ha : In n a) (hb : In n b) : Pm n (sw p a b) :=
  ⟨fun x hx => h.rng _ (tr_in ha hb hx), fun x y hx hy e => by
    have := h.inj _ _ (tr_in ha hb hx) (tr_in ha hb hy) e
    have := congrArg (tr a b) this
    rwa [tr_tr, tr_tr] at this⟩
theorem sw_half {n : Int} {p : Int → Int} (h : Pm n p) {a b : Int} (ha : In n a) (hb : In n b) (hab : ¬ Orb p a b) : Orb (sw p a b) a b := by
  have key : ∀ (k : Nat) (z : Int), In n z → TL.it p k z = b → Orb (sw p a b) z b := by
    intro k
    induction k with
    | zero => intro z _ e; rw [show z = b from e]; exact Orb.refl _ _
    | succ k ih =>
      intro z hz e
      by_cases hzb : z = b
      · rw [hzb]; exact Orb.refl _ _
      · have hza : z ≠ a := fun h => hab (by rw [← h]; exact ⟨k + 1, e⟩)
        have h1 := ih (p z) (h.rng z hz) e
        have h2 := Orb.step (sw p a b) z
        rw [sw_o p hza hzb] at h2
        exact h2.trans h1
  obtain ⟨k, hk⟩ := h.eqv.symm _ _ hb (h.rng b hb) (Orb.step p b)
  have h1 := key k (p b) (h.rng b hb) hk
  have h2 := Orb.step (sw p a b) a
  rw [sw_a] at h2
  exact h2.trans h1
theorem sw_orb {n : Int} {p : Int → Int} (h : Pm n p) {a b : Int} (ha : In n a) (hb : In n b) (hab : ¬ Orb p a b) {x y : Int} (hx : In n x) (hy : In n y) : Orb (sw p a b) x y ↔ Jn (Orb p) a b x y := by
  have hj := Jn.eqv h.eqv ha hb
  have hq := h.sw ha hb
  have hq' := hq.eqv
  constructor
  · intro ho
    refine (Orb.ind (S := fun z => In n z ∧ Jn (Orb p) a b x z) (fun z hz => ?_) ho ⟨hx, hj.rfl x hx⟩).2
    refine ⟨hq.rng z hz.1, hj.trans _ _ _ hx hz.1 (hq.rng z hz.1) hz.2 ?_⟩
    by_cases e1 : z = a
    · rw [e1, sw_a]; exact .inr (.inl ⟨Orb.refl _ _, Orb.step p b⟩)
    · by_cases e2 : z = b
      · rw [e2, sw_b]; exact .inr (.inr ⟨Orb.refl _ _, Orb.step p a⟩)
      · rw [sw_o p e1 e2]; exact .inl (Orb.step p z)
  · have h1 := sw_half h ha hb hab
    have h2 := hq'.symm _ _ ha hb h1
    have key : ∀ {u v : Int}, In n u → Orb p u v → Orb (sw p a b) u v := by
      intro u v hu ho
      refine (Orb.ind (S := fun z => In n z ∧ Orb (sw p a b) u z) (fun z hz => ⟨h.rng z hz.1, hz.2.trans ?_⟩) ho ⟨hu, Orb.refl _ _⟩).2
      by_cases e1 : z = a
      · rw [e1]
        have h3 := Orb.step (sw p a b) b
        rw [sw_b] at h3
        exact h1.trans h3
      · by_cases e2 : z = b
        · rw [e2]
          have h3 := Orb.step (sw p a b) a
          rw [sw_a] at h3
          exact h2.trans h3
        · have h3 := Orb.step (sw p a b) z
          rwa [sw_o p e1 e2] at h3
    rintro (e | ⟨e1, e2⟩ | ⟨e1, e2⟩)
    · exact key hx e
    · exact (key hx e1).trans (h1.trans (key hb e2))
    · exact (key hx e1).trans (h2.trans (key ha e2))
theorem least {P : Nat → Prop} : ∀ (k : Nat), P k → ∃ m, P m ∧ ∀ j, j < m → ¬ P j := by
  intro k
  induction k using Nat.strongRecOn with
  | ind k ih =>
    intro hk
    by_cases c : ∃ j, j < k ∧ P j
    · obtain ⟨j, hj, hp⟩ := c
      exact ih j hj hp
    · exact ⟨k, hk, fun j hj hp => c ⟨j, hj, hp⟩⟩
theorem sw_apart {n : Int} {p : Int → Int} (h : Pm n p) {a b : Int} (ha : In n a) (hb : In n b) (hne : a ≠ b) (hab : Orb p a b) : ¬ Orb (sw p a b) a b := by
  have h1 : Orb p (p b) a := h.eqv.symm _ _ ha (h.rng b hb) (hab.trans (Orb.step p b))
  obtain ⟨k0, hk0⟩ := h1
  obtain ⟨k, hk, hmin⟩ := least (P := fun k => TL.it p k (p b) = a) k0 hk0
  have hno : ∀ j, j ≤ k → TL.it p j (p b) ≠ b := by
    intro j hj e
    have hjk : j ≠ k := fun e2 => hne (by rw [← hk, ← e2]; exact e)
    have e3 : TL.it p (k - j - 1) (p b) = a := by
      have : TL.it p k (p b) = TL.it p (k - j) (TL.it p j (p b)) := by rw [← it_add]; congr 1; omega
      rw [e, show k - j = (k - j - 1) + 1 by omega] at this
      rw [← hk, this]; rfl
    exact hmin (k - j - 1) (by omega) e3
  intro ho
  obtain ⟨j, hj, e⟩ := Orb.ind (S := fun z => ∃ j, j ≤ k ∧ TL.it p j (p b) = z) (fun z hz => by
    obtain ⟨j, hj, e⟩ := hz
    by_cases c : j = k
    · have : z = a := by rw [← e, c]; exact hk
      rw [this, sw_a]
      exact ⟨0, by omega, rfl⟩
    · rw [sw_o p (fun e2 => hmin j (by omega) (by rw [e, e2])) (fun e2 => hno j hj (by rw [e, e2]))]
      exact ⟨j + 1, by omega, by rw [it_succ, e]⟩) ho ⟨k, Nat.le_refl _, hk⟩
  exact hno j hj e
/-! joined by both -/
def Lk (n : Int) (s t : Int → Int) (x y : Int) : Prop := ∀ R : Int → Int → Prop, Eqv (In n) R → (∀ x, In n x → R x (s x)) → (∀ x, In n x → R x (t x)) → R x y
theorem Lk.eqv (n : Int) (s t : Int → Int) : Eqv (In n) (Lk n s t) :=
  ⟨fun x hx R hR _ _ => hR.rfl x hx, fun x y hx hy h R hR h1 h2 => hR.symm x y hx hy (h R hR h1 h2), fun x y z hx hy hz h1 h2 R hR h3 h4 => hR.trans x y z hx hy hz (h1 R hR h3 h4) (h2 R hR h3 h4)⟩
theorem Lk.s {n : Int} {s t : Int → Int} {x : Int} (hx : In n x) : Lk n s t x (s x) := fun R _ h _ => h x hx
theorem Lk.t {n : Int} {s t : Int → Int} {x : Int} (hx : In n x) : Lk n s t x (t x) := fun R _ _ h => h x hx
theorem Lk.orb {n : Int} {s t : Int → Int} (hs : Pm n s) {x y : Int} (hx : In n x) (h : Orb s x y) : Lk n s t x y :=
  (Orb.ind (S := fun z => In n z ∧ Lk n s t x z) (fun z hz => ⟨hs.rng z hz.1, (Lk.eqv n s t).trans _ _ _ hx hz.1 (hs.rng z hz.1) hz.2 (Lk.s hz.1)⟩) h ⟨hx, (Lk.eqv n s t).rfl x hx⟩).2
/-- Euler's count: twice what is joined, less the rounds of nodes and of faces -/
def Ec (n : Int) (t s : Int → Int) (d : Int) : Prop := ∃ V F C : Nat, Num (In n) (Orb s) V ∧ Num (In n) (Orb fun x => s (t x)) F ∧ Num (In n) (Lk n s t) C ∧ d = 2 * (C : Int) - V - F
structure Tw (n : Int) (t : Int → Int) : Prop where
  rng : ∀ x, In n x → In n (t x)
  inv : ∀ x, In n x → t (t x) = x
theorem Tw.comp {n : Int} {t s : Int → Int} (ht : Tw n t) (hs : Pm n s) : Pm n (fun x => s (t x)) :=
  ⟨fun x hx => hs.rng _ (ht.rng x hx), fun x y hx hy e => by
    have := hs.inj _ _ (ht.rng x hx) (ht.rng y hy) e
    have := congrArg t this
    rwa [ht.inv x hx, ht.inv y hy] at this⟩
theorem Ec.uniq {n : Int} {t s : Int → Int} (ht : Tw n t) (hs : Pm n s) {d d' : Int} (h : Ec n t s d) (h' : Ec n t s d') : d = d' := by
  obtain ⟨V, F, C, h1, h2, h3, rfl⟩ := h
  obtain ⟨V', F', C', k1, k2, k3, rfl⟩ := h'
  rw [h1.eq hs.eqv k1, h2.eq (ht.comp hs).eqv k2, h3.eq (Lk.eqv n s t) k3]
theorem Ec.ex {n : Int} {t s : Int → Int} (ht : Tw n t) (hs : Pm n s) : ∃ d, Ec n t s d := by
  obtain ⟨V, h1⟩ := Num.ex hs.eqv
  obtain ⟨F, h2⟩ := Num.ex (ht.comp hs).eqv
  obtain ⟨C, h3⟩ := Num.ex (Lk.eqv n s t)
  exact ⟨_, V, F, C, h1, h2, h3, rfl⟩
theorem Ec.sw {n : Int} {t s : Int → Int} (ht : Tw n t) (hs : Pm n s) {a b : Int} (ha : In n a) (hb : In n b) (hab : ¬ Orb s a b) {d : Int} (h : Ec n t s d) : ∃ d', Ec n t (sw s a b) d' ∧ (d' = d ∨ d' = d + 2) := by
  obtain ⟨V, F, C, h1, h2, h3, rfl⟩ := h
  have hs' := hs.sw ha hb
  have hne : a ≠ b := fun e => hab (by rw [e]; exact Orb.refl _ _)
  have hta := ht.rng a ha
  have htb := ht.rng b hb
  have htne : t a ≠ t b := fun e => hne (by have := congrArg t e; rwa [ht.inv a ha, ht.inv b hb] at this)
  -- nodes
  obtain ⟨V', hV, eV⟩ := h1.join hs.eqv ha hb hab
  have hV' : Num (In n) (Orb (TL.sw s a b)) V' := hV.iff fun x y hx hy => (sw_orb hs ha hb hab hx hy).symm
  -- faces
  have hf := ht.comp hs
  have hfx : ∀ x, In n x → TL.sw (fun x => s (t x)) (t a) (t b) x = TL.sw s a b (t x) := by
    intro x hx
    unfold TL.sw tr
    by_cases e1 : x = t a
    · rw [if_pos e1, if_pos (by rw [e1, ht.inv a ha])]
      show s (t (t b)) = s b
      rw [ht.inv b hb]
    · have e1' : ¬ t x = a := fun e => e1 (by rw [← e, ht.inv x hx])
      rw [if_neg e1, if_neg e1']
      by_cases e2 : x = t b
      · rw [if_pos e2, if_pos (by rw [e2, ht.inv b hb])]
        show s (t (t a)) = s a
        rw [ht.inv a ha]
      · have e2' : ¬ t x = b := fun e => e2 (by rw [← e, ht.inv x hx])
        rw [if_neg e2, if_neg e2']
  have hF : ∃ F' : Nat, Num (In n) (Orb fun x => TL.sw s a b (t x)) F' ∧ ((¬ Orb (fun x => s (t x)) (t a) (t b) ∧ F' + 1 = F) ∨ (Orb (fun x => s (t x)) (t a) (t b) ∧ F' = F + 1)) := by
    have hsw := hf.sw hta htb
    by_cases c : Orb (fun x => s (t x)) (t a) (t b)
    · obtain ⟨k, hk⟩ := Num.ex hsw.eqv
      have hap := sw_apart hf hta htb htne c
      obtain ⟨k', hk', e⟩ := hk.join hsw.eqv hta htb hap
      have hk2 : Num (In n) (Orb fun x => s (t x)) k' := hk'.iff fun x y hx hy => by
        rw [← sw_orb hsw hta htb hap hx hy, sw_sw]
      have := hk2.eq hf.eqv h2
      exact ⟨k, hk.iff fun x y hx hy => Orb.iff hsw hfx hx, .inr ⟨c, by omega⟩⟩
    · obtain ⟨k', hk', e⟩ := h2.join hf.eqv hta htb c
      exact ⟨k', (hk'.iff fun x y hx hy => (sw_orb hf hta htb c hx hy).symm).iff fun x y hx hy => Orb.iff hsw hfx hx, .inl ⟨c, e⟩⟩
  obtain ⟨F', hF1, hF2⟩ := hF
  -- what is joined
  have hle := Lk.eqv n s t
  have hle' := Lk.eqv n (TL.sw s a b) t
  have hL : ∀ x y, In n x → In n y → (Jn (Lk n s t) a b x y ↔ Lk n (TL.sw s a b) t x y) := by
    intro x y hx hy
    have hup : ∀ {u v : Int}, Lk n s t u v → Lk n (TL.sw s a b) t u v := fun {u v} huv => huv _ hle' (fun z hz => Lk.orb hs' hz ((sw_orb hs ha hb hab hz (hs.rng z hz)).2 (.inl (Orb.step s z)))) (fun z hz => Lk.t hz)
    have hab' : Lk n (TL.sw s a b) t a b := Lk.orb hs' ha (sw_half hs ha hb hab)
    constructor
    · rintro (e | ⟨e1, e2⟩ | ⟨e1, e2⟩)
      · exact hup e
      · exact hle'.trans _ _ _ hx ha hy (hup e1) (hle'.trans _ _ _ ha hb hy hab' (hup e2))
      · exact hle'.trans _ _ _ hx hb hy (hup e1) (hle'.trans _ _ _ hb ha hy (hle'.symm _ _ ha hb hab') (hup e2))
    · intro h
      refine h _ (Jn.eqv hle ha hb) (fun z hz => ?_) (fun z hz => .inl (Lk.t hz))
      rcases (sw_orb hs ha hb hab hz (hs'.rng z hz)).1 (Orb.step _ z) with e | ⟨e1, e2⟩ | ⟨e1, e2⟩
      · exact .inl (Lk.orb hs hz e)
      · exact .inr (.inl ⟨Lk.orb hs hz e1, Lk.orb hs hb e2⟩)
      · exact .inr (.inr ⟨Lk.orb hs hz e1, Lk.orb hs ha e2⟩)
  by_cases c : Lk n s t a b
  · have hC : Num (In n) (Lk n (TL.sw s a b) t) C := h3.iff fun x y hx hy => by
      rw [← hL x y hx hy]
      constructor
      · exact fun e => .inl e
      · rintro (e | ⟨e1, e2⟩ | ⟨e1, e2⟩)
        · exact e
        · exact hle.trans _ _ _ hx ha hy e1 (hle.trans _ _ _ ha hb hy c e2)
        · exact hle.trans _ _ _ hx hb hy e1 (hle.trans _ _ _ hb ha hy (hle.symm _ _ ha hb c) e2)
    refine ⟨_, ⟨V', F', C, hV', hF1, hC, rfl⟩, ?_⟩
    omega
  · obtain ⟨C', hC, eC⟩ := h3.join hle ha hb c
    have hn : ¬ Orb (fun x => s (t x)) (t a) (t b) := by
      intro ho
      apply c
      have h4 : Lk n s t (t a) (t b) := (Orb.ind (S := fun z => In n z ∧ Lk n s t (t a) z) (fun z hz => ⟨hf.rng z hz.1, hle.trans _ _ _ hta hz.1 (hf.rng z hz.1) hz.2 (hle.trans _ _ _ hz.1 (ht.rng z hz.1) (hf.rng z hz.1) (Lk.t hz.1) (Lk.s (ht.rng z hz.1)))⟩) ho ⟨hta, hle.rfl _ hta⟩).2
      exact hle.trans _ _ _ ha hta hb (Lk.t ha) (hle.trans _ _ _ hta htb hb h4 (hle.symm _ _ hb htb (Lk.t hb)))
    refine ⟨_, ⟨V', F', C', hV', hF1, hC.iff hL, rfl⟩, ?_⟩
    rcases hF2 with ⟨_, e⟩ | ⟨e, _⟩
    · omega
    · exact absurd e hn
end TL
