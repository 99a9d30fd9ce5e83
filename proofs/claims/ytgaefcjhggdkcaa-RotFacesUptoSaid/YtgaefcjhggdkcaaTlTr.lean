/-
  TlTr: one of each class, how many classes there are; the components of a net.
  By an AI agent.
-/
import Derived.Test.YtgaefcjhggdkcaaTlRot2
set_option linter.all false
namespace TL
/-- one of each class -/
structure Tr (D : Int → Prop) (R : Int → Int → Prop) (l : List Int) : Prop where
  nd : l.Nodup
  dom : ∀ x ∈ l, D x
  all : ∀ x, D x → ∃ y ∈ l, R x y
  one : ∀ x ∈ l, ∀ y ∈ l, R x y → x = y
structure Eqv (D : Int → Prop) (R : Int → Int → Prop) : Prop where
  rfl : ∀ x, D x → R x x
  symm : ∀ x y, D x → D y → R x y → R y x
  trans : ∀ x y z, D x → D y → D z → R x y → R y z → R x z
theorem inj_len {P : Int → Int → Prop} : ∀ (l l' : List Int), l.Nodup → (∀ x ∈ l, ∃ y ∈ l', P x y) → (∀ x ∈ l, ∀ x' ∈ l, ∀ y, y ∈ l' → P x y → P x' y → x = x') → l.length ≤ l'.length
  | [], l', _, _, _ => by simp
  | a :: l, l', hn, h1, h2 => by
    obtain ⟨y, hy, hp⟩ := h1 a (by simp)
    have hn' := List.nodup_cons.1 hn
    have h3 := inj_len (P := P) l (l'.erase y) hn'.2 (fun x hx => by
      obtain ⟨z, hz, hq⟩ := h1 x (by simp [hx])
      refine ⟨z, (List.mem_erase_of_ne (fun e => ?_)).2 hz, hq⟩
      subst e
      have := h2 a (by simp) x (by simp [hx]) z hz hp hq
      subst this
      exact hn'.1 hx) (fun x hx x' hx' z hz => h2 x (by simp [hx]) x' (by simp [hx']) z (List.mem_of_mem_erase hz))
    have h4 := List.length_erase_of_mem hy
    have h5 := List.length_pos_of_mem hy
    simp; omega
theorem Tr.len {D : Int → Prop} {R : Int → Int → Prop} {l l' : List Int} (he : Eqv D R) (h : Tr D R l) (h' : Tr D R l') : l.length = l'.length := by
  have key : ∀ {l l' : List Int}, Tr D R l → Tr D R l' → l.length ≤ l'.length := fun {l l'} h h' => inj_len (P := R) l l' h.nd (fun x hx => h'.all x (h.dom x hx)) (fun x hx x' hx' y hy h1 h2 => h.one x hx x' hx' (he.trans _ _ _ (h.dom x hx) (h'.dom y hy) (h.dom x' hx') h1 (he.symm _ _ (h.dom x' hx') (h'.dom y hy) h2)))
  exact Nat.le_antisymm (key h h') (key h' h)
theorem nodup_map_on {f : Int → Int} : ∀ {l : List Int}, l.Nodup → (∀ x ∈ l, ∀ y ∈ l, f x = f y → x = y) → (l.map f).Nodup
  | [], _, _ => by simp
  | a :: l, hn, h => by
    have hn' := List.nodup_cons.1 hn
    rw [List.map_cons, List.nodup_cons]
    refine ⟨fun hm => ?_, nodup_map_on hn'.2 (fun x hx y hy => h x (by simp [hx]) y (by simp [hy]))⟩
    obtain ⟨y, hy, e⟩ := List.mem_map.1 hm
    have := h a (by simp) y (by simp [hy]) e.symm
    subst this
    exact hn'.1 hy
/-- classes carried to another place -/
theorem Tr.map {D D' : Int → Prop} {R R' : Int → Int → Prop} {l : List Int} (f : Int → Int) (h : Tr D R l) (he' : Eqv D' R') (hd : ∀ x, D x → D' (f x)) (hr : ∀ x y, D x → D y → R x y → R' (f x) (f y)) (hb : ∀ x y, D x → D y → R' (f x) (f y) → R x y) (hs : ∀ z, D' z → ∃ x, D x ∧ R' z (f x)) : Tr D' R' (l.map f) := by
  refine ⟨nodup_map_on h.nd fun x hx y hy e => ?_, fun z hz => ?_, fun z hz => ?_, fun z hz w hw hzw => ?_⟩
  · have hx' := h.dom x hx
    have hy' := h.dom y hy
    exact h.one x hx y hy (hb x y hx' hy' (by rw [← e]; exact he'.rfl _ (hd x hx')))
  · obtain ⟨x, hx, rfl⟩ := List.mem_map.1 hz
    exact hd x (h.dom x hx)
  · obtain ⟨x, hx, hzx⟩ := hs z hz
    obtain ⟨y, hy, hxy⟩ := h.all x hx
    exact ⟨f y, List.mem_map.2 ⟨y, hy, rfl⟩, he'.trans _ _ _ hz (hd x hx) (hd y (h.dom y hy)) hzx (hr x y hx (h.dom y hy) hxy)⟩
  · obtain ⟨x, hx, rfl⟩ := List.mem_map.1 hz
    obtain ⟨y, hy, rfl⟩ := List.mem_map.1 hw
    rw [h.one x hx y hy (hb x y (h.dom x hx) (h.dom y hy) hzw)]
/-- so many classes -/
def Num (D : Int → Prop) (R : Int → Int → Prop) (k : Nat) : Prop := ∃ l, Tr D R l ∧ l.length = k
theorem Num.eq {D : Int → Prop} {R : Int → Int → Prop} {k k' : Nat} (he : Eqv D R) (h : Num D R k) (h' : Num D R k') : k = k' := by
  obtain ⟨l, h1, rfl⟩ := h
  obtain ⟨l', h2, rfl⟩ := h'
  exact h1.len he h2
theorem Num.iff {D : Int → Prop} {R R' : Int → Int → Prop} {k : Nat} (h : Num D R k) (hi : ∀ x y, D x → D y → (R x y ↔ R' x y)) : Num D R' k := by
  obtain ⟨l, h1, h2⟩ := h
  refine ⟨l, ⟨h1.nd, h1.dom, fun x hx => ?_, fun x hx y hy hxy => h1.one x hx y hy ((hi x y (h1.dom x hx) (h1.dom y hy)).2 hxy)⟩, h2⟩
  obtain ⟨y, hy, hxy⟩ := h1.all x hx
  exact ⟨y, hy, (hi x y hx (h1.dom y hy)).1 hxy⟩
theorem Num.map {D D' : Int → Prop} {R R' : Int → Int → Prop} {k : Nat} (f : Int → Int) (h : Num D R k) (he' : Eqv D' R') (hd : ∀ x, D x → D' (f x)) (hr : ∀ x y, D x → D y → R x y → R' (f x) (f y)) (hb : ∀ x y, D x → D y → R' (f x) (f y) → R x y) (hs : ∀ z, D' z → ∃ x, D x ∧ R' z (f x)) : Num D' R' k := by
  obtain ⟨l, h1, h2⟩ := h
  exact ⟨l.map f, h1.map f he' hd hr hb hs, by rw [List.length_map, h2]⟩
/-! components -/
def ndP (g : Net) (v : Int) : Prop := 0 ≤ v ∧ v < g.1
/-- joined by edges -/
def Cn (g : Net) (u v : Int) : Prop := ∀ R : Int → Int → Prop, Eqv (ndP g) R → (∀ e ∈ g.2, R e.1 e.2) → R u v
theorem Cn.eqv (g : Net) : Eqv (ndP g) (Cn g) :=
  ⟨fun x hx R hR _ => hR.rfl x hx, fun x y hx hy h R hR he => hR.symm x y hx hy (h R hR he), fun x y z hx hy hz h1 h2 R hR he => hR.trans x y z hx hy hz (h1 R hR he) (h2 R hR he)⟩
theorem Cn.edge {g : Net} {e : Int × Int} (h : e ∈ g.2) : Cn g e.1 e.2 := fun R _ he => he e h
theorem Cn.half {g : Net} (hm : MayP g) {h : Int} (h0 : 0 ≤ h) (h1 : h < 2 * (g.2.length : Int)) : Cn g (fromS g h) (toS g h) := by
  have hin := gI_mem (xs := g.2) (i := h / 2) (by omega) (by omega)
  have hok := hm.2.2.2 _ hin
  have hc := Cn.edge hin
  unfold fromS toS pI
  have h2 : h % 2 = 0 ∨ h % 2 = 1 := by omega
  rcases h2 with e | e
  · rw [e]; simpa using hc
  · rw [e]
    exact (Cn.eqv g).symm _ _ hok.1 hok.2 (by simpa using hc)
theorem out_of {g : Net} {i : Nat} (hi : (i : Int) < g.2.length) : 2 * (i : Int) ∈ outS g (gI g.2 (i : Int)).1 ∧ 2 * (i : Int) + 1 ∈ outS g (gI g.2 (i : Int)).2 ∧ toS g (2 * (i : Int)) = (gI g.2 (i : Int)).2 ∧ toS g (2 * (i : Int) + 1) = (gI g.2 (i : Int)).1 := by
  have e1 : (2 * (i : Int)) / 2 = i := by omega
  have e2 : (2 * (i : Int)) % 2 = 0 := by omega
  have e3 : (2 * (i : Int) + 1) / 2 = i := by omega
  have e4 : (2 * (i : Int) + 1) % 2 = 1 := by omega
  refine ⟨?_, ?_, by unfold toS; rw [e1, e2]; simp [pI], by unfold toS; rw [e3, e4]; simp [pI]⟩
  · unfold outS outSk
    refine List.mem_filter.2 ⟨List.mem_map.2 ⟨2 * i, List.mem_range.2 (by omega), by push_cast; rfl⟩, ?_⟩
    simp only [decide_eq_true_eq]
    unfold fromS; rw [e1, e2]; simp [pI]
  · unfold outS outSk
    refine List.mem_filter.2 ⟨List.mem_map.2 ⟨2 * i + 1, List.mem_range.2 (by omega), by push_cast; rfl⟩, ?_⟩
    simp only [decide_eq_true_eq]
    unfold fromS; rw [e3, e4]; simp [pI]
theorem closed_Cn {g : Net} {S : Int → Prop} (hS : ∀ x h, S x → h ∈ outS g x → S (toS g h)) {u v : Int} (hc : Cn g u v) : S u → S v := by
  refine (hc (fun u v => S u ↔ S v) ⟨fun _ _ => Iff.rfl, fun _ _ _ _ h => h.symm, fun _ _ _ _ _ _ h1 h2 => h1.trans h2⟩ (fun e he => ?_)).1
  obtain ⟨i, hi, rfl⟩ := List.mem_iff_getElem.1 he
  have e : gI g.2 (i : Int) = g.2[i] := by simp [gI, hi]
  obtain ⟨a, b, c, d⟩ := out_of (g := g) (i := i) (by omega)
  rw [e] at a b c d
  exact ⟨fun h => by rw [← c]; exact hS _ _ h a, fun h => by rw [← d]; exact hS _ _ h b⟩
/-! breadth first: all that are joined, and no others -/
theorem bfOne_mem (g : Net) (v : Int) (s : Bf) (h : Int) : ∀ x ∈ (bfOne g v s h).order, x ∈ s.order ∨ x = toS g h := by
  intro x hx
  unfold bfOne at hx
  split at hx
  · rcases List.mem_append.1 hx with hx | hx
    · exact .inl hx
    · exact .inr (List.mem_singleton.1 hx)
  · exact .inl hx
theorem bfFold_ok {g : Net} (hm : MayP g) {v : Int} : ∀ (l : List Int) (s : Bf), (∀ h ∈ l, h ∈ outS g v) → BfOk g s → v ∈ s.order →
    BfOk g (l.foldl (bfOne g v) s) ∧ (∃ t, (l.foldl (bfOne g v) s).order = s.order ++ t) ∧ (∀ x ∈ (l.foldl (bfOne g v) s).order, x ∈ s.order ∨ ∃ h ∈ outS g v, x = toS g h) ∧ ∀ h ∈ l, toS g h ∈ (l.foldl (bfOne g v) s).order
  | [], s, _, hs, hv => ⟨hs, ⟨[], by simp⟩, fun x hx => .inl hx, by simp⟩
  | a :: l, s, hl, hs, hv => by
    have hin := (outS_in (hl a (by simp))).1
    have ht := toS_in hm hin.1 hin.2
    have h1 := hs.one (v := v) (h := a) hv ht.1 ht.2
    obtain ⟨t, ht1⟩ := bfOne_pre g v s a
    have ha : toS g a ∈ (bfOne g v s a).order := by
      by_cases c : gI s.far (toS g a) < 0
      · unfold bfOne; rw [if_pos c]; simp
      · rw [ht1]
        have : toS g a ∈ s.order := Classical.byContradiction fun hn => c ((hs.iff _ ht.1 ht.2).2 hn)
        simp [this]
    obtain ⟨k1, ⟨t2, k2⟩, k3, k4⟩ := bfFold_ok hm l (bfOne g v s a) (fun h hh => hl h (by simp [hh])) h1 (by rw [ht1]; simp [hv])
    rw [List.foldl_cons]
    refine ⟨k1, ⟨t ++ t2, by rw [k2, ht1, List.append_assoc]⟩, fun x hx => ?_, fun h hh => ?_⟩
    · rcases k3 x hx with hx | hx
      · rcases bfOne_mem g v s a x hx with hx | hx
        · exact .inl hx
        · exact .inr ⟨a, hl a (by simp), hx⟩
      · exact .inr hx
    · rcases List.mem_cons.1 hh with rfl | hh
      · rw [k2]; simp [ha]
      · exact k4 h hh
theorem bfGo_ok {g : Net} (hm : MayP g) {s0 : Int} : ∀ (n i : Nat) (s : Bf), BfOk g s → (∀ x ∈ s.order, Cn g s0 x) → s0 ∈ s.order → ndP g s0 → (∀ q : Nat, q < i → (q : Int) < s.order.length → ∀ h ∈ outS g (gI s.order (q : Int)), toS g h ∈ s.order) → (g.1 : Int) ≤ n + i →
    BfOk g (bfGo g n i s) ∧ (∀ x ∈ (bfGo g n i s).order, Cn g s0 x) ∧ s0 ∈ (bfGo g n i s).order ∧ ∀ x ∈ (bfGo g n i s).order, ∀ h ∈ outS g x, toS g h ∈ (bfGo g n i s).order
  | 0, i, s, hs, hc, h0, hd, hq, hn => by
    refine ⟨hs, hc, h0, fun x hx h hh => ?_⟩
    obtain ⟨q, hq1, e⟩ := List.mem_iff_getElem.1 hx
    have hl := hs.len hm.1
    change q < s.order.length at hq1
    have eq1 : gI s.order (q : Int) = x := by simp only [bfGo] at e; simp [gI, hq1, e]
    exact hq q (by omega) (by omega) h (by rw [eq1]; exact hh)
  | n + 1, i, s, hs, hc, h0, hd, hq, hn => by
    simp only [bfGo]
    by_cases c : i < s.order.length
    · rw [if_pos c]
      have hv := gI_mem (xs := s.order) (i := (i : Int)) (by omega) (by omega)
      obtain ⟨k1, ⟨t, k2⟩, k3, k4⟩ := bfFold_ok hm (v := gI s.order (i : Int)) (outS g (gI s.order (i : Int))) s (fun h hh => hh) hs hv
      have hvd := hs.rng _ hv
      have hpre : ∀ q : Nat, (q : Int) < s.order.length → gI (bfRow g (gI s.order (i : Int)) s).order (q : Int) = gI s.order (q : Int) := fun q hq' => by
        unfold bfRow; rw [k2]; unfold gI
        have : ((q : Int)).toNat < s.order.length := by omega
        simp only [Int.toNat_natCast] at this ⊢
        simp [List.getD_eq_getElem?_getD, List.getElem?_append_left this]
      refine bfGo_ok hm n (i + 1) (bfRow g (gI s.order (i : Int)) s) k1 (fun x hx => ?_) (by unfold bfRow; rw [k2]; simp [h0]) hd (fun q hq1 hq2 h hh => ?_) (by omega)
      · rcases k3 x hx with hx | ⟨h, hh, rfl⟩
        · exact hc x hx
        · have hin := outS_in hh
          have h1 := Cn.half hm hin.1.1 hin.1.2
          rw [hin.2] at h1
          exact (Cn.eqv g).trans _ _ _ hd hvd (toS_in hm hin.1.1 hin.1.2) (hc _ hv) h1
      · by_cases e : q = i
        · subst e
          rw [hpre q (by omega)] at hh
          exact k4 h hh
        · have hq3 : (q : Int) < s.order.length := by omega
          rw [hpre q hq3] at hh
          have := hq q (by omega) hq3 h hh
          unfold bfRow; rw [k2]; simp [this]
    · rw [if_neg c]
      refine ⟨hs, hc, h0, fun x hx h hh => ?_⟩
      obtain ⟨q, hq1, e⟩ := List.mem_iff_getElem.1 hx
      have eq1 : gI s.order (q : Int) = x := by simp [gI, hq1, e]
      exact hq q (by omega) (by omega) h (by rw [eq1]; exact hh)
theorem breadth_iff {g : Net} (hm : MayP g) {s0 : Int} (h0 : ndP g s0) : (∀ x ∈ (breadthS g s0).order, ndP g x) ∧ ∀ x, x ∈ (breadthS g s0).order ↔ Cn g s0 x := by
  obtain ⟨k1, k2, k3, k4⟩ := bfGo_ok hm (s0 := s0) g.1.toNat 0 (bfStart g s0) (BfOk.start h0.1 h0.2) (by simp [bfStart]; exact (Cn.eqv g).rfl s0 h0) (by simp [bfStart]) h0 (fun q hq => by omega) (by have := hm.1; omega)
  refine ⟨k1.rng, fun x => ⟨k2 x, fun hc => ?_⟩⟩
  exact closed_Cn (S := fun x => x ∈ (breadthS g s0).order) (fun x h hx hh => k4 x hx h hh) hc k3
theorem gI_fold {n : Int} : ∀ (O p : List Int) (v : Int), 0 ≤ v → v < p.length → (∀ x ∈ O, 0 ≤ x ∧ x < p.length) → gI (O.foldl (fun l w => l.set w.toNat n) p) v = if v ∈ O then n else gI p v
  | [], p, v, h0, h1, _ => by simp
  | a :: O, p, v, h0, h1, ho => by
    have ha := ho a (by simp)
    rw [List.foldl_cons, gI_fold O _ v h0 (by simpa using h1) (fun x hx => by simpa using ho x (by simp [hx])), gI_set ha.1 ha.2 h0]
    by_cases e : v = a
    · subst e; simp
    · by_cases hv : v ∈ O
      · simp [hv]
      · simp [hv, e]
/-- components, k nodes looked at -/
structure PartsInv (g : Net) (p : List Int × Int) (l : List Int) (k : Nat) : Prop where
  len : (p.1.length : Int) = g.1
  num : p.2 = (l.length : Int)
  nd : l.Nodup
  dom : ∀ x ∈ l, ndP g x
  one : ∀ x ∈ l, ∀ y ∈ l, Cn g x y → x = y
  iff : ∀ v, ndP g v → (0 ≤ gI p.1 v ↔ ∃ y ∈ l, Cn g v y)
  all : ∀ v : Nat, v < k → (v : Int) < g.1 → ∃ y ∈ l, Cn g (v : Int) y
theorem partsK_inv {g : Net} (hm : MayP g) : ∀ k : Nat, (k : Int) ≤ g.1 → ∃ l, PartsInv g (partsK g k) l k
  | 0, _ => ⟨[], by simp [partsK, iotaI]; have := hm.1; omega, by simp [partsK, iotaI], by simp, by simp, by simp, fun v hv => by
      have e : (partsK g 0).1 = List.replicate g.1.toNat (-1) := by simp [partsK, iotaI]
      rw [e, gI_rep hv.1 (by have := hv.2; omega)]; simp, fun v hv => by omega⟩
  | k + 1, hk => by
    obtain ⟨l, h⟩ := partsK_inv hm k (by omega)
    have hkd : ndP g (k : Int) := ⟨by omega, by omega⟩
    obtain ⟨hb1, hb2⟩ := breadth_iff hm hkd
    rw [partsK_succ]
    unfold partOne
    by_cases c : 0 ≤ gI (partsK g k).1 (k : Int)
    · rw [if_pos c]
      refine ⟨l, h.len, h.num, h.nd, h.dom, h.one, h.iff, fun v hv hg => ?_⟩
      by_cases e : v = k
      · subst e; exact (h.iff _ hkd).1 c
      · exact h.all v (by omega) hg
    · rw [if_neg c]
      have hno : ∀ y ∈ l, ¬ Cn g (k : Int) y := fun y hy hc => c ((h.iff _ hkd).2 ⟨y, hy, hc⟩)
      have hlen := h.len
      have hnn : 0 ≤ (partsK g k).2 := by rw [h.num]; omega
      refine ⟨l ++ [(k : Int)], ?_, ?_, ?_, ?_, ?_, ?_, ?_⟩
      · simp only; rw [set_fold_len]; exact hlen
      · simp only [h.num]; simp
      · rw [List.nodup_append]
        refine ⟨h.nd, by simp, fun a ha b hb e => ?_⟩
        obtain rfl := List.mem_singleton.1 hb
        subst e
        exact hno _ ha ((Cn.eqv g).rfl _ hkd)
      · intro x hx
        rcases List.mem_append.1 hx with hx | hx
        · exact h.dom x hx
        · obtain rfl := List.mem_singleton.1 hx; exact hkd
      · intro x hx y hy hc
        rcases List.mem_append.1 hx with hx | hx
        · rcases List.mem_append.1 hy with hy | hy
          · exact h.one x hx y hy hc
          · obtain rfl := List.mem_singleton.1 hy
            exact absurd ((Cn.eqv g).symm _ _ (h.dom x hx) hkd hc) (hno x hx)
        · obtain rfl := List.mem_singleton.1 hx
          rcases List.mem_append.1 hy with hy | hy
          · exact absurd hc (hno y hy)
          · obtain rfl := List.mem_singleton.1 hy; rfl
      · intro v hv
        simp only
        rw [gI_fold _ _ v hv.1 (by have := hv.2; omega) (fun x hx => by have := hb1 x hx; exact ⟨this.1, by have := this.2; omega⟩)]
        by_cases hvo : v ∈ (breadthS g (k : Int)).order
        · rw [if_pos hvo]
          exact ⟨fun _ => ⟨(k : Int), by simp, (Cn.eqv g).symm _ _ hkd hv ((hb2 v).1 hvo)⟩, fun _ => hnn⟩
        · rw [if_neg hvo, h.iff v hv]
          constructor
          · rintro ⟨y, hy, hc⟩; exact ⟨y, by simp [hy], hc⟩
          · rintro ⟨y, hy, hc⟩
            rcases List.mem_append.1 hy with hy | hy
            · exact ⟨y, hy, hc⟩
            · obtain rfl := List.mem_singleton.1 hy
              exact absurd ((hb2 v).2 ((Cn.eqv g).symm _ _ hv hkd hc)) hvo
      · intro v hv hg
        by_cases e : v = k
        · subst e; exact ⟨(v : Int), by simp, (Cn.eqv g).rfl _ hkd⟩
        · obtain ⟨y, hy, hc⟩ := h.all v (by omega) hg
          exact ⟨y, by simp [hy], hc⟩
/-- so many components as are told -/
theorem parts_num {g : Net} (hm : MayP g) : ∃ k : Nat, (partsR g).2.1 = (k : Int) ∧ Num (ndP g) (Cn g) k := by
  have h0 := hm.1
  obtain ⟨l, h⟩ := partsK_inv hm g.1.toNat (by omega)
  refine ⟨l.length, by unfold partsR; rw [if_pos hm]; exact h.num, l, ⟨h.nd, h.dom, fun x hx => ?_, h.one⟩, rfl⟩
  have := h.all x.toNat (by have := hx.1; have := hx.2; omega) (by have := hx.1; have := hx.2; omega)
  rwa [show ((x.toNat : Nat) : Int) = x by have := hx.1; omega] at this
/-- nodes named anew: as many components -/
theorem parts_iso {g g' : Net} (hm : MayP g) (hm' : MayP g') (f : Int → Int) (hd : ∀ x, ndP g x → ndP g' (f x)) (hi : ∀ x y, ndP g x → ndP g y → f x = f y → x = y) (hs : ∀ z, ndP g' z → ∃ x, ndP g x ∧ f x = z) (he : ∀ a b, (a, b) ∈ g'.2 ↔ ∃ c d, (c, d) ∈ g.2 ∧ a = f c ∧ b = f d) : (partsR g).2.1 = (partsR g').2.1 := by
  obtain ⟨k, e1, h1⟩ := parts_num hm
  obtain ⟨k', e2, h2⟩ := parts_num hm'
  rw [e1, e2]
  have h3 := h1.map (R' := Cn g') f (Cn.eqv g') hd (fun x y hx hy h => ?_) (fun x y hx hy h => ?_) (fun z hz => ?_)
  · rw [Num.eq (Cn.eqv g') h3 h2]
  · refine h (fun x y => Cn g' (f x) (f y)) ⟨fun x hx => (Cn.eqv g').rfl _ (hd x hx), fun x y hx hy h => (Cn.eqv g').symm _ _ (hd x hx) (hd y hy) h, fun x y z hx hy hz h1 h2 => (Cn.eqv g').trans _ _ _ (hd x hx) (hd y hy) (hd z hz) h1 h2⟩ (fun e hem => ?_)
    exact Cn.edge (e := (f e.1, f e.2)) ((he _ _).2 ⟨e.1, e.2, hem, rfl, rfl⟩)
  · have h4 := h (fun u v => ∀ x y, ndP g x → ndP g y → f x = u → f y = v → Cn g x y) ⟨fun u hu x y hx hy e1 e2 => by
        have := hi x y hx hy (e1.trans e2.symm); subst this; exact (Cn.eqv g).rfl x hx, fun u v _ _ h x y hx hy e1 e2 => (Cn.eqv g).symm _ _ hy hx (h y x hy hx e2 e1), fun u v w _ hv _ h1 h2 x y hx hy e1 e2 => by
        obtain ⟨z, hz, ez⟩ := hs v hv
        exact (Cn.eqv g).trans _ _ _ hx hz hy (h1 x z hx hz e1 ez) (h2 z y hz hy ez e2)⟩ (fun e hem x y hx hy e1 e2 => by
        obtain ⟨c, d, hcd, ea, eb⟩ := (he e.1 e.2).1 hem
        have hok := hm.2.2.2 _ hcd
        have e3 := hi x c hx hok.1 (e1.trans ea)
        have e4 := hi y d hy hok.2 (e2.trans eb)
        subst e3 e4
        exact Cn.edge hcd)
    exact h4 x y hx hy rfl rfl
  · obtain ⟨x, hx, e⟩ := hs z hz
    exact ⟨x, hx, by rw [e]; exact (Cn.eqv g').rfl z hz⟩
end TL
