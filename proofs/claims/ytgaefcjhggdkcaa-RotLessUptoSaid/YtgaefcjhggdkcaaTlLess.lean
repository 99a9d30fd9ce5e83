/-
  TlLess: edges taken away never raise the genus.
  By an AI agent.
-/
import Derived.Test.YtgaefcjhggdkcaaTlEul2
set_option linter.all false
namespace TL
/-- classes of a part, and those behind it that stand alone -/
theorem Num.ext {D D' : Int → Prop} {R R' : Int → Int → Prop} {k : Nat} (f : Int → Int) (E : List Int) (h : Num D' R' k) (he : Eqv D R) (hd : ∀ x, D' x → D (f x)) (hr : ∀ x y, D' x → D' y → (R' x y ↔ R (f x) (f y))) (hEn : E.Nodup) (hE : ∀ e ∈ E, D e) (h1 : ∀ e ∈ E, ∀ x, D' x → ¬ R (f x) e) (h2 : ∀ a ∈ E, ∀ b ∈ E, R a b → a = b) (hs : ∀ z, D z → (∃ x, D' x ∧ R z (f x)) ∨ ∃ e ∈ E, R z e) : Num D R (k + E.length) := by
  obtain ⟨l, hl, rfl⟩ := h
  refine ⟨l.map f ++ E, ⟨List.nodup_append.2 ⟨nodup_map_on hl.nd (fun x hx y hy e => hl.one x hx y hy ((hr x y (hl.dom x hx) (hl.dom y hy)).2 (by rw [e]; exact he.rfl _ (hd y (hl.dom y hy))))), hEn, fun a ha b hb e => ?_⟩, fun x hx => ?_, fun z hz => ?_, fun a ha b hb hab => ?_⟩, by simp⟩
  · obtain ⟨x, hx, rfl⟩ := List.mem_map.1 ha
    exact h1 b hb x (hl.dom x hx) (by rw [e]; exact he.rfl b (hE b hb))
  · rcases List.mem_append.1 hx with h | h
    · obtain ⟨y, hy, rfl⟩ := List.mem_map.1 h; exact hd y (hl.dom y hy)
    · exact hE x h
  · rcases hs z hz with ⟨x, hx, hzx⟩ | ⟨e, he', hze⟩
    · obtain ⟨y, hy, hxy⟩ := hl.all x hx
      exact ⟨f y, by simp; exact .inl ⟨y, hy, rfl⟩, he.trans _ _ _ hz (hd x hx) (hd y (hl.dom y hy)) hzx ((hr x y hx (hl.dom y hy)).1 hxy)⟩
    · exact ⟨e, by simp [he'], hze⟩
  · rcases List.mem_append.1 ha with h | h
    · obtain ⟨x, hx, rfl⟩ := List.mem_map.1 h
      have hxd := hl.dom x hx
      rcases List.mem_append.1 hb with h' | h'
      · obtain ⟨y, hy, rfl⟩ := List.mem_map.1 h'
        rw [hl.one x hx y hy ((hr x y hxd (hl.dom y hy)).2 hab)]
      · exact absurd hab (h1 b h' x hxd)
    · rcases List.mem_append.1 hb with h' | h'
      · obtain ⟨y, hy, rfl⟩ := List.mem_map.1 h'
        exact absurd (he.symm _ _ (hE a h) (hd y (hl.dom y hy)) hab) (h1 a h y (hl.dom y hy))
      · exact h2 a h b h' hab
theorem it_rng {D' : Int → Prop} {p' : Int → Int} (hrng : ∀ x, D' x → D' (p' x)) : ∀ (k : Nat) (x : Int), D' x → D' (it p' k x)
  | 0, x, hx => hx
  | k + 1, x, hx => it_rng hrng k _ (hrng x hx)
theorem it_emb {D' : Int → Prop} {p p' f : Int → Int} (hrng : ∀ x, D' x → D' (p' x)) (h : ∀ x, D' x → p (f x) = f (p' x)) : ∀ (k : Nat) (x : Int), D' x → it p k (f x) = f (it p' k x)
  | 0, x, _ => rfl
  | k + 1, x, hx => by
    show it p k (p (f x)) = f (it p' k (p' x))
    rw [h x hx]; exact it_emb hrng h k _ (hrng x hx)
theorem orb_emb {D' : Int → Prop} {p p' f : Int → Int} (hrng : ∀ x, D' x → D' (p' x)) (h : ∀ x, D' x → p (f x) = f (p' x)) (inj : ∀ x y, D' x → D' y → f x = f y → x = y) (x y : Int) (hx : D' x) (hy : D' y) : Orb p' x y ↔ Orb p (f x) (f y) :=
  ⟨fun ⟨k, e⟩ => ⟨k, by rw [it_emb hrng h k x hx, e]⟩, fun ⟨k, e⟩ => ⟨k, inj _ _ (it_rng hrng k x hx) hy (by rw [← it_emb hrng h k x hx]; exact e)⟩⟩
/-- a part of the half-edges, all others standing alone -/
structure Emb (m K : Nat) (f s s' : Int → Int) (E : List Int) : Prop where
  pm : Pm (2 * (m : Int)) s
  rng' : ∀ x, In (2 * (K : Int)) x → In (2 * (K : Int)) (s' x)
  dom : ∀ x, In (2 * (K : Int)) x → In (2 * (m : Int)) (f x)
  inj : ∀ x y, In (2 * (K : Int)) x → In (2 * (K : Int)) y → f x = f y → x = y
  hs : ∀ x, In (2 * (K : Int)) x → s (f x) = f (s' x)
  ht : ∀ x, In (2 * (K : Int)) x → twin (f x) = f (twin x)
  nd : E.Nodup
  num : E.length + K = m
  inn : ∀ i ∈ E, 0 ≤ i ∧ i < m
  all : ∀ z, In (2 * (m : Int)) z → z / 2 ∈ E ∨ ∃ x, In (2 * (K : Int)) x ∧ z = f x
  out : ∀ x, In (2 * (K : Int)) x → f x / 2 ∉ E
  one : ∀ z, In (2 * (m : Int)) z → z / 2 ∈ E → s z = z
section
variable {m K : Nat} {f s s' : Int → Int} {E : List Int}
theorem Emb.lk (h : Emb m K f s s' E) (x y : Int) (hx : In (2 * (K : Int)) x) (hy : In (2 * (K : Int)) y) : Lk (2 * (K : Int)) s' twin x y ↔ Lk (2 * (m : Int)) s twin (f x) (f y) := by
  have ht' := twin_tw K
  have ht := twin_tw m
  constructor
  · intro hl R hR h1 h2
    refine hl (fun u v => R (f u) (f v)) ⟨fun x hx => hR.rfl _ (h.dom x hx), fun x y hx hy => hR.symm _ _ (h.dom x hx) (h.dom y hy), fun x y z hx hy hz => hR.trans _ _ _ (h.dom x hx) (h.dom y hy) (h.dom z hz)⟩ (fun x hx => ?_) (fun x hx => ?_)
    · have := h1 _ (h.dom x hx); rwa [h.hs x hx] at this
    · have := h2 _ (h.dom x hx); rwa [h.ht x hx] at this
  · intro hl
    have hle := Lk.eqv (2 * (K : Int)) s' twin
    have := hl (fun u v => (u / 2 ∈ E ∧ v / 2 ∈ E) ∨ ∃ a b, (In (2 * (K : Int)) a ∧ In (2 * (K : Int)) b) ∧ (u = f a ∧ v = f b) ∧ Lk (2 * (K : Int)) s' twin a b) ⟨fun u hu => ?_, fun u v _ _ huv => ?_, fun u v w _ _ _ huv hvw => ?_⟩ (fun z hz => ?_) (fun z hz => ?_)
    · rcases this with c | ⟨a, b, ⟨ha, hb⟩, ⟨ea, eb⟩, hab⟩
      · exact absurd c.1 (h.out x hx)
      · rw [h.inj x a hx ha ea, h.inj y b hy hb eb]; exact hab
    · rcases h.all u hu with c | ⟨a, ha, e⟩
      · exact .inl ⟨c, c⟩
      · exact .inr ⟨a, a, ⟨ha, ha⟩, ⟨e, e⟩, hle.rfl a ha⟩
    · rcases huv with c | ⟨a, b, ⟨ha, hb⟩, ⟨ea, eb⟩, hab⟩
      · exact .inl ⟨c.2, c.1⟩
      · exact .inr ⟨b, a, ⟨hb, ha⟩, ⟨eb, ea⟩, hle.symm _ _ ha hb hab⟩
    · rcases huv with c | ⟨a, b, ⟨ha, hb⟩, ⟨ea, eb⟩, hab⟩
      · rcases hvw with c' | ⟨a', b', ⟨ha', hb'⟩, ⟨ea', eb'⟩, hab'⟩
        · exact .inl ⟨c.1, c'.2⟩
        · rw [ea'] at c; exact absurd c.2 (h.out _ ha')
      · rcases hvw with c' | ⟨a', b', ⟨ha', hb'⟩, ⟨ea', eb'⟩, hab'⟩
        · rw [eb] at c'; exact absurd c'.1 (h.out _ hb)
        · have e : b = a' := h.inj _ _ hb ha' (by rw [← eb, ea'])
          rw [← e] at hab'
          exact .inr ⟨a, b', ⟨ha, hb'⟩, ⟨ea, eb'⟩, hle.trans _ _ _ ha hb hb' hab hab'⟩
    · rcases h.all z hz with c | ⟨a, ha, e⟩
      · rw [h.one z hz c]; exact .inl ⟨c, c⟩
      · exact .inr ⟨a, s' a, ⟨ha, h.rng' a ha⟩, ⟨e, by rw [e, h.hs a ha]⟩, Lk.s ha⟩
    · rcases h.all z hz with c | ⟨a, ha, e⟩
      · exact .inl ⟨c, by rw [twin_half hz.1]; exact c⟩
      · exact .inr ⟨a, twin a, ⟨ha, ht'.rng a ha⟩, ⟨e, by rw [e, h.ht a ha]⟩, Lk.t ha⟩
theorem Emb.img (h : Emb m K f s s' E) {p p' : Int → Int} (hrng : ∀ x, In (2 * (K : Int)) x → In (2 * (K : Int)) (p' x)) (hp : ∀ x, In (2 * (K : Int)) x → p (f x) = f (p' x)) {x e : Int} (hx : In (2 * (K : Int)) x) (ho : Orb p (f x) e) : e / 2 ∉ E := by
  obtain ⟨a, ha, rfl⟩ := Orb.ind (S := fun z => ∃ x, In (2 * (K : Int)) x ∧ z = f x) (fun z hz => by
    obtain ⟨a, ha, rfl⟩ := hz
    exact ⟨p' a, hrng a ha, hp a ha⟩) ho ⟨x, hx, rfl⟩
  exact h.out a ha
theorem Emb.ec (h : Emb m K f s s' E) (hs' : Pm (2 * (K : Int)) s') {d : Int} (hd : Ec (2 * (K : Int)) twin s' d) : Ec (2 * (m : Int)) twin s (d - (E.length : Int)) := by
  obtain ⟨V, F, C, hV, hF, hC, rfl⟩ := hd
  have ht' := twin_tw K
  have ht := twin_tw m
  have hev : ∀ e, e ∈ E.map (fun i => 2 * i) ↔ e % 2 = 0 ∧ e / 2 ∈ E := fun e => by
    rw [List.mem_map]
    constructor
    · rintro ⟨i, hi, rfl⟩
      exact ⟨by omega, by rw [show 2 * i / 2 = i by omega]; exact hi⟩
    · rintro ⟨h1, h2⟩
      exact ⟨_, h2, by omega⟩
  have hod : ∀ e, e ∈ E.map (fun i => 2 * i + 1) ↔ e % 2 = 1 ∧ e / 2 ∈ E := fun e => by
    rw [List.mem_map]
    constructor
    · rintro ⟨i, hi, rfl⟩
      exact ⟨by omega, by rw [show (2 * i + 1) / 2 = i by omega]; exact hi⟩
    · rintro ⟨h1, h2⟩
      exact ⟨_, h2, by omega⟩
  have hin : ∀ e, e / 2 ∈ E → In (2 * (m : Int)) e := fun e he => by
    have := h.inn _ he
    exact ⟨by omega, by omega⟩
  have hcomp := ht.comp h.pm
  refine ⟨V + (E.map (fun i => 2 * i) ++ E.map (fun i => 2 * i + 1)).length, F + (E.map fun i => 2 * i).length, C + (E.map fun i => 2 * i).length, ?_, ?_, ?_, ?_⟩
  · refine Num.ext f _ hV h.pm.eqv h.dom (orb_emb h.rng' h.hs h.inj) (List.nodup_append.2 ⟨nodup_map_on h.nd (fun x _ y _ e => by omega), nodup_map_on h.nd (fun x _ y _ e => by omega), fun a ha b hb e => ?_⟩) (fun e he => ?_) (fun e he x hx ho => ?_) (fun a ha b hb ho => ?_) (fun z hz => ?_)
    · have := (hev a).1 ha
      have := (hod b).1 hb
      omega
    · rcases List.mem_append.1 he with c | c
      · exact hin e ((hev e).1 c).2
      · exact hin e ((hod e).1 c).2
    · have := h.img h.rng' h.hs hx ho
      rcases List.mem_append.1 he with c | c
      · exact this ((hev e).1 c).2
      · exact this ((hod e).1 c).2
    · have ha' : a / 2 ∈ E := by
        rcases List.mem_append.1 ha with c | c
        · exact ((hev a).1 c).2
        · exact ((hod a).1 c).2
      exact (Orb.ind (S := fun z => z = a) (fun z hz => by rw [hz]; exact h.one a (hin a ha') ha') ho rfl).symm
    · rcases h.all z hz with c | ⟨x, hx, e⟩
      · refine .inr ⟨z, ?_, Orb.refl _ _⟩
        rw [List.mem_append, hev, hod]
        rcases Int.emod_two_eq z with e | e
        · exact .inl ⟨e, c⟩
        · exact .inr ⟨e, c⟩
      · exact .inl ⟨x, hx, by rw [e]; exact Orb.refl _ _⟩
  · have hr2 : ∀ x, In (2 * (K : Int)) x → In (2 * (K : Int)) (s' (twin x)) := fun x hx => h.rng' _ (ht'.rng x hx)
    have hp2 : ∀ x, In (2 * (K : Int)) x → s (twin (f x)) = f (s' (twin x)) := fun x hx => by rw [h.ht x hx, h.hs _ (ht'.rng x hx)]
    have h1s : ∀ z, In (2 * (m : Int)) z → z / 2 ∈ E → s (twin z) = twin z := fun z hz c => h.one _ (ht.rng z hz) (by rw [twin_half hz.1]; exact c)
    refine Num.ext f _ hF hcomp.eqv h.dom (orb_emb hr2 hp2 h.inj) (nodup_map_on h.nd (fun x _ y _ e => by omega)) (fun e he => hin e ((hev e).1 he).2) (fun e he x hx ho => h.img hr2 hp2 hx ho ((hev e).1 he).2) (fun a ha b hb ho => ?_) (fun z hz => ?_)
    · have ha' := (hev a).1 ha
      have hb' := (hev b).1 hb
      have := (Orb.ind (S := fun z => In (2 * (m : Int)) z ∧ z / 2 = a / 2) (fun z hz => by
        have c : z / 2 ∈ E := by rw [hz.2]; exact ha'.2
        rw [h1s z hz.1 c]
        exact ⟨ht.rng z hz.1, by rw [twin_half hz.1.1]; exact hz.2⟩) ho ⟨hin a ha'.2, rfl⟩).2
      omega
    · rcases h.all z hz with c | ⟨x, hx, e⟩
      · refine .inr ⟨2 * (z / 2), (hev _).2 ⟨by omega, by rw [show 2 * (z / 2) / 2 = z / 2 by omega]; exact c⟩, ?_⟩
        by_cases e : z % 2 = 0
        · rw [show 2 * (z / 2) = z by omega]; exact Orb.refl _ _
        · have h1 := Orb.step (fun x => s (twin x)) z
          rw [h1s z hz c, show twin z = 2 * (z / 2) by unfold twin; rw [if_neg e]; omega] at h1
          exact h1
      · exact .inl ⟨x, hx, by rw [e]; exact Orb.refl _ _⟩
  · have hlk : ∀ u v, Lk (2 * (m : Int)) s twin u v → u / 2 = v / 2 ∨ (u / 2 ∉ E ∧ v / 2 ∉ E) := fun u v hl => hl (fun u v => u / 2 = v / 2 ∨ (u / 2 ∉ E ∧ v / 2 ∉ E)) ⟨fun _ _ => .inl rfl, fun u v _ _ c => c.elim (fun e => .inl e.symm) (fun e => .inr ⟨e.2, e.1⟩), fun u v w _ _ _ c1 c2 => by
        rcases c1 with e1 | e1
        · rw [e1]; exact c2
        · rcases c2 with e2 | e2
          · rw [← e2]; exact .inr e1
          · exact .inr ⟨e1.1, e2.2⟩⟩ (fun z hz => by
        rcases h.all z hz with c | ⟨x, hx, e⟩
        · rw [h.one z hz c]; exact .inl rfl
        · rw [e, h.hs x hx]; exact .inr ⟨h.out x hx, h.out _ (h.rng' x hx)⟩) (fun z hz => .inl (by rw [twin_half hz.1]))
    have hle := Lk.eqv (2 * (m : Int)) s twin
    refine Num.ext f _ hC hle h.dom h.lk (nodup_map_on h.nd (fun x _ y _ e => by omega)) (fun e he => hin e ((hev e).1 he).2) (fun e he x hx ho => ?_) (fun a ha b hb ho => ?_) (fun z hz => ?_)
    · have he' := ((hev e).1 he).2
      rcases hlk _ _ ho with c | c
      · rw [← c] at he'; exact h.out x hx he'
      · exact c.2 he'
    · have ha' := (hev a).1 ha
      have hb' := (hev b).1 hb
      rcases hlk _ _ ho with c | c
      · omega
      · exact absurd ha'.2 c.1
    · rcases h.all z hz with c | ⟨x, hx, e⟩
      · refine .inr ⟨2 * (z / 2), (hev _).2 ⟨by omega, by rw [show 2 * (z / 2) / 2 = z / 2 by omega]; exact c⟩, ?_⟩
        by_cases e : z % 2 = 0
        · rw [show 2 * (z / 2) = z by omega]; exact hle.rfl z hz
        · have h1 : Lk (2 * (m : Int)) s twin z (twin z) := Lk.t hz
          rw [show twin z = 2 * (z / 2) by unfold twin; rw [if_neg e]; omega] at h1
          exact h1
      · exact .inl ⟨x, hx, by rw [← e]; exact hle.rfl z hz⟩
  · simp only [List.length_append, List.length_map]
    omega
end
end TL
