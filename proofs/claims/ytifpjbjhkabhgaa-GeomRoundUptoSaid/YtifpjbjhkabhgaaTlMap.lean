/-
  TlMap: maps that the call makes.
  By an AI agent.
-/
import Derived.Test.YtifpjbjhkabhgaaTlOps
set_option linter.all false
namespace TL
open Go

/-- a key type, and how its values are found -/
class Ky (K : Type) where
  val : K → Value
structure KeyOk (P : Program) (kt : TypeId) (K : Type) [DecidableEq K] [Ky K] : Prop where
  check : ∀ (b : Bool) (k : K) (w : World), (Instr.checkKey b 10000 kt (Ky.val k)).run P w = .ok () w
  find : ∀ (k : K) (es : List MapEntry) (ks : List K) (w : World), es.map (·.key) = ks.map Ky.val → (Instr.findKey kt (Ky.val k) es).run P w = .ok ((ks.findIdx? (· = k)).bind fun i => (es[i]?).map fun e => (i, e.val)) w
  bits : ∀ k : K, Instr.sameBits 10000 (Ky.val k) (Ky.val k) = true

/-- a map as a list of keys, values, stamps -/
structure MEntry (K : Type) where
  key : K
  val : Int
  born : Nat
def mval {K : Type} [Ky K] (e : MEntry K) : MapEntry := { key := Ky.val e.key, val := .int .i64 e.val, born := e.born }
def mget {K : Type} [DecidableEq K] (es : List (MEntry K)) (k : K) : Int := ((es.find? fun e => decide (e.key = k)).map (·.val)).getD 0
structure MOk {K : Type} (es : List (MEntry K)) (clock : Nat) : Prop where
  keys : (es.map (·.key)).Nodup
  born : (es.map (·.born)).Nodup
  lt : ∀ e ∈ es, e.born < clock

/-- a map of the call's own with integer elements: F tells what each key has (0: none) -/
def Mp {K : Type} [DecidableEq K] [Ky K] (γ : Cmap) (J : Col → Prop) (w : World) (v : Value) (F : K → Int) : Prop :=
  ∃ (r : Nat) (es : List (MEntry K)) (clock : Nat), v = .map (some r) ∧ J (γ r) ∧ w.heap[r]? = some (.map (es.map mval).toArray clock) ∧ MOk es clock ∧ F = mget es
/-- the same, and a stamp that stands for a key -/
def Mps {K : Type} [DecidableEq K] [Ky K] (γ : Cmap) (J : Col → Prop) (w : World) (v : Value) (F : K → Int) (s : Int) (k : K) : Prop :=
  ∃ (r : Nat) (es : List (MEntry K)) (clock : Nat), v = .map (some r) ∧ J (γ r) ∧ w.heap[r]? = some (.map (es.map mval).toArray clock) ∧ MOk es clock ∧ F = mget es ∧ ∃ (i : Nat) (e : MEntry K), es[i]? = some e ∧ e.key = k ∧ (e.born : Int) = s

theorem Mp.chg {K : Type} [DecidableEq K] [Ky K] {γ γ' : Cmap} {J J' : Col → Prop} {w w' : World} {v : Value} {F : K → Int} (h : Mp γ J w v F) (hc : Chg J' γ w γ' w') (hJ : ∀ c, J c → ¬ J' c) : Mp γ' J w' v F := by
  obtain ⟨r, es, clock, h1, h2, h3, h4⟩ := h
  exact ⟨r, es, clock, h1, by rw [hc.col r (heap_lt h3) (hJ _ h2)]; exact h2, by rw [hc.keep r (heap_lt h3) (hJ _ h2)]; exact h3, h4⟩
theorem Mps.chg {K : Type} [DecidableEq K] [Ky K] {γ γ' : Cmap} {J J' : Col → Prop} {w w' : World} {v : Value} {F : K → Int} {s : Int} {k : K} (h : Mps γ J w v F s k) (hc : Chg J' γ w γ' w') (hJ : ∀ c, J c → ¬ J' c) : Mps γ' J w' v F s k := by
  obtain ⟨r, es, clock, h1, h2, h3, h4⟩ := h
  exact ⟨r, es, clock, h1, by rw [hc.col r (heap_lt h3) (hJ _ h2)]; exact h2, by rw [hc.keep r (heap_lt h3) (hJ _ h2)]; exact h3, h4⟩
theorem Mp.bel {K : Type} [DecidableEq K] [Ky K] {γ : Cmap} {J : Col → Prop} {w w' : World} {v : Value} {F : K → Int} (h : Mp γ J w v F) (hc : Bel w.heap.size w w') : Mp γ J w' v F := by
  obtain ⟨r, es, clock, h1, h2, h3, h4⟩ := h
  exact ⟨r, es, clock, h1, h2, by rw [hc.block r (heap_lt h3)]; exact h3, h4⟩

theorem find_mget {K : Type} [DecidableEq K] [Ky K] (es : List (MEntry K)) (k : K) : (((es.map (·.key)).findIdx? (· = k)).bind fun i => ((es.map mval)[i]?).map fun e => (i, e.val)) = ((es.map (·.key)).findIdx? (· = k)).map fun i => (i, Value.int .i64 (mget es k)) := by
  cases h : (es.map (·.key)).findIdx? (· = k) with
  | none => rfl
  | some i =>
    obtain ⟨hi, hk, hlt⟩ := List.findIdx?_eq_some_iff_getElem.1 h
    have hi' : i < es.length := by simpa using hi
    have hke : es[i].key = k := by simpa using hk
    have hf : es.find? (fun e => decide (e.key = k)) = some es[i] := by
      rw [List.find?_eq_some_iff_getElem]
      refine ⟨by simpa using hke, i, hi', rfl, fun j hj => ?_⟩
      have := hlt j hj
      simpa using this
    simp [hi', mval, mget, hf]

section
variable {P : Program} {f : Fr} {w : World} {dst : Option Tmp} {ty : TypeId} {pos : String} {after : Array Edge} {g : Option (Nat × Bool)} {t : TypeId} {x y z : Operand} {N : Value → World → Prop}
theorem run_getObj_map {r : Nat} {es : Array MapEntry} {clock : Nat} (h : w.heap[r]? = some (.map es clock)) : (getObj r).run P w = .ok (.map es clock) w := by
  simp [getObj, Sem.run, h]
theorem run_setObj_map {r : Nat} {es : Array MapEntry} {clock : Nat} {o : Obj} (h : w.heap[r]? = some (.map es clock)) : (setObj r o).run P w = .ok () { w with heap := w.heap.setIfInBounds r o } := by
  simp [setObj, Sem.run, h]
theorem chg_setObj (γ : Cmap) {r : Nat} (o : Obj) {J : Col → Prop} (hJ : J (γ r)) : Chg J γ w γ { w with heap := w.heap.setIfInBounds r o } :=
  ⟨rfl, rfl, rfl, by simp, fun _ _ _ => rfl, fun k _ hk => by
    have : r ≠ k := fun h => hk (h ▸ hJ)
    simp [Array.getElem?_setIfInBounds_ne this], Nat.le_refl _⟩
theorem heap_setObj {r : Nat} {o o' : Obj} (h : w.heap[r]? = some o') : ({ w with heap := w.heap.setIfInBounds r o } : World).heap[r]? = some o := by
  have := heap_lt h
  simp [this]

theorem o_makeMap {K : Type} [DecidableEq K] [Ky K] (γ : Cmap) (J : Col → Prop) (c : Col) (hJ : J c) (hk : ∀ γ' w' v, Chg no γ w γ' w' → Mp (K := K) γ' J w' v (fun _ => 0) → N v w') : opT P ⟨dst, .makeMap t none, ty, pos, after, g⟩ f w N := by
  refine o_of_val (v := .map (some w.heap.size)) (w' := w.alloc (.map #[] 0)) (by simp [execOp, Instr.makeMap]) (hk (cset γ w.heap.size c) _ _ (chg_alloc γ w _ c) ⟨w.heap.size, [], 0, rfl, by simpa [cset] using hJ, by rw [heap_alloc_new']; rfl, ⟨by simp, by simp, by simp⟩, ?_⟩)
  funext k; simp [mget]

theorem e_lookup {K : Type} [DecidableEq K] [Ky K] {γ : Cmap} {J : Col → Prop} {v u : Value} {F : K → Int} {kt et size bytes : Nat} {agg : Bool} (k : K) (ht : P.underlying t = some (.map kt et)) (hk : KeyOk P kt K) (he : Tp P et agg size bytes (.int .i64 0)) (hx : ev f x = v) (hm : Mp γ J w v F) (hy : ev f y = u) (hu : u = Ky.val k) :
    (execOp (ev f) ⟨dst, .lookup t x y false, ty, pos, after, g⟩).run P w = .ok (.value (.int .i64 (F k))) w := by
  obtain ⟨r, es, clock, rfl, hJ, hb, hok, rfl⟩ := hm
  obtain ⟨i, hi, _, _, hz⟩ := he.info
  subst hu
  have hf := hk.find k (es.map mval) (es.map (·.key)) w (by simp [mval, Function.comp_def])
  rw [find_mget] at hf
  cases h : (es.map (·.key)).findIdx? (· = k) with
  | none =>
    rw [h] at hf
    have h0 : mget es k = 0 := by
      have hn : es.find? (fun e => decide (e.key = k)) = none := by
        rw [List.find?_eq_none]
        intro e he
        have := List.findIdx?_eq_none_iff.1 h (e.key) (List.mem_map_of_mem he)
        simpa using this
      simp [mget, hn]
    simp [execOp, hx, hy, Instr.lookup, run_underlying' ht, run_getObj_map hb, hk.check, hf, run_zeroValue hi hz, h0]
  | some i =>
    rw [h] at hf
    simp [execOp, hx, hy, Instr.lookup, run_underlying' ht, run_getObj_map hb, hk.check, hf]

theorem o_mapEntry {K : Type} [DecidableEq K] [Ky K] {γ : Cmap} {J : Col → Prop} {v u : Value} {F : K → Int} {kt et size bytes : Nat} {agg : Bool} (k : K) (ht : P.underlying t = some (.map kt et)) (hk : KeyOk P kt K) (he : Tp P et agg size bytes (.int .i64 0)) (hx : ev f x = v) (hm : Mp γ J w v F) (hy : ev f y = u) (hu : u = Ky.val k)
    (hn : ∀ w' s, Chg J γ w γ w' → Mps γ J w' v F s k → N (.tuple (List.toArray [.int .i64 (F k), .int .i64 s])) w') : opT P ⟨dst, .mapEntry t x y, ty, pos, after, g⟩ f w N := by
  obtain ⟨r, es, clock, rfl, hJ, hb, hok, rfl⟩ := hm
  obtain ⟨q, hi, _, _, hz⟩ := he.info
  subst hu
  have hf := hk.find k (es.map mval) (es.map (·.key)) w (by simp [mval, Function.comp_def])
  rw [find_mget] at hf
  cases h : (es.map (·.key)).findIdx? (· = k) with
  | none =>
    rw [h] at hf
    have hnk : ∀ e ∈ es, e.key ≠ k := fun e he => by
      have := List.findIdx?_eq_none_iff.1 h (e.key) (List.mem_map_of_mem he)
      simpa using this
    have h0 : mget es k = 0 := by
      have hn : es.find? (fun e => decide (e.key = k)) = none := by
        rw [List.find?_eq_none]
        intro e he
        simpa using hnk e he
      simp [mget, hn]
    refine o_of_val (v := .tuple (List.toArray [.int .i64 (mget es k), .int .i64 (clock : Int)])) (w' := { w with heap := w.heap.setIfInBounds r (.map ((es ++ [(⟨k, 0, clock⟩ : MEntry K)]).map mval).toArray (clock + 1)) }) ?_ ?_
    rotate_left
    · refine hn _ _ (chg_setObj γ _ hJ) ⟨r, es ++ [⟨k, 0, clock⟩], clock + 1, rfl, hJ, heap_setObj hb, ⟨?_, ?_, ?_⟩, ?_, es.length, ⟨k, 0, clock⟩, by simp, rfl, rfl⟩
      rotate_left 3
      · funext k'
        simp only [mget, List.find?_append]
        by_cases hkk : k = k'
        · subst hkk
          have hn : es.find? (fun e => decide (e.key = k)) = none := by
            rw [List.find?_eq_none]
            intro e he
            simpa using hnk e he
          simp [hn]
        · cases es.find? (fun e => decide (e.key = k')) <;> simp [hkk]
      · rw [List.map_append, List.nodup_append]
        refine ⟨hok.keys, by simp, fun a ha b hb => ?_⟩
        obtain ⟨e, he, rfl⟩ := List.mem_map.1 ha
        have : b = k := by simpa using hb
        subst this; exact hnk e he
      · rw [List.map_append, List.nodup_append]
        refine ⟨hok.born, by simp, fun a ha b hb => ?_⟩
        obtain ⟨e, he, rfl⟩ := List.mem_map.1 ha
        have : b = clock := by simpa using hb
        subst this; exact Nat.ne_of_lt (hok.lt e he)
      · intro e he
        rcases List.mem_append.1 he with h | h
        · exact Nat.lt_succ_of_lt (hok.lt e h)
        · obtain rfl := List.mem_singleton.1 h; exact Nat.lt_succ_self _
    · simp [execOp, hx, hy, Instr.mapEntry, run_underlying' ht, run_getObj_map hb, hk.check, hf, run_zeroValue hi hz, run_setObj_map hb, h0, mval, goInt]
  | some i =>
    rw [h] at hf
    obtain ⟨hil, hke, _⟩ := List.findIdx?_eq_some_iff_getElem.1 h
    have hi' : i < es.length := by simpa using hil
    have hke' : es[i].key = k := by simpa using hke
    have hsame : (es.map mval).modify i (fun e => { e with key := Ky.val k }) = es.map mval := by
      apply List.ext_getElem?
      intro j
      rw [List.getElem?_modify]
      by_cases hij : i = j
      · subst hij; simp [hi', mval, hke']
      · simp [hij]
    refine o_of_val (v := .tuple (List.toArray [.int .i64 (mget es k), .int .i64 ((es[i].born : Nat) : Int)])) (w' := { w with heap := w.heap.setIfInBounds r (.map (es.map mval).toArray clock) }) ?_
      (hn _ _ (chg_setObj γ _ hJ) ⟨r, es, clock, rfl, hJ, heap_setObj hb, hok, rfl, i, es[i], by simp, hke', rfl⟩)
    have hkb := hk.bits k
    have hold : (Instr.keyThatStays (Ky.val k) (Ky.val k)).run P w = .ok (Ky.val k) w := by simp [Instr.keyThatStays, hkb]
    simp [execOp, hx, hy, Instr.mapEntry, run_underlying' ht, run_getObj_map hb, hk.check, hf, hi', mval, hke', hold, run_setObj_map hb, goInt]
    rw [hsame]

theorem o_entryStore {K : Type} [DecidableEq K] [Ky K] {γ : Cmap} {J : Col → Prop} {v : Value} {F : K → Int} {s m : Int} {k : K} (hx : ev f x = v) (hm : Mps γ J w v F s k) (hy : ev f y = .int .i64 s) (hz : ev f z = .int .i64 m)
    (hn : ∀ w', Chg J γ w γ w' → Mp γ J w' v (fun k' => if k' = k then m else F k') → N undef w') : opT P ⟨dst, .entryStore t x y z, ty, pos, after, g⟩ f w N := by
  obtain ⟨r, es, clock, rfl, hJ, hb, hok, rfl, i, e, hie, rfl, rfl⟩ := hm
  have hi' : i < es.length := (List.getElem?_eq_some_iff.1 hie).1
  have hei : es[i] = e := (List.getElem?_eq_some_iff.1 hie).2
  have hfi : ((es.map mval).toArray.findIdx? (fun q => (q.born : Int) == (e.born : Int))) = some i := by
    rw [List.findIdx?_toArray, List.findIdx?_eq_some_iff_getElem]
    refine ⟨by simpa using hi', by simp [mval, hei], fun j hj => ?_⟩
    have hj' : j < es.length := by omega
    have hne : es[j].born ≠ e.born := fun h => by
      have h1 : (es.map (·.born))[j]'(by simpa using hj') = (es.map (·.born))[i]'(by simpa using hi') := by simp [hei, h]
      have := (List.getElem_inj hok.born).1 h1
      omega
    simp [mval]
    omega
  have hmod : (es.map mval).modify i (fun q => { q with val := .int .i64 m }) = (es.modify i (fun q => { q with val := m })).map mval := by
    apply List.ext_getElem?
    intro j
    rw [List.getElem?_modify, List.getElem?_map, List.getElem?_map, List.getElem?_modify]
    by_cases hij : i = j
    · subst hij; simp [hi', mval]
    · simp [hij]
  have hkeys : (es.modify i (fun q => { q with val := m })).map (·.key) = es.map (·.key) := by
    apply List.ext_getElem?
    intro j
    rw [List.getElem?_map, List.getElem?_map, List.getElem?_modify]
    by_cases hij : i = j
    · subst hij; simp [hi']
    · simp [hij]
  have hborn : (es.modify i (fun q => { q with val := m })).map (·.born) = es.map (·.born) := by
    apply List.ext_getElem?
    intro j
    rw [List.getElem?_map, List.getElem?_map, List.getElem?_modify]
    by_cases hij : i = j
    · subst hij; simp [hi']
    · simp [hij]
  refine o_of_eff (w' := { w with heap := w.heap.setIfInBounds r (.map ((es.modify i (fun q => { q with val := m })).map mval).toArray clock) }) ?_
    (hn _ (chg_setObj γ _ hJ) ⟨r, es.modify i (fun q => { q with val := m }), clock, rfl, hJ, heap_setObj hb, ⟨by rw [hkeys]; exact hok.keys, by rw [hborn]; exact hok.born, fun q hq => ?_⟩, ?_⟩)
  · simp [execOp, hx, hy, hz, Instr.entryStore, run_getObj_map hb, asInt, asIntOf, hfi, run_setObj_map hb]
    rw [← hmod]
  · have : q.born ∈ es.map (·.born) := by rw [← hborn]; exact List.mem_map_of_mem hq
    obtain ⟨q', hq', he'⟩ := List.mem_map.1 this
    rw [← he']; exact hok.lt q' hq'
  · funext k'
    -- the entry of k' in the changed list
    have hfind : ∀ (l : List (MEntry K)), (l.map (·.key)).Nodup → ∀ j (hj : j < l.length), mget l l[j].key = l[j].val := by
      intro l hl j hj
      have hf : l.find? (fun e => decide (e.key = l[j].key)) = some l[j] := by
        rw [List.find?_eq_some_iff_getElem]
        refine ⟨by simp, j, hj, rfl, fun q hq => ?_⟩
        have hne : l[q].key ≠ l[j].key := fun h => by
          have h1 : (l.map (·.key))[q]'(by simp; omega) = (l.map (·.key))[j]'(by simpa using hj) := by simp [h]
          have := (List.getElem_inj hl).1 h1
          omega
        simpa using hne
      simp [mget, hf]
    by_cases hkk : k' = e.key
    · subst hkk
      rw [if_pos rfl]
      have h1 := hfind (es.modify i (fun q => { q with val := m })) (by rw [hkeys]; exact hok.keys) i (by simpa using hi')
      simp [List.getElem_modify, hei] at h1
      exact h1.symm
    · rw [if_neg hkk]
      have hfe : (es.modify i (fun q => { q with val := m })).find? (fun e => decide (e.key = k')) = es.find? (fun e => decide (e.key = k')) := by
        have hgen : ∀ (l : List (MEntry K)) (i : Nat) (e : MEntry K), l[i]? = some e → k' ≠ e.key → (l.modify i (fun q => { q with val := m })).find? (fun e => decide (e.key = k')) = l.find? (fun e => decide (e.key = k')) := by
          intro l
          induction l with
          | nil => intro i e h; simp at h
          | cons a l ih =>
            intro i e h hne
            cases i with
            | zero =>
              obtain rfl : a = e := by simpa using h
              have : decide (a.key = k') = false := by simpa using fun h => hne h.symm
              simp [List.find?_cons, this]
            | succ i =>
              have h' : l[i]? = some e := by simpa using h
              simp only [List.modify_succ_cons, List.find?_cons, ih i e h' hne]
        exact hgen es i e hie hkk
      simp [mget, hfe]
end

/-! keys: whole numbers, and pairs of them -/
instance : Ky Int where
  val k := .int .i64 k
instance : Ky (Int × Int) where
  val k := .agg (List.toArray [.int .i64 k.1, .int .i64 k.2])
theorem keyOk_pair {P : Program} {kt e bytes : Nat} {z : Value} (ht : P.underlying kt = some (.array 2 e)) (he : P.underlying e = some (.int .i64)) (hp : Tp P e false 1 bytes z) : KeyOk P kt (Int × Int) where
  check b k w := by
    obtain ⟨i, hi, hs, _⟩ := hp.info
    have h0 := fun (x y : Int) => run_part (P := P) (w := w) (cs := #[.int .i64 x, .int .i64 y]) (o := 0) hp (v := .int .i64 x) (by rfl)
    have h1 := fun (x y : Int) => run_part (P := P) (w := w) (cs := #[.int .i64 x, .int .i64 y]) (o := 1) hp (v := .int .i64 y) (by rfl)
    have hr : (List.range' 0 2 1) = [0, 1] := rfl
    have hc : ∀ x : Int, (Instr.checkKey b 9999 e (.int .i64 x)).run P w = .ok () w := fun x => by
      rw [Instr.checkKey]
      simp only [Sem.run_bind, run_underlying' he, Result.andThen_ok]
      rfl
    show (Instr.checkKey b (9999 + 1) kt _).run P w = _
    rw [Instr.checkKey]
    simp only [Ky.val, Sem.run_bind, run_underlying' ht, Result.andThen_ok]
    rw [Std.Legacy.Range.forIn_eq_forIn_range']
    simp only [Std.Legacy.Range.size, Nat.sub_zero, Nat.reduceAdd, Nat.reduceSub, Nat.div_one, hr]
    simp [run_sizeOf hi, hs, h0, h1, hc]
  find k es ks w hm := by
    have hfn : ∀ (es : List MapEntry) (i : Nat), es ≠ [] → (∀ e ∈ es, ∃ c, e.key = .agg c) → Instr.findNow (.array 2 e) (Ky.val k) es i = none := by
      intro es i h0 _
      cases es with
      | nil => exact absurd rfl h0
      | cons a l => simp [Instr.findNow, Instr.sameNow]
    have hask : ∀ (es : List MapEntry) (ks : List (Int × Int)) (i : Nat), es.map (·.key) = ks.map Ky.val → (Instr.findAsking kt (Ky.val k) es i).run P w = .ok ((ks.findIdx? (· = k)).bind fun j => (es[j]?).map fun e => (i + j, e.val)) w := by
      intro es
      induction es with
      | nil =>
        intro ks i h
        have : ks = [] := by cases ks <;> simp at h ⊢
        subst this; simp [Instr.findAsking]
      | cons a l ih =>
        intro ks i h
        cases ks with
        | nil => simp at h
        | cons q ks =>
          simp only [List.map_cons, List.cons.injEq] at h
          obtain ⟨ha, hl⟩ := h
          have heq := run_eql_pair (P := P) (w := w) (a := k) (b := q) ht he hp
          have heq' : (Op.equal kt (Ky.val k) a.key).run P w = .ok (decide (k = q)) w := by rw [ha]; exact heq
          by_cases hkq : k = q
          · subst hkq
            simp [Instr.findAsking, heq', List.findIdx?_cons]
          · have hqk : ¬ q = k := fun h => hkq h.symm
            have ih' := ih ks (i + 1) hl
            simp [Instr.findAsking, heq', hkq, List.findIdx?_cons, hqk, ih']
            cases ks.findIdx? (fun x => decide (x = k)) with
            | none => rfl
            | some j => simp [Nat.add_comm 1 j, Nat.add_assoc]
    simp only [Instr.findKey, Sem.run_bind, run_underlying' ht, Result.andThen_ok]
    cases es with
    | nil =>
      have : ks = [] := by cases ks <;> simp at hm ⊢
      subst this; simp [Instr.findNow]
    | cons a l =>
      rw [hfn (a :: l) 0 (by simp) (fun e he => by
        have : e.key ∈ (a :: l).map (·.key) := List.mem_map_of_mem he
        rw [hm] at this
        obtain ⟨q, _, hq⟩ := List.mem_map.1 this
        exact ⟨_, hq.symm⟩)]
      simp only [hask (a :: l) ks 0 hm, Nat.zero_add]
  bits k := by
    show Instr.sameBits (9999 + 1) _ _ = true
    simp [Ky.val, Instr.sameBits]
theorem keyOk_int {P : Program} {kt : Nat} (ht : P.underlying kt = some (.int .i64)) : KeyOk P kt Int where
  check b k w := by
    show (Instr.checkKey b (9999 + 1) kt _).run P w = _
    rw [Instr.checkKey]
    simp only [Ky.val, Sem.run_bind, run_underlying' ht, Result.andThen_ok]
    rfl
  find k es ks w hm := by
    have hnow : ∀ (es : List MapEntry) (ks : List Int) (i : Nat), es.map (·.key) = ks.map Ky.val → Instr.findNow (.int .i64) (Ky.val k) es i = some ((ks.findIdx? (· = k)).bind fun j => (es[j]?).map fun e => (i + j, e.val)) := by
      intro es
      induction es with
      | nil =>
        intro ks i h
        have : ks = [] := by cases ks <;> simp at h ⊢
        subst this; simp [Instr.findNow]
      | cons a l ih =>
        intro ks i h
        cases ks with
        | nil => simp at h
        | cons q ks =>
          simp only [List.map_cons, List.cons.injEq] at h
          obtain ⟨ha, hl⟩ := h
          have hs : Instr.sameNow (.int .i64) (Ky.val k) a.key = some (k == q) := by rw [ha]; simp [Ky.val, Instr.sameNow]
          by_cases hkq : k = q
          · subst hkq
            simp [Instr.findNow, hs, List.findIdx?_cons]
          · have hqk : ¬ q = k := fun h => hkq h.symm
            have ih' := ih ks (i + 1) hl
            have hb : (k == q) = false := by simpa using hkq
            simp [Instr.findNow, hs, hb, List.findIdx?_cons, hqk, ih']
            cases ks.findIdx? (fun x => decide (x = k)) with
            | none => rfl
            | some j => simp [Nat.add_comm 1 j, Nat.add_assoc]
    simp only [Instr.findKey, Sem.run_bind, run_underlying' ht, Result.andThen_ok, hnow es ks 0 hm, Nat.zero_add]
    rfl
  bits k := by
    show Instr.sameBits (9999 + 1) _ _ = true
    simp [Ky.val, Instr.sameBits]
end TL
namespace TL
open Go
theorem Mps.mp {K : Type} [DecidableEq K] [Ky K] {γ : Cmap} {J : Col → Prop} {w : World} {v : Value} {F : K → Int} {s : Int} {k : K} (h : Mps γ J w v F s k) : Mp γ J w v F := by
  obtain ⟨r, es, clock, h1, h2, h3, h4, h5, _⟩ := h
  exact ⟨r, es, clock, h1, h2, h3, h4, h5⟩
end TL
