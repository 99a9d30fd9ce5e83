/- Plain texts of this claim, part 2. By an AI agent. -/
import Derived.Test.YtbadiajeohbpcaaTlP1
import Derived.Carry
import Derived.Deep.Slices
import Derived.Lib.SmallJoins
import Derived.RowKit
import Derived.Shelf.SlSortCmp.Whole1
/-
  TlMapL: maps of the call's own whose elements are lists of the call's own.
  By an AI agent.
-/
set_option linter.all false
namespace TL
open Go
theorem kH {P : Program} {kt e bytes : Nat} {z : Value} {f0 f1 : Field} (ht : P.underlying kt = some (.struct #[f0, f1])) (h0 : f0.type = e) (h1 : f1.type = e) (o0 : f0.offset = 0) (o1 : f1.offset = 1) (n0 : (f0.name != "_") = true) (n1 : (f1.name != "_") = true) (he : P.underlying e = some (.int .i64)) (hp : Tp P e false 1 bytes z) (hs : P.stoodInHeld kt = false) : mr P kt (Int × Int) where
 check b k w := by
   have hc : ∀ x : Int, (Instr.checkKey b 9999 e (.int .i64 x)).run P w = .ok () w := fun x => by
     rw [Instr.checkKey]
     simp only [Sem.run_bind, b6 he, Result.andThen_ok]
     rfl
   have p0 := fun (x y : Int) => fK (P := P) (w := w) (cs := #[.int .i64 x, .int .i64 y]) (o := 0) hp (v := .int .i64 x) (by rfl)
   have p1 := fun (x y : Int) => fK (P := P) (w := w) (cs := #[.int .i64 x, .int .i64 y]) (o := 1) hp (v := .int .i64 y) (by rfl)
   have n0' : f0.name ≠ "_" := by simpa using n0
   have n1' : f1.name ≠ "_" := by simpa using n1
   show (Instr.checkKey b (9999 + 1) kt _).run P w = _
   rw [Instr.checkKey]
   simp only [Ky.val, Sem.run_bind, b6 ht, Result.andThen_ok]
   rw [← Array.forIn_toList]
   simp [n0', n1', h0, h1, o0, o1, p0, p1, hc]
 find k es ks w hm := by
   have heq1 : ∀ a b : Int × Int, (Op.equal kt (Ky.val a) (Ky.val b)).run P w = .ok (decide (a = b)) w := fun a b => by
     have e1 : P.fieldsOf kt = #[f0, f1] := by simp [Program.fieldsOf, ht]
     have := run_equalIn_struct (P := P) w 9999 kt #[.int .i64 a.1, .int .i64 a.2] #[.int .i64 b.1, .int .i64 b.2] (by rw [e1]; exact ht) hs
     rw [e1, fg (bs := [decide (a.1 = b.1), decide (a.2 = b.2)]) (.cons n0 (by rw [h0]; exact hp) (by rw [o0]; rfl) (by rw [o0]; rfl) (.int (by rw [h0]; exact he)) (.cons n1 (by rw [h1]; exact hp) (by rw [o1]; rfl) (by rw [o1]; rfl) (.int (by rw [h1]; exact he)) .nil)) 9998] at this
     have hq : ([decide (a.1 = b.1), decide (a.2 = b.2)].all id) = decide (a = b) := by simp [Prod.ext_iff, Bool.decide_and]
     rw [hq] at this
     exact this
   have hfn : ∀ (es : List MapEntry) (i : Nat), es ≠ [] → (∀ e ∈ es, ∃ c, e.key = .agg c) → Instr.findNow (.struct #[f0, f1]) (Ky.val k) es i = none := by
     intro es i h0 _
     cases es with
     | nil => exact absurd rfl h0
     | cons a l => simp [Instr.findNow, Instr.sameNow]
   have hask : ∀ (es : List MapEntry) (ks : List (Int × Int)) (i : Nat), es.map (·.key) = ks.map Ky.val → (Instr.findAsking kt (Ky.val k) es i).run P w = .ok ((ks.findIdx? (· = k)).bind fun j => (es[j]?).map fun e => (i + j, e.val)) w := by
     intro es
     induction es with
     | nil =>
       intro ks i h
       have : ks = [] := by cases ks <;> simp at h ⊢
       subst this; simp [Instr.findAsking]
     | cons a l ih =>
       intro ks i h
       cases ks with
       | nil => simp at h
       | cons q ks =>
         simp only [List.map_cons, List.cons.injEq] at h
         obtain ⟨ha, hl⟩ := h
         have heq' : (Op.equal kt (Ky.val k) a.key).run P w = .ok (decide (k = q)) w := by rw [ha]; exact heq1 k q
         by_cases hkq : k = q
         · subst hkq
           simp [Instr.findAsking, heq', List.findIdx?_cons]
         · have hqk : ¬ q = k := fun h => hkq h.symm
           have ih' := ih ks (i + 1) hl
           simp [Instr.findAsking, heq', hkq, List.findIdx?_cons, hqk, ih']
           cases ks.findIdx? (fun x => decide (x = k)) with
           | none => rfl
           | some j => simp [Nat.add_comm 1 j, Nat.add_assoc]
   simp only [Instr.findKey, Sem.run_bind, b6 ht, Result.andThen_ok]
   cases es with
   | nil =>
     have : ks = [] := by cases ks <;> simp at hm ⊢
     subst this; simp [Instr.findNow]
   | cons a l =>
     rw [hfn (a :: l) 0 (by simp) (fun e he => by
       have : e.key ∈ (a :: l).map (·.key) := List.mem_map_of_mem he
       rw [hm] at this
       obtain ⟨q, _, hq⟩ := List.mem_map.1 this
       exact ⟨_, hq.symm⟩)]
     simp only [hask (a :: l) ks 0 hm, Nat.zero_add]
 bits k := by
   show Instr.sameBits (9999 + 1) _ _ = true
   simp [Ky.val, Instr.sameBits]
def zz (x : Int) : Nat := if 0 ≤ x then 2 * x.toNat else 2 * (-x).toNat + 1
theorem oU {x y : Int} (h : zz x = zz y) : x = y := by
 unfold zz at h
 split at h <;> split at h <;> omega
def fY (q : Int × Int) : Nat := (zz q.1 + zz q.2) * (zz q.1 + zz q.2) + zz q.1
theorem oF {a b c d : Nat} (h : (a + b) * (a + b) + a = (c + d) * (c + d) + c) : a = c ∧ b = d := by
 have lt : ∀ {a b c d : Nat}, a + b < c + d → (a + b) * (a + b) + a < (c + d) * (c + d) + c := fun {a b c d} hl => by
   have h1 : (a + b + 1) * (a + b + 1) ≤ (c + d) * (c + d) := Nat.mul_le_mul hl hl
   have h2 : (a + b + 1) * (a + b + 1) = (a + b) * (a + b) + 2 * (a + b) + 1 := by
     generalize a + b = s
     rw [Nat.add_mul, Nat.mul_add]; omega
   omega
 rcases Nat.lt_trichotomy (a + b) (c + d) with hl | hl | hl
 · have := lt hl; omega
 · rw [hl] at h; omega
 · have := lt hl; omega
theorem o9 {p q : Int × Int} (h : fY p = fY q) : p = q := by
 obtain ⟨h1, h2⟩ := oF h
 exact Prod.ext (oU h1) (oU h2)
structure ez (K : Type) where
 key : K
 val : Value
 born : Nat
def eG {K : Type} [Ky K] (e : ez K) : MapEntry := { key := Ky.val e.key, val := e.val, born := e.born }
def gk {K : Type} [DecidableEq K] (es : List (ez K)) (k : K) : Value := ((es.find? fun e => decide (e.key = k)).map (·.val)).getD (.slice none 0 0)
structure tJ {K : Type} (es : List (ez K)) (clock : Nat) : Prop where
 keys : (es.map (·.key)).Nodup
 born : (es.map (·.born)).Nodup
 lt : ∀ e ∈ es, e.born < clock
def Vp {K : Type} [DecidableEq K] [Ky K] (γ : aS) (J : cj → Prop) (w : World) (v : Value) (F : K → Value) : Prop :=
 ∃ (r : Nat) (es : List (ez K)) (clock : Nat), v = .map (some r) ∧ J (γ r) ∧ w.heap[r]? = some (.map (es.map eG).toArray clock) ∧ tJ es clock ∧ F = gk es
def sV {K : Type} [DecidableEq K] [Ky K] (γ : aS) (J : cj → Prop) (w : World) (v : Value) (F : K → Value) (s : Int) (k : K) : Prop :=
 ∃ (r : Nat) (es : List (ez K)) (clock : Nat), v = .map (some r) ∧ J (γ r) ∧ w.heap[r]? = some (.map (es.map eG).toArray clock) ∧ tJ es clock ∧ F = gk es ∧ ∃ (i : Nat) (e : ez K), es[i]? = some e ∧ e.key = k ∧ (e.born : Int) = s
section
variable {K : Type} [DecidableEq K] [Ky K] {γ γ' : aS} {J J' : cj → Prop} {w w' : World} {v : Value} {F : K → Value} {s : Int} {k : K}
theorem Vp.chg (h : Vp γ J w v F) (hc : aQ J' γ w γ' w') (hJ : ∀ c, J c → ¬ J' c) : Vp γ' J w' v F := by
 obtain ⟨r, es, clock, h1, h2, h3, h4⟩ := h
 exact ⟨r, es, clock, h1, by rw [hc.col r (cF h3) (hJ _ h2)]; exact h2, by rw [hc.keep r (cF h3) (hJ _ h2)]; exact h3, h4⟩
theorem sV.chg (h : sV γ J w v F s k) (hc : aQ J' γ w γ' w') (hJ : ∀ c, J c → ¬ J' c) : sV γ' J w' v F s k := by
 obtain ⟨r, es, clock, h1, h2, h3, h4⟩ := h
 exact ⟨r, es, clock, h1, by rw [hc.col r (cF h3) (hJ _ h2)]; exact h2, by rw [hc.keep r (cF h3) (hJ _ h2)]; exact h3, h4⟩
theorem Vp.bel (h : Vp γ J w v F) (hc : dh w.heap.size w w') : Vp γ J w' v F := by
 obtain ⟨r, es, clock, h1, h2, h3, h4⟩ := h
 exact ⟨r, es, clock, h1, h2, by rw [hc.block r (cF h3)]; exact h3, h4⟩
theorem jp (es : List (ez K)) (k : K) : (((es.map (·.key)).findIdx? (· = k)).bind fun i => ((es.map eG)[i]?).map fun e => (i, e.val)) = ((es.map (·.key)).findIdx? (· = k)).map fun i => (i, gk es k) := by
 cases h : (es.map (·.key)).findIdx? (· = k) with
 | none => rfl
 | some i =>
   obtain ⟨hi, hk, hlt⟩ := List.findIdx?_eq_some_iff_getElem.1 h
   have hi' : i < es.length := by simpa using hi
   have hke : es[i].key = k := by simpa using hk
   have hf : es.find? (fun e => decide (e.key = k)) = some es[i] := by
     rw [List.find?_eq_some_iff_getElem]
     refine ⟨by simpa using hke, i, hi', rfl, fun j hj => ?_⟩
     have := hlt j hj
     simpa using this
   simp [hi', eG, gk, hf]
end
section
variable {P : Program} {f : Fr} {w : World} {dst : Option Tmp} {ty : TypeId} {pos : String} {after : Array Edge} {g : Option (Nat × Bool)} {t : TypeId} {x y z : Operand} {N : Value → World → Prop}
theorem mV {K : Type} [DecidableEq K] [Ky K] {γ : aS} {J : cj → Prop} {v u : Value} {F : K → Value} {kt et size bytes : Nat} {agg : Bool} (k : K) (ht : P.underlying t = some (.map kt et)) (hk : mr P kt K) (he : Tp P et agg size bytes (.slice none 0 0)) (hx : ev f x = v) (hm : Vp γ J w v F) (hy : ev f y = u) (hu : u = Ky.val k) :
   (execOp (ev f) ⟨dst, .lookup t x y false, ty, pos, after, g⟩).run P w = .ok (.value (F k)) w := by
 obtain ⟨r, es, clock, rfl, hJ, hb, hok, rfl⟩ := hm
 obtain ⟨i, hi, _, _, hz⟩ := he.info
 subst hu
 have hf := hk.find k (es.map eG) (es.map (·.key)) w (by simp [eG, Function.comp_def])
 rw [jp] at hf
 cases h : (es.map (·.key)).findIdx? (· = k) with
 | none =>
   rw [h] at hf
   have h0 : gk es k = .slice none 0 0 := by
     have hn : es.find? (fun e => decide (e.key = k)) = none := by
       rw [List.find?_eq_none]
       intro e he
       have := List.findIdx?_eq_none_iff.1 h (e.key) (List.mem_map_of_mem he)
       simpa using this
     simp [gk, hn]
   simp [execOp, hx, hy, Instr.lookup, b6 ht, di hb, hk.check, hf, dV hi hz, h0]
 | some i =>
   rw [h] at hf
   simp [execOp, hx, hy, Instr.lookup, b6 ht, di hb, hk.check, hf]
theorem ke {K : Type} [DecidableEq K] [Ky K] {γ : aS} {J : cj → Prop} {v u : Value} {F : K → Value} {kt et size bytes : Nat} {agg : Bool} (k : K) (ht : P.underlying t = some (.map kt et)) (hk : mr P kt K) (he : Tp P et agg size bytes (.slice none 0 0)) (hx : ev f x = v) (hm : Vp γ J w v F) (hy : ev f y = u) (hu : u = Ky.val k)
   (hn : ∀ w' s, aQ J γ w γ w' → sV γ J w' v F s k → N (.tuple (List.toArray [F k, .int .i64 s])) w') : fo P ⟨dst, .mapEntry t x y, ty, pos, after, g⟩ f w N := by
 obtain ⟨r, es, clock, rfl, hJ, hb, hok, rfl⟩ := hm
 obtain ⟨q, hi, _, _, hz⟩ := he.info
 subst hu
 have hf := hk.find k (es.map eG) (es.map (·.key)) w (by simp [eG, Function.comp_def])
 rw [jp] at hf
 cases h : (es.map (·.key)).findIdx? (· = k) with
 | none =>
   rw [h] at hf
   have hnk : ∀ e ∈ es, e.key ≠ k := fun e he => by
     have := List.findIdx?_eq_none_iff.1 h (e.key) (List.mem_map_of_mem he)
     simpa using this
   have h0 : gk es k = .slice none 0 0 := by
     have hn : es.find? (fun e => decide (e.key = k)) = none := by
       rw [List.find?_eq_none]
       intro e he
       simpa using hnk e he
     simp [gk, hn]
   refine aD (v := .tuple (List.toArray [gk es k, .int .i64 (clock : Int)])) (w' := { w with heap := w.heap.setIfInBounds r (.map ((es ++ [(⟨k, .slice none 0 0, clock⟩ : ez K)]).map eG).toArray (clock + 1)) }) ?_ ?_
   rotate_left
   · refine hn _ _ (gi γ _ hJ) ⟨r, es ++ [⟨k, .slice none 0 0, clock⟩], clock + 1, rfl, hJ, fM hb, ⟨?_, ?_, ?_⟩, ?_, es.length, ⟨k, .slice none 0 0, clock⟩, by simp, rfl, rfl⟩
     rotate_left 3
     · funext k'
       simp only [gk, List.find?_append]
       by_cases hkk : k = k'
       · subst hkk
         have hn : es.find? (fun e => decide (e.key = k)) = none := by
           rw [List.find?_eq_none]
           intro e he
           simpa using hnk e he
         simp [hn]
       · cases es.find? (fun e => decide (e.key = k')) <;> simp [hkk]
     · rw [List.map_append, List.nodup_append]
       refine ⟨hok.keys, by simp, fun a ha b hb => ?_⟩
       obtain ⟨e, he, rfl⟩ := List.mem_map.1 ha
       have : b = k := by simpa using hb
       subst this; exact hnk e he
     · rw [List.map_append, List.nodup_append]
       refine ⟨hok.born, by simp, fun a ha b hb => ?_⟩
       obtain ⟨e, he, rfl⟩ := List.mem_map.1 ha
       have : b = clock := by simpa using hb
       subst this; exact Nat.ne_of_lt (hok.lt e he)
     · intro e he
       rcases List.mem_append.1 he with h | h
       · exact Nat.lt_succ_of_lt (hok.lt e h)
       · obtain rfl := List.mem_singleton.1 h; exact Nat.lt_succ_self _
   · simp [execOp, hx, hy, Instr.mapEntry, b6 ht, di hb, hk.check, hf, dV hi hz, ex hb, h0, eG, goInt]
 | some i =>
   rw [h] at hf
   obtain ⟨hil, hke, _⟩ := List.findIdx?_eq_some_iff_getElem.1 h
   have hi' : i < es.length := by simpa using hil
   have hke' : es[i].key = k := by simpa using hke
   have hsame : (es.map eG).modify i (fun e => { e with key := Ky.val k }) = es.map eG := by
     apply List.ext_getElem?
     intro j
     rw [List.getElem?_modify]
     by_cases hij : i = j
     · subst hij; simp [hi', eG, hke']
     · simp [hij]
   refine aD (v := .tuple (List.toArray [gk es k, .int .i64 ((es[i].born : Nat) : Int)])) (w' := { w with heap := w.heap.setIfInBounds r (.map (es.map eG).toArray clock) }) ?_
     (hn _ _ (gi γ _ hJ) ⟨r, es, clock, rfl, hJ, fM hb, hok, rfl, i, es[i], by simp, hke', rfl⟩)
   have hkb := hk.bits k
   have hold : (Instr.keyThatStays (Ky.val k) (Ky.val k)).run P w = .ok (Ky.val k) w := by simp [Instr.keyThatStays, hkb]
   simp [execOp, hx, hy, Instr.mapEntry, b6 ht, di hb, hk.check, hf, hi', eG, hke', hold, ex hb, goInt]
   rw [hsame]
theorem j6 {K : Type} [DecidableEq K] [Ky K] {γ : aS} {J : cj → Prop} {v m : Value} {F : K → Value} {s : Int} {k : K} (hx : ev f x = v) (hm : sV γ J w v F s k) (hy : ev f y = .int .i64 s) (hz : ev f z = m)
   (hn : ∀ w', aQ J γ w γ w' → Vp γ J w' v (fun k' => if k' = k then m else F k') → N undef w') : fo P ⟨dst, .entryStore t x y z, ty, pos, after, g⟩ f w N := by
 obtain ⟨r, es, clock, rfl, hJ, hb, hok, rfl, i, e, hie, rfl, rfl⟩ := hm
 have hi' : i < es.length := (List.getElem?_eq_some_iff.1 hie).1
 have hei : es[i] = e := (List.getElem?_eq_some_iff.1 hie).2
 have hfi : ((es.map eG).toArray.findIdx? (fun q => (q.born : Int) == (e.born : Int))) = some i := by
   rw [List.findIdx?_toArray, List.findIdx?_eq_some_iff_getElem]
   refine ⟨by simpa using hi', by simp [eG, hei], fun j hj => ?_⟩
   have hj' : j < es.length := by omega
   have hne : es[j].born ≠ e.born := fun h => by
     have h1 : (es.map (·.born))[j]'(by simpa using hj') = (es.map (·.born))[i]'(by simpa using hi') := by simp [hei, h]
     have := (List.getElem_inj hok.born).1 h1
     omega
   simp [eG]
   omega
 have hmod : (es.map eG).modify i (fun q => { q with val := m }) = (es.modify i (fun q => { q with val := m })).map eG := by
   apply List.ext_getElem?
   intro j
   rw [List.getElem?_modify, List.getElem?_map, List.getElem?_map, List.getElem?_modify]
   by_cases hij : i = j
   · subst hij; simp [hi', eG]
   · simp [hij]
 have hkeys : (es.modify i (fun q => { q with val := m })).map (·.key) = es.map (·.key) := by
   apply List.ext_getElem?
   intro j
   rw [List.getElem?_map, List.getElem?_map, List.getElem?_modify]
   by_cases hij : i = j
   · subst hij; simp [hi']
   · simp [hij]
 have hborn : (es.modify i (fun q => { q with val := m })).map (·.born) = es.map (·.born) := by
   apply List.ext_getElem?
   intro j
   rw [List.getElem?_map, List.getElem?_map, List.getElem?_modify]
   by_cases hij : i = j
   · subst hij; simp [hi']
   · simp [hij]
 refine fv (w' := { w with heap := w.heap.setIfInBounds r (.map ((es.modify i (fun q => { q with val := m })).map eG).toArray clock) }) ?_
   (hn _ (gi γ _ hJ) ⟨r, es.modify i (fun q => { q with val := m }), clock, rfl, hJ, fM hb, ⟨by rw [hkeys]; exact hok.keys, by rw [hborn]; exact hok.born, fun q hq => ?_⟩, ?_⟩)
 · simp [execOp, hx, hy, hz, Instr.entryStore, di hb, asInt, asIntOf, hfi, ex hb]
   rw [← hmod]
 · have : q.born ∈ es.map (·.born) := by rw [← hborn]; exact List.mem_map_of_mem hq
   obtain ⟨q', hq', he'⟩ := List.mem_map.1 this
   rw [← he']; exact hok.lt q' hq'
 · funext k'
   have hfind : ∀ (l : List (ez K)), (l.map (·.key)).Nodup → ∀ j (hj : j < l.length), gk l l[j].key = l[j].val := by
     intro l hl j hj
     have hf : l.find? (fun e => decide (e.key = l[j].key)) = some l[j] := by
       rw [List.find?_eq_some_iff_getElem]
       refine ⟨by simp, j, hj, rfl, fun q hq => ?_⟩
       have hne : l[q].key ≠ l[j].key := fun h => by
         have h1 : (l.map (·.key))[q]'(by simp; omega) = (l.map (·.key))[j]'(by simpa using hj) := by simp [h]
         have := (List.getElem_inj hl).1 h1
         omega
       simpa using hne
     simp [gk, hf]
   by_cases hkk : k' = e.key
   · subst hkk
     rw [if_pos rfl]
     have h1 := hfind (es.modify i (fun q => { q with val := m })) (by rw [hkeys]; exact hok.keys) i (by simpa using hi')
     simp [List.getElem_modify, hei] at h1
     exact h1.symm
   · rw [if_neg hkk]
     have hfe : (es.modify i (fun q => { q with val := m })).find? (fun e => decide (e.key = k')) = es.find? (fun e => decide (e.key = k')) := by
       have hgen : ∀ (l : List (ez K)) (i : Nat) (e : ez K), l[i]? = some e → k' ≠ e.key → (l.modify i (fun q => { q with val := m })).find? (fun e => decide (e.key = k')) = l.find? (fun e => decide (e.key = k')) := by
         intro l
         induction l with
         | nil => intro i e h; simp at h
         | cons a l ih =>
           intro i e h hne
           cases i with
           | zero =>
             obtain rfl : a = e := by simpa using h
             have : decide (a.key = k') = false := by simpa using fun h => hne h.symm
             simp [List.find?_cons, this]
           | succ i =>
             have h' : l[i]? = some e := by simpa using h
             simp only [List.modify_succ_cons, List.find?_cons, ih i e h' hne]
       exact hgen es i e hie hkk
     simp [gk, hfe]
end
def Ml {α : Type} [Rp α] (γ : aS) (i : Nat) (w : World) (v : Value) (L : (Int × Int) → List α) : Prop :=
  ∃ F : (Int × Int) → Value, Vp γ (row i 0) w v F ∧ ∀ q, Ow γ (row i (fY q + 1)) (row i (fY q + 1)) w (F q) (L q)
def rD {α : Type} [Rp α] (γ : aS) (i : Nat) (w : World) (v : Value) (L : (Int × Int) → List α) (s : Int) (k : Int × Int) : Prop :=
  ∃ F : (Int × Int) → Value, sV γ (row i 0) w v F s k ∧ ∀ q, q ≠ k → Ow γ (row i (fY q + 1)) (row i (fY q + 1)) w (F q) (L q)
section
variable {α : Type} [Rp α] {γ γ' : aS} {i : Nat} {w w' : World} {v : Value} {L : (Int × Int) → List α} {s : Int} {k : Int × Int}
theorem Ml.chg {J : cj → Prop} (h : Ml γ i w v L) (hc : aQ J γ w γ' w') (hJ : ∀ c, is i c → ¬ J c) : Ml γ' i w' v L := by
 obtain ⟨F, h1, h2⟩ := h
 exact ⟨F, h1.chg hc fun c h => hJ c (cU c h), fun q => (h2 q).chg hc (fun c h => hJ c (cU c h)) (fun c h => hJ c (cU c h))⟩
theorem rD.chg {J : cj → Prop} (h : rD γ i w v L s k) (hc : aQ J γ w γ' w') (hJ : ∀ c, is i c → ¬ J c) : rD γ' i w' v L s k := by
 obtain ⟨F, h1, h2⟩ := h
 exact ⟨F, h1.chg hc fun c h => hJ c (cU c h), fun q hq => (h2 q hq).chg hc (fun c h => hJ c (cU c h)) (fun c h => hJ c (cU c h))⟩
theorem rD.rowchg (h : rD γ i w v L s k) (hc : aQ (row i (fY k + 1)) γ w γ' w') : rD γ' i w' v L s k := by
 obtain ⟨F, h1, h2⟩ := h
 refine ⟨F, h1.chg hc (cD (by omega)), fun q hq => ?_⟩
 have : fY q + 1 ≠ fY k + 1 := fun e => hq (o9 (by omega))
 exact (h2 q hq).chg hc (cD this) (cD this)
theorem sC [Fl α] (h : Ml γ i w v L) (k : Int × Int) : ∃ F : (Int × Int) → Value, Vp γ (row i 0) w v F ∧ Sl γ (is i) w (F k) (L k) := by
  obtain ⟨F, h1, h2⟩ := h
  exact ⟨F, h1, (h2 k).row_sl⟩
variable {P : Program} {f : Fr} {dst : Option Tmp} {ty : TypeId} {pos : String} {after : Array Edge} {g : Option (Nat × Bool)} {t : TypeId} {x y z : Operand} {N : Value → World → Prop}
theorem lz (γ : aS) (i : Nat) (hk : ∀ γ' w' v, aQ no γ w γ' w' → Ml (α := α) γ' i w' v (fun _ => []) → N v w') : fo P ⟨dst, .makeMap t none, ty, pos, after, g⟩ f w N := by
 refine aD (v := .map (some w.heap.size)) (w' := w.alloc (.map #[] 0)) (by simp [execOp, Instr.makeMap]) (hk (fX γ w.heap.size (i, 0)) _ _ (f9 γ w _ (i, 0)) ⟨fun _ => .slice none 0 0, ⟨w.heap.size, [], 0, rfl, by simp [fX, row], by rw [dd]; rfl, ⟨by simp, by simp, by simp⟩, ?_⟩, fun q => Ow.nil⟩)
 funext k; simp [gk]
theorem kJ {u : Value} {kt et size bytes : Nat} {agg : Bool} (k : Int × Int) (ht : P.underlying t = some (.map kt et)) (hk : mr P kt (Int × Int)) (he : Tp P et agg size bytes (.slice none 0 0)) (hx : ev f x = v) (hm : Ml γ i w v L) (hy : ev f y = u) (hu : u = Ky.val k)
   (hn : ∀ w' s q, aQ (row i 0) γ w γ w' → rD γ i w' v L s k → Ow γ (row i (fY k + 1)) (row i (fY k + 1)) w' q (L k) → N (.tuple (List.toArray [q, .int .i64 s])) w') : fo P ⟨dst, .mapEntry t x y, ty, pos, after, g⟩ f w N := by
 obtain ⟨F, h1, h2⟩ := hm
 refine ke k ht hk he hx h1 hy hu fun w' s hc hv => hn w' s (F k) hc ⟨F, hv, fun q _ => (h2 q).chg hc (cD (by omega)) (cD (by omega))⟩ ((h2 k).chg hc (cD (by omega)) (cD (by omega)))
theorem j7 {m : Value} {l : List α} (hx : ev f x = v) (hm : rD γ i w v L s k) (hy : ev f y = .int .i64 s) (hz : ev f z = m) (ho : Ow γ (row i (fY k + 1)) (row i (fY k + 1)) w m l)
   (hn : ∀ w', aQ (row i 0) γ w γ w' → Ml γ i w' v (fun q => if q = k then l else L q) → N undef w') : fo P ⟨dst, .entryStore t x y z, ty, pos, after, g⟩ f w N := by
 obtain ⟨F, h1, h2⟩ := hm
 refine j6 hx h1 hy hz fun w' hc hv => hn w' hc ⟨_, hv, fun q => ?_⟩
 by_cases e : q = k
 · subst e
   simp only [if_true]
   exact ho.chg hc (cD (by omega)) (cD (by omega))
 · simp only [if_neg e]
   exact (h2 q e).chg hc (cD (by omega)) (cD (by omega))
end
end TL
namespace TL
open Go
section
variable {α : Type} [Rp α] {γ γ' : aS} {w w' : World} {v : Value} {L : List Nat} {j k : Nat} {F : (Int × Int) → List α}
theorem Ml.ca (h : Ml γ j w v F) (hc : aQ (bE L) γ w γ' w') (hj : L.contains j = false := by exact rfl) : Ml γ' j w' v F := h.chg hc (aL hj)
theorem Ml.ce (h : Ml γ j w v F) (hc : aQ (is k) γ w γ' w') (hj : Nat.beq j k = false := by exact rfl) : Ml γ' j w' v F := h.chg hc (eo hj)
theorem Ml.cn (h : Ml γ j w v F) (hc : aQ no γ w γ' w') : Ml γ' j w' v F := h.chg hc (fB _)
end
end TL
/-
  TlJudge2: what is told of a plot; its rotation.
  By an AI agent.
-/
set_option linter.all false
namespace TL
def aF (p : dJ) : List Pt := p.1 ++ p.2.flatten
theorem nG {p : dJ} {l : List Pt} {k : Nat} (h : l = p.1 ++ (p.2.take k).flatten ∧ (l.length : Int) ≤ 1024 + 4096 * (k : Int)) (hk : (k : Int) < p.2.length) (hl : (gI p.2 (k : Int)).length ≤ 4096) : l ++ gI p.2 (k : Int) = p.1 ++ (p.2.take (k + 1)).flatten ∧ ((l ++ gI p.2 (k : Int)).length : Int) ≤ 1024 + 4096 * ((k + 1 : Nat) : Int) := by
 refine ⟨by rw [bP hk, h.1]; simp, ?_⟩
 rw [List.length_append]; have := h.2; omega
theorem pJ {p : dJ} {l : List Pt} {k : Nat} (h : l = p.1 ++ (p.2.take k).flatten) (hk : ¬ (k : Int) < p.2.length) : l = aF p := by
 rw [List.take_of_length_le (by omega)] at h; exact h
def fx (p : dJ) : Nat → Int
 | 0 => 0
 | k + 1 => fx p k + (((gI p.2 (k : Int)).length : Int) - 2)
theorem kB {p : dJ} (h : ∀ e : Int, 0 ≤ e → e < p.2.length → 2 ≤ ((gI p.2 e).length : Int) ∧ cW (gI p.2 e)) : ∀ k : Nat, (k : Int) ≤ p.2.length → 0 ≤ fx p k ∧ fx p k ≤ 4096 * (k : Int)
 | 0, _ => by simp [fx]
 | k + 1, hk => by
   have h1 := kB h k (by omega)
   obtain ⟨h2, h3, _⟩ := h (k : Int) (by omega) (by omega)
   unfold fx; omega
def fj (f : Nat → Bool) : Nat → Bool
 | 0 => true
 | k + 1 => fj f k && f k
def lC (l : List Pt) (j : Nat) : Bool := decide ((gI l (j : Int)).1 = (gI l ((j : Int) + 1)).1 ∨ (gI l (j : Int)).2 = (gI l ((j : Int) + 1)).2)
def tF (p : dJ) (e : Nat) : Bool := fj (lC (gI p.2 (e : Int))) ((gI p.2 (e : Int)).length - 1)
def jl (p : dJ) (k : Nat) : Bool := fj (tF p) k
section
variable {p : dJ} {l : List Pt} {a b : Bool} {i k : Nat}
theorem qQ (h : a = jl p k) : 1 ≤ (1 : Nat) ∧ a = (jl p k && fj (lC l) (1 - 1)) := ⟨Nat.le_refl _, by rw [h]; simp [fj]⟩
theorem tE (h : 1 ≤ i ∧ a = (jl p k && fj (lC l) (i - 1))) (ha : a = true) (hx : (gI l ((i : Int) - 1)).1 = (gI l (i : Int)).1) : 1 ≤ i + 1 ∧ true = (jl p k && fj (lC l) (i + 1 - 1)) := by
 obtain ⟨h1, h2⟩ := h
 refine ⟨by omega, ?_⟩
 obtain ⟨j, rfl⟩ : ∃ j, i = j + 1 := ⟨i - 1, by omega⟩
 have e : (((j + 1 : Nat) : Int) - 1) = (j : Int) := by omega
 have e2 : ((j + 1 : Nat) : Int) = (j : Int) + 1 := by omega
 rw [e, e2] at hx
 rw [Nat.add_sub_cancel, fj, ← Bool.and_assoc]
 rw [Nat.add_sub_cancel] at h2
 rw [← h2, ha]
 unfold lC
 rw [decide_eq_true (.inl hx)]; rfl
theorem tC (h : 1 ≤ i ∧ a = (jl p k && fj (lC l) (i - 1))) (ha : a = true) (hx : ¬ (gI l ((i : Int) - 1)).1 = (gI l (i : Int)).1) : 1 ≤ i + 1 ∧ decide ((gI l ((i : Int) - 1)).2 = (gI l (i : Int)).2) = (jl p k && fj (lC l) (i + 1 - 1)) := by
 obtain ⟨h1, h2⟩ := h
 refine ⟨by omega, ?_⟩
 obtain ⟨j, rfl⟩ : ∃ j, i = j + 1 := ⟨i - 1, by omega⟩
 have e : (((j + 1 : Nat) : Int) - 1) = (j : Int) := by omega
 have e2 : ((j + 1 : Nat) : Int) = (j : Int) + 1 := by omega
 rw [e, e2] at hx ⊢
 rw [Nat.add_sub_cancel, fj, ← Bool.and_assoc]
 rw [Nat.add_sub_cancel] at h2
 rw [← h2, ha]
 unfold lC
 rw [Bool.true_and, decide_eq_decide]
 exact ⟨.inr, fun h => h.resolve_left hx⟩
theorem tB (h : 1 ≤ i ∧ a = (jl p k && fj (lC l) (i - 1))) (ha : ¬ a = true) : 1 ≤ i + 1 ∧ false = (jl p k && fj (lC l) (i + 1 - 1)) := by
 obtain ⟨h1, h2⟩ := h
 refine ⟨by omega, ?_⟩
 obtain ⟨j, rfl⟩ : ∃ j, i = j + 1 := ⟨i - 1, by omega⟩
 rw [Nat.add_sub_cancel, fj, ← Bool.and_assoc]
 rw [Nat.add_sub_cancel] at h2
 rw [← h2, Bool.eq_false_iff.2 ha]; rfl
theorem sA (hb : b = jl p k) (h : 1 ≤ i ∧ a = (jl p k && fj (lC (gI p.2 (k : Int))) (i - 1))) (hi : ¬ (i : Int) < (gI p.2 (k : Int)).length) (hi2 : (i : Int) ≤ (gI p.2 (k : Int)).length) : a = jl p (k + 1) := by
 have : i = (gI p.2 (k : Int)).length := by omega
 rw [h.2, this]; rfl
end
def mA (p : dJ) : Int × Int :=
 if 0 < ((aF p).length : Int) then ((nv (aF p) (aF p).length).1 - (nA (aF p) (aF p).length).1, (nv (aF p) (aF p).length).2 - (nA (aF p) (aF p).length).2) else (0, 0)
def jm (p : dJ) : Int × Int × Int × Bool × Bool := (fx p p.2.length, (mA p).1, (mA p).2, decide (fx p p.2.length = 0), jl p p.2.length)
def bl (g : d5) (p : dJ) : (Int × Int × Int × Bool × Bool) × Int :=
 if c7 g then if c4 g p = [] then (jm p, 0) else ((0, 0, 0, false, false), 24) else ((0, 0, 0, false, false), 1)
section
variable {g : d5} {p : dJ}
theorem s9 (h : rZ g p) : ∀ q ∈ aF p, cq q := by
 intro q hq
 unfold aF at hq
 rcases List.mem_append.1 hq with hq | hq
 · obtain ⟨i, hi, rfl⟩ := List.mem_iff_getElem.1 hq
   have := h.pt (i : Int) (by omega) (by omega)
   rwa [show gI p.1 (i : Int) = p.1[i] by simp [gI, hi]] at this
 · obtain ⟨l, hl, hq⟩ := List.mem_flatten.1 hq
   obtain ⟨i, hi, rfl⟩ := List.mem_iff_getElem.1 hl
   have := (h.ln (i : Int) (by omega) (by omega)).2.2
   rw [show gI p.2 (i : Int) = p.2[i] by simp [gI, hi]] at this
   exact this q hq
theorem rP {l : List Pt} (h : ∀ q ∈ l, cq q) (h0 : 0 < l.length) : ∀ k : Nat, k ≤ l.length → cq (nA l k) ∧ cq (nv l k)
 | 0, _ => ⟨h _ (bg (by omega) (by omega)), h _ (bg (by omega) (by omega))⟩
 | k + 1, hk => by
   obtain ⟨h1, h2⟩ := rP h h0 k (by omega)
   have h3 := h _ (bg (xs := l) (i := (k : Int)) (by omega) (by omega))
   unfold nA nv
   unfold cq at *
   simp only
   omega
theorem oC (h : ¬ c7 g) : bl g p = ((0, 0, 0, false, false), 1) := by unfold bl; rw [if_neg h]
theorem mG (h : c7 g) {F : List gB} (hF : F = c4 g p) (h1 : 0 < (F.length : Int)) : bl g p = ((0, 0, 0, false, false), 24) := by
 unfold bl
 rw [if_pos h, if_neg]
 intro e
 rw [hF, e] at h1
 simp at h1
theorem jT (h : c7 g) (h1 : c4 g p = []) : bl g p = (jm p, 0) := by unfold bl; rw [if_pos h, if_pos h1]
theorem rV {n : Int} {a : Bool} {k q : Nat} {x1 x2 y1 y2 : Int} (hn : n = fx p k) (ha : a = jl p k) (hk : k = p.2.length) (h0 : 0 < ((aF p).length : Int)) (hb : (x1 = (nA (aF p) q).1 ∧ x2 = (nA (aF p) q).2) ∧ y1 = (nv (aF p) q).1 ∧ y2 = (nv (aF p) q).2) (hq : q = (aF p).length) :
   (n, y1 - x1, y2 - x2, decide (n = 0), a) = jm p := by
 obtain ⟨⟨e1, e2⟩, e3, e4⟩ := hb
 subst hk hq
 unfold jm mA
 rw [if_pos h0, hn, ha, e1, e2, e3, e4]
theorem s3 {n : Int} {a : Bool} {k : Nat} (hn : n = fx p k) (ha : a = jl p k) (hk : k = p.2.length) (h0 : ¬ 0 < ((aF p).length : Int)) : (n, 0, 0, decide (n = 0), a) = jm p := by
 subst hk
 unfold jm mA
 rw [if_neg h0, hn, ha]
end
def e7 (p : dJ) (l : List Int) : List Pt := l.map (ei p)
noncomputable def tuL (p : dJ) (o : Pt) (l : List Int) : List Int := (arL o (e7 p l)).map (gI l)
def lA (p : dJ) (o : Pt) (l : List Int) : Prop := ∃ j : Nat, j < l.length ∧ 0 < j ∧ dM (aV (gI (e7 p l) (gI (arL o (e7 p l)) ((j : Int) - 1))) o) (aV (gI (e7 p l) (gI (arL o (e7 p l)) (j : Int))) o)
noncomputable instance (p : dJ) (o : Pt) (l : List Int) : Decidable (lA p o l) := by unfold lA; infer_instance
noncomputable def tuS (g : d5) (p : dJ) : dQ := (List.range g.1.toNat).map fun (v : Nat) => tuL p (gI p.1 (v : Int)) (d7 g (v : Int))
def kx (g : d5) (p : dJ) : Prop := ∃ v : Nat, v < g.1.toNat ∧ lA p (gI p.1 (v : Int)) (d7 g (v : Int))
noncomputable instance (g : d5) (p : dJ) : Decidable (kx g p) := by unfold kx; infer_instance
noncomputable def turnsR (g : d5) (p : dJ) : dQ × Int :=
 if c7 g then if bY g p = [] then if kx g p then ([], 24) else (ew (tuS g p), 0) else ([], 24) else ([], 1)
end TL
/-
  TlSort: the library's sort by a function, met in this frame.
  By an AI agent.
-/
set_option linter.all false
namespace TL
open Go Go.Proofs Go.Shelf Go.Sort Go.Lib
theorem dh.grown {w w' : World} (h : dh w.heap.size w w') : ∃ q os, w' = grow (w.drewN q) os := by
 obtain ⟨h1, h2, h3, h4, h5, h6⟩ := h
 refine ⟨w'.drawn - w.drawn, w'.heap.extract w.heap.size w'.heap.size, ?_⟩
 have hh : w'.heap = w.heap ++ w'.heap.extract w.heap.size w'.heap.size := by
   apply Array.ext_getElem?
   intro k
   rw [Array.getElem?_append]
   by_cases hk : k < w.heap.size
   · rw [if_pos hk]; exact h5 k hk
   · rw [if_neg hk, Array.getElem?_extract]
     split
     · rw [show w.heap.size + (k - w.heap.size) = k by omega]
     · exact Array.getElem?_eq_none (by omega)
 have hd : w'.drawn = w.drawn + (w'.drawn - w.drawn) := by omega
 cases w with
 | mk a b c d e =>
   cases w' with
   | mk a' b' c' d' e' =>
     simp only [grow, World.drewN] at *
     subst h1 h2 h3
     simp only [World.mk.injEq, true_and, and_true]
     exact ⟨hh, hd⟩
section
variable {α : Type} [Inhabited α] {γ : aS} {w : World} {j b : Nat}
theorem ko (enc : α → Value) (hb : is j (γ b)) (m : Nat) (d : Array α) (os : Array Obj) : aQ (is j) γ w γ (sortWorld enc w b 0 m d os) := by
 refine ⟨rfl, rfl, rfl, ?_, fun _ _ _ => rfl, fun k hk hn => ?_, ?_⟩
 · unfold sortWorld; rw [size_grow, Go.Sort.size_putRow]; simp only [heap_ahead]; omega
 · unfold sortWorld
   rw [heap_grow_old _ _ (by rw [Go.Sort.size_putRow]; exact hk)]
   have : b ≠ k := fun e => hn (by subst e; exact hb)
   simp [putRow, mapBlock, Array.getElem?_modify, this]
 · show w.drawn ≤ w.drawn + m
   omega
theorem mP (enc : α → Value) {c : Array Value} {e : TypeId} {fr : Nat × Nat} (h : w.heap[b]? = some (.cells c e fr)) (m : Nat) (d : Array α) (os : Array Obj) : (sortWorld enc w b 0 m d os).heap[b]? = some (.cells (putCells enc 0 d c) e fr) := by
 unfold sortWorld
 rw [heap_grow_old _ _ (by rw [Go.Sort.size_putRow]; exact cF h)]
 simp [putRow, mapBlock, Array.getElem?_modify, h, onCells]
theorem kO (enc : α → Value) {d : Array α} {c : Array Value} {k : Nat} (h : k < d.size) (hc : k < c.size) : (putCells enc 0 d c)[k]? = some (enc d[k]!) := by
 simp [putCells, h, hc]
end
theorem n7 {P : Program} {ρ : Ren} (L : SlLaysF.n6 P ρ) {α : Type} [Inhabited α] (fe : α → Int) (cf : α → α → Int) (hO : SWO (ltOf cf)) (g : Nat) (cb : Array Value) (eg : ∀ args w, (callFunc g args).run P w = .ok (.enter g args) w)
   {γ : aS} {w : World} {j : Nat} {v : Value} {ds : List α} (hne : ds ≠ []) (hl : Ow γ (is j) (is j) w v (ds.map fe))
   (hc : ∀ W, aQ (is j) γ w γ W → ∀ x y, Calls P g (#[.int .i64 (fe x), .int .i64 (fe y)] ++ cb) W fun e w' => e = .returned (.int .i64 (cf x y)) ∧ dh W.heap.size W w') :
   Calls P (ρ.f 6) #[v, .func (.func g) #[] cb] w fun e w' => e = .returned (.tuple #[]) ∧ ∃ ds' : List α, ds'.Perm ds ∧ ds'.Pairwise (fun x y => ltOf cf y x = false) ∧ aQ (is j) γ w γ w' ∧ Ow γ (is j) (is j) w' v (ds'.map fe) := by
 rcases hl with ⟨_, h⟩ | ⟨b, cap, c, e, rfl, hcap, hm, hJ, hb, hcs, hx⟩
 · simp at h; exact absurd h hne
 · simp only [List.length_map] at hcap
   have hsz1 : Rp.sz Int = 1 := rfl
   rw [hsz1, Nat.mul_one] at hcs
   have hbs := cF hb
   have hlen : (ds.map fe).length = ds.toArray.size := by simp
   have hget : ∀ i, i < ds.length → c[i]? = some (Value.int .i64 (fe ds.toArray[i]!)) := fun i hi => by
     obtain ⟨cs, h1, h2⟩ := hx i (fe ds[i]) (by simp [hi])
     have h2 : cs = [Value.int .i64 (fe ds[i])] := h2
     have h1 := h1 0 (by decide)
     rw [h2] at h1
     simp only [hsz1, Nat.mul_one, Nat.add_zero] at h1
     rw [h1]
     simp [hi]
   have hH : Holds (fun x : α => Value.int .i64 (fe x)) w b 0 ds.toArray := fun i hi => by
     have hi : i < ds.length := by simpa using hi
     constructor
     · have := hget i hi
       simp only [World.cell?, hb, Nat.zero_add]
       exact this
     · simp [World.frozen?, hb]
   have hcmp : CmpLays1 P g cb (fun x : α => Value.int .i64 (fe x)) cf b 0 ds.toArray.size w := fun m os dk hs x y =>
     (hc _ (ko _ hJ m dk os) x y).mono fun e w' ⟨h1, h2⟩ => ⟨h1, h2.grown⟩
   have key := Any.slices_SortFunc L (fun x : α => Value.int .i64 (fe x)) (fun _ => rfl) cf hO g cb b 0 cap ds.toArray w eg hcmp hH hbs (by simp; omega)
   rw [hlen]
   refine key.mono fun e' w' ⟨h1, d', n, os, hp, hs, hw⟩ => ⟨h1, d'.toList, ?_, ?_, ?_, ?_⟩
   · obtain ⟨q1, _, q3⟩ := hp
     rw [← q1] at q3
     have e1 : (d'.extract 0 d'.size) = d' := by simp
     rw [e1, q1] at q3
     have e2 : (ds.toArray.extract 0 ds.toArray.size) = ds.toArray := Array.extract_size
     rw [e2] at q3
     simpa using q3
   · rw [List.pairwise_iff_getElem]
     intro i k hi hk hik
     have hi : i < d'.size := by simpa using hi
     have hk : k < d'.size := by simpa using hk
     have := hs i k (Nat.zero_le _) hik (by rw [← hp.1]; exact hk)
     rw [getElem!_pos d' k hk, getElem!_pos d' i hi] at this
     simpa using this
   · rw [hw]; exact ko _ hJ n d' os
   · have hs' : d'.size = ds.length := by rw [hp.1]; simp
     have hd : d'.toList.length = ds.length := by simpa using hs'
     refine .inr ⟨b, cap, _, e, by rw [List.length_map, hd]; simp, by rw [List.length_map, hd]; exact hcap, hm, hJ, by rw [hw]; exact mP _ hb n d' os, by rw [hsz1, Nat.mul_one]; simpa [putCells] using hcs, fun i x hi => ?_⟩
     have hi' : i < d'.size := by
       have := (List.getElem?_eq_some_iff.1 hi).1
       simpa using this
     refine ⟨[Value.int .i64 x], fun q hq => ?_, rfl⟩
     have : q = 0 := by have : q < 1 := hq; omega
     subst this
     rw [hsz1, Nat.mul_one, Nat.add_zero, kO _ hi' (by rw [hcs]; omega), getElem!_pos d' _ hi']
     simp [hi'] at hi
     simp [hi]
end TL
/-
  TlJudge3: a plot's rotation: the half-edges of each node, turned.
  By an AI agent.
-/
set_option linter.all false
namespace TL
theorem mD {α β : Type} [Inhabited α] [Inhabited β] {f : α → β} {l : List α} {i : Int} (h0 : 0 ≤ i) (h1 : i < l.length) : gI (l.map f) i = f (gI l i) := by
 have h : i.toNat < l.length := by omega
 unfold gI
 rw [List.getD_eq_getElem?_getD, List.getD_eq_getElem?_getD, List.getElem?_map, List.getElem?_eq_getElem h]; rfl
theorem l9 {α : Type} [Inhabited α] {l : List α} {x : α} (h : x ∈ l) : ∃ j : Nat, j < l.length ∧ gI l (j : Int) = x := by
 obtain ⟨j, hj, rfl⟩ := List.mem_iff_getElem.1 h
 exact ⟨j, hj, by simp [gI, hj]⟩
section
variable {g : d5} {p : dJ}
theorem mB {v h : Int} : h ∈ d7 g v ↔ (0 ≤ h ∧ h < 2 * (g.2.length : Int)) ∧ dG g h = v := by
 unfold d7 gc
 rw [List.mem_filter, List.mem_map]
 constructor
 · rintro ⟨⟨i, hi, rfl⟩, hf⟩
   have := List.mem_range.1 hi
   exact ⟨by omega, of_decide_eq_true hf⟩
 · rintro ⟨h1, h2⟩
   exact ⟨⟨h.toNat, List.mem_range.2 (by omega), by omega⟩, decide_eq_true h2⟩
theorem nh {v : Int} : (d7 g v).Nodup := by
 unfold d7 gc
 refine List.Nodup.sublist List.filter_sublist ?_
 unfold List.Nodup
 rw [List.pairwise_map]
 refine List.Pairwise.imp ?_ List.nodup_range
 intro a b h e
 exact h (by omega)
theorem m8 {v : Int} : ((d7 g v).length : Int) ≤ 2 * (g.2.length : Int) := by
 have := jf g v g.2.length
 unfold d7; omega
theorem nl {r : dQ} (hm : c7 g) (hl : (r.length : Int) = g.1) (hrow : ∀ v : Nat, v < r.length → (gI r (v : Int)).Nodup ∧ ∀ h, h ∈ gI r (v : Int) ↔ (0 ≤ h ∧ h < 2 * (g.2.length : Int)) ∧ dG g h = v) : hZ g r := by
 have hn : r.flatten.Nodup := by
   unfold List.Nodup
   rw [List.pairwise_flatten]
   refine ⟨fun l hl => ?_, ?_⟩
   · obtain ⟨v, hv, rfl⟩ := l9 hl
     exact (hrow v hv).1
   · rw [List.pairwise_iff_getElem]
     intro i j hi hj hij x hx y hy e
     subst e
     have e1 : gI r (i : Int) = r[i] := by simp [gI, hi]
     have e2 : gI r (j : Int) = r[j] := by simp [gI, hj]
     have h1 := ((hrow i hi).2 x).1 (by rw [e1]; exact hx)
     have h2 := ((hrow j hj).2 x).1 (by rw [e2]; exact hy)
     have := h1.2.symm.trans h2.2
     omega
 refine ⟨hl, fun v hv h hh => ((hrow v hv).2 h).1 hh, hn, ?_⟩
 have hp : r.flatten.Perm (g5 (2 * g.2.length)) := by
   rw [List.perm_ext_iff_of_nodup hn (l4 _)]
   intro h
   rw [List.mem_flatten, kW]
   constructor
   · rintro ⟨l, hl, hh⟩
     obtain ⟨v, hv, rfl⟩ := l9 hl
     have := (((hrow v hv).2 h).1 hh).1
     omega
   · intro hh
     have hf := nD hm (h := h) (by omega) (by omega)
     have hv : (dG g h).toNat < r.length := by omega
     refine ⟨gI r (((dG g h).toNat : Nat) : Int), bg (by omega) (by omega), ((hrow _ hv).2 h).2 ⟨by omega, by omega⟩⟩
 have := hp.length_eq
 rw [nO] at this
 omega
structure tu (g : d5) (p : dJ) : Prop where
  sh : rZ g p
  pl : ∀ v w : Nat, v < w → w < p.1.length → gI p.1 (v : Int) ≠ gI p.1 (w : Int)
  en : ∀ e : Int, 0 ≤ e → e < p.2.length → iN g p e
  si : ∀ e : Int, 0 ≤ e → e < p.2.length → gM (gI p.2 e)
  nd : ∀ e v : Nat, e < p.2.length → v < p.1.length → (v : Int) ≠ (gI g.2 (e : Int)).1 → (v : Int) ≠ (gI g.2 (e : Int)).2 → ¬ e8 (gI p.2 (e : Int)) (gI p.1 (v : Int))
  ap : ∀ e f : Nat, e < f → f < p.2.length → fI (gI p.2 (e : Int)) (gI p.2 (f : Int)) (fN g p (e : Int) (f : Int))
theorem l8 : bY g p = [] ↔ tu g p := by
 unfold bY
 by_cases hs : c4 g p = []
 · rw [if_pos hs]
   have hsh := fO.1 hs
   rw [List.append_eq_nil_iff, List.append_eq_nil_iff]
   constructor
   · rintro ⟨⟨h1, h2⟩, h3⟩
     rw [if_pos h2, List.append_eq_nil_iff] at h3
     unfold dq at h2
     rw [List.append_eq_nil_iff, c9, c9] at h2
     refine ⟨hsh, fun v w hvw hw e => ?_, fun e h0 h4 => ?_, fun e h0 h4 => ?_, fun e v he hv hn1 hn2 ho => ?_, fun e f hef hf => ?_⟩
     · have k1 := c9.1 h1 v (by omega)
       have k2 := c9.1 k1 w hw
       exact fh.1 k2 ⟨hvw, e⟩
     · have k1 := h2.1 e.toNat (by omega)
       have k2 := fh.1 k1
       rw [Int.toNat_of_nonneg h0] at k2
       exact Classical.not_not.1 k2
     · have k1 := h2.2 e.toNat (by omega)
       have k2 := fh.1 k1
       rw [Int.toNat_of_nonneg h0] at k2
       exact Classical.not_not.1 k2
     · have k1 := c9.1 h3.1 e he
       have k2 := c9.1 k1 v hv
       exact fh.1 k2 ⟨⟨hn1, hn2⟩, ho⟩
     · have k1 := c9.1 h3.2 e (by omega)
       have k2 := c9.1 k1 f hf
       exact Classical.not_not.1 fun c => fh.1 k2 ⟨hef, c⟩
   · intro h
     have hL : dq g p = [] := by
       unfold dq
       rw [List.append_eq_nil_iff]
       exact ⟨dI fun e he => cX (Classical.not_not.2 (h.en _ (by omega) (by omega))), dI fun e he => cX (Classical.not_not.2 (h.si _ (by omega) (by omega)))⟩
     refine ⟨⟨dI fun v hv => dI fun w hw => cX fun c => h.pl v w c.1 hw c.2, hL⟩, ?_⟩
     rw [if_pos hL, List.append_eq_nil_iff]
     exact ⟨dI fun e he => dI fun v hv => cX fun c => h.nd e v he hv c.1.1 c.1.2 c.2, dI fun e he => dI fun f hf => cX fun c => c.2 (h.ap e f c.1 hf)⟩
 · rw [if_neg hs]
   exact ⟨fun h => absurd h hs, fun h => absurd (fO.2 h.sh) hs⟩
theorem jG (hm : c7 g) (hc : tu g p) {v h : Int} (hh : h ∈ d7 g v) : ((0 ≤ h ∧ h < 2 * (p.2.length : Int)) ∧ 2 ≤ ((gI p.2 (h / 2)).length : Int)) ∧ cq (ei p h) ∧ ei p h ≠ gI p.1 v := by
  obtain ⟨⟨h0, h1⟩, hf⟩ := mB.1 hh
  have hs := hc.sh
  have hm2 := hs.m
  have e0 : 0 ≤ h / 2 := by omega
  have e1 : h / 2 < p.2.length := by omega
  obtain ⟨l1, l2, l3⟩ := hs.ln _ e0 e1
  have hen := hc.en _ e0 e1
  have hsi := hc.si _ e0 e1
  refine ⟨⟨⟨h0, by omega⟩, l1⟩, ?_⟩
  unfold ei
  unfold iN at hen
  unfold dG pI at hf
  rcases (by omega : h % 2 = 0 ∨ h % 2 = 1) with c | c
  · rw [if_pos c]
    rw [c] at hf
    refine ⟨l3 _ (bg (by omega) (by omega)), fun e => ?_⟩
    have k1 := (hsi 0 (by omega) (by omega)).1
    have hf' : (gI g.2 (h / 2)).1 = v := by simpa using hf
    rw [← hf', ← hen.1] at e
    exact k1 e.symm
  · rw [if_neg (by omega)]
    rw [c] at hf
    refine ⟨l3 _ (bg (by omega) (by omega)), fun e => ?_⟩
    have k1 := (hsi ((gI p.2 (h / 2)).length - 2) (by omega) (by omega)).1
    have hf' : (gI g.2 (h / 2)).2 = v := by simpa using hf
    rw [← hf', ← hen.2] at e
    rw [show (((gI p.2 (h / 2)).length - 2 : Nat) : Int) = ((gI p.2 (h / 2)).length : Int) - 2 by omega, show ((gI p.2 (h / 2)).length : Int) - 2 + 1 = ((gI p.2 (h / 2)).length : Int) - 1 by omega] at k1
    exact k1 e
theorem l5 (hm : c7 g) (hc : tu g p) (hfew : (g.2.length : Int) ≤ 2000) (v : Int) : cW (e7 p (d7 g v)) ∧ hU (gI p.1 v) (e7 p (d7 g v)) := by
 have hl := m8 (g := g) (v := v)
 refine ⟨⟨by unfold e7; rw [List.length_map]; omega, fun q hq => ?_⟩, fun i hi => ?_⟩
 · obtain ⟨h, hh, rfl⟩ := List.mem_map.1 hq
   exact (jG hm hc hh).2.1
 · unfold e7 at hi ⊢
   rw [List.length_map] at hi
   rw [mD (by omega) (by omega)]
   exact (jG hm hc (bg (by omega) (by omega))).2.2
theorem qO {o : Pt} {ps : List Pt} (hz : hU o ps) : (arL o ps).Perm (eE ps.length) := by
 obtain ⟨h1, h2⟩ := ia hz
 have n1 : (arL o ps).Nodup := List.Pairwise.imp (fun {a b} h e => by subst e; exact ff _ _ h) h1
 have n2 : (eE ps.length).Nodup := by
   unfold eE List.Nodup
   rw [List.pairwise_map]
   refine List.Pairwise.imp ?_ List.nodup_range
   intro a b h e
   exact h (by omega)
 rw [List.perm_ext_iff_of_nodup n1 n2]
 intro x
 rw [h2 x]
 unfold eE
 rw [List.mem_map]
 constructor
 · intro h
   exact ⟨x.toNat, List.mem_range.2 (by omega), by omega⟩
 · rintro ⟨i, hi, rfl⟩
   have := List.mem_range.1 hi
   omega
theorem pM (l : List Int) : (eE l.length).map (gI l) = l := by
 apply List.ext_getElem
 · simp [eE]
 · intro i h1 h2
   simp [eE, gI, h2]
theorem pW {o : Pt} {l : List Int} (hz : hU o (e7 p l)) : (tuL p o l).Perm l := by
 have h := (qO hz).map (gI l)
 have e : (e7 p l).length = l.length := by simp [e7]
 rw [e, pM] at h
 exact h
theorem tc (hm : c7 g) {v : Nat} (hv : (v : Int) < g.1) : gI (tuS g p) (v : Int) = tuL p (gI p.1 (v : Int)) (d7 g (v : Int)) := by
 unfold tuS
 have : v < g.1.toNat := by omega
 simp [gI, this]
theorem iw : (tuS g p).length = g.1.toNat := by simp [tuS]
theorem pF (hm : c7 g) (hc : tu g p) (hfew : (g.2.length : Int) ≤ 2000) : hZ g (tuS g p) := by
 have h0 := hm.1
 refine nl hm (by rw [iw]; omega) fun v hv => ?_
 rw [iw] at hv
 have hp := pW (p := p) (l5 hm hc hfew (v : Int)).2
 rw [tc hm (by omega)]
 exact ⟨hp.nodup_iff.2 nh, fun h => by rw [hp.mem_iff]; exact mB⟩
structure g0 (g : d5) (p : dJ) (first : dQ) (v : Nat) : Prop where
 len : first.length = g.1.toNat
 row : ∀ j : Nat, j < g.1.toNat → gI first (j : Int) = if j < v then tuL p (gI p.1 (j : Int)) (d7 g (j : Int)) else d7 g (j : Int)
 ok : ∀ j : Nat, j < v → ¬ lA p (gI p.1 (j : Int)) (d7 g (j : Int))
theorem g0.start (hm : c7 g) : g0 g p (eO g) 0 := by
 have h0 := hm.1
 refine ⟨by simp [eO], fun j hj => ?_, fun j hj => by omega⟩
 rw [if_neg (by omega)]
 unfold eO
 simp [gI, hj]
theorem g0.start' (hm : c7 g) {r : dQ} (h : r = eO g) : g0 g p r 0 := h ▸ g0.start hm
theorem g0.now {first : dQ} {v : Nat} (h : g0 g p first v) (hv : v < g.1.toNat) : gI first (v : Int) = d7 g (v : Int) := by
 rw [h.row v hv, if_neg (by omega)]
theorem g0.next {first : dQ} {v : Nat} {X : List Int} (h : g0 g p first v) (hv : v < g.1.toNat) (hX : X = tuL p (gI p.1 (v : Int)) (d7 g (v : Int))) (hn : ¬ lA p (gI p.1 (v : Int)) (d7 g (v : Int))) : g0 g p (first.set (Int.toNat (v : Int)) X) (v + 1) := by
 have hl := h.len
 refine ⟨by simpa using hl, fun j hj => ?_, fun j hj => ?_⟩
 · rw [gr (by omega) (by omega) (by omega)]
   by_cases e : (j : Int) = (v : Int)
   · have : j = v := by omega
     subst this
     rw [if_pos rfl, if_pos (by omega), hX]
   · rw [if_neg e, h.row j hj]
     by_cases c : j < v
     · rw [if_pos c, if_pos (by omega)]
     · rw [if_neg c, if_neg (by omega)]
 · by_cases e : j = v
   · subst e; exact hn
   · exact h.ok j (by omega)
theorem g0.fin {first : dQ} {v : Nat} (h : g0 g p first v) (hv : v = g.1.toNat) : first = tuS g p ∧ ¬ kx g p := by
 subst hv
 refine ⟨?_, fun ⟨v, hv, hb⟩ => h.ok v hv hb⟩
 apply List.ext_getElem
 · rw [h.len, iw]
 · intro i h1 h2
   have hi : i < g.1.toNat := by rw [← h.len]; exact h1
   have := h.row i hi
   rw [if_pos hi] at this
   have e1 : gI first (i : Int) = first[i] := by simp [gI, h1]
   rw [← e1, this]
   simp [tuS]
theorem qd {to_ : List Pt} {l : List Int} {k : Nat} (h : to_ = (l.take k).map (ei p)) (hk : (k : Int) < l.length) : to_ ++ [ei p (gI l (k : Int))] = (l.take (k + 1)).map (ei p) := by
 rw [bP hk, List.map_append, h]; rfl
theorem su {to_ : List Pt} {l : List Int} {k : Nat} (h : to_ = (l.take k).map (ei p)) (hk : ¬ (k : Int) < l.length) : to_ = e7 p l := by
 rw [h, List.take_of_length_le (by omega)]; rfl
def lF (p : dJ) (o : Pt) (l T : List Int) (i : Nat) : Prop := T = ((arL o (e7 p l)).take i).map (gI l) ∧ ∀ j : Nat, j < i → 0 < j → ¬ dM (aV (gI (e7 p l) (gI (arL o (e7 p l)) ((j : Int) - 1))) o) (aV (gI (e7 p l) (gI (arL o (e7 p l)) (j : Int))) o)
theorem lF.start {o : Pt} {l : List Int} : lF p o l [] 0 := ⟨rfl, fun j hj => by omega⟩
theorem lF.next {o : Pt} {l T : List Int} {i : Nat} (h : lF p o l T i) (hi : (i : Int) < (arL o (e7 p l)).length) (hs : ¬ 0 < (i : Int) ∨ ¬ decide (dM (aV (gI (e7 p l) (gI (arL o (e7 p l)) ((i : Int) - 1))) o) (aV (gI (e7 p l) (gI (arL o (e7 p l)) (i : Int))) o)) = true) :
   lF p o l (T ++ [gI l (gI (arL o (e7 p l)) (i : Int))]) (i + 1) := by
 refine ⟨by rw [bP hi, List.map_append, h.1]; rfl, fun j hj h0 hb => ?_⟩
 by_cases e : j = i
 · subst e
   rcases hs with hs | hs
   · omega
   · exact hs (decide_eq_true hb)
 · exact h.2 j (by omega) h0 hb
theorem lF.fin {o : Pt} {l T : List Int} {i : Nat} (hz : hU o (e7 p l)) (h : lF p o l T i) (hi : ¬ (i : Int) < (arL o (e7 p l)).length) : T = tuL p o l ∧ ¬ lA p o l := by
 have hl := gF hz
 have e : (e7 p l).length = l.length := by simp [e7]
 refine ⟨by rw [h.1, List.take_of_length_le (by omega)]; rfl, fun ⟨j, hj, h0, hb⟩ => h.2 j (by omega) h0 hb⟩
theorem lF.bad {v : Nat} {i : Nat} (hv : v < g.1.toNat) (hz : hU (gI p.1 (v : Int)) (e7 p (d7 g (v : Int)))) (hi : (i : Int) < (arL (gI p.1 (v : Int)) (e7 p (d7 g (v : Int)))).length) (h0 : 0 < (i : Int))
   (hs : decide (dM (aV (gI (e7 p (d7 g (v : Int))) (gI (arL (gI p.1 (v : Int)) (e7 p (d7 g (v : Int)))) ((i : Int) - 1))) (gI p.1 (v : Int))) (aV (gI (e7 p (d7 g (v : Int))) (gI (arL (gI p.1 (v : Int)) (e7 p (d7 g (v : Int)))) (i : Int))) (gI p.1 (v : Int)))) = true) : kx g p := by
 have hl := gF hz
 have e : (e7 p (d7 g (v : Int))).length = (d7 g (v : Int)).length := by simp [e7]
 exact ⟨v, hv, i, by omega, by omega, of_decide_eq_true hs⟩
theorem lV (h : ¬ c7 g) : turnsR g p = ([], 1) := by unfold turnsR; rw [if_neg h]
theorem kk (h : c7 g) (h1 : ¬ bY g p = []) : turnsR g p = ([], 24) := by unfold turnsR; rw [if_pos h, if_neg h1]
theorem jc (h : c7 g) (h1 : bY g p = []) (h2 : kx g p) : turnsR g p = ([], 24) := by unfold turnsR; rw [if_pos h, if_pos h1, if_pos h2]
theorem kR (h : c7 g) (h1 : bY g p = []) (h2 : ¬ kx g p) : turnsR g p = (ew (tuS g p), 0) := by unfold turnsR; rw [if_pos h, if_pos h1, if_neg h2]
theorem ic (h : c7 g) (h1 : bY g p = []) (hfew : (g.2.length : Int) ≤ 2000) {first : dQ} {v : Nat} (ht : g0 g p first v) (hv : v = g.1.toNat) : d6 g first = turnsR g p := by
 obtain ⟨e, hb⟩ := ht.fin hv
 rw [e, kR h h1 hb, lb h (pF h (l8.1 h1) hfew)]
end
end TL
/-
  TlJudge4: directions around a point; a plot turned by a quarter; the example's rotation.
  By an AI agent.
-/
set_option linter.all false
namespace TL
section
variable {u v w : Pt}
end
section
variable {p : dJ} {o : Pt} {l : List Int}
theorem pd (hz : hU o (e7 p l)) (h : lA p o l) : ∃ i k : Int, ((0 ≤ i ∧ i < ((e7 p l).length : Int)) ∧ 0 ≤ k ∧ k < ((e7 p l).length : Int)) ∧ i ≠ k ∧ dM (vA o (e7 p l) i) (vA o (e7 p l) k) := by
 obtain ⟨j, hj, h0, hs⟩ := h
 have e : (e7 p l).length = l.length := by simp [e7]
 exact ⟨_, _, ⟨l7 hz (i := (j : Int) - 1) (by omega) (by omega), l7 hz (i := (j : Int)) (by omega) (by omega)⟩, sv hz (by omega) (by omega) (by omega), hs⟩
end
def nB : d5 := (3, [(0, 1), (1, 2)])
def qS : dJ := ([(0, 0), (2, 0), (1, 0)], [[(0, 0), (1, 1), (2, 0)], [(2, 0), (1, 0)]])
theorem oT : c7 nB := by decide
theorem kf : bY nB qS = [] := by decide +kernel
def oB (p : dJ) (o : Pt) (l : List Int) : Bool := (List.range l.length).all fun i => (List.range l.length).all fun k => i == k || !decide (dM (vA o (e7 p l) (i : Int)) (vA o (e7 p l) (k : Int)))
theorem nI : (List.range 3).all (fun v => oB qS (gI qS.1 ((v : Nat) : Int)) (d7 nB ((v : Nat) : Int))) = true := by decide +kernel
theorem ql : ¬ kx nB qS := by
 rintro ⟨v, hv, hb⟩
 have hv3 : v < 3 := hv
 have hz := (l5 oT (l8.1 kf) (by decide) (v : Int)).2
 obtain ⟨i, k, ⟨hi, hk⟩, hne, hs⟩ := pd hz hb
 have e : (e7 qS (d7 nB (v : Int))).length = (d7 nB (v : Int)).length := by simp [e7]
 have h1 := List.all_eq_true.1 nI v (List.mem_range.2 hv3)
 unfold oB at h1
 have i1 : i.toNat ∈ List.range (d7 nB (v : Int)).length := List.mem_range.2 (by omega)
 have k1 : k.toNat ∈ List.range (d7 nB (v : Int)).length := List.mem_range.2 (by omega)
 have h2 := List.all_eq_true.1 (List.all_eq_true.1 h1 _ i1) _ k1
 rw [Int.toNat_of_nonneg hi.1, Int.toNat_of_nonneg hk.1, decide_eq_true hs] at h2
 simp at h2
 omega
theorem kw : turnsR nB qS = (ew (tuS nB qS), 0) := kR oT kf ql
theorem pb : (List.length (turnsR nB qS).1 : Int) = 3 := by
 rw [kw]
 simp [ew, iw]; rfl
theorem nU : (turnsR nB qS).2 = 0 := by rw [kw]
section
variable {u v : Pt} {i k : Int}
def tm (u : Pt) : Prop := 0 ≤ u.1 ∧ 0 < u.2
instance (u : Pt) : Decidable (tm u) := by unfold tm; infer_instance
end
section
variable {o : Pt} {ps : List Pt}
end
end TL
/-
  TlJStr: straight lines between points: which two are told.
  By an AI agent.
-/
set_option linter.all false
namespace TL
def iV (g : d5) (i k : Int) (q : Int) : Prop := pI (gI g.2 i) q = (gI g.2 k).1 ∨ pI (gI g.2 i) q = (gI g.2 k).2
instance (g : d5) (i k q : Int) : Decidable (iV g i k q) := by unfold iV; infer_instance
def eF (g : d5) (i k : Int) : Nat → Int
 | 0 => 0
 | j + 1 => eF g i k j + if iV g i k (j : Int) then 1 else 0
theorem gx (g : d5) (i k : Int) : ∀ j : Nat, 0 ≤ eF g i k j ∧ eF g i k j ≤ j
 | 0 => by simp [eF]
 | j + 1 => by
   have := gx g i k j
   unfold eF
   split <;> omega
section
variable {g : d5} {p : dJ} {i k c m : Int} {j : Nat}
theorem ms (h : c = eF g i k j) (hb : iV g i k (j : Int)) : c + 1 = eF g i k (j + 1) := by unfold eF; rw [if_pos hb, h]
theorem rT (h : c = eF g i k j) (hb : ¬ iV g i k (j : Int)) : c = eF g i k (j + 1) := by unfold eF; rw [if_neg hb, h]; omega
theorem tp (hm : c7 g) (h0 : 0 ≤ i) (h1 : i < g.2.length) (q : Int) : 0 ≤ pI (gI g.2 i) q ∧ pI (gI g.2 i) q < g.1 := by
 obtain ⟨⟨a, b⟩, c, d⟩ := ed hm h0 h1
 unfold pI
 split
 · exact ⟨a, b⟩
 · exact ⟨c, d⟩
def gg (g : d5) (p : dJ) (i k : Int) : Prop := ∃ x ∈ fN g p i k, cA (gI (gI p.2 i) 0) (gI (gI p.2 i) 1) (gI (gI p.2 k) 0) (gI (gI p.2 k) 1) x
instance (g : d5) (p : dJ) (i k : Int) : Decidable (gg g p i k) := by unfold gg; infer_instance
theorem jQ : gg g p i k ↔ ∃ q : Nat, q < 2 ∧ iV g i k (q : Int) ∧ cA (gI (gI p.2 i) 0) (gI (gI p.2 i) 1) (gI (gI p.2 k) 0) (gI (gI p.2 k) 1) (gI p.1 (pI (gI g.2 i) (q : Int))) := by
 unfold gg iV
 constructor
 · rintro ⟨x, hx, hb⟩
   obtain ⟨v, hv, hv2, rfl⟩ := jw.1 hx
   rcases hv with rfl | rfl
   · exact ⟨0, by omega, hv2, hb⟩
   · exact ⟨1, by omega, hv2, hb⟩
 · rintro ⟨q, hq, hc, hb⟩
   refine ⟨_, jw.2 ⟨pI (gI g.2 i) (q : Int), ?_, hc, rfl⟩, hb⟩
   rcases (by omega : q = 0 ∨ q = 1) with rfl | rfl
   · exact .inl rfl
   · exact .inr rfl
theorem mn (hj : (j : Int) < 2) (hc : iV g i k (j : Int)) (h1 : decide (bm (gI (gI p.2 i) 0) (gI (gI p.2 i) 1) (gI p.1 (pI (gI g.2 i) (j : Int)))) = true) (h2 : decide (bm (gI (gI p.2 k) 0) (gI (gI p.2 k) 1) (gI p.1 (pI (gI g.2 i) (j : Int)))) = true) : true = decide (gg g p i k) :=
 (decide_eq_true (jQ.2 ⟨j, by omega, hc, of_decide_eq_true h1, of_decide_eq_true h2⟩)).symm
def r8 (g : d5) (p : dJ) (i k : Int) (j : Nat) : Prop := ∀ q : Nat, q < j → ¬ (iV g i k (q : Int) ∧ cA (gI (gI p.2 i) 0) (gI (gI p.2 i) 1) (gI (gI p.2 k) 0) (gI (gI p.2 k) 1) (gI p.1 (pI (gI g.2 i) (q : Int))))
theorem fA (h : r8 g p i k j) (hn : ¬ iV g i k (j : Int) ∨ ¬ decide (bm (gI (gI p.2 i) 0) (gI (gI p.2 i) 1) (gI p.1 (pI (gI g.2 i) (j : Int)))) = true ∨ ¬ decide (bm (gI (gI p.2 k) 0) (gI (gI p.2 k) 1) (gI p.1 (pI (gI g.2 i) (j : Int)))) = true) : r8 g p i k (j + 1) := by
 intro q hq hb
 by_cases e : q = j
 · subst e
   rcases hn with hn | hn | hn
   · exact hn hb.1
   · exact hn (decide_eq_true hb.2.1)
   · exact hn (decide_eq_true hb.2.2)
 · exact h q (by omega) hb
theorem pX (h1 : ¬ (gI g.2 k).1 = pI (gI g.2 i) (j : Int)) (h2 : ¬ (gI g.2 k).2 = pI (gI g.2 i) (j : Int)) : ¬ iV g i k (j : Int) := fun c => c.elim (fun h => h1 h.symm) (fun h => h2 h.symm)
theorem s7 (h : r8 g p i k j) (hj : ¬ (j : Int) < 2) : false = decide (gg g p i k) := by
 refine (decide_eq_false fun hs => ?_).symm
 obtain ⟨q, hq, hc, hb⟩ := jQ.1 hs
 exact h q (by omega) ⟨hc, hb⟩
theorem oQ (h : eF g i k 2 = 0) : ¬ gg g p i k := fun hs => by
 obtain ⟨q, hq, hc, hb⟩ := jQ.1 hs
 have h0 := gx g i k 0
 have h1 := gx g i k 1
 rcases (by omega : q = 0 ∨ q = 1) with rfl | rfl
 · have e1 : eF g i k 1 = 1 := by show eF g i k 0 + _ = 1; rw [if_pos hc]; rfl
   have e2 : eF g i k 2 = eF g i k 1 + _ := rfl
   rw [e1] at e2
   split at e2 <;> omega
 · have e2 : eF g i k 2 = eF g i k 1 + _ := rfl
   rw [if_pos hc] at e2
   omega
end
def tn (at_ : List Pt) (e : Int × Int) : List Pt := [gI at_ e.1, gI at_ e.2]
section
variable {g : d5} {at_ : List Pt} {Ls : List (List Pt)} {e : Nat}
def ip (g : d5) (at_ : List Pt) (Ls : List (List Pt)) (e : Nat) : Prop := Ls = (g.2.take e).map (tn at_) ∧ ∀ j : Nat, j < e → gI at_ (gI g.2 (j : Int)).1 ≠ gI at_ (gI g.2 (j : Int)).2
theorem ip.start : ip g at_ [] 0 := ⟨rfl, fun j hj => by omega⟩
theorem ip.len (h : ip g at_ Ls e) : Ls.length ≤ e := by rw [h.1, List.length_map, List.length_take]; omega
theorem ip.next (h : ip g at_ Ls e) (he : (e : Int) < g.2.length) (hne : ¬ gI at_ (gI g.2 (e : Int)).1 = gI at_ (gI g.2 (e : Int)).2) : ip g at_ (Ls ++ [[gI at_ (gI g.2 (e : Int)).1, gI at_ (gI g.2 (e : Int)).2]]) (e + 1) := by
 refine ⟨by rw [bP he, List.map_append, h.1]; rfl, fun j hj => ?_⟩
 by_cases c : j = e
 · subst c; exact hne
 · exact h.2 j (by omega)
structure fG (g : d5) (at_ : List Pt) (Ls : List (List Pt)) : Prop where
  n : (at_.length : Int) = g.1
  m : Ls.length = g.2.length
  ok : cW at_
  ln : ∀ e : Int, 0 ≤ e → e < g.2.length → gI Ls e = tn at_ (gI g.2 e) ∧ gI at_ (gI g.2 e).1 ≠ gI at_ (gI g.2 e).2
theorem ip.fin (h : ip g at_ Ls e) (he : e = g.2.length) (hn : (at_.length : Int) = g.1) (hok : cW at_) : fG g at_ Ls := by
 subst he
 obtain ⟨h1, h2⟩ := h
 rw [List.take_length] at h1
 refine ⟨hn, by rw [h1, List.length_map], hok, fun e h0 h3 => ⟨by rw [h1, mD h0 h3], ?_⟩⟩
 have := h2 e.toNat (by omega)
 rwa [Int.toNat_of_nonneg h0] at this
variable {i k : Int}
theorem fG.at0 (h : fG g at_ Ls) (h0 : 0 ≤ i) (h1 : i < g.2.length) : gI (gI Ls i) 0 = gI at_ (gI g.2 i).1 ∧ gI (gI Ls i) 1 = gI at_ (gI g.2 i).2 ∧ (gI Ls i).length = 2 := by
 rw [(h.ln i h0 h1).1]; exact ⟨rfl, rfl, rfl⟩
theorem fG.shp (hm : c7 g) (h : fG g at_ Ls) : rZ g (at_, Ls) := by
 refine ⟨h.n, by show (Ls.length : Int) = _; rw [h.m], fun v h0 h1 => h.ok.2 _ (bg h0 h1), fun e h0 h1 => ?_⟩
 have h2 : e < (g.2.length : Int) := by have := h.m; have h3 : e < (Ls.length : Int) := h1; omega
 show 2 ≤ ((gI Ls e).length : Int) ∧ cW (gI Ls e)
 rw [(h.ln e h0 h2).1]
 have hn := h.n
 obtain ⟨⟨a, b⟩, c, d⟩ := ed hm h0 h2
 refine ⟨by simp [tn], by simp [tn], fun q hq => ?_⟩
 unfold tn at hq
 rcases List.mem_cons.1 hq with rfl | hq
 · exact h.ok.2 _ (bg a (by omega))
 · obtain rfl := List.mem_singleton.1 hq
   exact h.ok.2 _ (bg c (by omega))
theorem qT {a b : Pt} (h : a ≠ b) : gM [a, b] := by
 intro i hi hi2
 have h0 : i = 0 := by simp at hi2; omega
 subst h0
 refine ⟨h, fun k hk hk1 hk2 => ?_⟩
 simp at hk2; omega
theorem fG.lines (hm : c7 g) (h : fG g at_ Ls) : dq g (at_, Ls) = [] := by
 unfold dq
 rw [List.append_eq_nil_iff]
 have hl := h.m
 refine ⟨dI fun e he => cX (Classical.not_not.2 ?_), dI fun e he => cX (Classical.not_not.2 ?_)⟩
 · have he' : e < Ls.length := he
   obtain ⟨a, b, c⟩ := h.at0 (i := (e : Int)) (by omega) (by omega)
   refine ⟨a, ?_⟩
   show gI (gI Ls (e : Int)) (((gI Ls (e : Int)).length : Int) - 1) = _
   rw [c]; exact b
 · have he' : e < Ls.length := he
   obtain ⟨a, b⟩ := h.ln (e : Int) (by omega) (by omega)
   show gM (gI Ls (e : Int))
   rw [a]; exact qT b
theorem fG.eight (hm : c7 g) (h : fG g at_ Ls) {a b : Int} : ((8, a, b) : gB) ∈ bY g (at_, Ls) ↔ (0 ≤ a ∧ a < b ∧ b < g.2.length) ∧ ¬ fI (gI Ls a) (gI Ls b) (fN g (at_, Ls) a b) := by
  have hs := fO.2 (h.shp hm)
  have hl := h.lines hm
  have hm2 := h.m
  unfold bY
  rw [if_pos hs, hl, if_pos rfl, List.append_nil, List.mem_append, List.mem_append]
  constructor
  · rintro (h1 | h1 | h1)
    · obtain ⟨v, _, hv⟩ := ek.1 h1
      obtain ⟨w, _, hw⟩ := ek.1 hv
      have := (i4.1 hw).2
      simp at this
    · obtain ⟨v, _, hv⟩ := ek.1 h1
      obtain ⟨w, _, hw⟩ := ek.1 hv
      have := (i4.1 hw).2
      simp at this
    · obtain ⟨v, hv0, hv⟩ := ek.1 h1
      obtain ⟨w, hw0, hw⟩ := ek.1 hv
      obtain ⟨⟨c1, c2⟩, c3⟩ := i4.1 hw
      simp only [Prod.mk.injEq, true_and] at c3
      obtain ⟨rfl, rfl⟩ := c3
      have : w < Ls.length := hw0
      exact ⟨⟨by omega, by omega, by omega⟩, c2⟩
  · rintro ⟨⟨h0, h1, h2⟩, h3⟩
    refine .inr (.inr (ek.2 ⟨a.toNat, by show a.toNat < Ls.length; omega, ek.2 ⟨b.toNat, by show b.toNat < Ls.length; omega, ?_⟩⟩))
    refine i4.2 ⟨⟨by omega, ?_⟩, ?_⟩
    · rw [Int.toNat_of_nonneg h0, Int.toNat_of_nonneg (by omega)]; exact h3
    · rw [Int.toNat_of_nonneg h0, Int.toNat_of_nonneg (by omega)]
theorem qp {a b c d : Pt} {but : List Pt} : fI [a, b] [c, d] but ↔ co (a, b) (c, d) but := by
 rw [js]
 constructor
 · intro h
   exact h 0 (by simp) 0 (by simp)
 · intro h j hj q hq
   have h1 : j = 0 := by simp at hj; omega
   have h2 : q = 0 := by simp at hq; omega
   subst h1 h2
   exact h
theorem fG.pair (h : fG g at_ Ls) (h0 : 0 ≤ i) (h1 : i < g.2.length) (k0 : 0 ≤ k) (k1 : k < g.2.length) : fI (gI Ls i) (gI Ls k) (fN g (at_, Ls) i k) ↔ co (gI (gI Ls i) 0, gI (gI Ls i) 1) (gI (gI Ls k) 0, gI (gI Ls k) 1) (fN g (at_, Ls) i k) := by
 obtain ⟨a1, a2, _⟩ := h.at0 h0 h1
 obtain ⟨b1, b2, _⟩ := h.at0 k0 k1
 have e1 : gI Ls i = [gI (gI Ls i) 0, gI (gI Ls i) 1] := by rw [a1, a2]; exact (h.ln i h0 h1).1
 have e2 : gI Ls k = [gI (gI Ls k) 0, gI (gI Ls k) 1] := by rw [b1, b2]; exact (h.ln k k0 k1).1
 conv => lhs; rw [e1, e2]
 exact qp
def nb (told : List Bool) (l : List gB) (i : Nat) : Prop := told.length = 900 ∧ ∀ q : Int, 0 ≤ q → q < 900 → (gI told q = true ↔ ∃ j : Nat, j < i ∧ (gI l (j : Int)).1 = 8 ∧ (gI l (j : Int)).2.1 * 30 + (gI l (j : Int)).2.2 = q)
theorem nb.start {l : List gB} : nb (List.replicate (Int.toNat 900) false) l 0 := by
 refine ⟨by rw [List.length_replicate]; decide, fun q h0 h1 => ?_⟩
 rw [l6 h0 (by omega)]
 exact ⟨fun h => by simp at h, fun ⟨j, hj, _⟩ => by omega⟩
theorem nb.yes {told : List Bool} {l : List gB} {i : Nat} (h : nb told l i) (h8 : (gI l (i : Int)).1 = 8) (h0 : 0 ≤ (gI l (i : Int)).2.1 * 30 + (gI l (i : Int)).2.2) (h1 : (gI l (i : Int)).2.1 * 30 + (gI l (i : Int)).2.2 < 900) : nb (told.set (Int.toNat ((gI l (i : Int)).2.1 * 30 + (gI l (i : Int)).2.2)) true) l (i + 1) := by
 have hl := h.1
 refine ⟨by simpa using hl, fun q q0 q1 => ?_⟩
 rw [gr h0 (by omega) q0]
 by_cases e : q = (gI l (i : Int)).2.1 * 30 + (gI l (i : Int)).2.2
 · rw [if_pos e]
   exact ⟨fun _ => ⟨i, by omega, h8, e.symm⟩, fun _ => rfl⟩
 · rw [if_neg e, h.2 q q0 q1]
   constructor
   · rintro ⟨j, hj, h2⟩; exact ⟨j, by omega, h2⟩
   · rintro ⟨j, hj, h2, h3⟩
     by_cases c : j = i
     · subst c; exact absurd h3.symm e
     · exact ⟨j, by omega, h2, h3⟩
theorem nb.no {told : List Bool} {l : List gB} {i : Nat} (h : nb told l i) (h8 : ¬ (gI l (i : Int)).1 = 8) : nb told l (i + 1) := by
 refine ⟨h.1, fun q q0 q1 => ?_⟩
 rw [h.2 q q0 q1]
 constructor
 · rintro ⟨j, hj, h2⟩; exact ⟨j, by omega, h2⟩
 · rintro ⟨j, hj, h2, h3⟩
   by_cases c : j = i
   · subst c; exact absurd h2 h8
   · exact ⟨j, by omega, h2, h3⟩
theorem fG.bd (hm : c7 g) (h : fG g at_ Ls) {l : List gB} (hl : l = bY g (at_, Ls)) {j : Nat} (hj : (j : Int) < l.length) (h8 : (gI l (j : Int)).1 = 8) :
   (0 ≤ (gI l (j : Int)).2.1 ∧ (gI l (j : Int)).2.1 < (gI l (j : Int)).2.2 ∧ (gI l (j : Int)).2.2 < g.2.length) ∧ ¬ fI (gI Ls (gI l (j : Int)).2.1) (gI Ls (gI l (j : Int)).2.2) (fN g (at_, Ls) (gI l (j : Int)).2.1 (gI l (j : Int)).2.2) := by
 have hx := bg (xs := l) (i := (j : Int)) (by omega) hj
 refine (h.eight hm).1 ?_
 rw [← hl]
 have e : ((8, (gI l (j : Int)).2.1, (gI l (j : Int)).2.2) : gB) = gI l (j : Int) := Prod.ext h8.symm rfl
 rw [e]; exact hx
theorem fG.told (hm : c7 g) (h : fG g at_ Ls) (h30 : (g.2.length : Int) ≤ 30) {l : List gB} (hl : l = bY g (at_, Ls)) {told : List Bool} {n : Nat} (hT : nb told l n) (hn : ¬ (n : Int) < l.length) (hn2 : (n : Int) ≤ l.length) (h0 : 0 ≤ i) (hik : i < k) (hk : k < g.2.length) :
   gI told (i * 30 + k) = decide (¬ co (gI (gI Ls i) 0, gI (gI Ls i) 1) (gI (gI Ls k) 0, gI (gI Ls k) 1) (fN g (at_, Ls) i k)) := by
 have key := hT.2 (i * 30 + k) (by omega) (by omega)
 have hp := h.pair (i := i) (k := k) h0 (by omega) (by omega) hk
 by_cases c : co (gI (gI Ls i) 0, gI (gI Ls i) 1) (gI (gI Ls k) 0, gI (gI Ls k) 1) (fN g (at_, Ls) i k)
 · rw [decide_eq_false (Classical.not_not.2 c), Bool.eq_false_iff]
   intro ht
   obtain ⟨j, hj, h8, he⟩ := key.1 ht
   obtain ⟨⟨b1, b2, b3⟩, b4⟩ := h.bd hm hl (j := j) (by omega) h8
   have e1 : (gI l (j : Int)).2.1 = i := by omega
   have e2 : (gI l (j : Int)).2.2 = k := by omega
   rw [e1, e2] at b4
   exact b4 (hp.2 c)
 · rw [decide_eq_true c]
   refine key.2 ?_
   have hx := (h.eight hm (a := i) (b := k)).2 ⟨⟨h0, hik, hk⟩, fun ha => c (hp.1 ha)⟩
   rw [← hl] at hx
   obtain ⟨j, hj, he⟩ := l9 hx
   exact ⟨j, by omega, by rw [he], by rw [he]⟩
theorem fG.want (hm : c7 g) (h : fG g at_ Ls) (h0 : 0 ≤ i) (hik : i < k) (hk : k < g.2.length) {m : Int} (hmm : m = cJ (gI (gI Ls i) 0) (gI (gI Ls i) 1) (gI (gI Ls k) 0) (gI (gI Ls k) 1)) :
    (0 ≤ m ∧ m ≤ 3) ∧ (co (gI (gI Ls i) 0, gI (gI Ls i) 1) (gI (gI Ls k) 0, gI (gI Ls k) 1) (fN g (at_, Ls) i k) ↔ (m = 0 ∨ m = 2 ∧ gg g (at_, Ls) i k)) := by
  obtain ⟨a1, a2, _⟩ := h.at0 (i := i) h0 (by omega)
  obtain ⟨b1, b2, _⟩ := h.at0 (i := k) (by omega) hk
  obtain ⟨⟨x1, x2⟩, x3, x4⟩ := ed hm h0 (show i < (g.2.length : Int) by omega)
  obtain ⟨⟨y1, y2⟩, y3, y4⟩ := ed hm (show 0 ≤ k by omega) hk
  have hn := h.n
  have k1 := (h.ok.2 _ (bg (xs := at_) x1 (by omega))).bd
  have k2 := (h.ok.2 _ (bg (xs := at_) x3 (by omega))).bd
  have k3 := (h.ok.2 _ (bg (xs := at_) y1 (by omega))).bd
  have k4 := (h.ok.2 _ (bg (xs := at_) y3 (by omega))).bd
  rw [← a1] at k1
  rw [← a2] at k2
  rw [← b1] at k3
  rw [← b2] at k4
  rw [o7 k1 k2 k3 k4] at hmm
  unfold co
  simp only
  rw [← hmm]
  have hsh : (∃ x ∈ fN g (at_, Ls) i k, cA (gI (gI Ls i) 0) (gI (gI Ls i) 1) (gI (gI Ls k) 0) (gI (gI Ls k) 1) x) ↔ gg g (at_, Ls) i k := Iff.rfl
  rw [hsh]
  rcases jn k1 k2 k3 k4 with ⟨e, _⟩ | ⟨e, hc⟩ | ⟨e, _⟩ | ⟨e, _⟩
  · rw [← hmm] at e; rw [e]; simp
  · rw [← hmm] at e; rw [e]
    refine ⟨by decide, ⟨fun h' => ?_, fun h' => ?_⟩⟩
    · rcases h' with h' | ⟨_, hs⟩
      · omega
      · obtain ⟨x, hx, hb⟩ := hs
        obtain ⟨v, hv, _, rfl⟩ := jw.1 hx
        refine absurd hb (lq hc ?_)
        rcases hv with rfl | rfl
        · show gI at_ (gI g.2 i).1 ∈ _
          rw [a1]; simp
        · show gI at_ (gI g.2 i).2 ∈ _
          rw [a2]; simp
    · rcases h' with h' | ⟨h', _⟩ <;> omega
  · rw [← hmm] at e; rw [e]; simp
  · rw [← hmm] at e; rw [e]; simp
end
section
variable {t : Bool} {A S : Prop} [Decidable A] [Decidable S] {m c : Int}
theorem jR (ht : t = decide (¬ A)) (hA : A ↔ (m = 0 ∨ m = 2 ∧ S)) (h : m = 1 ∨ m = 3) : t = true := by
 rw [ht]; refine decide_eq_true fun a => ?_
 rcases hA.1 a with h' | ⟨h', _⟩ <;> omega
theorem sa (ht : t = decide (¬ A)) (hA : A ↔ (m = 0 ∨ m = 2 ∧ S)) (hm : 0 ≤ m ∧ m ≤ 3) (h1 : ¬ m = 1) (h3 : ¬ m = 3) (h2 : ¬ m = 2) : t = false := by
 rw [ht]; exact decide_eq_false (Classical.not_not.2 (hA.2 (.inl (by omega))))
theorem rY (ht : t = decide (¬ A)) (hA : A ↔ (m = 0 ∨ m = 2 ∧ S)) (h2 : m = 2) (hc : c = 0) (hS : c = 0 → ¬ S) : t = decide (c = 0) := by
 rw [ht, decide_eq_true hc]
 refine decide_eq_true fun a => ?_
 rcases hA.1 a with h' | ⟨_, h'⟩
 · omega
 · exact hS hc h'
theorem sj (ht : t = decide (¬ A)) (hA : A ↔ (m = 0 ∨ m = 2 ∧ S)) (h2 : m = 2) : t = !decide S := by
 rw [ht, ← decide_not, decide_eq_decide, hA]
 subst h2
 simp
end
end TL
/-
  TlOpen: arguments opened: what a law's reader says of a slice is what a walk wants of it.
  By an AI agent.
-/
namespace TL
open Go Go.Proofs Go.ChangeShapes Go.WideShapes Go.Joins Go.Deep
structure jO {H : Type} (f : DataW H → Nat) : Prop where
 slice : ∀ l s : List (DataW H), l.length ≤ f (.slice l s)
 elem : ∀ l s : List (DataW H), ∀ d ∈ l, f d ≤ f (.slice l s)
 part : ∀ l : List (DataW H), ∀ d ∈ l, f d ≤ f (.agg l)
def nr (α : Type) [Rp α] (P : Program) (t : TypeId) : Prop :=
  ∀ {H : Type} (enc : TypeId × Value → H) (w : World) (fuel : Nat) (cs : List Value) (x : DataW H × List MemPlace), DataW.trod enc P w 0 (fun _ => true) true fuel t cs = some x → ∃ y : α, Rp.rep c0 any w cs y
theorem iu {P : Program} {t : TypeId} (ht : P.underlying t = some (.int .i64)) : nr Int P t := by
 intro H enc w fuel cs x h
 obtain ⟨n, rfl, _, _⟩ := DataW.trod_int ht h
 exact ⟨n, rfl⟩
theorem kU {H : Type} {enc : TypeId × Value → H} {P : Program} {w : World} {base : Nat} {spare : Nat → Bool} {held : Bool} {t e : TypeId} {fuel : Nat} {cs : List Value} {x : DataW H × List MemPlace} (ht : P.underlying t = some (.array 2 e)) (hce : P.cellsOf e = 1) (hct : P.cellsOf t = 2)
   (h : DataW.trod enc P w base spare held fuel t cs = some x) :
   ∃ v0 v1 y0 y1 n, cs = [v0, v1] ∧ x = (.agg [y0.1, y1.1], y0.2 ++ y1.2) ∧ DataW.trod enc P w base spare held n e [v0] = some y0 ∧ DataW.trod enc P w base spare held n e [v1] = some y1 := by
 cases fuel with
 | zero => simp [DataW.trod] at h
 | succ n =>
   unfold DataW.trod at h
   rw [ht] at h
   have r2 : List.range 2 = [0, 1] := rfl
   simp only [hct] at h
   by_cases hl : cs.length = 2
   · rw [if_pos hl] at h
     match cs, hl with
     | [v0, v1], _ =>
       simp [r2, hce] at h
       cases h0 : DataW.trod enc P w base spare held n e [v0] with
       | none => simp [h0] at h
       | some y0 =>
         cases h1 : DataW.trod enc P w base spare held n e [v1] with
         | none => simp [h0, h1] at h
         | some y1 =>
           simp [h0, h1] at h
           exact ⟨v0, v1, y0, y1, n, rfl, h.symm, h0, h1⟩
   · rw [if_neg hl] at h; cases h
theorem pP {P : Program} {t e : TypeId} (ht : P.underlying t = some (.array 2 e)) (he : P.underlying e = some (.int .i64)) (hce : P.cellsOf e = 1) (hct : P.cellsOf t = 2) : nr (Int × Int) P t := by
 intro H enc w fuel cs x h
 obtain ⟨v0, v1, y0, y1, n, rfl, _, h0, h1⟩ := kU ht hce hct h
 obtain ⟨a, ha⟩ := iu he enc w n [v0] y0 h0
 obtain ⟨b, hb⟩ := iu he enc w n [v1] y1 h1
 exact ⟨(a, b), [v0], [v1], rfl, ha, hb⟩
theorem jb {α : Type} [Rp α] [Inhabited α] {P : Program} {t e : TypeId} (ht : P.underlying t = some (.slice e)) (hc : P.cellsOf e = Rp.sz α) (hz : 0 < Rp.sz α) (he : nr α P e)
    {H : Type} {enc : TypeId × Value → H} {w : World} {f : DataW H → Nat} (hf : jO f) {fuel : Nat} {v : Value} {x : DataW H × List MemPlace}
    (hs : ∀ a len cap, v = .slice (some a) len cap → a.spot = none) (h : DataW.trod enc P w 0 (fun _ => true) true fuel t [v] = some x) (hb : f x.1 ≤ 1048576) : ∃ xs : List α, Ro w v xs := by
  rcases Deep.open_slice ht h with ⟨h0, _⟩ | ⟨a, len, cap, m, n, D, Pl, h0, _, hlc, _, hm, rfl, hx⟩
  · obtain rfl : v = .slice none 0 0 := by simpa using h0
    exact ⟨[], .inl ⟨⟨_, rfl⟩, rfl⟩⟩
  · obtain rfl : v = .slice (some a) len cap := by simpa using h0
    have hsp := hs a len cap rfl
    obtain ⟨b, off, spot⟩ := a
    obtain rfl : spot = none := hsp
    simp only [if_true] at hm
    subst hm
    obtain ⟨Y, hY⟩ := Deep.choose_lt (α := α) (n := len) (p := fun i y => ∃ cs, (∀ j, j < Rp.sz α → w.cell? ⟨b, off + i * Rp.sz α + j, none⟩ = cs[j]?) ∧ Rp.rep c0 any w cs y) (fun i hi => by
      obtain ⟨cs', h1, h2⟩ := hx i (by omega)
      obtain ⟨y, hy⟩ := he enc w n cs' _ h2
      refine ⟨y, cs', fun j hj => ?_, hy⟩
      obtain ⟨_, hl, hcell⟩ := World.cells?_some h1
      have := hcell j (by omega)
      rw [Deep.add_add, hc] at this
      rw [← this]
      unfold Addr.add
      by_cases hij : i * Rp.sz α + j = 0
      · rw [if_pos hij, Nat.add_assoc, hij]; rfl
      · rw [if_neg hij, Nat.add_assoc])
    have hlen : ((List.range len).map Y).length = len := by simp
    have hbound := Nat.le_trans (hf.slice _ _) hb
    refine ⟨(List.range len).map Y, .inr ⟨b, off, m, by rw [hlen], ⟨by omega, by simp at hbound; omega⟩, fun i y hi => ?_⟩⟩
    have hil : i < len := by
      have := (List.getElem?_eq_some_iff.1 hi).1
      omega
    obtain rfl : Y i = y := by simpa [hil] using hi
    obtain ⟨cs, h1, h2⟩ := hY i hil
    refine ⟨?_, trivial, cs, h1, h2⟩
    have h3 := h1 0 hz
    have h4 := Rp.len h2
    have h5 : 0 < cs.length := by omega
    rw [List.getElem?_eq_getElem h5] at h3
    by_cases hbl : b < w.heap.size
    · exact hbl
    · have : w.heap[b]? = none := Array.getElem?_eq_none (by omega)
      simp [World.cell?, this] at h3
theorem gA {P : Program} {w : World} {base : Nat} {t e : TypeId} {v : Value} (ht : P.underlying t = some (.slice e)) (h : Cell.okWide P w .any base t v) : ∀ a len cap, v = .slice (some a) len cap → a.spot = none := by
 rintro a len cap rfl
 simp only [Cell.okWide, Cell.ok, ht] at h
 exact h.2.2.2.1
theorem ni {α : Type} [Rp α] [Inhabited α] {P : Program} {t e : TypeId} (ht : P.underlying t = some (.slice e)) (hc : P.cellsOf e = Rp.sz α) (hz : 0 < Rp.sz α) (he : nr α P e)
    {H : Type} {enc : TypeId × Value → H} {w : World} {f : DataW H → Nat} (hf : jO f) {base : Nat} {v : Value} {d : DataW H} {p : List MemPlace}
    (hval : Value.okWide P w .any base t v) (h : DataW.Trod enc P w 0 (fun _ => true) true t v d p) (hb : f d ≤ 1048576) : ∃ xs : List α, Ro w v xs := by
  obtain ⟨a, len, cap, rfl⟩ := okWide_slice ht hval
  obtain ⟨fuel, hfu⟩ := h
  refine jb ht hc hz he hf (gA (w := w) (base := base) ht ?_) (x := (d, p)) hfu hb
  simpa [Value.okWide, ht] using hval
theorem pZ {α : Type} [Rp α] [Inhabited α] {P : Program} {t t0 t1 e : TypeId} {f0 f1 : Field} (hs : P.underlying t = some (.struct #[f0, f1])) (hone : oneCellFields P #[f0, f1] = true) (hC : P.cellsOf t = 2) (hts : P.cellTypes P.depth t = some [t0, t1])
    (h0 : f0.type = t0) (h1 : f1.type = t1) (hi : P.underlying t0 = some (.int .i64)) (ht : P.underlying t1 = some (.slice e)) (hc : P.cellsOf e = Rp.sz α) (hz : 0 < Rp.sz α) (he : nr α P e)
    {H : Type} {enc : TypeId × Value → H} {w : World} {f : DataW H → Nat} (hf : jO f) {base : Nat} {v : Value} {d : DataW H} {p : List MemPlace}
    (hval : Value.okWide P w .any base t v) (h : DataW.Trod enc P w 0 (fun _ => true) true t v d p) (hb : f d ≤ 1048576) : ∃ (n : Int) (u : Value) (xs : List α), v = .agg #[.int .i64 n, u] ∧ Ro w u xs := by
  obtain ⟨v0, v1, y0, y1, n, rfl, rfl, rfl, r0, r1⟩ := open_agg2 hs hone hC hval h
  subst h0 h1
  obtain ⟨k, hk, _, _⟩ := DataW.trod_int hi r0
  obtain rfl : v0 = .int .i64 k := by simpa using hk
  have hcell : Cell.okWide P w .any base f1.type v1 := by
    simp only [Value.okWide, hs] at hval
    obtain ⟨cs, hcs, _, ts, h3, _, h4⟩ := hval
    rw [hts] at h3
    obtain rfl := Option.some.inj h3
    obtain rfl : #[Value.int .i64 k, v1] = cs := by simpa using hcs
    obtain ⟨u, hu, hk⟩ := h4 1 v1 rfl
    simp at hu
    subst hu
    exact hk
  obtain ⟨xs, hx⟩ := jb ht hc hz he hf (gA ht hcell) (x := y1) r1 (Nat.le_trans (hf.part _ _ (by simp)) hb)
  exact ⟨k, v1, xs, rfl, hx⟩
end TL
/-
  TlPost: what is owed behind a law that returns true and writes nothing of the caller's.
  By an AI agent.
-/
namespace TL
open Go Go.Proofs Go.ChangeShapes Go.WideShapes Go.RowKit
def mJ (P : Program) (ts : List TypeId) : Bool := ts.all fun t => P.readableRec t && decide (t < P.types.size)
theorem jh {H : Type} {enc : TypeId × Value → H} {P : Program} (hl : laidOutB P = true) {W W' : World} (hb : Below W.heap.size W W') (sp : Nat → Bool) :
   ∀ {ts : List TypeId} {vs : List Value} {ds : List (DataW H)} {ps : List MemPlace}, mJ P ts = true → DataW.TrodAll enc P W 0 (fun _ => true) true ts vs ds ps → (∀ p ∈ ps, p.block < W.heap.size) → (∀ p ∈ ps, sp p.block = true) → DataW.TrodAll enc P W' 0 sp true ts vs ds ps
 | [], [], [], _, _, h, _, _ => h
 | [], [], _ :: _, _, _, h, _, _ => h.elim
 | [], _ :: _, _, _, _, h, _, _ => by cases ‹List (DataW H)› <;> exact h.elim
 | _ :: _, [], _, _, _, h, _, _ => by cases ‹List (DataW H)› <;> exact h.elim
 | _ :: _, _ :: _, [], _, _, h, _, _ => h.elim
 | t :: ts, v :: vs, d :: ds, ps, hr, h, hlt, hsp => by
   obtain ⟨p, q, h1, h2, rfl⟩ := h
   simp only [mJ, List.all_cons, Bool.and_eq_true, decide_eq_true_eq] at hr
   exact ⟨p, q, WideElems.Trod_stays hl hr.1.1 hr.1.2 h1 (fun x hx => hb.same (hlt x (by simp [hx]))) (fun x hx => hsp x (by simp [hx])),
     jh hl hb sp hr.2 h2 (fun x hx => hlt x (by simp [hx])) (fun x hx => hsp x (by simp [hx])), rfl⟩
theorem oV {H : Type} {enc : TypeId × Value → H} {P : Program} {f : Func} {s : ChangeSpec} {W W' : World} {args : Array Value} {ds gs : List (DataW H)} {before : List MemPlace} {tb : TypeId}
   (hl : laidOutB P = true) (hr : mJ P f.params.toList = true) (hv : s.vars = []) (hrt : f.resultTypes = #[tb]) (htb : P.underlying tb = some .bool)
   (hW : DataW.Whole enc P f.params.toList s.vars false W args.toList ds gs before) (hfn : s.fn H (ds ++ gs) = { results := [.lit (.bool true)], args := ds }) (hB : Below W.heap.size W W') :
   s.post enc P f false true false false W args (.bool true) W' := by
 have hlt := hW.lt
 have hW0 := hW
 obtain ⟨p, q, hA, hV, rfl, hfz, _⟩ := hW
 rw [hv] at hV
 obtain ⟨rfl, rfl⟩ := trodVars_none hV
 simp only [List.append_nil] at hlt hfz hW0 hfn
 have hres : ∀ (b : Nat) (sp : Nat → Bool) (hd : Bool), DataW.TrodAll enc P W' b sp hd f.resultTypes.toList ((Value.bool true).resultList f.resultTypes.size) (s.fn H (ds ++ [])).results [] := fun b sp hd => by
   rw [hrt, List.append_nil, hfn]
   exact trodAll_cons_mk (shut_bool htb true) trodAll_mk0
 have hargs : ∀ sp : Nat → Bool, (∀ x ∈ p, sp x.block = true) → DataW.TrodAll enc P W' 0 sp true f.params.toList args.toList (s.fn H (ds ++ [])).args p := fun sp hsp => by
   rw [List.append_nil, hfn]
   exact jh hl hB sp hr hA hlt hsp
 have hvars : ∀ sp : Nat → Bool, DataW.TrodVars enc P W' sp s.vars (s.fn H (ds ++ [])).vars [] := fun sp => by
   rw [List.append_nil, hfn, hv]
   rfl
 refine ⟨ds, [], p, [], p, [], hW0, hres _ _ _, hargs _ (fun x hx => by simpa using hlt x hx), hvars _, World.keptBut_mono (fun x hx => ⟨hx, Or.inr (by simpa using hx)⟩) (hB.frame _), fun _ => ?_⟩
 refine ⟨?_, _, _, ([] ++ p) ++ [], ⟨[] ++ p, [], trodAll_append (hargs _ (fun _ _ => rfl)) (hres _ _ _), hvars _, rfl, ?_, ?_⟩, ?_⟩
 · exact ok_one hrt rfl (okWide_bool_mk htb true)
 · intro b off hp
   have hp' : MemPlace.cell b off ∈ p := by simpa using hp
   rw [hB.frozen (p := ⟨b, off, none⟩) (hlt _ hp')]
   exact hfz b off hp'
 · intro ha; cases ha
 · intro x hx _
   simpa using hx
end TL
/-
  TlOpenP: arguments that are points, or lists of points.
  By an AI agent.
-/
set_option linter.all false
namespace TL
open Go Go.Proofs Go.ChangeShapes Go.WideShapes Go.Joins Go.Deep
theorem sH {P : Program} {t e : TypeId} {f0 f1 : Field} (hs : P.underlying t = some (.struct #[f0, f1])) (hone : oneCellFields P #[f0, f1] = true) (hC : P.cellsOf t = 2) (h0 : f0.type = e) (h1 : f1.type = e) (he : P.underlying e = some (.int .i64)) : nr (Int × Int) P t := by
 intro H enc w fuel cs x h
 obtain ⟨y0, y1, n, _, hl, k0, k1⟩ := trod_struct2 hs h
 obtain ⟨o0, c0⟩ := hone_of hone 0 f0 rfl
 obtain ⟨o1, c1⟩ := hone_of hone 1 f1 rfl
 rw [hC] at hl
 match cs, hl with
 | [v0, v1], _ =>
   have k0' : DataW.trod enc P w 0 (fun _ => true) true n f0.type [v0] = some y0 := by simpa [o0, c0] using k0
   have k1' : DataW.trod enc P w 0 (fun _ => true) true n f1.type [v1] = some y1 := by simpa [o1, c1] using k1
   rw [h0] at k0'
   rw [h1] at k1'
   obtain ⟨a, ha⟩ := iu he enc w n [v0] y0 k0'
   obtain ⟨b, hb⟩ := iu he enc w n [v1] y1 k1'
   exact ⟨(a, b), [v0], [v1], rfl, ha, hb⟩
end TL
