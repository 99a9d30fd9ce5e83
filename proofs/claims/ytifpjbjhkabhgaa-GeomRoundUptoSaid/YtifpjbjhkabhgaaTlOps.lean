/-
  TlOps: what each operation comes to.
  By an AI agent.
-/
import Derived.Test.YtifpjbjhkabhgaaTlHeap
set_option linter.all false
namespace TL
open Go

abbrev inI (x : Int) : Prop := -9223372036854775808 ≤ x ∧ x ≤ 9223372036854775807
theorem wrap_in {x : Int} (h : inI x) : IntKind.i64.wrap x = x := by
  simp only [inI] at h
  rw [IntKind.wrap_i64]; omega

section
variable {P : Program} {f : Fr} {w : World} {dst : Option Tmp} {ty : TypeId} {pos : String} {after : Array Edge} {g : Option (Nat × Bool)}

theorem e_move {x : Operand} {v : Value} (hx : ev f x = v) : (execOp (ev f) ⟨dst, .move x, ty, pos, after, g⟩).run P w = .ok (.value v) w := by subst hx; rfl
theorem e_assign {x : Operand} {v : Value} (hx : ev f x = v) : (execOp (ev f) ⟨dst, .assign x, ty, pos, after, g⟩).run P w = .ok (.value v) w := by subst hx; rfl
theorem e_pick {c a b : Operand} {t : Bool} {va vb : Value} (hc : ev f c = .bool t) (ha : ev f a = va) (hb : ev f b = vb) : (execOp (ev f) ⟨dst, .pick c a b, ty, pos, after, g⟩).run P w = .ok (.value (bif t then va else vb)) w := by
  subst ha hb
  simp only [execOp, hc, asBool]
  cases t <;> rfl
theorem e_pick_t {c a b : Operand} {t : Bool} {va : Value} (hc : ev f c = .bool t) (ht : t = true) (ha : ev f a = va) : (execOp (ev f) ⟨dst, .pick c a b, ty, pos, after, g⟩).run P w = .ok (.value va) w := by
  subst ha ht
  simp only [execOp, hc, asBool]; rfl
theorem e_pick_f {c a b : Operand} {t : Bool} {vb : Value} (hc : ev f c = .bool t) (ht : t = false) (hb : ev f b = vb) : (execOp (ev f) ⟨dst, .pick c a b, ty, pos, after, g⟩).run P w = .ok (.value vb) w := by
  subst hb ht
  simp only [execOp, hc, asBool]; rfl
variable {t t' : TypeId} {x y : Operand}
theorem e_not {b : Bool} (hx : ev f x = .bool b) : (execOp (ev f) ⟨dst, .unOp .not t x, ty, pos, after, g⟩).run P w = .ok (.value (.bool !b)) w := by
  simp only [execOp, hx, Op.unary]; rfl
theorem e_neg {m : Int} (hx : ev f x = .int .i64 m) (hr : inI (-m)) : (execOp (ev f) ⟨dst, .unOp .neg t x, ty, pos, after, g⟩).run P w = .ok (.value (.int .i64 (-m))) w := by
  simp only [execOp, hx, Op.unary, Op.intArith]
  simp [wrap_in hr]

theorem run_bin_int (op : BinOp) (x y : Operand) {m n : Int} {k : IntKind} (hx : ev f x = .int k m) (hy : ev f y = .int k n) {v : Value} (h : (binOp op t (.int k m) (.int k n)).run P w = .ok v w) :
    (execOp (ev f) ⟨dst, .binOp op t x y t', ty, pos, after, g⟩).run P w = .ok (.value v) w := by
  have hg : (eqGuard op t x y (.int k m) (.int k n)).run P w = .ok () w := by
    unfold eqGuard
    split <;> rfl
  simp only [execOp, hx, hy, Sem.run_bind, hg, Result.andThen_ok, h, Sem.run_pure]

variable {m n : Int}
theorem e_add (hx : ev f x = .int .i64 m) (hy : ev f y = .int .i64 n) (hr : inI (m + n)) : (execOp (ev f) ⟨dst, .binOp .add t x y t', ty, pos, after, g⟩).run P w = .ok (.value (.int .i64 (m + n))) w :=
  run_bin_int .add x y hx hy (by simp [binOp, Op.intArith, wrap_in hr])
theorem e_sub (hx : ev f x = .int .i64 m) (hy : ev f y = .int .i64 n) (hr : inI (m - n)) : (execOp (ev f) ⟨dst, .binOp .sub t x y t', ty, pos, after, g⟩).run P w = .ok (.value (.int .i64 (m - n))) w :=
  run_bin_int .sub x y hx hy (by simp [binOp, Op.intArith, wrap_in hr])
theorem e_mul (hx : ev f x = .int .i64 m) (hy : ev f y = .int .i64 n) (hr : inI (m * n)) : (execOp (ev f) ⟨dst, .binOp .mul t x y t', ty, pos, after, g⟩).run P w = .ok (.value (.int .i64 (m * n))) w :=
  run_bin_int .mul x y hx hy (by simp [binOp, Op.intArith, wrap_in hr])
theorem e_quo (hx : ev f x = .int .i64 m) (hy : ev f y = .int .i64 n) (hm : 0 ≤ m) (hm2 : inI m) (hn : 0 < n) : (execOp (ev f) ⟨dst, .binOp .quo t x y t', ty, pos, after, g⟩).run P w = .ok (.value (.int .i64 (m / n))) w :=
  run_bin_int .quo x y hx hy (by
    have h0 : n ≠ 0 := by omega
    have h1 : m.tdiv n = m / n := Int.tdiv_eq_ediv_of_nonneg hm
    have h2 : inI (m / n) := by
      simp only [inI] at *
      have h3 : 0 ≤ m / n := Int.ediv_nonneg hm (by omega)
      have h4 : m / n ≤ m := Int.ediv_le_self n hm
      omega
    simp [binOp, Op.intDiv, h0, h1, wrap_in h2])
theorem e_rem (hx : ev f x = .int .i64 m) (hy : ev f y = .int .i64 n) (hm : 0 ≤ m) (hn : 0 < n) : (execOp (ev f) ⟨dst, .binOp .rem t x y t', ty, pos, after, g⟩).run P w = .ok (.value (.int .i64 (m % n))) w :=
  run_bin_int .rem x y hx hy (by
    have h0 : n ≠ 0 := by omega
    have h1 : m.tmod n = m % n := Int.tmod_eq_emod_of_nonneg hm
    simp [binOp, Op.intDiv, h0, h1])
variable {k : IntKind}
theorem e_lss (hx : ev f x = .int k m) (hy : ev f y = .int k n) : (execOp (ev f) ⟨dst, .binOp .lss t x y t', ty, pos, after, g⟩).run P w = .ok (.value (.bool (decide (m < n)))) w :=
  run_bin_int .lss x y hx hy (by simp [binOp, Op.intCmp])
theorem e_leq (hx : ev f x = .int k m) (hy : ev f y = .int k n) : (execOp (ev f) ⟨dst, .binOp .leq t x y t', ty, pos, after, g⟩).run P w = .ok (.value (.bool (decide (m ≤ n)))) w :=
  run_bin_int .leq x y hx hy (by simp [binOp, Op.intCmp])
theorem e_gtr (hx : ev f x = .int k m) (hy : ev f y = .int k n) : (execOp (ev f) ⟨dst, .binOp .gtr t x y t', ty, pos, after, g⟩).run P w = .ok (.value (.bool (decide (n < m)))) w :=
  run_bin_int .gtr x y hx hy (by simp [binOp, Op.intCmp])
theorem e_geq (hx : ev f x = .int k m) (hy : ev f y = .int k n) : (execOp (ev f) ⟨dst, .binOp .geq t x y t', ty, pos, after, g⟩).run P w = .ok (.value (.bool (decide (n ≤ m)))) w :=
  run_bin_int .geq x y hx hy (by simp [binOp, Op.intCmp])
theorem e_eql (hx : ev f x = .int k m) (hy : ev f y = .int k n) : (execOp (ev f) ⟨dst, .binOp .eql t x y t', ty, pos, after, g⟩).run P w = .ok (.value (.bool (decide (m = n)))) w :=
  run_bin_int .eql x y hx hy (by simp [binOp, Op.intCmp]; rfl)
theorem e_neq (hx : ev f x = .int k m) (hy : ev f y = .int k n) : (execOp (ev f) ⟨dst, .binOp .neq t x y t', ty, pos, after, g⟩).run P w = .ok (.value (.bool (!decide (m = n)))) w :=
  run_bin_int .neq x y hx hy (by simp [binOp, Op.intCmp]; rfl)
/-- any binary operation whose run is known -/
theorem e_bin (op : BinOp) {a b v : Value} (hx : ev f x = a) (hy : ev f y = b) (hg : (eqGuard op t x y a b).run P w = .ok () w) (h : (binOp op t a b).run P w = .ok v w) :
    (execOp (ev f) ⟨dst, .binOp op t x y t', ty, pos, after, g⟩).run P w = .ok (.value v) w := by
  simp only [execOp, hx, hy, Sem.run_bind, hg, Result.andThen_ok, h, Sem.run_pure]

/-! ### types -/
def aggD : TypeDesc → Bool
  | .struct _ | .array _ _ => true
  | _ => false
theorem run_underlying' {d : TypeDesc} (h : P.underlying t = some d) : (underlying t).run P w = .ok d w := by
  simp [underlying, h]
theorem run_isAgg {d : TypeDesc} (h : P.underlying t = some d) : (isAgg t).run P w = .ok (aggD d) w := by
  simp only [isAgg, Sem.run_bind, run_underlying' h, Result.andThen_ok]
  cases d <;> rfl
theorem run_sizeOf {i : TypeInfo} (h : P.info? t = some i) : (Go.sizeOf t).run P w = .ok i.size w := by simp [Go.sizeOf, typeInfo, h]
theorem run_zeroValue {i : TypeInfo} {z : Value} (h : P.info? t = some i) (hz : i.zero = some z) : (zeroValue t).run P w = .ok z w := by simp [zeroValue, typeInfo, h, hz]

/-- what is asked of a type: scalar or not, its size, its bytes, its zero value -/
structure Tp (P : Program) (t : TypeId) (agg : Bool) (size bytes : Nat) (z : Value) : Prop where
  desc : ∃ d, P.underlying t = some d ∧ aggD d = agg
  info : ∃ i, P.info? t = some i ∧ i.size = size ∧ i.bytes = bytes ∧ i.zero = some z

def tpB (P : Program) (t : TypeId) : Option (Bool × Nat × Nat × Option Value) :=
  match P.underlying t, P.info? t with
  | some d, some i => some (aggD d, i.size, i.bytes, i.zero)
  | _, _ => none
theorem Tp.of {agg : Bool} {size bytes : Nat} {z : Value} (h : tpB P t = some (agg, size, bytes, some z)) : Tp P t agg size bytes z := by
  unfold tpB at h
  split at h
  · rename_i d i hd hi
    simp only [Option.some.injEq, Prod.mk.injEq] at h
    exact ⟨⟨d, hd, h.1⟩, ⟨i, hi, h.2.1, h.2.2.1, h.2.2.2⟩⟩
  · cases h

/-! ### loads -/
theorem run_loadVar1 {size bytes : Nat} {z v : Value} {a : Addr} (ht : Tp P t false size bytes z) (hc : w.cell? a = some v) : (loadVar t a).run P w = .ok v w := by
  obtain ⟨d, hd, ha⟩ := ht.desc
  simp only [loadVar, Sem.run_bind, run_isAgg hd, ha, Result.andThen_ok]
  simp [hc]
theorem run_loadVarN {size bytes : Nat} {z : Value} {a : Addr} {cs : List Value} (ht : Tp P t true size bytes z) (hl : cs.length = size) (hc : ∀ j, j < size → w.cell? (a.add j) = cs[j]?) : (loadVar t a).run P w = .ok (.agg cs.toArray) w := by
  obtain ⟨d, hd, ha⟩ := ht.desc
  obtain ⟨i, hi, hs, _⟩ := ht.info
  have := run_loadCells_list (P := P) w a cs (fun j v hj => by
    have hlt : j < cs.length := (List.getElem?_eq_some_iff.1 hj).1
    rw [hc j (by omega)]; exact hj)
  simp only [loadVar, Sem.run_bind, run_isAgg hd, ha, Result.andThen_ok, if_true, run_sizeOf hi, hs]
  rw [hl] at this
  rw [this]
  rfl
theorem e_load1 {size bytes : Nat} {z v : Value} {a : Addr} (ht : Tp P t false size bytes z) (hx : ev f x = .pointer (some a)) (hc : w.cell? a = some v) : (execOp (ev f) ⟨dst, .load t x, ty, pos, after, g⟩).run P w = .ok (.value v) w := by
  simp only [execOp, hx, Instr.loadAt, Instr.sureAddr, Sem.run_bind, Sem.run_pure, Result.andThen_ok, run_loadVar1 ht hc]
theorem e_loadN {size bytes : Nat} {z : Value} {a : Addr} {cs : List Value} (ht : Tp P t true size bytes z) (hx : ev f x = .pointer (some a)) (hl : cs.length = size) (hc : ∀ j, j < size → w.cell? (a.add j) = cs[j]?) :
    (execOp (ev f) ⟨dst, .load t x, ty, pos, after, g⟩).run P w = .ok (.value (.agg cs.toArray)) w := by
  simp only [execOp, hx, Instr.loadAt, Instr.sureAddr, Sem.run_bind, Sem.run_pure, Result.andThen_ok, run_loadVarN ht hl hc]
theorem add_at (b o j : Nat) : (⟨b, o, none⟩ : Addr).add j = ⟨b, o + j, none⟩ := by
  unfold Addr.add; split <;> simp_all
/-- a field of a variable of the call's own -/
theorem e_load_bx1 {γ : Cmap} {J : Col → Prop} {b i size bytes : Nat} {z v : Value} {cs : List Value} (ht : Tp P t false size bytes z) (hx : ev f x = .pointer (some ⟨b, i, none⟩)) (hb : Bx γ J w b cs) (hv : cs[i]? = some v) : (execOp (ev f) ⟨dst, .load t x, ty, pos, after, g⟩).run P w = .ok (.value v) w :=
  e_load1 ht hx (by rw [hb.cell]; exact hv)
/-- the cells of such a variable from i on -/
theorem e_load_bxN {γ : Cmap} {J : Col → Prop} {b i size bytes : Nat} {z : Value} {cs ds : List Value} (ht : Tp P t true size bytes z) (hx : ev f x = .pointer (some ⟨b, i, none⟩)) (hb : Bx γ J w b cs) (hl : ds.length = size) (hv : (cs.drop i).take size = ds) : (execOp (ev f) ⟨dst, .load t x, ty, pos, after, g⟩).run P w = .ok (.value (.agg ds.toArray)) w :=
  e_loadN ht hx hl fun j hj => by
    rw [add_at, hb.cell, ← hv]
    simp [hj]

/-! ### addresses -/
theorem e_fieldAddr {fs : Array Field} {fd : Field} {i : Nat} {b o o2 s : Nat} (ht : P.underlying t = some (.struct fs)) (hf : fs[i]? = some fd) (hs : (P.info? fd.type).map (·.size) = some (s + 1)) (hx : ev f x = .pointer (some ⟨b, o, none⟩)) (ho : o + fd.offset = o2) :
    (execOp (ev f) ⟨dst, .fieldAddr t x i, ty, pos, after, g⟩).run P w = .ok (.value (.pointer (some ⟨b, o2, none⟩))) w := by
  subst ho
  cases hq : P.info? fd.type with
  | none => simp [hq] at hs
  | some q =>
    simp only [hq, Option.map_some, Option.some.injEq] at hs
    simp [execOp, hx, Instr.fieldAt, Instr.sureAddr, run_underlying' ht, hf, fieldPlace, run_sizeOf hq, hs, add_at]
/-- an element of an array variable -/
theorem e_indexAddr_arr {e len s b o o2 : Nat} {i : Int} (ht : P.underlying t = some (.array len e)) (hs : (P.info? e).map (·.size) = some s) (hx : ev f x = .pointer (some ⟨b, o, none⟩)) (hy : ev f y = .int k i) (h0 : 0 ≤ i) (h1 : i < len) (ho : o + i.toNat * s = o2) :
    (execOp (ev f) ⟨dst, .indexAddr t x y, ty, pos, after, g⟩).run P w = .ok (.value (.pointer (some ⟨b, o2, none⟩))) w := by
  subst ho
  cases hq : P.info? e with
  | none => simp [hq] at hs
  | some q =>
    simp only [hq, Option.map_some, Option.some.injEq] at hs
    simp [execOp, hx, hy, Instr.indexAt, asIntOf, Instr.sureAddr, run_underlying' ht, h0, h1, run_sizeOf hq, hs, add_at]
theorem e_indexAddr {α : Type} [Rp α] {γ : Cmap} {S : Col → Prop} {xs : List α} {v : Value} {e : Nat} {i : Int} (ht : P.underlying t = some (.slice e)) (hs : (P.info? e).map (·.size) = some (Rp.sz α)) (hx : ev f x = v) (hv : Sl γ S w v xs) (hy : ev f y = .int k i) (h0 : 0 ≤ i) (h1 : i < xs.length) :
    (execOp (ev f) ⟨dst, .indexAddr t x y, ty, pos, after, g⟩).run P w = .ok (.value (.pointer (some (eAddr v (Rp.sz α) i.toNat)))) w := by
  cases hq : P.info? e with
  | none => simp [hq] at hs
  | some q =>
    simp only [hq, Option.map_some, Option.some.injEq] at hs
    rcases hv with ⟨⟨_, rfl⟩, rfl⟩ | ⟨b, off, cap, rfl, _⟩
    · simp at h1; omega
    · simp [execOp, hx, hy, Instr.indexAt, asIntOf, run_underlying' ht, h0, h1, run_sizeOf hq, hs, add_at, eAddr]
theorem eAddr_add (v : Value) (s i j : Nat) : (eAddr v s i).add j = ⟨(eAddr v s i).block, (eAddr v s i).off + j, none⟩ := by
  unfold Addr.add eAddr
  split
  · rename_i h; subst h; split <;> rfl
  · rfl
/-- element i of a list, by an Int -/
def gI {α : Type} [Inhabited α] (xs : List α) (i : Int) : α := xs.getD i.toNat default
theorem gI_get {α : Type} [Inhabited α] {xs : List α} {i : Int} (h0 : 0 ≤ i) (h1 : i < xs.length) : xs[i.toNat]? = some (gI xs i) := by
  have : i.toNat < xs.length := by omega
  simp [gI, this]
theorem e_load_el1 {α : Type} [Rp α] [Fl α] [Inhabited α] {γ : Cmap} {S : Col → Prop} {xs : List α} {v u : Value} {size bytes : Nat} {z : Value} {i : Int} (ht : Tp P t false size bytes z) (hx : ev f x = .pointer (some (eAddr v (Rp.sz α) i.toNat))) (hv : Sl γ S w v xs) (h0 : 0 ≤ i) (h1 : i < xs.length)
    (hz : 0 < Rp.sz α) (hu : (Fl.cells (gI xs i))[0]? = some u) : (execOp (ev f) ⟨dst, .load t x, ty, pos, after, g⟩).run P w = .ok (.value u) w := by
  obtain ⟨cs, hcs, hr⟩ := hv.elem (gI_get h0 h1)
  have := hcs 0 hz
  refine e_load1 ht hx ?_
  rw [← hu, ← Fl.rep_iff.1 hr, ← this]
  rfl
theorem e_load_elN {α : Type} [Rp α] [Fl α] [Inhabited α] {γ : Cmap} {S : Col → Prop} {xs : List α} {v : Value} {bytes : Nat} {z : Value} {i : Int} {cs : List Value} (ht : Tp P t true (Rp.sz α) bytes z) (hx : ev f x = .pointer (some (eAddr v (Rp.sz α) i.toNat))) (hv : Sl γ S w v xs) (h0 : 0 ≤ i) (h1 : i < xs.length)
    (hu : Fl.cells (gI xs i) = cs) : (execOp (ev f) ⟨dst, .load t x, ty, pos, after, g⟩).run P w = .ok (.value (.agg cs.toArray)) w := by
  obtain ⟨cs', hcs, hr⟩ := hv.elem (gI_get h0 h1)
  obtain rfl : cs' = cs := (Fl.rep_iff.1 hr).trans hu
  exact e_loadN ht hx (Rp.len hr) hcs
/-- a field (cell q) of element i of a slice -/
theorem e_load_elF {α : Type} [Rp α] [Fl α] [Inhabited α] {γ : Cmap} {S : Col → Prop} {xs : List α} {v u : Value} {size bytes q : Nat} {z : Value} {i : Int} (ht : Tp P t false size bytes z) (hx : ev f x = .pointer (some ⟨(eAddr v (Rp.sz α) i.toNat).block, (eAddr v (Rp.sz α) i.toNat).off + q, none⟩)) (hv : Sl γ S w v xs) (h0 : 0 ≤ i) (h1 : i < xs.length)
    (hz : q < Rp.sz α) (hu : (Fl.cells (gI xs i))[q]? = some u) : (execOp (ev f) ⟨dst, .load t x, ty, pos, after, g⟩).run P w = .ok (.value u) w := by
  obtain ⟨cs, hcs, hr⟩ := hv.elem (gI_get h0 h1)
  have := hcs q hz
  refine e_load1 ht hx ?_
  rw [← hu, ← Fl.rep_iff.1 hr, ← this, eAddr_add]

theorem eAddr_eta (v : Value) (s i : Nat) : eAddr v s i = ⟨(eAddr v s i).block, (eAddr v s i).off, none⟩ := by
  unfold eAddr; split <;> rfl
/-- a place within an element's array -/
theorem e_indexAddr_el {e len s : Nat} {i : Int} {v : Value} {sz j : Nat} {o2 : Nat} (ht : P.underlying t = some (.array len e)) (hs : (P.info? e).map (·.size) = some s) (hx : ev f x = .pointer (some (eAddr v sz j))) (hy : ev f y = .int k i) (h0 : 0 ≤ i) (h1 : i < len) (ho : i.toNat * s = o2) :
    (execOp (ev f) ⟨dst, .indexAddr t x y, ty, pos, after, g⟩).run P w = .ok (.value (.pointer (some ⟨(eAddr v sz j).block, (eAddr v sz j).off + o2, none⟩))) w :=
  e_indexAddr_arr ht hs (by rw [hx]; exact congrArg (fun a => Value.pointer (some a)) (eAddr_eta v sz j)) hy h0 h1 (by rw [ho])
theorem e_fieldAddr_el {fs : Array Field} {fd : Field} {i : Nat} {v : Value} {sz j o2 s : Nat} (ht : P.underlying t = some (.struct fs)) (hf : fs[i]? = some fd) (hs : (P.info? fd.type).map (·.size) = some (s + 1)) (hx : ev f x = .pointer (some (eAddr v sz j))) (ho : fd.offset = o2) :
    (execOp (ev f) ⟨dst, .fieldAddr t x i, ty, pos, after, g⟩).run P w = .ok (.value (.pointer (some ⟨(eAddr v sz j).block, (eAddr v sz j).off + o2, none⟩))) w :=
  e_fieldAddr ht hf hs (by rw [hx]; exact congrArg (fun a => Value.pointer (some a)) (eAddr_eta v sz j)) (by rw [ho])
/-- one end of an edge -/
def pI (e : Int × Int) (i : Int) : Int := if i = 0 then e.1 else e.2
theorem pI_cells (e : Int × Int) {i : Int} (h0 : 0 ≤ i) (h1 : i < 2) : (Fl.cells e)[i.toNat]? = some (.int .i64 (pI e i)) := by
  have h : i = 0 ∨ i = 1 := by omega
  rcases h with rfl | rfl <;> rfl

/-! ### len, cap -/
theorem e_len {w1 : World} {α : Type} [Rp α] {γ : Cmap} {S : Col → Prop} {xs : List α} {v : Value} {e : Nat} (ht : P.underlying t = some (.slice e)) (hx : ev f x = v) (hv : Sl γ S w1 v xs) :
    (execOp (ev f) ⟨dst, .call { callee := .builtin .len, args := #[x], argTypes := #[t] }, ty, pos, after, g⟩).run P w = .ok (.value (.int .i64 xs.length)) w := by
  rw [hv.form] at hx
  simp [execOp, resolve, invoke, builtin, hx, Builtin.len_, run_underlying' ht, goInt]
theorem e_cap {w1 : World} {α : Type} [Rp α] {γ : Cmap} {S : Col → Prop} {xs : List α} {v : Value} {e : Nat} (ht : P.underlying t = some (.slice e)) (hx : ev f x = v) (hv : Sl γ S w1 v xs) :
    (execOp (ev f) ⟨dst, .call { callee := .builtin .cap, args := #[x], argTypes := #[t] }, ty, pos, after, g⟩).run P w = .ok (.value (.int .i64 (sCap v))) w := by
  have h := hv.form
  rw [h] at hx
  simp [execOp, resolve, invoke, builtin, hx, Builtin.cap_, run_underlying' ht, goInt]
theorem e_min {at_ : Array TypeId} (hx : ev f x = .int k m) (hy : ev f y = .int k n) : (execOp (ev f) ⟨dst, .call { callee := .builtin .min, args := #[x, y], argTypes := at_ }, ty, pos, after, g⟩).run P w = .ok (.value (.int k (min m n))) w := by
  have h : (if n < m then n else m) = min m n := by omega
  simp [execOp, resolve, invoke, builtin, hx, hy, Builtin.min_, Builtin.min2, h]
theorem e_max {at_ : Array TypeId} (hx : ev f x = .int k m) (hy : ev f y = .int k n) : (execOp (ev f) ⟨dst, .call { callee := .builtin .max, args := #[x, y], argTypes := at_ }, ty, pos, after, g⟩).run P w = .ok (.value (.int k (max m n))) w := by
  have h : (if m < n then n else m) = max m n := by omega
  simp [execOp, resolve, invoke, builtin, hx, hy, Builtin.max_, Builtin.max2, h]

/-! ### array values -/
theorem run_part {cs : Array Value} {o : Nat} {v : Value} {size bytes : Nat} {z : Value} (ht : Tp P t false size bytes z) (hv : cs[o]? = some v) : (part t cs o).run P w = .ok v w := by
  obtain ⟨d, hd, ha⟩ := ht.desc
  simp only [part, Sem.run_bind, run_isAgg hd, ha, Result.andThen_ok]
  simp [hv]
theorem e_index_arr {e len bytes : Nat} {i : Int} {cs : List Value} {v z : Value} (ht : P.underlying t = some (.array len e)) (he : Tp P e false 1 bytes z) (hx : ev f x = .agg cs.toArray) (hy : ev f y = .int k i) (h0 : 0 ≤ i) (h1 : i < len) (hv : cs[i.toNat]? = some v) :
    (execOp (ev f) ⟨dst, .index t x y, ty, pos, after, g⟩).run P w = .ok (.value v) w := by
  obtain ⟨q, hq, hs, _⟩ := he.info
  have hp := run_part (P := P) (w := w) (cs := cs.toArray) (o := i.toNat) he (by simpa using hv)
  simp [execOp, hx, hy, Instr.index, asIntOf, run_underlying' ht, h0, h1, run_sizeOf hq, hs, hp]
theorem e_field1 {fs : Array Field} {fd : Field} {i bytes size : Nat} {cs : List Value} {v z : Value} (ht : P.underlying t = some (.struct fs)) (hf : fs[i]? = some fd) (he : Tp P fd.type false size bytes z) (hx : ev f x = .agg cs.toArray) (hv : cs[fd.offset]? = some v) :
    (execOp (ev f) ⟨dst, .field t x i, ty, pos, after, g⟩).run P w = .ok (.value v) w := by
  have hp := run_part (P := P) (w := w) (cs := cs.toArray) (o := fd.offset) he (by simpa using hv)
  simp [execOp, hx, Instr.field, asAgg, run_underlying' ht, hf, hp]
theorem e_extract {i : Nat} {vs : List Value} {v : Value} (hx : ev f x = .tuple vs.toArray) (hv : vs[i]? = some v) :
    (execOp (ev f) ⟨dst, .extract x i, ty, pos, after, g⟩).run P w = .ok (.value v) w := by
  simp [execOp, hx, Instr.extract, hv]
/-- a struct or an array put together -/
theorem e_build {parts : List (Nat × Operand)} {vs : List (Nat × Value)} {v : Value} (hp : (parts.map fun x => (x.1, ev f x.2)) = vs) (h : (Instr.build t vs.toArray).run P w = .ok v w) :
    (execOp (ev f) ⟨dst, .build t parts.toArray, ty, pos, after, g⟩).run P w = .ok (.value v) w := by
  have hp' : (parts.toArray.map fun (i, x) => (i, ev f x)) = vs.toArray := by rw [← hp]; simp
  simp only [execOp, hp', Sem.run_bind, h, Result.andThen_ok, Sem.run_pure]
end

/-! ### operations that make or write memory -/
section
variable {P : Program} {f : Fr} {w : World} {dst : Option Tmp} {ty : TypeId} {pos : String} {after : Array Edge} {g : Option (Nat × Bool)} {t : TypeId} {x y : Operand}
variable {N : Value → World → Prop}

theorem o_of_val {o : Oper} {v : Value} {w' : World} (h : (execOp (ev f) o).run P w = .ok (.value v) w') (hk : N v w') : opT P o f w N := by unfold opT; rw [h]; exact hk
theorem o_of_eff {o : Oper} {w' : World} (h : (execOp (ev f) o).run P w = .ok .skip w') (hk : N undef w') : opT P o f w N := by unfold opT; rw [h]; exact hk
/-- a call whose result is known -/
theorem o_call {op : Op} {v : Value} {w' : World} {fid : Nat} {args : Array Value} {S : World → Prop} (h : (execOp (ev f) ⟨dst, op, ty, pos, after, g⟩).run P w = .ok (.enter fid args) w') (hc : Calls P fid args w' fun e w'' => e = .returned v ∧ S w'')
    (hk : ∀ w'', S w'' → N v w'') : opT P ⟨dst, op, ty, pos, after, g⟩ f w N := by
  unfold opT; rw [h]
  refine hc.mono fun e w'' he => ?_
  obtain ⟨rfl, hs⟩ := he
  exact hk w'' hs
theorem o_callx {op : Op} {w' : World} {σ : Type} {fid : Nat} {args : Array Value} {V : σ → Value} {S : σ → World → Prop} (h : (execOp (ev f) ⟨dst, op, ty, pos, after, g⟩).run P w = .ok (.enter fid args) w') (hc : Calls P fid args w' fun e w'' => ∃ x, e = .returned (V x) ∧ S x w'')
    (hk : ∀ x w'', S x w'' → N (V x) w'') : opT P ⟨dst, op, ty, pos, after, g⟩ f w N := by
  unfold opT; rw [h]
  refine hc.mono fun e w'' he => ?_
  obtain ⟨x, rfl, hs⟩ := he
  exact hk x w'' hs
/-- a new variable -/
theorem o_alloc (γ : Cmap) (J : Col → Prop) (c : Col) (hJ : J c) {agg : Bool} {size bytes : Nat} {z : Value} (ht : Tp P t agg size bytes z)
    (hk : ∀ γ' w' b, Chg no γ w γ' w' → Bx γ' J w' b z.cells.toList → N (.pointer (some ⟨b, 0, none⟩)) w') : opT P ⟨dst, .alloc t, ty, pos, after, g⟩ f w N := by
  obtain ⟨i, hi, _, _, hz⟩ := ht.info
  refine o_of_val (v := .pointer (some ⟨w.heap.size, 0, none⟩)) (w' := w.alloc (.cells z.cells t)) ?_ (hk (cset γ w.heap.size c) _ _ (chg_alloc γ w _ c) (bx_alloc γ w _ _ c hJ))
  simp [execOp, Instr.alloc, run_zeroValue hi hz, newVar, newRow]
theorem o_box (γ : Cmap) (J : Col → Prop) (c : Col) (hJ : J c) {v : Value} (hx : ev f x = v)
    (hk : ∀ γ' w' b, Chg no γ w γ' w' → Bx γ' J w' b v.cells.toList → N (.pointer (some ⟨b, 0, none⟩)) w') : opT P ⟨dst, .box t x, ty, pos, after, g⟩ f w N := by
  refine o_of_val (v := .pointer (some ⟨w.heap.size, 0, none⟩)) (w' := w.alloc (.cells v.cells t)) ?_ (hk (cset γ w.heap.size c) _ _ (chg_alloc γ w _ c) (bx_alloc γ w _ _ c hJ))
  simp [execOp, hx, Instr.box, newVar, newRow]

/-! stores -/
theorem run_storeVar_at {agg : Bool} {size bytes : Nat} {z v : Value} (ht : Tp P t agg size bytes z) {b o : Nat} {cur : Array Value} {e : TypeId} (hb : w.heap[b]? = some (.cells cur e (0, 0))) (hs : v.cells.size = size) (hl : o + size ≤ cur.size) (h1 : ∀ u ∈ v.cells.toList, u.oneCell' = true) :
    (storeVar t ⟨b, o, none⟩ v).run P w = .ok () (w.setRow b (cur.toList.take o ++ v.cells.toList ++ cur.toList.drop (o + size)).toArray) := by
  obtain ⟨i, hi, hsz, _⟩ := ht.info
  have hst := run_storeCells_at P b o e v.cells.toList 0 cur w hb (by simpa [hs] using hl) h1
  simp only [Nat.add_zero, Array.length_toList, hs] at hst
  simp [storeVar, run_sizeOf hi, hsz, hs, hst]
theorem run_store {agg : Bool} {size bytes : Nat} {z v : Value} (ht : Tp P t agg size bytes z) {b o : Nat} {cur : Array Value} {e : TypeId} (hx : ev f x = .pointer (some ⟨b, o, none⟩)) (hy : ev f y = v) (hb : w.heap[b]? = some (.cells cur e (0, 0))) (hs : v.cells.size = size) (hl : o + size ≤ cur.size) (h1 : ∀ u ∈ v.cells.toList, u.oneCell' = true) :
    (execOp (ev f) ⟨dst, .store t x y, ty, pos, after, g⟩).run P w = .ok .skip (w.setRow b (cur.toList.take o ++ v.cells.toList ++ cur.toList.drop (o + size)).toArray) := by
  simp [execOp, hx, hy, Instr.storeAt, Instr.sureAddr, run_storeVar_at ht hb hs hl h1]

theorem size_setRow (w : World) (b : Nat) (c : Array Value) : (w.setRow b c).heap.size = w.heap.size := by simp [World.setRow]
theorem chg_setRow (γ : Cmap) (w : World) (b : Nat) (c : Array Value) {J : Col → Prop} (hJ : J (γ b)) : Chg J γ w γ (w.setRow b c) :=
  ⟨rfl, rfl, rfl, by rw [size_setRow]; exact Nat.le_refl _, fun _ _ _ => rfl, fun k _ hk => setRow_other w b k c (fun h => hk (by subst h; exact hJ)), Nat.le_refl _⟩
theorem splice_get (l vs : List Value) (o k : Nat) (h : o + vs.length ≤ l.length) : (l.take o ++ vs ++ l.drop (o + vs.length))[k]? = if o ≤ k ∧ k < o + vs.length then vs[k - o]? else l[k]? := by
  have hm : (l.take o).length = o := by rw [List.length_take]; omega
  by_cases h1 : k < o
  · have h3 : ¬ (o ≤ k ∧ k < o + vs.length) := by omega
    rw [if_neg h3, List.append_assoc, List.getElem?_append_left (by omega), List.getElem?_take, if_pos h1]
  · by_cases h2 : k < o + vs.length
    · have h3 : o ≤ k ∧ k < o + vs.length := by omega
      rw [if_pos h3, List.getElem?_append_left (by simp; omega), List.getElem?_append_right (by omega), hm]
    · have h3 : ¬ (o ≤ k ∧ k < o + vs.length) := by omega
      rw [if_neg h3, List.getElem?_append_right (by simp; omega), List.getElem?_drop]
      congr 1
      rw [List.length_append, hm]
      omega

/-- a part of a variable of the call's own is written -/
theorem o_store_bx {γ : Cmap} {J : Col → Prop} {agg : Bool} {size bytes b o : Nat} {z v : Value} {cs cs' : List Value} (ht : Tp P t agg size bytes z) (hx : ev f x = .pointer (some ⟨b, o, none⟩)) (hy : ev f y = v) (hb : Bx γ J w b cs)
    (hs : v.cells.size = size) (hl : o + size ≤ cs.length) (h1 : v.cells.toList.all (·.oneCell') = true) (hcs : cs.take o ++ v.cells.toList ++ cs.drop (o + size) = cs')
    (hk : ∀ w', Chg J γ w γ w' → Bx γ J w' b cs' → N undef w') : opT P ⟨dst, .store t x y, ty, pos, after, g⟩ f w N := by
  obtain ⟨hJ, e, hbl⟩ := hb
  refine o_of_eff (run_store ht hx hy hbl hs (by simpa using hl) (fun u hu => List.all_eq_true.1 h1 u hu)) (hk _ (chg_setRow γ w b _ hJ) ⟨hJ, e, ?_⟩)
  rw [setRow_heap w b _ _ e _ hbl]
  simp [hcs]

/-- an element of an owned slice is written -/
theorem ow_set {α : Type} [Rp α] [Fl α] {γ : Cmap} {J S : Col → Prop} {v u : Value} {xs : List α} {i : Nat} {y : α} (hv : Ow γ J S w v xs) (hi : i < xs.length) (hu : u.cells.toList = Fl.cells y) :
    ∃ b o cur e, eAddr v (Rp.sz α) i = ⟨b, o, none⟩ ∧ w.heap[b]? = some (.cells cur e (0, 0)) ∧ o + Rp.sz α ≤ cur.size ∧ Chg J γ w γ (w.setRow b (cur.toList.take o ++ u.cells.toList ++ cur.toList.drop (o + Rp.sz α)).toArray) ∧
      Ow γ J S (w.setRow b (cur.toList.take o ++ u.cells.toList ++ cur.toList.drop (o + Rp.sz α)).toArray) v (xs.set i y) := by
  have hlen : ∀ y : α, (Fl.cells y).length = Rp.sz α := fun y => Rp.len (γ := γ) (S := S) (w := w) (Fl.rep_iff.2 rfl)
  rcases hv with ⟨rfl, rfl⟩ | ⟨b, cap, c, e, rfl, hc, hm, hJ, hb, hsz, hx⟩
  · simp at hi
  · have hle : i * Rp.sz α + Rp.sz α ≤ c.size := by
      rw [hsz, ← Nat.succ_mul]
      exact Nat.mul_le_mul_right _ (by omega)
    have hul : u.cells.toList.length = Rp.sz α := by rw [hu, hlen]
    refine ⟨b, i * Rp.sz α, c, e, by simp [eAddr], hb, hle, chg_setRow γ w b _ hJ, .inr ⟨b, cap, _, e, by simp, by simpa using hc, hm, hJ, setRow_heap w b _ _ e _ hb, ?_, fun k x hk => ?_⟩⟩
    · simp only [List.size_toArray, List.length_append, List.length_take, List.length_drop, Array.length_toList, hul]
      omega
    · have hks : ∀ j, j < Rp.sz α → (c.toList.take (i * Rp.sz α) ++ u.cells.toList ++ c.toList.drop (i * Rp.sz α + Rp.sz α)).toArray[k * Rp.sz α + j]? = if k = i then (Fl.cells y)[j]? else c[k * Rp.sz α + j]? := by
        intro j hj
        have h0 := splice_get c.toList u.cells.toList (i * Rp.sz α) (k * Rp.sz α + j) (by rw [hul]; simpa using hle)
        rw [hul] at h0
        rw [List.getElem?_toArray, h0]
        by_cases hki : k = i
        · subst hki
          have : k * Rp.sz α ≤ k * Rp.sz α + j ∧ k * Rp.sz α + j < k * Rp.sz α + Rp.sz α := by omega
          rw [if_pos this, if_pos rfl, hu]
          congr 1; omega
        · have : ¬ (i * Rp.sz α ≤ k * Rp.sz α + j ∧ k * Rp.sz α + j < i * Rp.sz α + Rp.sz α) := by
            rintro ⟨h1, h2⟩
            rcases Nat.lt_or_gt_of_ne hki with h | h
            · have h3 : (k + 1) * Rp.sz α ≤ i * Rp.sz α := Nat.mul_le_mul_right _ h
              rw [Nat.succ_mul] at h3; omega
            · have h3 : (i + 1) * Rp.sz α ≤ k * Rp.sz α := Nat.mul_le_mul_right _ h
              rw [Nat.succ_mul] at h3; omega
          rw [if_neg this, if_neg hki]; simp
      by_cases hki : k = i
      · subst hki
        have hxy : x = y := by
          rw [List.getElem?_set] at hk
          simp [hi] at hk
          exact hk.symm
        subst hxy
        exact ⟨Fl.cells x, fun j hj => by rw [hks j hj, if_pos rfl], Fl.rep_iff.2 rfl⟩
      · rw [List.getElem?_set_ne (Ne.symm hki)] at hk
        obtain ⟨cs, hcs, hr⟩ := hx k x hk
        exact ⟨cs, fun j hj => by rw [hks j hj, if_neg hki]; exact hcs j hj, Fl.rep_iff.2 (Fl.rep_iff.1 hr)⟩

theorem o_store_el {α : Type} [Rp α] [Fl α] {γ : Cmap} {J S : Col → Prop} {agg : Bool} {bytes : Nat} {z v u : Value} {xs : List α} {i : Int} (yv : α) (ht : Tp P t agg (Rp.sz α) bytes z) (hx : ev f x = .pointer (some (eAddr v (Rp.sz α) i.toNat))) (hy : ev f y = u) (hv : Ow γ J S w v xs) (h0 : 0 ≤ i) (h1 : i < xs.length)
    (hu : u.cells.toList = Fl.cells yv)
    (hk : ∀ w', Chg J γ w γ w' → Ow γ J S w' v (xs.set i.toNat yv) → N undef w') : opT P ⟨dst, .store t x y, ty, pos, after, g⟩ f w N := by
  have hlen : (Fl.cells yv).length = Rp.sz α := Rp.len (γ := γ) (S := S) (w := w) (Fl.rep_iff.2 rfl)
  obtain ⟨b, o, cur, e, ha, hb, hle, hc, hov⟩ := ow_set (u := u) (y := yv) hv (i := i.toNat) (by omega) hu
  rw [ha] at hx
  have hul : u.cells.size = Rp.sz α := by rw [← hlen, ← hu]; simp
  exact o_of_eff (run_store ht hx hy hb hul hle (fun q hq => Rp.one (γ := γ) (S := S) (w := w) (x := yv) (Fl.rep_iff.2 rfl) q (by rw [← hu]; exact hq))) (hk _ hc hov)

/-! a call of a function -/
theorem e_call {fid : Nat} {fn : Func} {args : List Operand} {at_ : Array TypeId} {vals : List Value} (hf : P.funcs[fid]? = some fn) (hb : fn.body.isNone = false) (hn : (fn.name == "runtime.NumGoroutine") = false) (ha : args.map (ev f) = vals) :
    (execOp (ev f) ⟨dst, .call { callee := .value (.func fid), args := args.toArray, argTypes := at_ }, ty, pos, after, g⟩).run P w = .ok (.enter fid vals.toArray) w := by
  have ha : args.toArray.map (ev f) = vals.toArray := by rw [← ha]; simp
  simp only [execOp, resolve, ev, Deferred.ofValue, invoke, callFunc, ha, Sem.run_bind, Sem.run_pure, Result.andThen_ok, run_program, hf, hn, hb, Bool.false_eq_true, if_false, Array.append_empty, Array.empty_append]

/-! slices made -/
theorem o_make {α : Type} [Rp α] [Fl α] (γ : Cmap) (J S : Col → Prop) (c : Col) (hJ : J c) {e bytes : Nat} {agg : Bool} {z : Value} (zv : α) {kl kc : IntKind} {l cp : Int} (ht : P.underlying t = some (.slice e)) (he : Tp P e agg (Rp.sz α) bytes z) (hz : z.cells.toList = Fl.cells zv)
    (hx : ev f x = .int kl l) (hy : ev f y = .int kc cp) (h0 : 0 ≤ l) (hlc : l ≤ cp) (hc : cp * bytes ≤ 281474976710656) (hc2 : cp ≤ 1099511627776)
    (hk : ∀ γ' w' v, Chg no γ w γ' w' → Ow γ' J S w' v (List.replicate l.toNat zv) → sCap v = cp.toNat → N v w') : opT P ⟨dst, .makeSlice t x y, ty, pos, after, g⟩ f w N := by
  have hlen : ∀ y : α, (Fl.cells y).length = Rp.sz α := fun y => Rp.len (γ := γ) (S := S) (w := w) (Fl.rep_iff.2 rfl)
  obtain ⟨i, hi, hs, hb, hz'⟩ := he.info
  have hr := run_make (P := P) w t e i z ht hi hz' kl kc l cp h0 hlc (by rw [hb, Int.mul_comm]; exact hc) (by omega)
  refine o_of_val (v := .slice (some ⟨w.heap.size, 0, none⟩) l.toNat cp.toNat) (w' := w.alloc (.cells (madeCells z.cells (cp.toNat * i.size)) e)) ?_ (hk (cset γ w.heap.size c) _ _ (chg_alloc γ w _ c) (.inr ⟨w.heap.size, cp.toNat, _, e, by simp, by simp; omega, ?_, by simpa [cset] using hJ, heap_alloc_new' w _, by simp [madeCells, hs], fun k x hkx => ?_⟩) rfl)
  · simp [execOp, hx, hy, hr]
  · unfold maxLen; omega
  · have hkl : k < l.toNat := by
      have := (List.getElem?_eq_some_iff.1 hkx).1
      simpa using this
    have hxz : x = zv := by
      rw [List.getElem?_replicate] at hkx
      simp [hkl] at hkx
      exact hkx.symm
    subst hxz
    refine ⟨Fl.cells x, fun j hj => ?_, Fl.rep_iff.2 rfl⟩
    have hzs : z.cells.size = Rp.sz α := by rw [← hlen x, ← hz]; simp
    have hlt : k * Rp.sz α + j < cp.toNat * i.size := by
      rw [hs]
      have h1 : (k + 1) * Rp.sz α ≤ cp.toNat * Rp.sz α := Nat.mul_le_mul_right _ (by omega)
      rw [Nat.succ_mul] at h1; omega
    have hmod : (k * Rp.sz α + j) % Rp.sz α = j := by rw [Nat.mul_comm, Nat.mul_add_mod]; exact Nat.mod_eq_of_lt hj
    simp only [madeCells]
    rw [Array.getElem?_map, Array.getElem?_range, if_pos hlt]
    simp only [Option.map_some, hzs, hmod]
    rw [← hz]
    have hjz : j < z.cells.size := by omega
    simp [hjz]

/-! slices with written-out elements -/
/-- the cells of a list -/
def flat {α : Type} [Rp α] [Fl α] (xs : List α) : List Value := xs.flatMap Fl.cells
theorem flat_len {α : Type} [Rp α] [Fl α] (xs : List α) : (flat xs).length = xs.length * Rp.sz α := by
  induction xs with
  | nil => simp [flat]
  | cons x xs ih =>
    have h : (Fl.cells x).length = Rp.sz α := Rp.len (γ := c0) (S := any) (w := default) (Fl.rep_iff.2 rfl)
    simp only [flat, List.flatMap_cons, List.length_append, List.length_cons, h] at ih ⊢
    rw [ih, Nat.succ_mul]; omega
theorem flat_get {α : Type} [Rp α] [Fl α] : ∀ (xs : List α) (i j : Nat) (x : α), xs[i]? = some x → j < Rp.sz α → (flat xs)[i * Rp.sz α + j]? = (Fl.cells x)[j]?
  | [], i, j, x, h, _ => by simp at h
  | y :: ys, i, j, x, h, hj => by
    have hl : (Fl.cells y).length = Rp.sz α := Rp.len (γ := c0) (S := any) (w := default) (Fl.rep_iff.2 rfl)
    cases i with
    | zero =>
      obtain rfl : y = x := by simpa using h
      simp only [flat, List.flatMap_cons, Nat.zero_mul, Nat.zero_add]
      rw [List.getElem?_append_left (by omega)]
    | succ i =>
      have h' : ys[i]? = some x := by simpa using h
      have ih := flat_get ys i j x h' hj
      simp only [flat, List.flatMap_cons] at ih ⊢
      rw [List.getElem?_append_right (by rw [hl, Nat.succ_mul]; omega), hl]
      rw [← ih]
      congr 1
      rw [Nat.succ_mul]; omega
theorem flat_append {α : Type} [Rp α] [Fl α] (xs ys : List α) : flat (xs ++ ys) = flat xs ++ flat ys := by simp [flat]

/-- the written-out elements -/
inductive Els {α : Type} [Rp α] [Fl α] : Nat → List (Nat × Value) → List α → Prop
  | nil {k : Nat} : Els k [] []
  | cons {k : Nat} {v : Value} {x : α} {vs : List (Nat × Value)} {xs : List α} (h : v.cells.toList = Fl.cells x) (t : Els (k + 1) vs xs) : Els k ((k, v) :: vs) (x :: xs)

theorem foldl_splice (pre post : List Value) : ∀ (cs mid done : List Value), mid.length = cs.length →
    (cs.zipIdx done.length).foldl (fun (a : Array Value) (x : Value × Nat) => a.setIfInBounds (pre.length + x.2) x.1) (pre ++ done ++ mid ++ post).toArray = (pre ++ done ++ cs ++ post).toArray
  | [], mid, done, h => by
    have : mid = [] := List.eq_nil_of_length_eq_zero (by simpa using h)
    subst this; simp
  | c :: cs, [], done, h => by simp at h
  | c :: cs, m :: mid, done, h => by
    simp only [List.zipIdx_cons, List.foldl_cons]
    have e1 : (pre ++ done ++ (m :: mid) ++ post).toArray.setIfInBounds (pre.length + done.length) c = (pre ++ (done ++ [c]) ++ mid ++ post).toArray := by
      rw [List.setIfInBounds_toArray]
      congr 1
      have : pre.length + done.length = (pre ++ done).length := by simp
      rw [this]
      simp
    rw [e1]
    have ih := foldl_splice pre post cs mid (done ++ [c]) (by simpa using h)
    simp only [List.length_append, List.length_cons, List.length_nil, Nat.zero_add] at ih
    rw [ih]
    simp
theorem fill_els {α : Type} [Rp α] [Fl α] : ∀ (vs : List (Nat × Value)) (xs : List α) (k : Nat) (pre rest : List Value), Els k vs xs → pre.length = k * Rp.sz α → rest.length = xs.length * Rp.sz α →
    Instr.fill (fun i => some (i * Rp.sz α, Rp.sz α)) (pre ++ rest).toArray vs = some (pre ++ flat xs).toArray
  | [], _, k, pre, rest, .nil, hp, hr => by
    have : rest = [] := List.eq_nil_of_length_eq_zero (by simpa using hr)
    subst this; simp [Instr.fill, flat]
  | (_, v) :: vs, x :: xs, k, pre, rest, .cons h t, hp, hr => by
    have hl : (Fl.cells x).length = Rp.sz α := Rp.len (γ := c0) (S := any) (w := default) (Fl.rep_iff.2 rfl)
    have hv : v.cells.size = Rp.sz α := by rw [← hl, ← h]; simp
    have hr' : rest.length = xs.length * Rp.sz α + Rp.sz α := by rw [hr, List.length_cons, Nat.succ_mul]
    have hsplit : rest = rest.take (Rp.sz α) ++ rest.drop (Rp.sz α) := (List.take_append_drop _ _).symm
    have hfold : (v.cells.zipIdx.foldl (fun cs (c, j) => cs.setIfInBounds (k * Rp.sz α + j) c) (pre ++ rest).toArray) = ((pre ++ Fl.cells x) ++ rest.drop (Rp.sz α)).toArray := by
      have h0 := foldl_splice pre (rest.drop (Rp.sz α)) v.cells.toList (rest.take (Rp.sz α)) [] (by simp [hv]; omega)
      simp only [List.append_nil, List.length_nil, hp] at h0
      rw [List.append_assoc pre, ← hsplit, h] at h0
      rw [← Array.foldl_toList, Array.toList_zipIdx, h]
      exact h0
    have hc : ¬ (v.cells.size ≠ Rp.sz α ∨ (pre ++ rest).toArray.size < k * Rp.sz α + v.cells.size) := by
      rw [hv]; simp [hp, hr']
    simp only [Instr.fill]
    have hc' : (decide (v.cells.size ≠ Rp.sz α) || decide (k * Rp.sz α + v.cells.size > (pre ++ rest).toArray.size)) = false := by
      rw [hv]; simp [hp, hr']
    rw [if_neg (by simpa using hc')]
    rw [hfold]
    have ih := fill_els vs xs (k + 1) (pre ++ Fl.cells x) (rest.drop (Rp.sz α)) t (by rw [List.length_append, hp, hl, Nat.succ_mul]) (by rw [List.length_drop, hr']; omega)
    rw [ih]
    simp [flat]

/-- a new slice with known elements -/
theorem o_buildSlice {α : Type} [Rp α] [Fl α] (γ : Cmap) (J S : Col → Prop) (c : Col) (hJ : J c) {e bytes len : Nat} {agg : Bool} {z : Value} {parts : List (Nat × Operand)} {vs : List (Nat × Value)} (xs : List α) (ht : P.underlying t = some (.slice e)) (he : Tp P e agg (Rp.sz α) bytes z)
    (hn : len * Rp.sz α ≠ 0) (hn2 : len * Rp.sz α ≤ 16777216) (hp : (parts.map fun x => (x.1, ev f x.2)) = vs) (hlen : xs.length = len)
    (hels : Els 0 vs xs)
    (hk : ∀ γ' w' v, Chg no γ w γ' w' → Ow γ' J S w' v xs → N v w') : opT P ⟨dst, .buildSlice t len parts.toArray, ty, pos, after, g⟩ f w N := by
  have hp' : (parts.toArray.map fun (i, x) => (i, ev f x)) = vs.toArray := by rw [← hp]; simp
  have hfill : Instr.fill (fun i => some (i * Rp.sz α, Rp.sz α)) ((Array.range (len * Rp.sz α)).map (z.cells[· % z.cells.size]!)) vs = some (flat xs).toArray := by
    have h0 := fill_els vs xs 0 [] (((Array.range (len * Rp.sz α)).map (z.cells[· % z.cells.size]!)).toList) hels (by simp) (by simp [hlen])
    simpa only [List.nil_append, Array.toArray_toList] using h0
  obtain ⟨i, hi, hs, hb, hz'⟩ := he.info
  refine o_of_val (v := .slice (some ⟨w.heap.size, 0, none⟩) len len) (w' := w.alloc (.cells (flat xs).toArray e)) ?_ (hk (cset γ w.heap.size c) _ _ (chg_alloc γ w _ c) (.inr ⟨w.heap.size, len, _, e, by rw [hlen], by
    have hz0 : 0 < Rp.sz α := Nat.pos_of_ne_zero fun h => hn (by simp [h])
    have h3 : len ≤ len * Rp.sz α := Nat.le_mul_of_pos_right _ hz0
    omega, ?_, by simpa [cset] using hJ, heap_alloc_new' w _, by simp [flat_len, hlen], fun k x hkx => ?_⟩))
  · have h1 : ¬ (2 ^ 24 < len * Rp.sz α) := by omega
    simp only [execOp, hp', Sem.run_bind, Instr.buildSlice, run_underlying' ht, Result.andThen_ok, run_sizeOf hi, hs]
    simp only [gt_iff_lt, h1, if_false, hn, run_zeroValue hi hz', Sem.run_bind, Sem.run_pure, Result.andThen_ok, hfill]
    simp [newRow]
  · have hz0 : 0 < Rp.sz α := Nat.pos_of_ne_zero fun h => hn (by simp [h])
    have h3 : len ≤ len * Rp.sz α := Nat.le_mul_of_pos_right _ hz0
    unfold maxLen; omega
  · exact ⟨Fl.cells x, fun j hj => by rw [List.getElem?_toArray]; exact flat_get xs k j x hkx hj, Fl.rep_iff.2 rfl⟩

theorem sl_cells {α : Type} [Rp α] [Fl α] {γ : Cmap} {S : Col → Prop} {b off cap : Nat} {xs : List α} (h : Sl γ S w (.slice (some ⟨b, off, none⟩) xs.length cap) xs) : ∀ j u, (flat xs)[j]? = some u → w.cell? ((⟨b, off, none⟩ : Addr).add j) = some u := by
  intro j u hj
  have hlt : j < xs.length * Rp.sz α := by rw [← flat_len]; exact (List.getElem?_eq_some_iff.1 hj).1
  have hz0 : 0 < Rp.sz α := Nat.pos_of_ne_zero fun h => by rw [h] at hlt; simp at hlt
  have hi : j / Rp.sz α < xs.length := Nat.div_lt_of_lt_mul (by rw [Nat.mul_comm]; exact hlt)
  have hx : xs[j / Rp.sz α]? = some xs[j / Rp.sz α] := List.getElem?_eq_getElem hi
  have hm : j % Rp.sz α < Rp.sz α := Nat.mod_lt _ hz0
  have hg := flat_get xs (j / Rp.sz α) (j % Rp.sz α) _ hx hm
  have hd : j / Rp.sz α * Rp.sz α + j % Rp.sz α = j := by rw [Nat.mul_comm]; exact Nat.div_add_mod j _
  rw [hd, hj] at hg
  obtain ⟨cs, hcs, hr⟩ := h.elem hx
  rw [Fl.rep_iff.1 hr] at hcs
  have h2 := hcs _ hm
  rw [← hg] at h2
  rw [← h2, add_at]
  simp only [eAddr, add_at]
  rw [Nat.add_assoc, hd]
theorem flat_one {α : Type} [Rp α] [Fl α] (xs : List α) : ∀ u ∈ flat xs, u.oneCell' = true := by
  intro u hu
  obtain ⟨x, hx, hu⟩ := List.mem_flatMap.1 hu
  exact Rp.one (γ := c0) (S := any) (w := default) (x := x) (Fl.rep_iff.2 rfl) u hu

theorem run_append_room' (t ty e e' : TypeId) (i : TypeInfo) (ht : P.underlying t = some (.slice e)) (hi : P.info? e = some i)
    (g sLen sCap : Nat) (cur : Array Value) (hg : w.heap[g]? = some (.cells cur e' (0, 0)))
    (a : Addr) (m c : Nat) (news : List Value) (hl : news.length = m * i.size) (hnews : ∀ j u, news[j]? = some u → w.cell? (a.add j) = some u) (h1 : ∀ u ∈ news, u.oneCell' = true)
    (hroom : sLen + m ≤ sCap) (hfit : sLen * i.size + news.length ≤ cur.size) :
    (Builtin.append_ #[t, t] ty #[.slice (some ⟨g, 0, none⟩) sLen sCap, .slice (some a) m c]).run P w =
      .ok (.slice (some ⟨g, 0, none⟩) (sLen + m) sCap) (w.setRow g (cur.toList.take (sLen * i.size) ++ news ++ cur.toList.drop (sLen * i.size + news.length)).toArray) := by
  have hf := run_firstCells_some (P := P) w i.size m a m c news hl hnews
  have hst := run_storeCells_at P g (sLen * i.size) e' news 0 cur w hg (by simpa using hfit) h1
  simp only [Nat.add_zero] at hst
  simp [Builtin.append_, run_underlying ht, Go.sizeOf, typeInfo, hi, Builtin.lenOf, hroom, hf, Addr.add_lit, hst]

theorem run_append {α : Type} [Rp α] [Fl α] (γ : Cmap) {J S S' : Col → Prop} (c : Col) (hJ : J c) {e bytes : Nat} {agg : Bool} {z v u : Value} {xs ys : List α} (ht : P.underlying t = some (.slice e)) (he : Tp P e agg (Rp.sz α) bytes z) (hz0 : 0 < Rp.sz α) (hzc : z.cells.size = Rp.sz α)
    (hv : Ow γ J S w v xs) (hu : Sl γ S' w u ys) (hby : bytes ≤ 128) (hlen2 : xs.length + ys.length ≤ 1099511627776) :
    ∃ γ' w' v', (Builtin.append_ #[t, t] ty #[v, u]).run P w = .ok v' w' ∧ Chg J γ w γ' w' ∧ Ow γ' J S w' v' (xs ++ ys) := by
  obtain ⟨i, hi, hs, hb, hz'⟩ := he.info
  have hlen : (xs.length + ys.length) * bytes ≤ 140737488355328 := by
    have := Nat.mul_le_mul hlen2 hby
    omega
  rcases hu with ⟨⟨a2, rfl⟩, rfl⟩ | ⟨b2, off2, cap2, rfl, hc2, hx2⟩
  · refine ⟨γ, w, v, ?_, Chg.refl _ _ _, by simpa using hv⟩
    have hv' := hv
    rcases hv with ⟨rfl, rfl⟩ | ⟨b, cap, cc, e', rfl, hc, hm, hJb, hbl, hcs, hx⟩
    · cases a2 <;> simp [Builtin.append_, run_underlying' ht, run_sizeOf hi, Builtin.lenOf, Builtin.firstCells, storeCells, loadCells, loadCellsFrom]
    · cases a2 <;> simp [Builtin.append_, run_underlying' ht, run_sizeOf hi, Builtin.lenOf, Builtin.firstCells, storeCells, loadCells, loadCellsFrom, hc]
  · have hsl : Sl γ S' w (.slice (some ⟨b2, off2, none⟩) ys.length cap2) ys := .inr ⟨b2, off2, cap2, rfl, hc2, hx2⟩
    have hnews := sl_cells hsl
    have grown : ∀ (old : Nat), Ow (cset γ w.heap.size c) J S (w.drew.alloc (.cells ((flat xs).toArray ++ (flat ys).toArray ++ Builtin.zeroCells z.cells (grownCap w (xs.length + ys.length) old e - (xs.length + ys.length))) e))
        (.slice (some ⟨w.heap.size, 0, none⟩) (xs.length + ys.length) (grownCap w (xs.length + ys.length) old e)) (xs ++ ys) := by
      intro old
      have hge := grownCap_ge w (xs.length + ys.length) old e
      have hle := grownCap_le_maxLen w (xs.length + ys.length) old e (by unfold maxLen; omega)
      refine .inr ⟨w.heap.size, _, _, e, by rw [List.length_append], by rw [List.length_append]; exact ⟨hge, hlen2⟩, hle, by simpa [cset] using hJ, heap_alloc_new' w.drew _, ?_, fun k x hk => ⟨Fl.cells x, fun j hj => ?_, Fl.rep_iff.2 rfl⟩⟩
      · simp only [Array.size_append, List.size_toArray, flat_len, size_zeroCells, hzc]
        rw [← Nat.add_mul, ← Nat.add_mul]
        congr 1
        omega
      · have hf := flat_get (xs ++ ys) k j x hk hj
        rw [← hf, flat_append]
        have hlt : k * Rp.sz α + j < (flat xs ++ flat ys).length := by
          rw [← flat_append, flat_len]
          have h1 : k < (xs ++ ys).length := (List.getElem?_eq_some_iff.1 hk).1
          have h2 : (k + 1) * Rp.sz α ≤ (xs ++ ys).length * Rp.sz α := Nat.mul_le_mul_right _ h1
          rw [Nat.succ_mul] at h2; omega
        rw [Array.getElem?_append_left (by simpa using hlt)]
        simp
    have hchg : ∀ (old : Nat), Chg J γ w (cset γ w.heap.size c) (w.drew.alloc (.cells ((flat xs).toArray ++ (flat ys).toArray ++ Builtin.zeroCells z.cells (grownCap w (xs.length + ys.length) old e - (xs.length + ys.length))) e)) := fun old =>
      ⟨rfl, rfl, rfl, by simp, fun k hk _ => by simp [cset, Nat.ne_of_lt hk], fun k hk _ => RowKit.Below.heap_alloc w.drew _ k hk, Nat.le_succ _⟩
    rcases hv with ⟨rfl, rfl⟩ | ⟨b, cap, cc, e', rfl, hc, hm, hJb, hbl, hcs, hx⟩
    · by_cases h0 : ys.length = 0
      · have hy : ys = [] := List.eq_nil_of_length_eq_zero h0
        subst hy
        refine ⟨γ, w, .slice none 0 0, ?_, Chg.refl _ _ _, Ow.nil⟩
        simp [Builtin.append_, run_underlying' ht, run_sizeOf hi, Builtin.lenOf, Builtin.firstCells, loadCells, loadCellsFrom]
      · have hr := run_append_nil (P := P) w t ty e i z ht hi hz' ⟨b2, off2, none⟩ ys.length cap2 (flat ys) (by rw [flat_len, hs]) hnews (by omega) (by simp at hlen2; omega) (by rw [hb]; simp at hlen; omega)
        have hg := grown 0
        have hch := hchg 0
        simp only [List.length_nil, Nat.zero_add, List.nil_append, show flat ([] : List α) = [] from rfl, Array.empty_append] at hg hch ⊢
        exact ⟨_, _, _, hr, hch, hg⟩
    · by_cases hroom : xs.length + ys.length ≤ cap
      · have hfit : xs.length * i.size + (flat ys).length ≤ cc.size := by
          rw [flat_len, hs, hcs, ← Nat.add_mul]; exact Nat.mul_le_mul_right _ hroom
        have hr := run_append_room' (P := P) (w := w) t ty e e' i ht hi b xs.length cap cc hbl ⟨b2, off2, none⟩ ys.length cap2 (flat ys) (by rw [flat_len, hs]) hnews (flat_one ys) hroom hfit
        have hr' : (Builtin.append_ #[t, t] ty #[.slice (some ⟨b, 0, none⟩) xs.length cap, .slice (some ⟨b2, off2, none⟩) ys.length cap2]).run P w = _ := hr
        refine ⟨γ, _, _, hr', chg_setRow γ w b _ hJb, .inr ⟨b, cap, _, e', by rw [List.length_append], by rw [List.length_append]; exact ⟨hroom, hlen2⟩, hm, hJb, setRow_heap w b _ _ e' _ hbl, ?_, fun k x hk => ⟨Fl.cells x, fun j hj => ?_, Fl.rep_iff.2 rfl⟩⟩⟩
        · simp only [List.size_toArray, List.length_append, List.length_take, List.length_drop, Array.length_toList]
          rw [← hcs]
          omega
        · rw [List.getElem?_toArray, hs]
          have hfit' := hfit
          rw [hs] at hfit'
          have h0 := splice_get cc.toList (flat ys) (xs.length * Rp.sz α) (k * Rp.sz α + j) (by simpa using hfit')
          rw [h0, flat_len]
          have hkl : k < xs.length + ys.length := by have := (List.getElem?_eq_some_iff.1 hk).1; simpa using this
          by_cases hkx : k < xs.length
          · have h3 : (k + 1) * Rp.sz α ≤ xs.length * Rp.sz α := Nat.mul_le_mul_right _ hkx
            rw [Nat.succ_mul] at h3
            rw [if_neg (by omega)]
            rw [List.getElem?_append_left hkx] at hk
            obtain ⟨cs, hcs', hrr⟩ := hx k x hk
            rw [← Fl.rep_iff.1 hrr, ← hcs' j hj]; simp
          · have h3 : (k + 1) * Rp.sz α ≤ (xs.length + ys.length) * Rp.sz α := Nat.mul_le_mul_right _ hkl
            have h4 : xs.length * Rp.sz α ≤ k * Rp.sz α := Nat.mul_le_mul_right _ (by omega)
            rw [Nat.succ_mul, Nat.add_mul] at h3
            rw [if_pos (by omega)]
            rw [List.getElem?_append_right (by omega)] at hk
            rw [← flat_get ys (k - xs.length) j x hk hj]
            congr 1
            rw [Nat.sub_mul]; omega
      · have holds := sl_cells (xs := xs) (γ := γ) (S := J) (cap := cap) (b := b) (off := 0) (w := w) (Ow.flat (J := J) (S := S) (.inr ⟨b, cap, cc, e', rfl, hc, hm, hJb, hbl, hcs, hx⟩))
        have hr := run_append_grow (P := P) w t ty e i z ht hi hz' ⟨b, 0, none⟩ xs.length cap (flat xs) (by rw [flat_len, hs]) holds ⟨b2, off2, none⟩ ys.length cap2 (flat ys) (by rw [flat_len, hs]) hnews (by omega) (by omega) (growslice_fits (by omega) (by rw [hb]; exact hlen))
        exact ⟨_, _, _, hr, hchg cap, grown cap⟩

theorem o_append {α : Type} [Rp α] [Fl α] (γ : Cmap) {J S S' : Col → Prop} (c : Col) (hJ : J c) {e bytes : Nat} {agg : Bool} {z v u : Value} {xs ys : List α} (ht : P.underlying t = some (.slice e)) (he : Tp P e agg (Rp.sz α) bytes z) (hz0 : 0 < Rp.sz α) (hzc : z.cells.size = Rp.sz α)
    (hx : ev f x = v) (hy : ev f y = u) (hv : Ow γ J S w v xs) (hu : Sl γ S' w u ys) (hby : bytes ≤ 128) (hlen2 : xs.length + ys.length ≤ 1099511627776)
   
    (hk : ∀ γ' w' v', Chg J γ w γ' w' → Ow γ' J S w' v' (xs ++ ys) → N v' w') : opT P ⟨dst, .call { callee := .builtin .append, args := #[x, y], argTypes := #[t, t] }, ty, pos, after, g⟩ f w N := by
  obtain ⟨γ', w', v', hr, hc, ho⟩ := run_append (ty := ty) γ c hJ ht he hz0 hzc hv hu hby hlen2
  refine o_of_val ?_ (hk γ' w' v' hc ho)
  simp only [execOp, resolve, invoke, builtin, Sem.run_bind, Sem.run_pure, Result.andThen_ok, List.map_toArray, List.map_cons, List.map_nil, hx, hy, hr]

/-! a part of a slice -/
def subV (v : Value) (sz lo hi : Nat) : Value :=
  match v with
  | .slice a _ c => .slice (if c = lo then a else a.map (·.add (lo * sz))) (hi - lo) (c - lo)
  | v => v
theorem sl_sub {α : Type} [Rp α] {γ : Cmap} {S : Col → Prop} {v : Value} {xs : List α} {lo hi : Nat} (h : Sl γ S w v xs) (h1 : lo ≤ hi) (h2 : hi ≤ xs.length) : Sl γ S w (subV v (Rp.sz α) lo hi) ((xs.take hi).drop lo) := by
  rcases h with ⟨⟨_, rfl⟩, rfl⟩ | ⟨b, off, cap, rfl, hc, hx⟩
  · simp only [List.length_nil] at h2
    have : hi = 0 := by omega
    have : lo = 0 := by omega
    subst_vars
    exact .inl ⟨⟨_, by simp [subV]; rfl⟩, by simp⟩
  · have hl : ((xs.take hi).drop lo).length = hi - lo := by simp; omega
    by_cases hcl : cap = lo
    · have : hi = lo := by omega
      subst this
      refine .inr ⟨b, off, cap - hi, by simp [subV, hcl], by rw [hl]; omega, fun i x hi' => ?_⟩
      have := (List.getElem?_eq_some_iff.1 hi').1
      omega
    · refine .inr ⟨b, off + lo * Rp.sz α, cap - lo, by simp [subV, hcl, add_at]; omega, by rw [hl]; omega, fun i x hi' => ?_⟩
      have hlt := (List.getElem?_eq_some_iff.1 hi').1
      rw [List.getElem?_drop, List.getElem?_take] at hi'
      rw [if_pos (by omega)] at hi'
      obtain ⟨h3, h4, cs, hcs, hr⟩ := hx (lo + i) x hi'
      refine ⟨h3, h4, cs, fun j hj => ?_, hr⟩
      rw [← hcs j hj, Nat.add_mul]
      congr 2
      omega
theorem e_slice {w1 : World} {α : Type} [Rp α] {γ : Cmap} {S : Col → Prop} {v : Value} {xs : List α} {e : Nat} {lo hi : Option Operand} {l h : Int} (ht : P.underlying t = some (.slice e)) (hs : (P.info? e).map (·.size) = some (Rp.sz α)) (hx : ev f x = v) (hv : Sl γ S w1 v xs)
    (hlo : lo.map (ev f) = some (.int .i64 l) ∨ lo = none ∧ l = 0) (hhi : hi.map (ev f) = some (.int .i64 h) ∨ hi = none ∧ h = xs.length) (h0 : 0 ≤ l) (h1 : l ≤ h) (h2 : h ≤ xs.length) :
    (execOp (ev f) ⟨dst, .slice t x lo hi none, ty, pos, after, g⟩).run P w = .ok (.value (subV v (Rp.sz α) l.toNat h.toNat)) w := by
  cases hq : P.info? e with
  | none => simp [hq] at hs
  | some q =>
    simp only [hq, Option.map_some, Option.some.injEq] at hs
    have hf := hv.form
    have hc := hv.cap
    generalize sAddr v = a at hf
    generalize sCap v = c at hf hc
    subst hf
    have hb : (Instr.sliceBounds true xs.length c (lo.map (ev f)) (hi.map (ev f)) none).run P w = .ok (l.toNat, h.toNat, c) w := by
      have e1 : h ≤ (c : Int) := by omega
      have e0 : 0 ≤ h := by omega
      have e2 : l ≤ ((h.toNat : Nat) : Int) := by omega
      rcases hlo with hlo | ⟨rfl, rfl⟩ <;> rcases hhi with hhi | ⟨rfl, rfl⟩ <;> simp [Instr.sliceBounds, Instr.sliceBound, asIntOf, *] <;> omega
    have hsub : execOp (ev f) ⟨dst, .slice t x lo hi none, ty, pos, after, g⟩ = (do pure (.value (← Instr.sliceAt t (.slice a xs.length c) (lo.map (ev f)) (hi.map (ev f)) none))) := by
      simp [execOp, hx]
    rw [hsub]
    simp [Instr.sliceAt, Instr.slice, run_underlying' ht, hb, run_sizeOf hq, hs, subV]
theorem subV_zero (v : Value) (sz hi : Nat) : subV v sz 0 hi = match v with | .slice a _ c => .slice a hi c | v => v := by
  unfold subV
  cases v <;> simp
  rename_i a _ c
  intro _
  cases a with
  | none => rfl
  | some a => simp [Addr.add]
theorem ow_take {α : Type} [Rp α] {γ : Cmap} {J S : Col → Prop} {v : Value} {xs : List α} {hi : Nat} (h : Ow γ J S w v xs) (h2 : hi ≤ xs.length) : Ow γ J S w (subV v (Rp.sz α) 0 hi) (xs.take hi) := by
  rw [subV_zero]
  rcases h with ⟨rfl, rfl⟩ | ⟨b, cap, c, e, rfl, hc, hm, hJ, hb, hcs, hx⟩
  · simp at h2; subst h2; exact .inl ⟨rfl, by simp⟩
  · have hl : (xs.take hi).length = hi := by simp; omega
    refine .inr ⟨b, cap, c, e, by rw [hl], by omega, hm, hJ, hb, hcs, fun i x hi' => ?_⟩
    rw [List.getElem?_take] at hi'
    split at hi'
    · exact hx i x hi'
    · cases hi'
end

theorem load_bx1 {P : Program} {w : World} {t : TypeId} {γ : Cmap} {J : Col → Prop} {b i size bytes : Nat} {z v : Value} {cs : List Value} (ht : Tp P t false size bytes z) (hb : Bx γ J w b cs) (hv : cs[i]? = some v) : (loadVar t ⟨b, i, none⟩).run P w = .ok v w :=
  run_loadVar1 ht (by rw [hb.cell]; exact hv)
theorem load_bxN {P : Program} {w : World} {t : TypeId} {γ : Cmap} {J : Col → Prop} {b i size bytes : Nat} {z : Value} {cs ds : List Value} (ht : Tp P t true size bytes z) (hb : Bx γ J w b cs) (hl : ds.length = size) (hv : (cs.drop i).take size = ds) : (loadVar t ⟨b, i, none⟩).run P w = .ok (.agg ds.toArray) w :=
  run_loadVarN ht hl fun j hj => by
    rw [add_at, hb.cell, ← hv]
    simp [hj]
theorem sl_one {α : Type} [Rp α] {γ : Cmap} {S : Col → Prop} {w : World} {v : Value} {xs : List α} (h : Sl γ S w v xs) : v.oneCell' = true := by
  rcases h with ⟨⟨_, rfl⟩, _⟩ | ⟨b, off, cap, rfl, _⟩ <;> rfl
theorem sl_cells1 {α : Type} [Rp α] {γ : Cmap} {S : Col → Prop} {w : World} {v : Value} {xs : List α} (h : Sl γ S w v xs) : v.cells = #[v] := by
  rcases h with ⟨⟨_, rfl⟩, _⟩ | ⟨b, off, cap, rfl, _⟩ <;> rfl
theorem congr2 {α β γ : Type} (f : α → β → γ) {a a' : α} {b b' : β} (h1 : a = a') (h2 : b = b') : f a b = f a' b' := by subst h1 h2; rfl
theorem congr3 {α β γ δ : Type} (f : α → β → γ → δ) {a a' : α} {b b' : β} {c c' : γ} (h1 : a = a') (h2 : b = b') (h3 : c = c') : f a b c = f a' b' c' := by subst h1 h2 h3; rfl
theorem congr4 {α β γ δ ε : Type} (f : α → β → γ → δ → ε) {a a' : α} {b b' : β} {c c' : γ} {d d' : δ} (h1 : a = a') (h2 : b = b') (h3 : c = c') (h4 : d = d') : f a b c d = f a' b' c' d' := by subst h1 h2 h3 h4; rfl

/-! lists, by an Int -/
theorem take_succ_gI {α : Type} [Inhabited α] {xs : List α} {k : Nat} (h : (k : Int) < xs.length) : xs.take (k + 1) = xs.take k ++ [gI xs k] := by
  have h' : k < xs.length := by omega
  rw [List.take_succ_eq_append_getElem h']
  simp [gI, h']
theorem gI_mem {α : Type} [Inhabited α] {xs : List α} {i : Int} (h0 : 0 ≤ i) (h1 : i < xs.length) : gI xs i ∈ xs := by
  have h' : i.toNat < xs.length := by omega
  simp [gI, h']
end TL
namespace TL
open Go
section
variable {P : Program} {f : Fr} {w : World} {dst : Option Tmp} {ty : TypeId} {pos : String} {after : Array Edge} {g : Option (Nat × Bool)} {t t' e : TypeId} {x y : Operand}
theorem run_equalIn_int {d : Nat} {e : TypeId} {a b : Int} (he : P.underlying e = some (.int .i64)) : (Op.equalIn (d + 1) e (.int .i64 a) (.int .i64 b)).run P w = .ok (a == b) w := by
  simp [Op.equalIn, run_underlying' he]
theorem run_equalIn_pair {d : Nat} {a b : Int × Int} {bytes : Nat} {z : Value} (ht : P.underlying t = some (.array 2 e)) (he : P.underlying e = some (.int .i64)) (hp : Tp P e false 1 bytes z) : (Op.equalIn (d + 2) t (.agg #[.int .i64 a.1, .int .i64 a.2]) (.agg #[.int .i64 b.1, .int .i64 b.2])).run P w = .ok (decide (a = b)) w := by
  obtain ⟨i, hi, hs, _⟩ := hp.info
  obtain ⟨a1, a2⟩ := a
  obtain ⟨b1, b2⟩ := b
  have h0 := fun (x y : Int) => run_part (P := P) (w := w) (cs := #[.int .i64 x, .int .i64 y]) (o := 0) hp (v := .int .i64 x) (by rfl)
  have h1 := fun (x y : Int) => run_part (P := P) (w := w) (cs := #[.int .i64 x, .int .i64 y]) (o := 1) hp (v := .int .i64 y) (by rfl)
  have hq := fun (a b : Int) => run_equalIn_int (P := P) (w := w) (d := d) (a := a) (b := b) he
  have hr : (List.range' 0 2 1) = [0, 1] := rfl
  rw [Op.equalIn]
  simp only [Sem.run_bind, run_underlying' ht, Result.andThen_ok, run_sizeOf hi, hs]
  rw [Std.Legacy.Range.forIn_eq_forIn_range']
  simp only [Std.Legacy.Range.size, Nat.sub_zero, Nat.reduceAdd, Nat.reduceSub, Nat.div_one, hr]
  simp only [List.forIn_cons, List.forIn_nil, Nat.zero_mul, Nat.one_mul, Sem.run_bind, h0, h1, hq, Result.andThen_ok]
  by_cases e1 : a1 = b1
  · by_cases e2 : a2 = b2
    · simp [e1, e2, h0, h1, hq]
    · simp [e1, e2, h0, h1, hq]
  · simp [e1, h0, h1, hq]
theorem run_eql_pair {a b : Int × Int} {bytes : Nat} {z : Value} (ht : P.underlying t = some (.array 2 e)) (he : P.underlying e = some (.int .i64)) (hp : Tp P e false 1 bytes z) : (Op.equal t (.agg #[.int .i64 a.1, .int .i64 a.2]) (.agg #[.int .i64 b.1, .int .i64 b.2])).run P w = .ok (decide (a = b)) w :=
  run_equalIn_pair (d := 9998) ht he hp
theorem e_eql_pair {a b : Int × Int} {bytes : Nat} {z : Value} (ht : P.underlying t = some (.array 2 e)) (he : P.underlying e = some (.int .i64)) (hp : Tp P e false 1 bytes z) (hg : P.eqGuardType P.depth t = false)
    (hx : ev f x = .agg (List.toArray [.int .i64 a.1, .int .i64 a.2])) (hy : ev f y = .agg (List.toArray [.int .i64 b.1, .int .i64 b.2])) : (execOp (ev f) ⟨dst, .binOp .eql t x y t', ty, pos, after, g⟩).run P w = .ok (.value (.bool (decide (a = b)))) w :=
  e_bin .eql hx hy (by simp [eqGuard, hg]) (by simp [binOp, run_eql_pair ht he hp])
theorem e_neq_pair {a b : Int × Int} {bytes : Nat} {z : Value} (ht : P.underlying t = some (.array 2 e)) (he : P.underlying e = some (.int .i64)) (hp : Tp P e false 1 bytes z) (hg : P.eqGuardType P.depth t = false)
    (hx : ev f x = .agg (List.toArray [.int .i64 a.1, .int .i64 a.2])) (hy : ev f y = .agg (List.toArray [.int .i64 b.1, .int .i64 b.2])) : (execOp (ev f) ⟨dst, .binOp .neq t x y t', ty, pos, after, g⟩).run P w = .ok (.value (.bool (!decide (a = b)))) w :=
  e_bin .neq hx hy (by simp [eqGuard, hg]) (by simp [binOp, run_eql_pair ht he hp])
end
end TL
namespace TL
open Go
section
variable {P : Program} {f : Fr} {w : World} {dst : Option Tmp} {ty : TypeId} {pos : String} {after : Array Edge} {g : Option (Nat × Bool)} {t : TypeId} {x y : Operand}
variable {N : Value → World → Prop}
theorem o_store_bx1 {γ : Cmap} {J : Col → Prop} {agg : Bool} {bytes b o : Nat} {z v : Value} {cs cs' : List Value} (ht : Tp P t agg 1 bytes z) (hx : ev f x = .pointer (some ⟨b, o, none⟩)) (hy : ev f y = v) (hb : Bx γ J w b cs)
    (hs : v.cells = #[v]) (hl : o + 1 ≤ cs.length) (h1 : v.oneCell' = true) (hcs : cs.set o v = cs')
    (hk : ∀ w', Chg J γ w γ w' → Bx γ J w' b cs' → N undef w') : opT P ⟨dst, .store t x y, ty, pos, after, g⟩ f w N :=
  o_store_bx ht hx hy hb (by rw [hs]; rfl) hl (by rw [hs]; simp [h1]) (by
    rw [hs, ← hcs, List.set_eq_take_append_cons_drop, if_pos (by omega)]
    simp) hk
end
end TL
namespace TL
open Go
inductive AllOne : List Value → Prop
  | nil : AllOne []
  | cons {v : Value} {cs : List Value} (h : v.oneCell' = true) (t : AllOne cs) : AllOne (v :: cs)
theorem AllOne.all {cs : List Value} (h : AllOne cs) : cs.all (·.oneCell') = true := by
  induction h with
  | nil => rfl
  | cons h _ ih => simp [h, ih]
end TL
