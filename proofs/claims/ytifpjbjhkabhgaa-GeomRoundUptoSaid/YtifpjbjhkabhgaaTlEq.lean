/-
  TlEq: structs compared; a pointer looked at for nil; a bit turned.
  By an AI agent.
-/
import Derived.Test.YtifpjbjhkabhgaaTlNest
import Derived.Laws.StructEq
set_option linter.all false
namespace TL
open Go
section
variable {P : Program} {f : Fr} {w : World} {dst : Option Tmp} {ty : TypeId} {pos : String} {after : Array Edge} {g : Option (Nat × Bool)} {t t' e : TypeId} {x y : Operand}
theorem e_nilCheck {a : Addr} (hx : ev f x = .pointer (some a)) : (execOp (ev f) ⟨dst, .nilCheck x, ty, pos, after, g⟩).run P w = .ok (.value (.pointer (some a))) w := by
  simp only [execOp, hx, Sem.run_pure]
inductive EqV (P : Program) (t : TypeId) : Value → Value → Bool → Prop
  | int {a b : Int} (h : P.underlying t = some (.int .i64)) : EqV P t (.int .i64 a) (.int .i64 b) (decide (a = b))
  | bool {a b : Bool} (h : P.underlying t = some .bool) : EqV P t (.bool a) (.bool b) (decide (a = b))
inductive EqF (P : Program) (xs ys : Array Value) : List Field → List Bool → Prop
  | nil : EqF P xs ys [] []
  | cons {fd : Field} {fs : List Field} {bs : List Bool} {a b z : Value} {r : Bool} {size bytes : Nat} (hn : (fd.name != "_") = true) (he : Tp P fd.type false size bytes z) (ha : xs[fd.offset]? = some a) (hb : ys[fd.offset]? = some b) (hq : EqV P fd.type a b r) (hr : EqF P xs ys fs bs) : EqF P xs ys (fd :: fs) (r :: bs)
theorem run_eqFields {xs ys : Array Value} {fs : List Field} {bs : List Bool} (h : EqF P xs ys fs bs) (d : Nat) : (Op.eqFields (d + 1) xs ys fs).run P w = .ok (bs.all id) w := by
  induction h with
  | nil => simp [Op.eqFields, Sem.run_pure]
  | @cons fd fs bs a b z r size bytes hn he ha hb hq hr ih =>
    have hn' : fd.name ≠ "_" := by simpa using hn
    have h1 := run_part (P := P) (w := w) he ha
    have h2 := run_part (P := P) (w := w) he hb
    have h3 : (Op.equalIn (d + 1) fd.type a b).run P w = .ok r w := by
      cases hq with
      | int h => simp [Op.equalIn, run_underlying' h, Sem.run_pure]; rfl
      | bool h => simp [Op.equalIn, run_underlying' h, Sem.run_pure]; rfl
    simp only [Op.eqFields, if_pos hn', Sem.run_bind, h1, h2, h3, Result.andThen_ok]
    cases r with
    | true => simp [ih]
    | false => simp [Sem.run_pure]
theorem e_eql_struct {fs : Array Field} {xs ys : List Value} {bs : List Bool} {q : Bool} (ht : P.underlying t = some (.struct fs)) (hp : P.stoodInHeld t = false) (hg : P.eqGuardType P.depth t = false) (hx : ev f x = .agg xs.toArray) (hy : ev f y = .agg ys.toArray) (h : EqF P xs.toArray ys.toArray fs.toList bs) (hq : bs.all id = q) :
    (execOp (ev f) ⟨dst, .binOp .eql t x y t', ty, pos, after, g⟩).run P w = .ok (.value (.bool q)) w := by
  have e1 : P.fieldsOf t = fs := by simp [Program.fieldsOf, ht]
  have hr : (Op.equal t (.agg xs.toArray) (.agg ys.toArray)).run P w = .ok q w := by
    have := run_equalIn_struct (P := P) w 9999 t xs.toArray ys.toArray (by rw [e1]; exact ht) hp
    rw [e1, run_eqFields h 9998, hq] at this
    exact this
  exact e_bin .eql hx hy (by simp [eqGuard, hg]) (by simp [binOp, hr])
/-- the other half -/
def twin (h : Int) : Int := if h % 2 = 0 then h + 1 else h - 1
theorem xor_one_nat (n : Nat) : n ^^^ 1 = if n % 2 = 0 then n + 1 else n - 1 := by
  apply Nat.eq_of_testBit_eq
  intro i
  rw [Nat.testBit_xor]
  cases i with
  | zero =>
    by_cases h : n % 2 = 0
    · rw [if_pos h, Nat.testBit_zero, Nat.testBit_zero, Nat.testBit_zero]
      have e1 : ¬ n % 2 = 1 := by omega
      have e2 : (n + 1) % 2 = 1 := by omega
      simp [e1, e2, h]
    · rw [if_neg h, Nat.testBit_zero, Nat.testBit_zero, Nat.testBit_zero]
      have e1 : n % 2 = 1 := by omega
      have e2 : (n - 1) % 2 = 0 := by omega
      simp [e1, e2]
  | succ i =>
    by_cases h : n % 2 = 0
    · rw [if_pos h]
      have e : (n + 1) / 2 = n / 2 := by omega
      simp [Nat.testBit_succ, e]
    · rw [if_neg h]
      have e : (n - 1) / 2 = n / 2 := by omega
      simp [Nat.testBit_succ, e]
theorem xor_one {h : Int} (h0 : 0 ≤ h) (h1 : h < 4611686018427387904) : bits .xor .i64 h 1 = twin h := by
  obtain ⟨n, rfl⟩ := Int.eq_ofNat_of_zero_le h0
  have hn : n < 4611686018427387904 := by omega
  have hx : (BitVec.ofInt 64 (n : Int)).toNat = n := by
    rw [BitVec.ofInt_natCast, BitVec.toNat_ofNat]; exact Nat.mod_eq_of_lt (by omega)
  have hy : (BitVec.ofInt 64 (1 : Int)).toNat = 1 := by rfl
  show IntKind.i64.wrap ((BitVec.ofInt 64 (n : Int) ^^^ BitVec.ofInt 64 (1 : Int)).toNat : Int) = _
  rw [BitVec.toNat_xor, hx, hy, xor_one_nat]
  unfold twin
  by_cases hp : n % 2 = 0
  · rw [if_pos hp, if_pos (by omega), wrap_in ⟨by omega, by omega⟩]; omega
  · rw [if_neg hp, if_neg (by omega), wrap_in ⟨by omega, by omega⟩]; omega
theorem e_xor1 {m : Int} (hx : ev f x = .int .i64 m) (hy : ev f y = .int .i64 1) (h0 : 0 ≤ m) (h1 : m < 4611686018427387904) : (execOp (ev f) ⟨dst, .binOp .xor t x y t', ty, pos, after, g⟩).run P w = .ok (.value (.int .i64 (twin m))) w :=
  run_bin_int .xor x y hx hy (by simp [binOp, intBits_xor, xor_one h0 h1, Sem.run_pure])
end
end TL
namespace TL
open Go
section
variable {P : Program} {f : Fr} {w : World} {dst : Option Tmp} {ty : TypeId} {pos : String} {after : Array Edge} {g : Option (Nat × Bool)} {t : TypeId} {x : Operand}
/-- a part of a slice sliced anew, beyond its end maybe -/
theorem e_slice_re {w1 : World} {α : Type} [Rp α] {γ : Cmap} {S : Col → Prop} {v : Value} {xs : List α} {e n : Nat} {hi : Operand} {h : Int} (ht : P.underlying t = some (.slice e)) (hs : (P.info? e).map (·.size) = some (Rp.sz α)) (hx : ev f x = subV v (Rp.sz α) 0 n) (hv : Sl γ S w1 v xs)
    (hhi : ev f hi = .int .i64 h) (h0 : 0 ≤ h) (h2 : h ≤ xs.length) :
    (execOp (ev f) ⟨dst, .slice t x none (some hi) none, ty, pos, after, g⟩).run P w = .ok (.value (subV v (Rp.sz α) 0 h.toNat)) w := by
  cases hq : P.info? e with
  | none => simp [hq] at hs
  | some q =>
    simp only [hq, Option.map_some, Option.some.injEq] at hs
    rw [subV_zero] at hx
    rw [subV_zero]
    have hf := hv.form
    have hc := hv.cap
    generalize sAddr v = a at hf
    generalize sCap v = c at hf hc
    subst hf
    simp only at hx
    have hb : (Instr.sliceBounds true n c none (some (Value.int .i64 h)) none).run P w = .ok (0, h.toNat, c) w := by
      have e1 : h ≤ (c : Int) := by omega
      simp [Instr.sliceBounds, Instr.sliceBound, asIntOf, *]
    have hsub : execOp (ev f) ⟨dst, .slice t x none (some hi) none, ty, pos, after, g⟩ = (do pure (.value (← Instr.sliceAt t (.slice a n c) none (some (Value.int .i64 h)) none))) := by
      simp [execOp, hx, hhi]
    rw [hsub]
    simp [Instr.sliceAt, Instr.slice, run_underlying' ht, hb, run_sizeOf hq, hs]
    intro _
    cases a with
    | none => rfl
    | some a => simp [Addr.add]
end
end TL
namespace TL
open Go
section
variable {P : Program} {f : Fr} {w : World} {dst : Option Tmp} {ty : TypeId} {pos : String} {after : Array Edge} {g : Option (Nat × Bool)} {t t' : TypeId} {x y : Operand} {m n : Int}
theorem e_tquo (hx : ev f x = .int .i64 m) (hy : ev f y = .int .i64 n) (hn : 0 < n) (hm : -4611686018427387904 ≤ m ∧ m ≤ 4611686018427387904) : (execOp (ev f) ⟨dst, .binOp .quo t x y t', ty, pos, after, g⟩).run P w = .ok (.value (.int .i64 (Int.tdiv m n))) w := by
  refine run_bin_int .quo x y hx hy ?_
  have h0 : ¬ n = 0 := by omega
  have h1 : inI (Int.tdiv m n) := by
    have h2 := Int.natAbs_tdiv_le_natAbs m n
    constructor <;> omega
  simp [binOp, Op.intDiv, h0, wrap_in h1]
end
end TL
namespace TL
open Go
theorem mapc {f : Fr} {x : Operand} {xs : List Operand} {v : Value} {vs : List Value} (h : ev f x = v) (h2 : xs.map (ev f) = vs) : (x :: xs).map (ev f) = v :: vs := by subst h h2; rfl
end TL
