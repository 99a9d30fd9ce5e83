/-
  TlConv: whole numbers turned to another kind, a string's byte, functions that bear values.
  By an AI agent.
-/
import Derived.Test.YtifpjbjhkabhgaaTlNest
import Derived.Test.YtifpjbjhkabhgaaTlEq
set_option linter.all false
namespace TL
open Go
section
variable {P : Program} {w : World} {f : Fr} {dst : Option Tmp} {ty : TypeId} {pos : String} {after : Array Edge} {g : Option (Nat × Bool)} {x y : Operand} {s d t : TypeId} {m : Int} {k k0 : IntKind}
theorem e_conv {us : TypeDesc} (hs : P.underlying s = some us) (hd : P.underlying d = some (.int k)) (hx : ev f x = .int k0 m) (hw : k.wrap m = m) : (execOp (ev f) ⟨dst, .convert s d x, ty, pos, after, g⟩).run P w = .ok (.value (.int k m)) w := by
  simp [execOp, convert, hx, run_underlying' hs, run_underlying' hd, Conv.intToInt, hw]
theorem e_index_str {i r : Int} {b : UInt8} {str : ByteArray} (ht : P.underlying t = some .string) (hx : ev f x = .string str) (hy : ev f y = .int k i) (h0 : 0 ≤ i) (hb : str[i.toNat]? = some b) (hr : (b.toNat : Int) = r) : (execOp (ev f) ⟨dst, .index t x y, ty, pos, after, g⟩).run P w = .ok (.value (.int .u8 r)) w := by
  simp [execOp, Instr.index, asIntOf, hx, hy, run_underlying' ht, h0, hb, hr]
theorem e_makeFunc {fid : Nat} {cs : List Operand} {vals : List Value} (h : cs.map (ev f) = vals) : (execOp (ev f) ⟨dst, .makeFunc (.func fid) #[] cs.toArray, ty, pos, after, g⟩).run P w = .ok (.value (.func (.func fid) #[] vals.toArray)) w := by
  have h : cs.toArray.map (ev f) = vals.toArray := by rw [← h]; simp
  simp [execOp, Instr.makeFunc, h]
theorem e_callc {fid : Nat} {fn : Func} {c : Operand} {args : List Operand} {at_ : Array TypeId} {vals caps : List Value} (hc : ev f c = .func (.func fid) #[] caps.toArray) (hf : P.funcs[fid]? = some fn) (hb : fn.body.isNone = false) (hn : (fn.name == "runtime.NumGoroutine") = false) (ha : args.map (ev f) = vals) :
    (execOp (ev f) ⟨dst, .call { callee := .value c, args := args.toArray, argTypes := at_ }, ty, pos, after, g⟩).run P w = .ok (.enter fid (vals ++ caps).toArray) w := by
  have ha : args.toArray.map (ev f) = vals.toArray := by rw [← ha]; simp
  simp only [execOp, resolve, hc, Deferred.ofValue, invoke, callFunc, ha, Sem.run_bind, Sem.run_pure, Result.andThen_ok, run_program, hf, hn, hb, Bool.false_eq_true, if_false, Array.append_empty, Array.empty_append]
  simp
end
end TL
namespace TL
open Go
section
variable {P : Program} {w : World} {f : Fr} {dst : Option Tmp} {ty : TypeId} {pos : String} {after : Array Edge} {g : Option (Nat × Bool)} {x y : Operand} {t t' : TypeId}
theorem e_neq_struct {fs : Array Field} {xs ys : List Value} {bs : List Bool} {q : Bool} (ht : P.underlying t = some (.struct fs)) (hp : P.stoodInHeld t = false) (hg : P.eqGuardType P.depth t = false) (hx : ev f x = .agg xs.toArray) (hy : ev f y = .agg ys.toArray) (h : EqF P xs.toArray ys.toArray fs.toList bs) (hq : bs.all id = q) :
    (execOp (ev f) ⟨dst, .binOp .neq t x y t', ty, pos, after, g⟩).run P w = .ok (.value (.bool !q)) w := by
  have e1 : P.fieldsOf t = fs := by simp [Program.fieldsOf, ht]
  have hr : (Op.equal t (.agg xs.toArray) (.agg ys.toArray)).run P w = .ok q w := by
    have := run_equalIn_struct (P := P) w 9999 t xs.toArray ys.toArray (by rw [e1]; exact ht) hp
    rw [e1, run_eqFields h 9998, hq] at this
    exact this
  exact e_bin .neq hx hy (by simp [eqGuard, hg]) (by simp [binOp, hr])
end
end TL
namespace TL
open Go
section
variable {P : Program} {w : World} {f : Fr} {dst : Option Tmp} {ty : TypeId} {pos : String} {after : Array Edge} {g : Option (Nat × Bool)} {x y : Operand} {t t' : TypeId}
/-- some cells, from q on, of element i of a slice -/
theorem e_load_elFN {α : Type} [Rp α] [Fl α] [Inhabited α] {γ : Cmap} {S : Col → Prop} {xs : List α} {v : Value} {size bytes q : Nat} {z : Value} {i : Int} {ds : List Value} (ht : Tp P t true size bytes z) (hx : ev f x = .pointer (some ⟨(eAddr v (Rp.sz α) i.toNat).block, (eAddr v (Rp.sz α) i.toNat).off + q, none⟩)) (hv : Sl γ S w v xs) (h0 : 0 ≤ i) (h1 : i < xs.length)
    (hl : ds.length = size) (hz : q + size ≤ Rp.sz α) (hu : ((Fl.cells (gI xs i)).drop q).take size = ds) : (execOp (ev f) ⟨dst, .load t x, ty, pos, after, g⟩).run P w = .ok (.value (.agg ds.toArray)) w := by
  obtain ⟨cs, hcs, hr⟩ := hv.elem (gI_get h0 h1)
  refine e_loadN ht hx hl fun j hj => ?_
  have := hcs (q + j) (by omega)
  rw [add_at, Nat.add_assoc, ← hu, ← Fl.rep_iff.1 hr]
  rw [eAddr_add] at this
  rw [this]
  simp [hj]
end
end TL
