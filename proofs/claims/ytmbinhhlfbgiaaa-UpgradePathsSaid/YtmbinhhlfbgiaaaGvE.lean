/- GvE: blocks whose cells are a list of one kind; make, copy, slices of slices; rows that grow (append); slices that came in and are only read. -/
import Derived.Test.YtmbinhhlfbgiaaaGvD
namespace Go.GV
open Go.RowKit
theorem map_at {α : Type} (f : α → Value) (xs : List α) (d : α) {k : Nat} (hk : k < xs.length) : (xs.map f)[k]? = some (f (xs.getD k d)) := by
  simp [List.getD_eq_getElem?_getD, List.getElem?_eq_getElem hk]
def one (v : Value) : Bool := match v with
  | .agg _ | .tuple _ => false
  | _ => true
theorem one_cell' {v : Value} (h : one v = true) : v.oneCell' = true := by cases v <;> first | rfl | cases h
section
variable {E : Env} {P : Program} {w : World} {x y z : Operand} {dst : Option Nat} {t t' ty u : TypeId} {pos : String} {af : Array Edge} {g : Option (Nat × Bool)}
theorem x_load_arr {α : Type} {S : List Nat} {w0 : World} {L : List Ent} (j : Nat) (f : α → Value) (d : α) {b k : Nat} {tb : TypeId} {xs : List α} {fz : Nat × Nat} (hx : ev E x = .pointer (some ⟨b, k, none⟩)) (hj : L[j]? = some (Ent.blk b tb (xs.map f) fz)) (hs : scal P t = true) (hk : k < xs.length) :
    ∀ w, St S w0 w L → (execOp (ev E) ⟨dst, .load t x, ty, pos, af, g⟩).run P w = .ok (.value (f (xs.getD k d))) w := x_load j hx hj hs (map_at f xs d hk)
theorem add_0k1 (b k : Nat) : (⟨b, 0, none⟩ : Addr).add (k * 1) = ⟨b, k, none⟩ := by rw [add_lit, Nat.mul_one, Nat.zero_add]
end
end Go.GV
