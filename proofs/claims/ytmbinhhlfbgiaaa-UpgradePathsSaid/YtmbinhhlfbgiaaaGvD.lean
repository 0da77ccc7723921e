/- GvD: the forms that the printer writes: natural numbers as ints, picks, tests taken apart, results in cells. -/
import Derived.Test.YtmbinhhlfbgiaaaGvC
namespace Go.GV
theorem bnot_true {b : Bool} (h : (!b) = true) : b = false := by simpa using h
theorem bnot_false {b : Bool} (h : (!b) = false) : b = true := by simpa using h
theorem band_true {a b : Bool} (h : (a && b) = true) : a = true ∧ b = true := by simpa using h
theorem bor_false {a b : Bool} (h : (a || b) = false) : a = false ∧ b = false := by simpa using h
section
variable {E : Env} {P : Program} {w : World} {x y z : Operand} {dst : Option Nat} {t t' ty u : TypeId} {pos : String} {af : Array Edge} {g : Option (Nat × Bool)}
theorem x_add_n {a b : Nat} (hx : ev E x = vI (a : Int)) (hy : ev E y = vI (b : Int)) (h : a + b ≤ 9223372036854775807) : (execOp (ev E) ⟨dst, .binOp .add t x y t', ty, pos, af, g⟩).run P w = .ok (.value (vI ((a + b : Nat) : Int))) w := by
  rw [x_add_i hx hy (by omega) (by omega)]; congr
theorem x_mul_n {a b : Nat} (hx : ev E x = vI (a : Int)) (hy : ev E y = vI (b : Int)) (h : a * b ≤ 9223372036854775807) : (execOp (ev E) ⟨dst, .binOp .mul t x y t', ty, pos, af, g⟩).run P w = .ok (.value (vI ((a * b : Nat) : Int))) w := by
  have e : ((a * b : Nat) : Int) = (a : Int) * (b : Int) := by simp
  rw [x_mul_i hx hy (by rw [← e]; omega) (by rw [← e]; omega), e]
theorem x_pick_t {b : Bool} {v : Value} (hz : ev E z = vB b) (hb : b = true) (hx : ev E x = v) : (execOp (ev E) ⟨dst, .pick z x y, ty, pos, af, g⟩).run P w = .ok (.value v) w := by
  subst hb; subst hx; simp only [execOp, hz]; rfl
theorem x_pick_f {b : Bool} {v : Value} (hz : ev E z = vB b) (hb : b = false) (hy : ev E y = v) : (execOp (ev E) ⟨dst, .pick z x y, ty, pos, af, g⟩).run P w = .ok (.value v) w := by
  subst hb; subst hy; simp only [execOp, hz]; rfl
theorem load_blkN {S : List Nat} {w0 : World} {L : List Ent} (j : Nat) {b off : Nat} {tb : TypeId} {cs : List Value} {fz : Nat × Nat} (vs : List Value) (h : St S w0 w L) (hj : L[j]? = some (Ent.blk b tb cs fz)) (hs : aggs P t = true) (hn : sizeIs P t = some vs.length) (hc : (cs.drop off).take vs.length = vs) : (loadVar t ⟨b, off, none⟩).run P w = .ok (.agg vs.toArray) w := by
  refine run_loadVar_aggs hs hn fun i v hv => ?_
  rw [add_lit]
  refine blk_cell (h.mem hj) ?_
  rw [← hc, List.getElem?_take] at hv
  split at hv
  · simpa using hv
  · cases hv
end
section
variable {P : Program} {n : Nat} {S : List Nat} {w0 : World} {Q : Post} {E : Env} {L : List Ent} {ops : Array Oper} {Lg Lu : List Ent} {us : List Nat} {fuel : Nat} {listed : Array Bool}
theorem JI_read {i : Nat} {o : Oper} (v : Value) (hi : ops[i]? = some o) (hfit : fit n E o = true) (hw : wants ops E o) (hr : ∀ w, St S w0 w L → (execOp (ev E) o).run P w = .ok (.value v) w)
    (h : JA P n S w0 ops Q Lg us Lu fuel (listed.setIfInBounds i true) (put E o.dst v) L) : JI P n S w0 ops Q Lg us Lu fuel listed E L i :=
  JI_op hi hfit hw fun w hS => ⟨v, L, w, .inl (hr w hS), hS, h⟩
end
end Go.GV
