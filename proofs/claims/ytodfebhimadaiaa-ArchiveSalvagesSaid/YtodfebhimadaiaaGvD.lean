/- GvD: the forms that the printer writes: natural numbers as ints, picks, tests taken apart, results in cells. -/
import Derived.Test.YtodfebhimadaiaaGvC
namespace Go.GV
theorem bnot_true {b : Bool} (h : (!b) = true) : b = false := by simpa using h
theorem bnot_false {b : Bool} (h : (!b) = false) : b = true := by simpa using h
theorem band_true {a b : Bool} (h : (a && b) = true) : a = true ∧ b = true := by simpa using h
theorem bor_false {a b : Bool} (h : (a || b) = false) : a = false ∧ b = false := by simpa using h
section
variable {E : Env} {P : Program} {w : World} {x y z : Operand} {dst : Option Nat} {t t' ty u : TypeId} {pos : String} {af : Array Edge} {g : Option (Nat × Bool)}
theorem x_add_n {a b : Nat} (hx : ev E x = vI (a : Int)) (hy : ev E y = vI (b : Int)) (h : a + b ≤ 9223372036854775807) : (execOp (ev E) ⟨dst, .binOp .add t x y t', ty, pos, af, g⟩).run P w = .ok (.value (vI ((a + b : Nat) : Int))) w := by
  rw [x_add_i hx hy (by omega) (by omega)]; congr
theorem x_mul_n {a b : Nat} (hx : ev E x = vI (a : Int)) (hy : ev E y = vI (b : Int)) (h : a * b ≤ 9223372036854775807) : (execOp (ev E) ⟨dst, .binOp .mul t x y t', ty, pos, af, g⟩).run P w = .ok (.value (vI ((a * b : Nat) : Int))) w := by
  have e : ((a * b : Nat) : Int) = (a : Int) * (b : Int) := by simp
  rw [x_mul_i hx hy (by rw [← e]; omega) (by rw [← e]; omega), e]
theorem x_quo_n {a b : Nat} (hx : ev E x = vI (a : Int)) (hy : ev E y = vI (b : Int)) (h : a ≤ 9223372036854775807) (hb : 0 < b) : (execOp (ev E) ⟨dst, .binOp .quo t x y t', ty, pos, af, g⟩).run P w = .ok (.value (vI ((a / b : Nat) : Int))) w := by
  rw [x_quo_i hx hy (by omega) (by omega) (by omega)]; congr
theorem x_rem_n {a b : Nat} (hx : ev E x = vI (a : Int)) (hy : ev E y = vI (b : Int)) (_h : a ≤ 9223372036854775807) (hb : 0 < b) : (execOp (ev E) ⟨dst, .binOp .rem t x y t', ty, pos, af, g⟩).run P w = .ok (.value (vI ((a % b : Nat) : Int))) w := by
  rw [x_rem_i hx hy (by omega) (by omega)]; congr
theorem x_shl_n {a m : Nat} {k : IntKind} (hx : ev E x = vI (a : Int)) (hy : ev E y = .int k (m : Int)) (hm : m < 64) (h : a * 2 ^ m ≤ 9223372036854775807) : (execOp (ev E) ⟨dst, .binOp .shl t x y t', ty, pos, af, g⟩).run P w = .ok (.value (vI ((a * 2 ^ m : Nat) : Int))) w := by
  have e : ((a * 2 ^ m : Nat) : Int) = (a : Int) * 2 ^ m := by simp
  rw [e]; exact x_shl_i hx hy hm (by rw [← e]; omega) (by rw [← e]; omega)
theorem x_pick_t {b : Bool} {v : Value} (hz : ev E z = vB b) (hb : b = true) (hx : ev E x = v) : (execOp (ev E) ⟨dst, .pick z x y, ty, pos, af, g⟩).run P w = .ok (.value v) w := by
  subst hb; subst hx; simp only [execOp, hz]; rfl
theorem x_pick_f {b : Bool} {v : Value} (hz : ev E z = vB b) (hb : b = false) (hy : ev E y = v) : (execOp (ev E) ⟨dst, .pick z x y, ty, pos, af, g⟩).run P w = .ok (.value v) w := by
  subst hb; subst hy; simp only [execOp, hz]; rfl
theorem x_str_blk {S : List Nat} {w0 : World} {L : List Ent} (j : Nat) {b off n c : Nat} {tb e : TypeId} {cs : List Value} {fz : Nat × Nat} {l : Bytes} (hx : ev E x = .slice (some ⟨b, off, none⟩) n c)
    (hs : P.underlying t = some (.slice e)) (he : P.underlying e = some (.int .u8)) (hd : P.underlying u = some .string) (hj : L[j]? = some (Ent.blk b tb cs fz)) (hn : n = l.length) (hc : (cs.drop off).take n = l.map vU8) :
    ∀ w, St S w0 w L → (execOp (ev E) ⟨dst, .convert t u x, ty, pos, af, g⟩).run P w = .ok (.value (vS l)) w := by
  intro w h
  have hb : (Conv.bytesToString (.slice (some ⟨b, off, none⟩) n c)).run P w = .ok (vS l) w := by
    refine run_bytesS hn fun i v hv => ?_
    rw [add_lit]
    refine blk_cell (h.mem hj) ?_
    rw [← hc, List.getElem?_take] at hv
    split at hv
    · simpa using hv
    · cases hv
  have hr : (convert t u (.slice (some ⟨b, off, none⟩) n c)).run P w = .ok (vS l) w := by rw [run_convert_bytes_string w t u e _ n c hs he hd, hb]
  simp only [execOp, hx]
  show (Sem.run P (do let v ← convert t u (.slice (some ⟨b, off, none⟩) n c); pure (Next.value v)) w) = _
  rw [Sem.run_bind, hr]; rfl
theorem load_blkN {S : List Nat} {w0 : World} {L : List Ent} (j : Nat) {b off : Nat} {tb : TypeId} {cs : List Value} {fz : Nat × Nat} (vs : List Value) (h : St S w0 w L) (hj : L[j]? = some (Ent.blk b tb cs fz)) (hs : aggs P t = true) (hn : sizeIs P t = some vs.length) (hc : (cs.drop off).take vs.length = vs) : (loadVar t ⟨b, off, none⟩).run P w = .ok (.agg vs.toArray) w := by
  refine run_loadVar_aggs hs hn fun i v hv => ?_
  rw [add_lit]
  refine blk_cell (h.mem hj) ?_
  rw [← hc, List.getElem?_take] at hv
  split at hv
  · simpa using hv
  · cases hv
theorem x_min_n {a b : Nat} {ts : Array TypeId} (hx : ev E x = vI (a : Int)) (hy : ev E y = vI (b : Int)) : (execOp (ev E) ⟨dst, .call ⟨.builtin .min, #[x, y], ts⟩, ty, pos, af, g⟩).run P w = .ok (.value (vI ((min a b : Nat) : Int))) w := by
  have hr : (Builtin.min_ ts ty #[vI (a : Int), vI (b : Int)]).run P w = .ok (vI ((min a b : Nat) : Int)) w := by
    have e : (if (b : Int) < (a : Int) then (b : Int) else (a : Int)) = ((min a b : Nat) : Int) := by split <;> omega
    show Result.ok (Value.int .i64 (if (b : Int) < (a : Int) then (b : Int) else (a : Int))) w = _
    rw [e]
  simp [execOp, resolve, invoke, builtin, hx, hy, hr]
end
section
variable {P : Program} {n : Nat} {S : List Nat} {w0 : World} {Q : Post} {E : Env} {L : List Ent} {ops : Array Oper} {Lg Lu : List Ent} {us : List Nat} {fuel : Nat} {listed : Array Bool}
end
end Go.GV
