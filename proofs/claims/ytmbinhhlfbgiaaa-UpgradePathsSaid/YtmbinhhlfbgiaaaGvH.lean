/- GvH: == on structs. -/
import Derived.Test.YtmbinhhlfbgiaaaGvG
import Derived.Laws.StructEq
import Derived.Laws.IdiomStrings
namespace Go.GV
def EqF (P : Program) (d : Nat) (xs ys : Array Value) (f : Field) (b : Bool) : Prop :=
  ∃ va vb, (∀ w, (part f.type xs f.offset).run P w = .ok va w) ∧ (∀ w, (part f.type ys f.offset).run P w = .ok vb w) ∧ ∀ w, (Op.equalIn d f.type va vb).run P w = .ok b w
def EqFs (P : Program) (d : Nat) (xs ys : Array Value) : List Field → List Bool → Prop
  | [], [] => True
  | f :: fs, b :: bs => f.name ≠ "_" ∧ EqF P d xs ys f b ∧ EqFs P d xs ys fs bs
  | _, _ => False
theorem eqFields_run {P : Program} {d : Nat} {xs ys : Array Value} : ∀ (fs : List Field) (bs : List Bool), EqFs P d xs ys fs bs → ∀ w, (Op.eqFields d xs ys fs).run P w = .ok (bs.all id) w
  | [], [], _, w => rfl
  | f :: fs, b :: bs, ⟨hn, ⟨va, vb, ha, hb, he⟩, hr⟩, w => by
    have ih := eqFields_run fs bs hr w
    unfold Op.eqFields
    rw [if_pos hn, Sem.run_bind, ha, Result.andThen_ok, Sem.run_bind, hb, Result.andThen_ok, Sem.run_bind, he, Result.andThen_ok]
    cases b with
    | false => rfl
    | true => simpa using ih
  | [], _ :: _, h, _ => by cases h
  | _ :: _, [], h, _ => by cases h
theorem eq_struct {P : Program} {d : Nat} {t : TypeId} {xs ys : Array Value} {fs : Array Field} {bs : List Bool} (ht : P.underlying t = some (.struct fs)) (hp : P.stoodInHeld t = false) (h : EqFs P d xs ys fs.toList bs) (w : World) :
    (Op.equalIn (d + 1) t (.agg xs) (.agg ys)).run P w = .ok (bs.all id) w := by
  have e : P.fieldsOf t = fs := by unfold Program.fieldsOf; rw [ht]
  rw [run_equalIn_struct w d t xs ys (by rw [e]; exact ht) hp, e]
  exact eqFields_run _ _ h w
section
variable {P : Program} {d : Nat} {xs ys : Array Value} {f : Field}
theorem EqF.i {a b : Int} {k : IntKind} (hs : scal P f.type = true) (hu : P.underlying f.type = some (.int k)) (hx : xs[f.offset]? = some (.int k a)) (hy : ys[f.offset]? = some (.int k b)) : EqF P (d + 1) xs ys f (decide (a = b)) :=
  ⟨_, _, fun _ => run_part_scal hs hx, fun _ => run_part_scal hs hy, fun w => by rw [run_equalIn_int w d f.type k k a b hu]; rfl⟩
theorem EqF.b {a b : Bool} (hs : scal P f.type = true) (hu : P.underlying f.type = some .bool) (hx : xs[f.offset]? = some (vB a)) (hy : ys[f.offset]? = some (vB b)) : EqF P (d + 1) xs ys f (decide (a = b)) :=
  ⟨_, _, fun _ => run_part_scal hs hx, fun _ => run_part_scal hs hy, fun w => by rw [run_equalIn_bool w d f.type a b hu]; cases a <;> cases b <;> rfl⟩
theorem EqF.s {a b : Bytes} (hs : scal P f.type = true) (hu : P.underlying f.type = some .string) (hx : xs[f.offset]? = some (vS a)) (hy : ys[f.offset]? = some (vS b)) : EqF P (d + 1) xs ys f (decide (a = b)) :=
  ⟨_, _, fun _ => run_part_scal hs hx, fun _ => run_part_scal hs hy, fun w => by
    rw [run_equalIn_string w d f.type _ _ hu, ByteArray.toList_mk, ByteArray.toList_mk]
    congr 1
    rw [Bool.eq_iff_iff]; simp⟩
theorem EqF.agg {xa bs : List Value} {n : Nat} {r : Bool} (hs : aggs P f.type = true) (hn : sizeIs P f.type = some n) (hx : xs.extract f.offset (f.offset + n) = xa.toArray) (hy : ys.extract f.offset (f.offset + n) = bs.toArray)
    (h : ∀ w, (Op.equalIn d f.type (.agg xa.toArray) (.agg bs.toArray)).run P w = .ok r w) : EqF P d xs ys f r :=
  ⟨_, _, fun _ => run_part_aggs hs hn, fun _ => run_part_aggs hs hn, fun w => by rw [hx, hy]; exact h w⟩
theorem x_eql_agg {E : Env} {x y : Operand} {dst : Option Nat} {t t' ty : TypeId} {pos : String} {af : Array Edge} {g : Option (Nat × Bool)} {w : World} {b : Bool} (hx : ev E x = .agg xs) (hy : ev E y = .agg ys) (hg : P.eqGuardType P.depth t = false) (h : ∀ w, (Op.equalIn 10000 t (.agg xs) (.agg ys)).run P w = .ok b w) :
    (execOp (ev E) ⟨dst, .binOp .eql t x y t', ty, pos, af, g⟩).run P w = .ok (.value (vB b)) w := by
  simp only [execOp, hx, hy, Sem.run_bind, run_eqGuard_agg w .eql t x y xs ys hg, Result.andThen_ok, run_eql_struct, h]; rfl
theorem x_neq_agg {E : Env} {x y : Operand} {dst : Option Nat} {t t' ty : TypeId} {pos : String} {af : Array Edge} {g : Option (Nat × Bool)} {w : World} {b : Bool} (hx : ev E x = .agg xs) (hy : ev E y = .agg ys) (hg : P.eqGuardType P.depth t = false) (h : ∀ w, (Op.equalIn 10000 t (.agg xs) (.agg ys)).run P w = .ok b w) :
    (execOp (ev E) ⟨dst, .binOp .neq t x y t', ty, pos, af, g⟩).run P w = .ok (.value (vB (!b))) w := by
  simp only [execOp, hx, hy, Sem.run_bind, run_eqGuard_agg w .neq t x y xs ys hg, Result.andThen_ok, run_neq_struct, h]; rfl
end
theorem O_str_bytes {P : Program} {S : List Nat} {w0 : World} {E : Env} {L : List Ent} {K : Value → List Ent → Prop} {x : Operand} {dst : Option Nat} {t u e ty : TypeId} {pos : String} {af : Array Edge} {g : Option (Nat × Bool)} (s : Bytes) (hx : ev E x = vS s)
    (ht : P.underlying t = some .string) (hu : P.underlying u = some (.slice e)) (he : P.underlying e = some (.int .u8))
    (k : ∀ b c z, s.length + z = c → K (.slice (some ⟨b, 0, none⟩) s.length c) (Ent.blk b e ((s ++ List.replicate z 0).map vU8) (s.length + z, s.length + z + 1) :: L)) : OpJ P S w0 E L ⟨dst, .convert t u x, ty, pos, af, g⟩ K := by
  intro w hS
  have hr := run_bytes_of_string (P := P) w t u e ⟨s.toArray⟩ ht hu he
  have hc := grownCap_ge w s.length 0 e
  have hrow : bytesRow ⟨s.toArray⟩ (grownCap w s.length 0 e) = ((s ++ List.replicate (grownCap w s.length 0 e - s.length) 0).map vU8).toArray := by
    unfold bytesRow
    show (s.toArray.map _) ++ Array.replicate (grownCap w s.length 0 e - s.length) _ = _
    apply Array.toList_inj.1
    simp [List.map_append]
  have hsz : (((s ++ List.replicate (grownCap w s.length 0 e - s.length) 0).map vU8).toArray).size = s.length + (grownCap w s.length 0 e - s.length) := by simp
  have hz : s.length + (grownCap w s.length 0 e - s.length) = grownCap w s.length 0 e := by omega
  have hr2 : (convert t u (vS s)).run P w = .ok (.slice (some ⟨w.heap.size, 0, none⟩) s.length (grownCap w s.length 0 e)) (w.drew.alloc (.cells ((s ++ List.replicate (grownCap w s.length 0 e - s.length) 0).map vU8).toArray e (s.length + (grownCap w s.length 0 e - s.length), s.length + (grownCap w s.length 0 e - s.length) + 1))) := by
    have hr' := hr
    rw [show (ByteArray.mk s.toArray).size = s.length from rfl, hrow, hsz] at hr'
    exact hr'
  generalize grownCap w s.length 0 e - s.length = z at hr2 hz
  have hS2 : St S w0 (w.drew.alloc (.cells ((s ++ List.replicate z 0).map vU8).toArray e (s.length + z, s.length + z + 1))) (Ent.blk w.heap.size e ((s ++ List.replicate z 0).map vU8) (s.length + z, s.length + z + 1) :: L) :=
    (hS.step (Fr.drew [] w)).alloc _ _ rfl ⟨rfl, .inr (by simp)⟩
  refine ⟨_, _, _, .inl ?_, hS2, k w.heap.size (grownCap w s.length 0 e) z hz⟩
  simp only [execOp, hx]
  show Sem.run P (do let v ← convert t u (vS s); pure (Next.value v)) w = _
  rw [Sem.run_bind, hr2]; rfl
section
variable {E : Env} {P : Program} {w : World} {x y : Operand} {dst : Option Nat} {t e ty : TypeId} {pos : String} {af : Array Edge} {g : Option (Nat × Bool)}
theorem x_min_i {a b : Int} {ts : Array TypeId} (hx : ev E x = vI a) (hy : ev E y = vI b) : (execOp (ev E) ⟨dst, .call ⟨.builtin .min, #[x, y], ts⟩, ty, pos, af, g⟩).run P w = .ok (.value (vI (min a b))) w := by
  have hr : (Builtin.min_ ts ty #[vI a, vI b]).run P w = .ok (vI (min a b)) w := by
    have e : (if b < a then b else a) = min a b := by split <;> omega
    show Result.ok (Value.int .i64 (if b < a then b else a)) w = _
    rw [e]
  simp [execOp, resolve, invoke, builtin, hx, hy, hr]
theorem x_idx_arr {α : Type} (f : α → Value) {xs : List α} {d : α} {k n : Nat} (hx : ev E x = .agg (xs.map f).toArray) (hy : ev E y = vI (k : Int)) (ht : P.underlying t = some (.array n e)) (hs : scal P e = true) (hn : sizeIs P e = some 1) (hl : xs.length = n) (hk : k < n) :
    (execOp (ev E) ⟨dst, .index t x y, ty, pos, af, g⟩).run P w = .ok (.value (f (xs.getD k d))) w := by
  have hr : (Instr.index t (.agg (xs.map f).toArray) (vI (k : Int))).run P w = .ok (f (xs.getD k d)) w := by
    have h0 : (0 : Int) ≤ (k : Int) ∧ (k : Int) < (n : Int) := by omega
    have hv : (xs.map f).toArray[k * 1]? = some (f (xs.getD k d)) := by
      rw [Nat.mul_one]
      simp [List.getD_eq_getElem?_getD, List.getElem?_eq_getElem (show k < xs.length by omega)]
    simp only [Instr.index, asIntOf, run_underlying ht, Sem.run_bind, Sem.run_pure, Result.andThen_ok, if_pos h0, Int.toNat_natCast, run_sizeOf_is hn, run_part_scal hs hv]
  simp only [execOp, hx, hy]
  show Sem.run P (do let v ← Instr.index t (.agg (xs.map f).toArray) (vI (k : Int)); pure (Next.value v)) w = _
  rw [Sem.run_bind, hr]; rfl
end
theorem all_nil {p : Nat → Prop} : ∀ i, i ∈ ([] : List Nat) → p i := fun _ h => absurd h List.not_mem_nil
theorem lo_i {e : Int} (h : 0 ≤ e) : some (vI e) = some (vI ((e.toNat : Nat) : Int)) := by rw [Int.toNat_of_nonneg h]
end Go.GV
