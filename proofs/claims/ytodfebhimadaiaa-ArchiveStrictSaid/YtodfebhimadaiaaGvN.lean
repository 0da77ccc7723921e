/- GvN: rows that a call is handed; parts of rows; rows that the library's sort and compact rewrite. -/
import Derived.Test.YtodfebhimadaiaaGvM
import Derived.Sort.Row
import Derived.Sort.Grow
namespace Go.GV
open Go.RowKit Go.Sort

def Lown (L : List Ent) : List Nat := L.filterMap Ent.own
theorem lown_mem {L : List Ent} : ∀ b ∈ Lown L, ∃ e ∈ L, e.own = some b := fun b h => by
  obtain ⟨e, he, ho⟩ := List.mem_filterMap.1 h
  exact ⟨e, he, ho⟩
theorem lown_in {L : List Ent} : ∀ e ∈ L, ∀ b, e.own = some b → b ∈ Lown L := fun e he _ ho => List.mem_filterMap.2 ⟨e, he, ho⟩

section
variable {α : Type} [Inhabited α] {f : α → Value} {w : World} {e : TypeId} {c : Nat} {xs : List α}
omit [Inhabited α] in
theorem row_some {A : Option Addr} (h : (Ent.row (.slice A xs.length c) e 1 xs.length (xs.map f)).at w) (hx : xs ≠ []) : ∃ g, A = some ⟨g, 0, none⟩ ∧ ∃ cur, w.heap[g]? = some (.cells cur e (0, 0)) ∧ xs.length ≤ c ∧ c ≤ maxLen ∧ cur.size = c ∧ cur.toList.take xs.length = xs.map f := by
  rcases (row_owns h).2 with ⟨h1, h2⟩ | ⟨g, cap, cur, h1, _, ho, h3, h4, h5, h6⟩
  · exact absurd (List.length_eq_zero_iff.1 h2) hx
  · cases h1
    exact ⟨g, rfl, cur, ho, h3, h4, by simpa using h5, by simpa using h6⟩
omit [Inhabited α] in
theorem row_cap {A : Option Addr} (h : (Ent.row (.slice A xs.length c) e 1 xs.length (xs.map f)).at w) : xs.length ≤ c ∨ (A = none ∧ xs = [] ∧ c = 0) := by
  rcases (row_owns h).2 with ⟨h1, h2⟩ | ⟨g, cap, cur, h1, _, ho, h3, h4, h5, h6⟩
  · simp only [Value.slice.injEq] at h1
    exact .inr ⟨h1.1, List.length_eq_zero_iff.1 h2, h1.2.2⟩
  · cases h1
    exact .inl h3
theorem row_holds {g : Nat} (h : (Ent.row (.slice (some ⟨g, 0, none⟩) xs.length c) e 1 xs.length (xs.map f)).at w) (hx : xs ≠ []) : Holds f w g 0 xs.toArray := by
  obtain ⟨g', hg, cur, ho, h3, h4, h5, h6⟩ := row_some h hx
  cases hg
  intro j hj
  have hj : j < xs.length := by simpa using hj
  refine ⟨?_, ?_⟩
  · have h7 : cur[j]? = some (f xs[j]) := by
      have := congrArg (·[j]?) h6
      simp only [List.getElem?_take, List.getElem?_map] at this
      rw [if_pos hj, List.getElem?_eq_getElem hj] at this
      simpa using this
    rw [Nat.zero_add]
    show (match w.heap[g]? with | some (.cells cs _ _) => cs[j]? | _ => none) = _
    rw [ho]
    show cur[j]? = _
    rw [h7]
    congr 2
    simp [getElem!_pos, hj]
  · unfold World.frozen?
    show (match w.heap[g]? with | some (.cells _ _ (lo, hi)) => decide (lo ≤ 0 + j) && decide (0 + j < hi) | _ => false) = false
    rw [ho]
    simp
theorem putCells_toList (off : Nat) (d : List α) (cur : Array Value) (h : off = 0) : (putCells f off d.toArray cur).toList = (d.map f).take cur.size ++ cur.toList.drop d.length := by
  subst h
  apply List.ext_getElem?
  intro k
  simp only [putCells, Array.toList_mapIdx, List.getElem?_mapIdx]
  by_cases hk : k < cur.size
  · have hc : cur.toList[k]? = some cur[k] := by simp [hk]
    by_cases hd : k < d.length
    · rw [hc, List.getElem?_append_left (by simp; omega), List.getElem?_take, if_pos hk, List.getElem?_map, List.getElem?_eq_getElem hd]
      simp only [Option.map_some, Nat.zero_add, Nat.zero_le, true_and, List.size_toArray, hd, if_true, Nat.sub_zero]
      congr 1
      simp [getElem!_pos, hd]
    · rw [hc, List.getElem?_append_right (by simp; omega)]
      simp only [Option.map_some, Nat.zero_add, Nat.zero_le, true_and, List.size_toArray, hd, if_false, List.length_take, List.length_map, List.getElem?_drop]
      rw [Nat.min_eq_right (by omega), show d.length + (k - d.length) = k by omega, hc]
  · rw [List.getElem?_eq_none (by simpa using hk)]
    simp only [Option.map_none]
    rw [List.getElem?_eq_none]
    simp; omega
/-- A row whose cells are rewritten: the rest of its array stays. -/
theorem row_put {A : Option Addr} {g k : Nat} {os : Array Obj} {w' : World} {zs ys : List α} (h : (Ent.row (.slice A xs.length c) e 1 xs.length (xs.map f)).at w) (hA : A = some ⟨g, 0, none⟩) (hx : xs ≠ []) (hw : w' = grow (putRow f (Sort.ahead w k) g 0 zs.toArray) os) (hz : zs.length = xs.length) (m : Nat) (hm : m ≤ zs.length) (hy : zs.take m = ys) :
    Fr [g] w w' ∧ (Ent.row (.slice A m c) e 1 m (ys.map f)).at w' := by
  obtain ⟨g', hg, cur, ho, h3, h4, h5, h6⟩ := row_some h hx
  rw [hA] at hg
  cases hg
  subst hA; subst hw
  have hlt : g < w.heap.size := (Array.getElem?_eq_some_iff.1 ho).1
  have hheap : (grow (putRow f (Sort.ahead w k) g 0 zs.toArray) os).heap = (w.heap.modify g (onCells (putCells f 0 zs.toArray))) ++ os := rfl
  have hb : ∀ i, i < w.heap.size → ((w.heap.modify g (onCells (putCells f 0 zs.toArray))) ++ os)[i]? = (w.heap.modify g (onCells (putCells f 0 zs.toArray)))[i]? := fun i hi => by
    rw [Array.getElem?_append_left (by simpa using hi)]
  refine ⟨⟨rfl, rfl, rfl, by rw [hheap]; simp, fun i hi hn => ?_⟩, ?_⟩
  · rw [hheap, hb i hi, Array.getElem?_modify, if_neg (by intro h; exact hn (by rw [h]; simp))]
  · refine owns_row (base := 0) ⟨?_, .inr ⟨g, c, putCells f 0 zs.toArray cur, rfl, Nat.zero_le _, ?_, by omega, h4, ?_, ?_⟩⟩
    · rw [List.length_map, ← hy, List.length_take, Nat.mul_one, Nat.min_eq_left hm]
    · rw [hheap, hb g hlt, Array.getElem?_modify, if_pos rfl, ho]; rfl
    · simp [putCells, h5]
    · rw [putCells_toList 0 zs cur rfl, ← hy, Nat.mul_one, List.take_append_of_le_length (by simp; omega), List.take_take, List.map_take]
      congr 1
      omega
theorem give_one {E : Ent} {w : World} (h : Give (Lown [E]) w [E]) : E.at w := h.hold E (by simp)
theorem st_one {E E' : Ent} {w w' : World} {g : Nat} (hE : E.own = some g) (hE' : E'.own = some g) (hf : Fr [g] w w') (h : E'.at w') : St (Lown [E]) w w' [E'] := by
  refine ⟨hf.mono (fun b hb => ?_), fun x hx => ?_, List.pairwise_singleton _ _, fun x hx b hb => .inl ?_⟩
  · rw [List.mem_singleton] at hb; subst hb; exact List.mem_filterMap.2 ⟨E, by simp, hE⟩
  · rw [List.mem_singleton] at hx; subst hx; exact h
  · rw [List.mem_singleton] at hx; subst hx
    rw [hE'] at hb; cases hb
    exact List.mem_filterMap.2 ⟨E, by simp, hE⟩
theorem st_same {E : Ent} {w : World} (h : Give (Lown [E]) w [E]) : St (Lown [E]) w w [E] :=
  ⟨Fr.refl _ _, h.hold, h.dis, fun x hx b hb => .inl (h.own x hx b hb)⟩
end

/-! ### parts of rows -/
def subA (A : Option Addr) (cap lo sz : Nat) : Option Addr := if cap = lo then A else A.map (·.add (lo * sz))
theorem cells_take {w : World} {A : Option Addr} {cs : List Value} (h : Cells w A cs) (n : Nat) : Cells w A (cs.take n) := fun j v hv => by
  rw [List.getElem?_take] at hv
  split at hv
  · exact h j v hv
  · cases hv
theorem cells_sub {w : World} {A : Option Addr} {cs : List Value} (h : Cells w A cs) (cap lo n sz : Nat) (hn : n = 0 ∨ lo < cap) : Cells w (subA A cap lo sz) ((cs.drop (lo * sz)).take (n * sz)) := by
  rcases hn with rfl | hn
  · rw [Nat.zero_mul, List.take_zero]; intro j v hv; simp at hv
  · unfold subA
    rw [if_neg (by omega)]
    refine cells_take (fun j v hv => ?_) _
    rw [List.getElem?_drop] at hv
    obtain ⟨a, ha, hc⟩ := h _ v hv
    subst ha
    refine ⟨a.add (lo * sz), rfl, ?_⟩
    rw [← hc]
    congr 1
    by_cases h1 : lo * sz = 0 <;> by_cases h2 : j = 0 <;> simp [Addr.add, h1, h2, Nat.add_assoc]
section
variable {E : Env} {P : Program} {w : World} {x y : Operand} {dst : Option Nat} {t t' ty e : TypeId} {pos : String} {af : Array Edge} {g : Option (Nat × Bool)}
theorem x_subrow {A : Option Addr} {len cap n lo hi : Nat} {olo ohi : Option Operand} (hx : ev E x = .slice A len cap) (ht : P.underlying t = some (.slice e)) (hn : sizeIs P e = some n) (hlo : olo.map (ev E) = some (vI (lo : Int)) ∨ (olo.map (ev E) = none ∧ lo = 0)) (hhi : ohi.map (ev E) = some (vI (hi : Int)) ∨ (ohi.map (ev E) = none ∧ hi = len))
    (h1 : lo ≤ hi) (h2 : hi ≤ cap) : (execOp (ev E) ⟨dst, .slice t x olo ohi none, ty, pos, af, g⟩).run P w = .ok (.value (.slice (subA A cap lo n) (hi - lo) (cap - lo))) w := by
  have e1 : (0 : Int) ≤ (hi : Int) ∧ (hi : Int) ≤ ((cap : Nat) : Int) := by omega
  have e2 : (0 : Int) ≤ (lo : Int) ∧ (lo : Int) ≤ ((hi : Nat) : Int) := by omega
  have hr : (Instr.sliceAt t (.slice A len cap) (olo.map (ev E)) (ohi.map (ev E)) none).run P w = .ok (.slice (subA A cap lo n) (hi - lo) (cap - lo)) w := by
    rcases hlo with hlo | ⟨hlo, rfl⟩ <;> rcases hhi with hhi | ⟨hhi, rfl⟩ <;> rw [hlo, hhi]
    · simp only [Instr.sliceAt, Instr.slice, Instr.sliceBounds, Instr.sliceBound, asIntOf, run_underlying ht, run_sizeOf_is hn, Sem.run_bind, Sem.run_pure, Result.andThen_ok, if_pos e1, if_pos e2, Int.toNat_natCast]; rfl
    · simp only [Instr.sliceAt, Instr.slice, Instr.sliceBounds, Instr.sliceBound, asIntOf, run_underlying ht, run_sizeOf_is hn, Sem.run_bind, Sem.run_pure, Result.andThen_ok, if_pos e2, Int.toNat_natCast]; rfl
    · simp only [Instr.sliceAt, Instr.slice, Instr.sliceBounds, Instr.sliceBound, asIntOf, run_underlying ht, run_sizeOf_is hn, Sem.run_bind, Sem.run_pure, Result.andThen_ok, if_pos e1, Int.toNat_natCast]; rfl
    · simp only [Instr.sliceAt, Instr.slice, Instr.sliceBounds, run_underlying ht, run_sizeOf_is hn, Sem.run_bind, Sem.run_pure, Result.andThen_ok]; rfl
  simp only [execOp, hx]
  show Sem.run P (do let v ← Instr.sliceAt t (.slice A len cap) (olo.map (ev E)) (ohi.map (ev E)) none; pure (Next.value v)) w = _
  rw [Sem.run_bind, hr]; rfl
theorem row_le {A : Option Addr} {n c sz : Nat} {cs : List Value} (h : (Ent.row (.slice A n c) e sz n cs).at w) : n ≤ c := by
  rcases (row_owns h).2 with ⟨h1, h2⟩ | ⟨g, cap, cur, h1, _, ho, h3, h4, h5, h6⟩
  · omega
  · cases h1; exact h3
theorem x_subrow_row {S : List Nat} {w0 : World} {L : List Ent} (j : Nat) {A : Option Addr} {len cap n sz lo hi : Nat} {cs : List Value} {te : TypeId} {olo ohi : Option Operand} (hj : L[j]? = some (Ent.row (.slice A len cap) te sz len cs)) (hx : ev E x = .slice A len cap) (ht : P.underlying t = some (.slice e)) (hn : sizeIs P e = some n) (hlo : olo.map (ev E) = some (vI (lo : Int)) ∨ (olo.map (ev E) = none ∧ lo = 0)) (hhi : ohi.map (ev E) = some (vI (hi : Int)) ∨ (ohi.map (ev E) = none ∧ hi = len))
    (h1 : lo ≤ hi) (h2 : hi ≤ len) : ∀ w, St S w0 w L → (execOp (ev E) ⟨dst, .slice t x olo ohi none, ty, pos, af, g⟩).run P w = .ok (.value (.slice (subA A cap lo n) (hi - lo) (cap - lo))) w := fun w hS => by
  have := row_le (hS.mem hj)
  exact x_subrow hx ht hn hlo hhi h1 (by omega)
theorem cells_sub_row {α : Type} {S : List Nat} {w0 : World} {L : List Ent} (j : Nat) (f : α → Value) {xs : List α} {A : Option Addr} {cap : Nat} {te : TypeId} (lo hi : Nat) (hj : L[j]? = some (Ent.row (.slice A xs.length cap) te 1 xs.length (xs.map f))) (h1 : lo ≤ hi) (h2 : hi ≤ xs.length) : ∀ w, St S w0 w L → Cells w (subA A cap lo 1) (((xs.drop lo).take (hi - lo)).map f) := fun w hS => by
  have hc := row_le (hS.mem hj)
  have h := cells_sub (cells_row j hj w hS) cap lo (hi - lo) 1 (by omega)
  rw [Nat.mul_one, Nat.mul_one] at h
  rwa [List.map_take, List.map_drop]
end
end Go.GV
