/- GvE: blocks whose cells are a list of one kind; make, copy, slices of slices; rows that grow (append); slices that came in and are only read. -/
import Derived.Test.YtodfebhimadaiaaGvD
namespace Go.GV
open Go.RowKit
theorem map_at {α : Type} (f : α → Value) (xs : List α) (d : α) {k : Nat} (hk : k < xs.length) : (xs.map f)[k]? = some (f (xs.getD k d)) := by
  simp [List.getD_eq_getElem?_getD, List.getElem?_eq_getElem hk]
def one (v : Value) : Bool := match v with
  | .agg _ | .tuple _ => false
  | _ => true
theorem one_cells {v : Value} (h : one v = true) : v.cells.toList = [v] := by cases v <;> first | rfl | cases h
theorem one_cell' {v : Value} (h : one v = true) : v.oneCell' = true := by cases v <;> first | rfl | cases h
section
variable {E : Env} {P : Program} {w : World} {x y z : Operand} {dst : Option Nat} {t t' ty u : TypeId} {pos : String} {af : Array Edge} {g : Option (Nat × Bool)}
theorem x_load_arr {α : Type} {S : List Nat} {w0 : World} {L : List Ent} (j : Nat) (f : α → Value) (d : α) {b k : Nat} {tb : TypeId} {xs : List α} {fz : Nat × Nat} (hx : ev E x = .pointer (some ⟨b, k, none⟩)) (hj : L[j]? = some (Ent.blk b tb (xs.map f) fz)) (hs : scal P t = true) (hk : k < xs.length) :
    ∀ w, St S w0 w L → (execOp (ev E) ⟨dst, .load t x, ty, pos, af, g⟩).run P w = .ok (.value (f (xs.getD k d))) w := x_load j hx hj hs (map_at f xs d hk)
theorem load_blkA {α : Type} {S : List Nat} {w0 : World} {L : List Ent} (j : Nat) {b n : Nat} {tb : TypeId} {xs : List α} {fz : Nat × Nat} (f : α → Value) (h : St S w0 w L) (hj : L[j]? = some (Ent.blk b tb (xs.map f) fz)) (hs : aggs P t = true) (hn : sizeIs P t = some n) (hl : xs.length = n) : (loadVar t ⟨b, 0, none⟩).run P w = .ok (.agg (xs.map f).toArray) w := by
  subst hl
  exact load_blkN j (xs.map f) h hj hs (by simpa using hn) (by rw [List.drop_zero]; exact List.take_of_length_le (Nat.le_refl _))
theorem x_loadA {α : Type} {S : List Nat} {w0 : World} {L : List Ent} (j : Nat) (f : α → Value) {b n : Nat} {tb : TypeId} {xs : List α} {fz : Nat × Nat} (hx : ev E x = .pointer (some ⟨b, 0, none⟩)) (hj : L[j]? = some (Ent.blk b tb (xs.map f) fz)) (hs : aggs P t = true) (hn : sizeIs P t = some n) (hl : xs.length = n) :
    ∀ w, St S w0 w L → (execOp (ev E) ⟨dst, .load t x, ty, pos, af, g⟩).run P w = .ok (.value (.agg (xs.map f).toArray)) w :=
  fun _ h => exec_load hx (load_blkA j f h hj hs hn hl)
theorem O_store_arr {α : Type} {S : List Nat} {w0 : World} {L : List Ent} {K : Value → List Ent → Prop} (j : Nat) (f : α → Value) {b k : Nat} {tb : TypeId} {xs : List α} {fz : Nat × Nat} {a : α} (L' : List Ent)
    (hx : ev E x = .pointer (some ⟨b, k, none⟩)) (hy : ev E y = f a) (hj : L[j]? = some (Ent.blk b tb (xs.map f) fz)) (hn : sizeIs P t = some 1) (h1 : one (f a) = true) (hl : k < xs.length)
    (hL : L.set j (Ent.blk b tb ((xs.set k a).map f) fz) = L') (kk : K undef L') : OpJ P S w0 E L ⟨dst, .store t x y, ty, pos, af, g⟩ K :=
  O_store (v := f a) j ((xs.set k a).map f) L' hx hy hj hn (by rw [one_cells h1]; rfl) (by simp; omega) (by rw [one_cells h1]; simp [one_cell' h1]) (by rw [one_cells h1]; simp [splice, List.map_set]) hL kk
theorem splice_whole {α : Type} (cs vs : List α) (h : vs.length = cs.length) : splice cs 0 vs = vs := by
  rw [splice_eq _ _ _ (by omega)]; simp [h]
theorem O_storeA {α : Type} {S : List Nat} {w0 : World} {L : List Ent} {K : Value → List Ent → Prop} (j : Nat) (f : α → Value) {b n : Nat} {tb : TypeId} {cs : List Value} {fz : Nat × Nat} {xs : List α} (L' : List Ent)
    (hx : ev E x = .pointer (some ⟨b, 0, none⟩)) (hy : ev E y = .agg (xs.map f).toArray) (hj : L[j]? = some (Ent.blk b tb cs fz)) (hn : sizeIs P t = some n) (hc : cs.length = n) (hl : xs.length = n) (h1 : ∀ a, one (f a) = true)
    (hL : L.set j (Ent.blk b tb (xs.map f) fz) = L') (kk : K undef L') : OpJ P S w0 E L ⟨dst, .store t x y, ty, pos, af, g⟩ K :=
  O_store (v := .agg (xs.map f).toArray) j (xs.map f) L' hx hy hj hn (by show (xs.map f).length = n; simp [hl]) (by omega) (by simp only [Value.cells, List.all_map, List.all_eq_true]; intro a _; exact one_cell' (h1 a)) (splice_whole _ _ (by show (xs.map f).length = cs.length; simp [hl, hc])) hL kk
theorem add_0k1 (b k : Nat) : (⟨b, 0, none⟩ : Addr).add (k * 1) = ⟨b, k, none⟩ := by rw [add_lit, Nat.mul_one, Nat.zero_add]
theorem madeCells_one {z : Value} (h : one z = true) (n : Nat) : (madeCells z.cells n).toList = List.replicate n z := by
  have hc : z.cells = #[z] := by
    have := one_cells h
    apply Array.toList_inj.1; simpa using this
  rw [hc]
  simp [madeCells]
  apply List.ext_getElem?
  intro i
  by_cases hi : i < n
  · simp [hi, Nat.mod_one]
  · simp [hi]
theorem O_make {α : Type} {S : List Nat} {w0 : World} {L : List Ent} {K : Value → List Ent → Prop} (f : α → Value) (d : α) {e : TypeId} {n by_ : Nat} (ht : P.underlying t = some (.slice e)) (hs : sizeIs P e = some 1) (hz : zeroIs P e = some (f d)) (hb : bytesIs P e = some by_) (h1 : one (f d) = true)
    (hx : ev E x = vI (n : Int)) (hy : ev E y = vI (n : Int)) (hbound : by_ * n ≤ 281474976710656) (hbound2 : n ≤ 9223372036854775807) (k : ∀ b, K (.slice (some ⟨b, 0, none⟩) n n) (Ent.blk b e ((List.replicate n d).map f) :: L)) :
    OpJ P S w0 E L ⟨dst, .makeSlice t x y, ty, pos, af, g⟩ K := by
  intro w hS
  refine ⟨_, _, _, .inl ?_, hS.alloc_blk e ((List.replicate n d).map f), k w.heap.size⟩
  unfold sizeIs at hs; unfold zeroIs at hz; unfold bytesIs at hb
  cases hi : P.info? e with
  | none => rw [hi] at hs; cases hs
  | some i =>
    rw [hi] at hs hz hb
    simp at hs hz hb
    have hr := run_make (P := P) w t e i (f d) ht hi hz .i64 .i64 n n (by omega) (by omega) (by rw [hb, ← Int.natCast_mul]; omega) (by omega)
    rw [hs] at hr
    have hm : madeCells (f d).cells (n * 1) = ((List.replicate n d).map f).toArray := by
      apply Array.toList_inj.1
      rw [Nat.mul_one, madeCells_one h1]; simp
    simp only [Int.toNat_natCast, hm] at hr
    simp only [execOp, hx, hy]
    show Sem.run P (do let v ← Instr.makeSlice t (vI (n : Int)) (vI (n : Int)); pure (Next.value v)) w = _
    rw [Sem.run_bind, hr]; rfl
theorem run_subsl {a : Addr} {e : TypeId} {len cap n lo hi : Nat} {vlo vhi : Option Value} (ht : P.underlying t = some (.slice e)) (hn : sizeIs P e = some n) (hlo : vlo = some (vI (lo : Int)) ∨ (vlo = none ∧ lo = 0)) (hhi : vhi = some (vI (hi : Int)) ∨ (vhi = none ∧ hi = len))
    (h1 : lo ≤ hi) (h2 : hi ≤ cap) (h3 : lo < cap ∨ lo = 0) : (Instr.sliceAt t (.slice (some a) len cap) vlo vhi none).run P w = .ok (.slice (some (a.add (lo * n))) (hi - lo) (cap - lo)) w := by
  have ha : (if cap = lo then some a else (some a).map (·.add (lo * n))) = some (a.add (lo * n)) := by
    split
    · rcases h3 with h3 | h3
      · omega
      · subst h3; simp [Addr.add]
    · rfl
  have e1 : (0 : Int) ≤ (hi : Int) ∧ (hi : Int) ≤ ((cap : Nat) : Int) := by omega
  have e2 : (0 : Int) ≤ (lo : Int) ∧ (lo : Int) ≤ ((hi : Nat) : Int) := by omega
  rcases hlo with rfl | ⟨rfl, rfl⟩ <;> rcases hhi with rfl | ⟨rfl, rfl⟩ <;>
    simp only [Instr.sliceAt, Instr.slice, Instr.sliceBounds, Instr.sliceBound, asIntOf, run_underlying ht, Sem.run_bind, Sem.run_pure, Result.andThen_ok, Option.isSome_none, Bool.false_eq_true, if_false, if_pos e1, if_pos e2, Int.toNat_natCast, run_sizeOf_is hn, ha]
theorem x_subsl {a : Addr} {e : TypeId} {len cap n lo hi : Nat} {olo ohi : Option Operand} {b : Addr} (hx : ev E x = .slice (some a) len cap) (ht : P.underlying t = some (.slice e)) (hn : sizeIs P e = some n) (hlo : olo.map (ev E) = some (vI (lo : Int)) ∨ (olo.map (ev E) = none ∧ lo = 0)) (hhi : ohi.map (ev E) = some (vI (hi : Int)) ∨ (ohi.map (ev E) = none ∧ hi = len))
    (h1 : lo ≤ hi) (h2 : hi ≤ cap) (h3 : lo < cap ∨ lo = 0) (hb : a.add (lo * n) = b) : (execOp (ev E) ⟨dst, .slice t x olo ohi none, ty, pos, af, g⟩).run P w = .ok (.value (.slice (some b) (hi - lo) (cap - lo))) w := by
  subst hb
  have hr := run_subsl (P := P) (w := w) (a := a) (len := len) (cap := cap) ht hn hlo hhi h1 h2 h3
  simp only [execOp, hx]
  show Sem.run P (do let v ← Instr.sliceAt t (.slice (some a) len cap) (olo.map (ev E)) (ohi.map (ev E)) none; pure (Next.value v)) w = _
  rw [Sem.run_bind, hr]; rfl
theorem run_subarr {a : Addr} {e : TypeId} {len n lo hi : Nat} {vlo vhi : Option Value} (ht : P.underlying t = some (.array len e)) (hn : sizeIs P e = some n) (hlo : vlo = some (vI (lo : Int)) ∨ (vlo = none ∧ lo = 0)) (hhi : vhi = some (vI (hi : Int)) ∨ (vhi = none ∧ hi = len))
    (h1 : lo ≤ hi) (h2 : hi ≤ len) (h3 : lo < len ∨ lo = 0) : (Instr.sliceAt t (.pointer (some a)) vlo vhi none).run P w = .ok (.slice (some (a.add (lo * n))) (hi - lo) (len - lo)) w := by
  have ha : (if len = lo then a else a.add (lo * n)) = a.add (lo * n) := by
    split
    · rcases h3 with h3 | h3
      · omega
      · subst h3; simp [Addr.add]
    · rfl
  have e1 : (0 : Int) ≤ (hi : Int) ∧ (hi : Int) ≤ ((len : Nat) : Int) := by omega
  have e2 : (0 : Int) ≤ (lo : Int) ∧ (lo : Int) ≤ ((hi : Nat) : Int) := by omega
  rcases hlo with rfl | ⟨rfl, rfl⟩ <;> rcases hhi with rfl | ⟨rfl, rfl⟩ <;>
    simp only [Instr.sliceAt, Instr.sureAddr, Instr.sliceBounds, Instr.sliceBound, asIntOf, run_underlying ht, Sem.run_bind, Sem.run_pure, Result.andThen_ok, Option.isSome_none, Bool.false_eq_true, if_false, if_pos e1, if_pos e2, Int.toNat_natCast, run_sizeOf_is hn, ha]
theorem x_subarr {a b : Addr} {e : TypeId} {len n lo hi : Nat} {olo ohi : Option Operand} (hx : ev E x = .pointer (some a)) (ht : P.underlying t = some (.array len e)) (hn : sizeIs P e = some n) (hlo : olo.map (ev E) = some (vI (lo : Int)) ∨ (olo.map (ev E) = none ∧ lo = 0)) (hhi : ohi.map (ev E) = some (vI (hi : Int)) ∨ (ohi.map (ev E) = none ∧ hi = len))
    (h1 : lo ≤ hi) (h2 : hi ≤ len) (h3 : lo < len ∨ lo = 0) (hb : a.add (lo * n) = b) : (execOp (ev E) ⟨dst, .slice t x olo ohi none, ty, pos, af, g⟩).run P w = .ok (.value (.slice (some b) (hi - lo) (len - lo))) w := by
  subst hb
  have hr := run_subarr (P := P) (w := w) (a := a) ht hn hlo hhi h1 h2 h3
  simp only [execOp, hx]
  show Sem.run P (do let v ← Instr.sliceAt t (.pointer (some a)) (olo.map (ev E)) (ohi.map (ev E)) none; pure (Next.value v)) w = _
  rw [Sem.run_bind, hr]; rfl
theorem run_copy_blk {b off c m : Nat} {dT sT e : TypeId} {src : Value} {cs vs : List Value} {fz : Nat × Nat} {tb : TypeId} (hat : (Ent.blk b tb cs fz).at w) (hd : P.underlying dT = some (.slice e)) (hn : sizeIs P e = some 1) (d : Nat) (hlen : (Builtin.lenOf src).run P w = .ok m w)
    (hf : (Builtin.firstCells 1 (Nat.min m d) src).run P w = .ok vs.toArray w) (hvs : vs.length = Nat.min m d) (hfit : off + d ≤ cs.length) (h1 : ∀ v ∈ vs, v.oneCell' = true) :
    ∃ w', (Builtin.copy_ #[dT, sT] ty #[.slice (some ⟨b, off, none⟩) d c, src]).run P w = .ok (vI ((Nat.min m d : Nat) : Int)) w' ∧ Fr [b] w w' ∧ (Ent.blk b tb (splice cs off vs) fz).prop w'.heap[b]? := by
  obtain ⟨hb, hz⟩ := blk_at hat
  obtain ⟨w', hr, hF, hB⟩ := run_storeCells_blk (P := P) (o := off) vs 0 cs w hb hz (by rw [hvs]; have := Nat.min_le_right m d; simp only [Nat.min_def] at *; split <;> omega) h1
  refine ⟨w', ?_, hF, by simpa using hB, by rw [splice_length]; exact hz⟩
  simp only [Builtin.copy_, List.getElem?_toArray, List.getElem?_cons_zero, List.getElem?_cons_succ, Sem.run_bind, run_underlying hd, Result.andThen_ok, hlen, run_sizeOf_is hn, hf, hr, goInt, Sem.run_pure]
theorem O_copy_s {S : List Nat} {w0 : World} {L : List Ent} {K : Value → List Ent → Prop} (j : Nat) {b off c d : Nat} {tb dT sT e : TypeId} {xs s : Bytes} {fz : Nat × Nat} (L' : List Ent) (hx : ev E x = .slice (some ⟨b, off, none⟩) d c) (hy : ev E y = vS s) (hj : L[j]? = some (Ent.blk b tb (xs.map vU8) fz))
    (hd : P.underlying dT = some (.slice e)) (hn : sizeIs P e = some 1) (hfit : off + d ≤ xs.length) (hL : L.set j (Ent.blk b tb ((splice xs off (s.take d)).map vU8) fz) = L') (k : K (vI ((Nat.min s.length d : Nat) : Int)) L') :
    OpJ P S w0 E L ⟨dst, .call ⟨.builtin .copy, #[x, y], #[dT, sT]⟩, ty, pos, af, g⟩ K := by
  intro w hS
  subst hL
  have hlen : (Builtin.lenOf (vS s)).run P w = .ok s.length w := by simp [Builtin.lenOf, ByteArray.size]
  have hf : (Builtin.firstCells 1 (Nat.min s.length d) (vS s)).run P w = .ok ((s.take d).map vU8).toArray w := by
    simp only [Builtin.firstCells, extract_vS, sub_to, Sem.run_pure]
    have e1 : (s.take (Nat.min s.length d)) = s.take d := by
      rcases Nat.le_total s.length d with h | h
      · rw [show Nat.min s.length d = s.length from Nat.min_eq_left h, List.take_length, List.take_of_length_le h]
      · rw [show Nat.min s.length d = d from Nat.min_eq_right h]
    simp [e1]
  obtain ⟨w', hr, hF, hB⟩ := run_copy_blk (P := P) (ty := ty) (sT := sT) (c := c) (hS.mem hj) hd hn d hlen hf (by simp [List.length_take, Nat.min_comm]) (by simpa using hfit) (by intro v hv; obtain ⟨a, _, rfl⟩ := List.mem_map.1 hv; rfl)
  rw [splice_map] at hB
  refine ⟨_, _, w', .inl ?_, hS.writeAt hj b rfl rfl hF hB, k⟩
  simp [execOp, resolve, invoke, builtin, hx, hy, hr]
theorem O_copy_lit {S : List Nat} {w0 : World} {L : List Ent} {K : Value → List Ent → Prop} (j i : Nat) {b off c d b2 off2 c2 m : Nat} {tb tb2 dT sT e : TypeId} {xs ys : Bytes} {fz fz2 : Nat × Nat} (L' : List Ent) (hx : ev E x = .slice (some ⟨b, off, none⟩) d c) (hy : ev E y = .slice (some ⟨b2, off2, none⟩) m c2) (hj : L[j]? = some (Ent.blk b tb (xs.map vU8) fz)) (hi : L[i]? = some (Ent.blk b2 tb2 (ys.map vU8) fz2))
    (hd : P.underlying dT = some (.slice e)) (hn : sizeIs P e = some 1) (hfit : off + d ≤ xs.length) (hfit2 : off2 + m ≤ ys.length) (hL : L.set j (Ent.blk b tb ((splice xs off ((ys.drop off2).take (min m d))).map vU8) fz) = L') (k : K (vI ((Nat.min m d : Nat) : Int)) L') :
    OpJ P S w0 E L ⟨dst, .call ⟨.builtin .copy, #[x, y], #[dT, sT]⟩, ty, pos, af, g⟩ K := by
  intro w hS
  subst hL
  have hlen : (Builtin.lenOf (.slice (some ⟨b2, off2, none⟩) m c2)).run P w = .ok m w := rfl
  have hvl : ((ys.drop off2).take (min m d)).length = Nat.min m d := by
    simp only [List.length_take, List.length_drop]; show min (min m d) (ys.length - off2) = min m d; omega
  have hf : (Builtin.firstCells 1 (Nat.min m d) (.slice (some ⟨b2, off2, none⟩) m c2)).run P w = .ok (((ys.drop off2).take (min m d)).map vU8).toArray w := by
    simp only [Builtin.firstCells, Nat.mul_one]
    have := run_loadCells_list (P := P) w ⟨b2, off2, none⟩ (((ys.drop off2).take (min m d)).map vU8) (fun i v hv => by
      rw [add_lit]
      refine blk_cell (hS.mem hi) ?_
      rw [List.getElem?_map, List.getElem?_take] at hv
      split at hv
      · simpa using hv
      · cases hv)
    rw [List.length_map, hvl] at this
    exact this
  obtain ⟨w', hr, hF, hB⟩ := run_copy_blk (P := P) (ty := ty) (sT := sT) (c := c) (hS.mem hj) hd hn d hlen hf (by rw [List.length_map, hvl]) (by simpa using hfit) (by intro v hv; obtain ⟨a, _, rfl⟩ := List.mem_map.1 hv; rfl)
  rw [splice_map] at hB
  refine ⟨_, _, w', .inl ?_, hS.writeAt hj b rfl rfl hF hB, k⟩
  simp [execOp, resolve, invoke, builtin, hx, hy, hr]
theorem x_str_arr {S : List Nat} {w0 : World} {L : List Ent} (j : Nat) {b off n c : Nat} {tb e : TypeId} {xs : Bytes} {fz : Nat × Nat} (hx : ev E x = .slice (some ⟨b, off, none⟩) n c)
    (hs : P.underlying t = some (.slice e)) (he : P.underlying e = some (.int .u8)) (hd : P.underlying u = some .string) (hj : L[j]? = some (Ent.blk b tb (xs.map vU8) fz)) (hn : off + n ≤ xs.length) :
    ∀ w, St S w0 w L → (execOp (ev E) ⟨dst, .convert t u x, ty, pos, af, g⟩).run P w = .ok (.value (vS ((xs.drop off).take n))) w :=
  x_str_blk j hx hs he hd hj (by simp [List.length_take]; omega) (by simp [List.map_take, List.map_drop])
end
end Go.GV
