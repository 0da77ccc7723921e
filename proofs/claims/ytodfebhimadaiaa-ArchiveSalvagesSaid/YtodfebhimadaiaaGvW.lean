/- GvW: an element of a row of structs is written. -/
import Derived.Test.YtodfebhimadaiaaGvR
namespace Go.GV
open Go.RowKit
theorem set_len {α : Type} (xs : List α) (k : Nat) (a : α) : (xs.set k a).length = xs.length := List.length_set
theorem splice_take {α : Type} : ∀ (vs cs : List α) (k m : Nat), k + vs.length ≤ m → (splice cs k vs).take m = splice (cs.take m) k vs
  | [], _, _, _, _ => rfl
  | v :: vs, cs, k, m, h => by
    rw [List.length_cons] at h
    rw [splice, splice, splice_take vs _ (k + 1) m (by omega), List.take_set]
theorem splice_flat {α : Type} (f : α → List Value) (sz : Nat) (hf : ∀ a, (f a).length = sz) : ∀ (xs : List α) (k : Nat) (a : α), k < xs.length → splice (xs.flatMap f) (k * sz) (f a) = (xs.set k a).flatMap f
  | [], _, _, h => by simp at h
  | x :: xs, 0, a, _ => by
    rw [Nat.zero_mul, List.flatMap_cons, List.set_cons_zero, List.flatMap_cons, splice_eq _ _ _ (by rw [hf, List.length_append, hf]; omega), hf, Nat.zero_add, List.take_zero, List.nil_append, List.drop_left' (hf x)]
  | x :: xs, k + 1, a, h => by
    have h' : k < xs.length := by simpa using h
    have ih := splice_flat f sz hf xs k a h'
    have hl := flat_length f sz hf xs
    have hb : k * sz + sz ≤ xs.length * sz := by
      have := Nat.mul_le_mul_right sz h'
      rw [Nat.succ_mul] at this; exact this
    rw [List.set_cons_succ, List.flatMap_cons, List.flatMap_cons, ← ih]
    rw [splice_eq _ _ _ (by rw [hf, List.length_append, hf, hl, Nat.succ_mul]; omega), splice_eq _ _ _ (by rw [hf, hl]; omega)]
    rw [hf, Nat.succ_mul, Nat.add_comm (k * sz) sz, List.take_append, List.drop_append, hf]
    rw [List.take_of_length_le (by rw [hf]; omega), List.drop_of_length_le (by rw [hf]; omega)]
    simp only [List.nil_append, List.append_assoc]
    rw [show sz + k * sz - sz = k * sz by omega, show sz + k * sz + sz - sz = k * sz + sz by omega, Nat.add_comm (k * sz) sz]
section
variable {E : Env} {P : Program} {x y : Operand} {dst : Option Nat} {t ty : TypeId} {pos : String} {af : Array Edge} {g : Option (Nat × Bool)}
theorem O_store_row_g {α : Type} {S : List Nat} {w0 : World} {L : List Ent} {K : Value → List Ent → Prop} (j : Nat) (f : α → List Value) {A : Option Addr} {c k sz : Nat} {te : TypeId} {xs : List α} {a : α} {v : Value} (L' : List Ent)
    (hx : ev E x = .pointer (some (adr A (k * sz)))) (hy : ev E y = v) (hv : v.cells.toList = f a) (hj : L[j]? = some (Ent.row (.slice A xs.length c) te sz xs.length (xs.flatMap f))) (hn : sizeIs P t = some sz) (hf : ∀ a, (f a).length = sz) (h1 : ∀ a, (f a).all Value.oneCell' = true) (hk : k < xs.length)
    (hL : L.set j (Ent.row (.slice A (xs.set k a).length c) te sz (xs.set k a).length ((xs.set k a).flatMap f)) = L') (kk : K undef L') : OpJ P S w0 E L ⟨dst, .store t x y, ty, pos, af, g⟩ K := by
  intro w hS
  subst hL
  have hat := hS.mem hj
  have hfl := flat_length f sz hf xs
  have hb : k * sz + sz ≤ xs.length * sz := by
    have := Nat.mul_le_mul_right sz hk
    rw [Nat.succ_mul] at this; exact this
  rcases hat.1.2 with ⟨h2, h3⟩ | ⟨gb, cap, cur, h2, ho, hcap, hmax, hcs, htk⟩
  · omega
  · simp only [Value.slice.injEq] at h2
    obtain ⟨rfl, _, rfl⟩ := h2
    have ho' : w.heap[gb]? = some (.cells cur te (0, 0)) := by simpa [Ent.row, Value.ownBlock] using ho
    have hblk : (Ent.blk gb te cur.toList).at w := by
      refine ⟨⟨?_, .inl (Nat.le_refl _)⟩, fun b hb2 => ?_⟩
      · show w.heap[gb]? = _
        rw [ho']
      · cases hb2
        exact (Array.getElem?_eq_some_iff.1 ho').1
    have hvl : v.cells.toList.length = sz := by rw [hv]; exact hf a
    have hcl : xs.length * sz ≤ cur.toList.length := by
      have e1 := Nat.mul_le_mul_right sz hcap
      have e2 : cur.toList.length = c * sz := hcs
      omega
    have hadr : adr (some ⟨gb, 0, none⟩) (k * sz) = ⟨gb, k * sz, none⟩ := by
      simp [adr, Addr.add]
      exact fun h => h.symm
    rw [hadr] at hx
    obtain ⟨w', hr, hF, hB⟩ := run_storeVar_blk (P := P) (t := t) (o := k * sz) hblk hn hvl (by omega) (by rw [hv]; exact h1 a)
    refine ⟨undef, _, w', .inr ⟨?_, rfl⟩, hS.writeAt hj gb rfl rfl hF ?_, kk⟩
    · simp only [execOp, hx, hy]
      show Sem.run P (do (do storeVar t (← Instr.sureAddr (.pointer (some ⟨gb, k * sz, none⟩))) v); pure Next.skip) w = _
      simp only [Instr.sureAddr, Sem.run_bind, Sem.run_pure, Result.andThen_ok, hr]
    · have hB1 : w'.heap[gb]? = some (.cells (splice cur.toList (k * sz) (f a)).toArray te (0, 0)) := by rw [← hv]; exact hB.1
      have hsl : (splice cur.toList (k * sz) (f a)).length = cur.toList.length := splice_length _ _ _
      refine ⟨flat_length f sz hf _, .inr ⟨gb, c, _, by rw [List.length_set], hB1, by rw [List.length_set]; exact hcap, hmax, ?_, ?_⟩⟩
      · rw [List.size_toArray, hsl, Array.length_toList, hcs]
      · rw [List.length_set]
        show (splice cur.toList (k * sz) (f a)).take (xs.length * sz) = _
        rw [splice_take _ _ _ _ (by rw [hf]; exact hb), htk, splice_flat f sz hf xs k a hk]
theorem map_flat {α : Type} (g : α → Value) (xs : List α) : xs.map g = xs.flatMap fun a => [g a] := by
  induction xs with
  | nil => rfl
  | cons a xs ih => rw [List.map_cons, List.flatMap_cons, ih]; rfl
theorem O_store_row_1 {α : Type} {S : List Nat} {w0 : World} {L : List Ent} {K : Value → List Ent → Prop} (j : Nat) (f : α → Value) {A : Option Addr} {c k : Nat} {te : TypeId} {xs : List α} {a : α} (L' : List Ent)
    (hx : ev E x = .pointer (some (adr A k))) (hy : ev E y = f a) (hj : L[j]? = some (Ent.row (.slice A xs.length c) te 1 xs.length (xs.map f))) (hn : sizeIs P t = some 1) (hv : (f a).cells.toList = [f a]) (h1 : ∀ a, (f a).oneCell' = true) (hk : k < xs.length)
    (hL : L.set j (Ent.row (.slice A (xs.set k a).length c) te 1 (xs.set k a).length ((xs.set k a).map f)) = L') (kk : K undef L') : OpJ P S w0 E L ⟨dst, .store t x y, ty, pos, af, g⟩ K := by
  rw [map_flat] at hj hL
  exact O_store_row_g (k := k) (a := a) j (fun a => [f a]) L' (by rw [Nat.mul_one]; exact hx) hy hv hj hn (fun _ => rfl) (fun b => by simp [h1 b]) hk hL kk
end
end Go.GV
