/- GvJ, Pl44q in one text. -/
import Derived.Test.YtnfglkgahlaofaaGreatDoorAll6
import Derived.Test.YtnfglkgahlaofaaGreatDoorAll21
set_option linter.unusedVariables false
set_option linter.unusedSimpArgs false
namespace Go.GV
open Go.RowKit
theorem set_flat {α : Type} (f : α → List Value) (sz : Nat) (hf : ∀ a, (f a).length = sz) : ∀ (xs : List α) (k o : Nat) (a d : α) (u : Value), k < xs.length → o < sz → f a = (f (xs.getD k d)).set o u → (xs.flatMap f).set (k * sz + o) u = (xs.set k a).flatMap f
  | [], _, _, _, _, _, h, _, _ => by simp at h
  | x :: xs, 0, o, a, d, u, _, ho, hs => by
    rw [List.flatMap_cons, List.set_cons_zero, List.flatMap_cons, hs, Nat.zero_mul, Nat.zero_add, List.set_append_left _ _ (by rw [hf]; exact ho)]
    rfl
  | x :: xs, k + 1, o, a, d, u, h, ho, hs => by
    have h' : k < xs.length := by simpa using h
    have ih := set_flat f sz hf xs k o a d u h' ho hs
    rw [List.set_cons_succ, List.flatMap_cons, List.flatMap_cons, ← ih, List.set_append_right _ _ (by rw [hf, Nat.succ_mul]; omega), hf, Nat.succ_mul, show k * sz + sz + o - sz = k * sz + o by omega]
section
variable {E : Env} {P : Program} {x y : Operand} {dst : Option Nat} {t ty : TypeId} {pos : String} {af : Array Edge} {g : Option (Nat × Bool)}
theorem O_store_row_c {α : Type} {S : List Nat} {w0 : World} {L : List Ent} {K : Value → List Ent → Prop} (j : Nat) (f : α → List Value) {A : Option Addr} {c k sz o : Nat} {te : TypeId} {xs : List α} {a d : α} {u : Value} (L' : List Ent)
    (hx : ev E x = .pointer (some (adr A (k * sz + o)))) (hy : ev E y = u) (hv : u.cells.toList = [u]) (h1 : u.oneCell' = true) (hj : L[j]? = some (Ent.row (.slice A xs.length c) te sz xs.length (xs.flatMap f))) (hn : sizeIs P t = some 1) (hf : ∀ a, (f a).length = sz) (hk : k < xs.length) (ho : o < sz)
    (hs : f a = (f (xs.getD k d)).set o u)
    (hL : L.set j (Ent.row (.slice A (xs.set k a).length c) te sz (xs.set k a).length ((xs.set k a).flatMap f)) = L') (kk : K undef L') : OpJ P S w0 E L ⟨dst, .store t x y, ty, pos, af, g⟩ K := by
  intro w hS
  subst hL
  have hat := hS.mem hj
  have hfl := flat_length f sz hf xs
  have hb : k * sz + sz ≤ xs.length * sz := by
    have := Nat.mul_le_mul_right sz hk
    rw [Nat.succ_mul] at this; exact this
  rcases hat.1.2 with ⟨h2, h3⟩ | ⟨gb, cap, cur, h2, hO, hcap, hmax, hcs, htk⟩
  · omega
  · simp only [Value.slice.injEq] at h2
    obtain ⟨rfl, _, rfl⟩ := h2
    have ho' : w.heap[gb]? = some (.cells cur te (0, 0)) := by simpa [Ent.row, Value.ownBlock] using hO
    have hblk : (Ent.blk gb te cur.toList).at w := by
      refine ⟨⟨?_, .inl (Nat.le_refl _)⟩, fun b hb2 => ?_⟩
      · show w.heap[gb]? = _
        rw [ho']
      · cases hb2
        exact (Array.getElem?_eq_some_iff.1 ho').1
    have hvl : u.cells.toList.length = 1 := by rw [hv]; rfl
    have hcl : xs.length * sz ≤ cur.toList.length := by
      have e1 := Nat.mul_le_mul_right sz hcap
      have e2 : cur.toList.length = c * sz := hcs
      omega
    have hadr : adr (some ⟨gb, 0, none⟩) (k * sz + o) = ⟨gb, k * sz + o, none⟩ := by
      simp [adr, Addr.add]
      try exact fun h => h.symm
      try omega
    rw [hadr] at hx
    obtain ⟨w', hr, hF, hB⟩ := run_storeVar_blk (P := P) (t := t) (o := k * sz + o) hblk hn hvl (by omega) (by rw [hv]; simp [h1])
    refine ⟨undef, _, w', .inr ⟨?_, rfl⟩, hS.writeAt hj gb rfl rfl hF ?_, kk⟩
    · simp only [execOp, hx, hy]
      show Sem.run P (do (do storeVar t (← Instr.sureAddr (.pointer (some ⟨gb, k * sz + o, none⟩))) u); pure Next.skip) w = _
      simp only [Instr.sureAddr, Sem.run_bind, Sem.run_pure, Result.andThen_ok, hr]
    · have hB1 : w'.heap[gb]? = some (.cells (splice cur.toList (k * sz + o) [u]).toArray te (0, 0)) := by rw [← hv]; exact hB.1
      have hsl : (splice cur.toList (k * sz + o) [u]).length = cur.toList.length := splice_length _ _ _
      refine ⟨flat_length f sz hf _, .inr ⟨gb, c, _, by rw [List.length_set], hB1, by rw [List.length_set]; exact hcap, hmax, ?_, ?_⟩⟩
      · rw [List.size_toArray, hsl, Array.length_toList, hcs]
      · rw [List.length_set]
        show (cur.toList.set (k * sz + o) u).take (xs.length * sz) = _
        rw [List.take_set, htk, set_flat f sz hf xs k o a d u hk ho hs]
end
end Go.GV

namespace Go.Proofs.YtnfglkgahlaofaaGreatDoor
open Go.GV
open Srt (Cmp)
namespace R44
def turn (f : SortField) : SortField := SortField.mk f.At f.Length f.Kind (!f.Descending)
theorem turn_step {l ts : List SortField} {k : Nat} (h : ts = (l.take k).map turn ++ l.drop k) (hk : k < l.length) : ts.set k (SortField.mk (ts.getD k default).At (ts.getD k default).Length (ts.getD k default).Kind (!((ts.getD k default).Descending))) = (l.take (k + 1)).map turn ++ l.drop (k + 1) := by
  have hl : ((l.take k).map turn).length = k := by rw [List.length_map, List.length_take]; omega
  have hg : ts.getD k default = l.getD k default := by
    rw [h, List.getD_eq_getElem?_getD, List.getElem?_append_right (by omega), hl, Nat.sub_self, List.getElem?_drop, Nat.add_zero, List.getD_eq_getElem?_getD]
  rw [hg, h, List.set_append_right _ _ (by omega), hl, Nat.sub_self, drop_cons (d := default) hk, List.set_cons_zero]
  rw [List.take_add_one, List.getElem?_eq_getElem hk, List.map_append]
  simp only [Option.toList, List.map_cons, List.map_nil, List.append_assoc, List.cons_append, List.nil_append]
  rw [List.getD_eq_getElem?_getD, List.getElem?_eq_getElem hk]
  rfl
theorem cmp1_turn (f : SortField) (a b : Bytes) : cmp1 (turn f) a b = -cmp1 f a b := by
  have e : cmpF (turn f) a b = cmpF f a b := rfl
  unfold cmp1
  rw [e]
  cases h : f.Descending <;> simp [turn, h]
theorem cmpL_turn : ∀ (l : List SortField) (a b : Bytes), cmpL (l.map turn) a b = -cmpL l a b
  | [], _, _ => rfl
  | f :: r, a, b => by
    rw [List.map_cons, cmpL, cmpL, cmp1_turn, cmpL_turn r]
    by_cases h : cmp1 f a b = 0
    · rw [if_neg (by omega), if_neg (by omega)]
    · rw [if_pos (by omega), if_pos h]
theorem valid_turn (l : List SortField) : valid (l.map turn) = valid l := by
  unfold valid
  rw [List.all_map, List.length_map]
  rfl
theorem cmpV_turn (l : List SortField) (a b : Bytes) : cmpV (l.map turn) a b = -cmpV l a b := by
  unfold cmpV
  rw [valid_turn]
  split
  · exact cmpL_turn l a b
  · rfl
theorem law_order {l ts : List SortField} {k : Nat} {a b c : Bytes} (h : ts = (l.take k).map turn ++ l.drop k) (hk : l.length ≤ k) :
    (((((decide (cmpV l a b = (-(cmpV l b a)))) && (decide (cmpV l a a = 0))) && (!(((decide (cmpV l a b ≤ 0)) && (decide (cmpV l b c ≤ 0))) && (decide (0 < cmpV l a c))))) && (!(((decide (cmpV l a b = 0)) && (decide (cmpV l b c = 0))) && (decide (cmpV l a c ≠ 0))))) && (decide (cmpV ts a b = (-(cmpV l a b))))) = true := by
  have hc := cmpV_ok l
  have e : ts = l.map turn := by rw [h, List.take_of_length_le hk, List.drop_of_length_le hk, List.append_nil]
  have h1 := hc.anti b a
  have h2 := hc.anti a a
  have h3 := hc.trans a b c
  have h4 := hc.trans c b a
  have h5 := hc.anti b c
  have h6 := hc.anti a c
  have h7 := hc.anti a b
  simp only [Bool.and_eq_true, Bool.not_eq_true', Bool.and_eq_false_iff, decide_eq_true_eq, decide_eq_false_iff_not, e, cmpV_turn, ne_eq, Decidable.not_not]
  refine ⟨⟨⟨⟨h1, by omega⟩, ?_⟩, ?_⟩, trivial⟩
  · by_cases x1 : cmpV l a b ≤ 0
    · by_cases x2 : cmpV l b c ≤ 0
      · have := h3 x1 x2; omega
      · omega
    · omega
  · by_cases x1 : cmpV l a b = 0
    · by_cases x2 : cmpV l b c = 0
      · have := h3 (by omega) (by omega); have := h4 (by omega) (by omega); omega
      · omega
    · omega
end R44
end Go.Proofs.YtnfglkgahlaofaaGreatDoor
