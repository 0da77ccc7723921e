/- Pl26d: the order of the records of an index. -/
import Derived.Test.YtimjfpioenkbjaaPl26c
import Derived.Test.YtimjfpioenkbjaaGvR
namespace Go.Proofs.Ytimjfpioenkbjaa
open Go.GV
namespace R26
theorem recs_sorted (a : DataSet) (l : List Pair) : (recs a l).Pairwise Ord.lt := (Ord.cs_spec (ents a l)).1
theorem recs_mem (a : DataSet) (l : List Pair) (s : Bytes) : s ∈ recs a l ↔ s ∈ ents a l := (Ord.cs_spec (ents a l)).2 s
theorem recs_nodup (a : DataSet) (l : List Pair) : (recs a l).Nodup := List.Pairwise.imp (R := Ord.lt) (fun {x y} h (e : x = y) => Ord.irr y (e ▸ h)) (recs_sorted a l)
theorem ents_good {a : DataSet} {l : List Pair} {s : Bytes} (h : s ∈ ents a l) : isAlt a = true ∧ (s.length : Int) = a.KeyLength := by
  unfold ents at h
  obtain ⟨x, _, hx⟩ := List.mem_flatMap.1 h
  unfold ent at hx
  by_cases h1 : (key a x.record).2 = true ∧ (x.key.length : Int) = a.KeyLength - a.AltLength
  · rw [if_pos h1, List.mem_singleton] at hx
    have hf := key_facts h1.1
    refine ⟨hf.1, ?_⟩
    rw [hx, List.length_append]; omega
  · rw [if_neg h1] at hx; cases hx
section
variable {a : DataSet} {l : List Pair} {k : Nat} {f W : List Bytes}
theorem recs_at (hk : k < (recs a l).length) : isAlt a = true ∧ (((recs a l).getD k []).length : Int) = a.KeyLength := by
  refine ents_good ((recs_mem a l _).1 ?_)
  rw [List.getD_eq_getElem?_getD, List.getElem?_eq_getElem hk]
  exact List.getElem_mem hk
theorem order_ok (hk : k < (recs a l).length) : (parts a ((recs a l).getD k [])).2.2 = 0 := by
  obtain ⟨h1, h2⟩ := recs_at hk
  rw [parts_ok h1 h2]
theorem lt_split : ∀ (n : Nat) (x y : Bytes), x.length = y.length → Ord.lt x y → Ord.lt (x.take n) (y.take n) ∨ (x.take n = y.take n ∧ Ord.lt (x.drop n) (y.drop n))
  | 0, x, y, _, h => .inr ⟨rfl, h⟩
  | n + 1, [], y, hl, h => by
    cases y with
    | nil => exact absurd h (Ord.irr _)
    | cons _ _ => simp at hl
  | n + 1, _ :: _, [], hl, _ => by simp at hl
  | n + 1, u :: x, v :: y, hl, h => by
    rw [Ord.lt_cons] at h
    simp only [List.take_succ_cons, List.drop_succ_cons]
    rcases h with h | ⟨h, h2⟩
    · exact .inl (Ord.lt_cons.2 (.inl h))
    · rcases lt_split n x y (by simpa using hl) h2 with h3 | ⟨h3, h4⟩
      · exact .inl (Ord.lt_cons.2 (.inr ⟨h, h3⟩))
      · exact .inr ⟨by rw [h3, UInt8.toNat_inj.1 h], h4⟩
theorem order_lt (h0 : 0 < k) (hk : k < (recs a l).length) : Ord.lt (parts a ((recs a l).getD (k - 1) [])).1 (parts a ((recs a l).getD k [])).1 ∨ ((parts a ((recs a l).getD (k - 1) [])).1 = (parts a ((recs a l).getD k [])).1 ∧ Ord.lt (parts a ((recs a l).getD (k - 1) [])).2.1 (parts a ((recs a l).getD k [])).2.1) := by
  obtain ⟨h1, h2⟩ := recs_at hk
  obtain ⟨_, h3⟩ := recs_at (show k - 1 < (recs a l).length by omega)
  have hs : Ord.lt ((recs a l).getD (k - 1) []) ((recs a l).getD k []) := by
    have := List.pairwise_iff_getElem.1 (recs_sorted a l) (k - 1) k (by omega) hk (by omega)
    rwa [List.getD_eq_getElem?_getD, List.getElem?_eq_getElem (show k - 1 < (recs a l).length by omega), List.getD_eq_getElem?_getD, List.getElem?_eq_getElem hk]
  rw [parts_ok h1 h2, parts_ok h1 h3]
  simp only [sub, List.drop_zero, List.take_length]
  exact lt_split _ _ _ (by omega) hs
theorem order_bad (h0 : 0 < k) (hk : k < (recs a l).length) (h : Op.bytesLess (parts a ((recs a l).getD (k - 1) [])).1 (parts a ((recs a l).getD k [])).1 = false ∧ ¬ (parts a ((recs a l).getD (k - 1) [])).1 = (parts a ((recs a l).getD k [])).1 ∨ (parts a ((recs a l).getD (k - 1) [])).1 = (parts a ((recs a l).getD k [])).1 ∧ Op.bytesLess (parts a ((recs a l).getD (k - 1) [])).2.1 (parts a ((recs a l).getD k [])).2.1 = false) : False := by
  have h3 := order_lt h0 hk
  unfold Ord.lt at h3
  rcases h3 with h1 | ⟨h1, h2⟩
  · rcases h with ⟨h, _⟩ | ⟨h, _⟩
    · rw [h1] at h; cases h
    · rw [h, less_self] at h1; cases h1
  · rcases h with ⟨_, h⟩ | ⟨_, h⟩
    · exact h h1
    · rw [h2] at h; cases h
theorem found_step (hk : k < (recs a l).length) (hf : f = (recs a l).take k) : addK f ((recs a l).getD k []) = (recs a l).take (k + 1) := by
  subst hf
  rw [addK_new]
  · rw [List.take_succ_eq_append_getElem hk, List.getD_eq_getElem?_getD, List.getElem?_eq_getElem hk]; rfl
  · intro h
    rw [List.getD_eq_getElem?_getD, List.getElem?_eq_getElem hk] at h
    obtain ⟨j, hj, e⟩ := List.getElem_of_mem h
    rw [List.length_take] at hj
    have h2 := List.pairwise_iff_getElem.1 (recs_sorted a l) j k (by omega) hk (by omega)
    rw [List.getElem_take] at e
    rw [e] at h2
    exact Ord.irr _ h2
def Wants (a : DataSet) (l : List Pair) (W : List Bytes) : Prop := W.Nodup ∧ ∀ s, s ∈ W ↔ s ∈ ents a l
theorem wants_nil : Wants a (l.take 0) [] := ⟨List.nodup_nil, fun s => by simp [ents]⟩
theorem wants_yes (hk : k < l.length) (h : Wants a (l.take k) W) (h2 : (key a (l.getD k default).record).2 = true) (h3 : ((l.getD k default).key.length : Int) + ((key a (l.getD k default).record).1.length : Int) = a.KeyLength) : Wants a (l.take (k + 1)) (addK W ((key a (l.getD k default).record).1 ++ (l.getD k default).key)) := by
  have hf := key_facts h2
  refine ⟨addK_nodup h.1, fun s => ?_⟩
  rw [addK_mem, h.2 s, ents_step hk, List.mem_append, ent, if_pos ⟨h2, by omega⟩, List.mem_singleton]
theorem wants_no (hk : k < l.length) (h : Wants a (l.take k) W) (h2 : ¬ ((key a (l.getD k default).record).2 = true ∧ ((l.getD k default).key.length : Int) + ((key a (l.getD k default).record).1.length : Int) = a.KeyLength)) : Wants a (l.take (k + 1)) W := by
  refine ⟨h.1, fun s => ?_⟩
  rw [h.2 s, ents_step hk, List.mem_append, ent, if_neg]
  · simp
  · rintro ⟨h3, h4⟩
    have hf := key_facts h3
    exact h2 ⟨h3, by omega⟩
theorem wants_len (hk : l.length ≤ k) (h : Wants a (l.take k) W) : (recs a l).length = W.length := by
  rw [List.take_of_length_le hk] at h
  exact nodup_len (recs_nodup a l) h.1 fun s => by rw [recs_mem, h.2]
theorem lens_bad {n : Nat} (hf : f = (recs a l).take n) (hn : (recs a l).length ≤ n) (hk : l.length ≤ k) (h : Wants a (l.take k) W) (h2 : (f.length : Int) ≠ W.length ∨ ((recs a l).length : Int) ≠ W.length) : False := by
  have := wants_len hk h
  rw [List.take_of_length_le hn] at hf
  subst hf
  omega
theorem wants_in (hk : l.length ≤ k) (h : Wants a (l.take k) W) {n : Nat} (hn : (recs a l).length ≤ n) {s : Bytes} (hs : s ∈ W) : s ∈ (recs a l).take n := by
  rw [List.take_of_length_le hk] at h
  rw [List.take_of_length_le hn, recs_mem, ← h.2]; exact hs
theorem want_bad {n : Nat} {s : Bytes} (hf : f = (recs a l).take n) (hn : (recs a l).length ≤ n) (hk : l.length ≤ k) (h : Wants a (l.take k) W) (hs : s ∈ W) (hb : hasK f s = false) : False := by
  have := wants_in hk h hn hs
  rw [← hf] at this
  exact hasK_not hb this
end
end R26
end Go.Proofs.Ytimjfpioenkbjaa
