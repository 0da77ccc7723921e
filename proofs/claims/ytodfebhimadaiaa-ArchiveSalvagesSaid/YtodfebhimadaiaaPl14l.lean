/- Pl14l: the items that are read from the frames that are kept. -/
import Derived.Test.YtodfebhimadaiaaPl14k
namespace Go.Proofs.Ytodfebhimadaiaa
open Go.GV
namespace R14
open Rd
def piece (t : Bytes) (i : Nat) : Frame := ⟨decide (i = 0), decide (t.length ≤ 56 * i + 56), sub t (56 * i) (min t.length (56 * i + 56))⟩
def whole (K : Nat → Bool) (p : Nat) (t : Bytes) : Bool := (List.range (chunks t)).all fun i => K (p + i)
def stepT (t : Bytes) : List Pair := if pOk t = true then [pairOf t] else []
def wholes (K : Nat → Bool) : Nat → List Bytes → List Pair
  | _, [] => []
  | p, t :: l => (if whole K p t = true then stepT t else []) ++ wholes K (p + chunks t) l
section
variable {F A B : List Frame} {K : Nat → Bool} {t : Bytes} {i : Nat}
theorem kept_mid (hF : F = A ++ pc t ++ B) (hi : i < chunks t) : kept F K ((A.length + i : Nat) : Int) = if K (A.length + i) = true then some (piece t i) else none := by
  rw [kept_at, hF, List.getElem?_append_left (by rw [List.length_append, pc_len]; omega), List.getElem?_append_right (by omega), Nat.add_sub_cancel_left, pc_get t hi]; rfl
theorem at_mid (hL : Lays F) (hF : F = A ++ pc t ++ B) : ∀ i, i < chunks t → (∀ j, j ≤ i → K (A.length + j) = true) → ∃ fu, At (kept F K) ((A.length : Nat) : Int) ((A.length + i : Nat) : Int) (piece t i) fu (t.take (56 * i + 56))
  | 0, hi, hk => by
    have hg := kept_mid (K := K) hF hi
    rw [if_pos (hk 0 (Nat.le_refl _))] at hg
    have h := at_start (kept_small hL) hg rfl
    refine ⟨65536, ?_⟩
    have e : (piece t 0).data = t.take (56 * 0 + 56) := by
      show sub t (56 * 0) (min t.length (56 * 0 + 56)) = _
      unfold sub
      rw [Nat.mul_zero, List.drop_zero, Nat.zero_add]
      rcases Nat.le_total t.length 56 with h | h
      · rw [Nat.min_eq_left h, List.take_length, List.take_of_length_le h]
      · rw [Nat.min_eq_right h]
    rw [e] at h
    exact h
  | i + 1, hi, hk => by
    obtain ⟨fu, h⟩ := at_mid hL hF i (by omega) fun j hj => hk j (by omega)
    have hlen : 56 * (i + 1) < t.length := by unfold chunks at hi; omega
    have hg := kept_mid (K := K) hF hi
    rw [if_pos (hk (i + 1) (Nat.le_refl _)), show ((A.length + (i + 1) : Nat) : Int) = ((A.length + i : Nat) : Int) + 1 by omega] at hg
    have h2 := at_next (kept_small hL) h (show (piece t i).last = false from decide_eq_false (by omega)) hg rfl
    refine ⟨fu - 1, ?_⟩
    rw [show ((A.length + (i + 1) : Nat) : Int) = ((A.length + i : Nat) : Int) + 1 by omega]
    have e : t.take (56 * i + 56) ++ (piece t (i + 1)).data = t.take (56 * (i + 1) + 56) := by
      show _ ++ sub t (56 * (i + 1)) (min t.length (56 * (i + 1) + 56)) = _
      unfold sub
      have e1 : t.take (min t.length (56 * (i + 1) + 56)) = t.take (56 * (i + 1) + 56) := by
        rcases Nat.le_total t.length (56 * (i + 1) + 56) with h | h
        · rw [Nat.min_eq_left h, List.take_length, List.take_of_length_le h]
        · rw [Nat.min_eq_right h]
      rw [e1]
      have e2 : t.take (56 * i + 56) = (t.take (56 * (i + 1) + 56)).take (56 * (i + 1)) := by
        rw [List.take_take]; congr 1; omega
      rw [e2, List.take_append_drop]
    rw [← e]
    exact h2
theorem item_go (hL : Lays F) (hF : F = A ++ pc t ++ B) : ∀ i, i ≤ chunks t → (∀ j, j < i → K (A.length + j) = true) ∨ ((∃ j, j < chunks t ∧ K (A.length + j) = false) ∧ item (kept F K) ((A.length : Nat) : Int) = none)
  | 0, _ => .inl fun j hj => by omega
  | i + 1, hi => by
    rcases item_go hL hF i (by omega) with h | h
    · cases hk : K (A.length + i) with
      | true =>
        refine .inl fun j hj => ?_
        rcases Nat.lt_succ_iff_lt_or_eq.1 hj with h2 | h2
        · exact h j h2
        · rw [h2]; exact hk
      | false =>
        refine .inr ⟨⟨i, by omega, hk⟩, ?_⟩
        have hg := kept_mid (K := K) hF (i := i) (by omega)
        rw [hk, if_neg (by decide)] at hg
        cases i with
        | zero => exact item_none (by rw [show ((A.length : Nat) : Int) = ((A.length + 0 : Nat) : Int) from rfl, hg]; rfl)
        | succ i =>
          obtain ⟨fu, ha⟩ := at_mid hL hF i (by omega) fun j hj => h j (by omega)
          refine at_gap ha (show (piece t i).last = false from decide_eq_false (by unfold chunks at hi; omega)) ?_
          rw [show ((A.length + i : Nat) : Int) + 1 = ((A.length + (i + 1) : Nat) : Int) by omega, hg]; rfl
    · exact .inr h
theorem item_at (hL : Lays F) (hF : F = A ++ pc t ++ B) (ht : 1 ≤ t.length) : item (kept F K) ((A.length : Nat) : Int) = if whole K A.length t = true then some t else none := by
  have hc : 1 ≤ chunks t := by unfold chunks; omega
  rcases item_go (K := K) hL hF (chunks t) (Nat.le_refl _) with h | ⟨⟨j, hj, hk⟩, h⟩
  · have hw : whole K A.length t = true := by
      unfold whole
      rw [List.all_eq_true]
      exact fun x hx => h x (List.mem_range.1 hx)
    rw [if_pos hw]
    obtain ⟨fu, ha⟩ := at_mid (K := K) hL hF (chunks t - 1) (by omega) fun j hj => h j (by omega)
    have hlast : t.length ≤ 56 * (chunks t - 1) + 56 := by unfold chunks; omega
    rw [at_last ha (show (piece t (chunks t - 1)).last = true from decide_eq_true hlast), List.take_of_length_le hlast]
  · have hw : ¬ whole K A.length t = true := by
      intro hw
      unfold whole at hw
      rw [List.all_eq_true] at hw
      have := hw j (List.mem_range.2 hj)
      rw [hk] at this; cases this
    rw [if_neg hw, h]
theorem item_in (hF : F = A ++ pc t ++ B) (h0 : 0 < i) (hi : i < chunks t) : item (kept F K) ((A.length + i : Nat) : Int) = none := by
  have hg := kept_mid (K := K) hF hi
  cases hk : K (A.length + i) with
  | true =>
    rw [hk, if_pos rfl] at hg
    exact item_inner hg (show (piece t i).first = false from decide_eq_false (by omega))
  | false =>
    rw [hk, if_neg (by decide)] at hg
    exact item_none (by rw [hg]; rfl)
theorem step_in (hF : F = A ++ pc t ++ B) (h0 : 0 < i) (hi : i < chunks t) : stepP (kept F K) ((A.length + i : Nat) : Int) = [] := by
  unfold stepP
  split
  · rfl
  · rw [item_in hF h0 hi]
theorem step_at (hL : Lays F) (hF : F = A ++ pc t ++ B) (ht : 1 ≤ t.length) (hA : A ≠ []) : stepP (kept F K) ((A.length : Nat) : Int) = if whole K A.length t = true then stepT t else [] := by
  have : 1 ≤ A.length := List.length_pos_iff.2 hA
  unfold stepP
  rw [if_neg (by omega), item_at hL hF ht]
  by_cases h : whole K A.length t = true
  · rw [if_pos h, if_pos h]; rfl
  · rw [if_neg h, if_neg h]
def stp (F : List Frame) (K : Nat → Bool) (n : Nat) : List Pair := stepP (kept F K) (n : Int)
theorem flat_nil {α β : Type} {f : α → List β} : ∀ {l : List α}, (∀ x ∈ l, f x = []) → l.flatMap f = []
  | [], _ => rfl
  | x :: l, h => by rw [List.flatMap_cons, h x (by simp), flat_nil fun y hy => h y (by simp [hy])]; rfl
theorem tail_nil (hF : F = A ++ pc t ++ B) {c : Nat} (hc : c + 1 = chunks t) : (List.range' (A.length + 1) c).flatMap (stp F K) = [] := by
  refine flat_nil fun x hx => ?_
  have hx := List.mem_range'_1.1 hx
  have := step_in (K := K) hF (i := x - A.length) (by omega) (by omega)
  rw [show A.length + (x - A.length) = x by omega] at this
  exact this
theorem flat_items (hL : Lays F) : ∀ (l : List Bytes) (A : List Frame), A ≠ [] → F = A ++ pcs l → (∀ t ∈ l, 1 ≤ t.length) → (List.range' A.length (pcs l).length).flatMap (stp F K) = wholes K A.length l
  | [], A, _, _, _ => rfl
  | t :: l, A, hA, hF, ht => by
    have e : pcs (t :: l) = pc t ++ pcs l := by unfold pcs; rw [List.flatMap_cons]
    rw [e] at hF ⊢
    have hF2 : F = A ++ pc t ++ pcs l := by rw [hF, List.append_assoc]
    have h1 := ht t (by simp)
    have hc : (chunks t - 1) + 1 = chunks t := by unfold chunks; omega
    have ih := flat_items hL l (A ++ pc t) (by simp [hA]) hF2 fun x hx => ht x (by simp [hx])
    rw [List.length_append, pc_len] at ih
    rw [List.length_append, pc_len, ← List.range'_append_1, List.flatMap_append, ih]
    show _ = (if whole K A.length t = true then stepT t else []) ++ wholes K (A.length + chunks t) l
    congr 1
    rw [← hc, List.range'_succ, List.flatMap_cons, tail_nil hF2 hc, List.append_nil]
    exact step_at hL hF2 h1 hA
theorem pairs_kept {m : List (Int × Frame)} {t : Bytes} {l : List Bytes} (hg : Good m) (hm : lkF m = kept F K) (hL : Lays F) (hF : F = pcs (t :: l)) (ht : ∀ x ∈ t :: l, 1 ≤ x.length) : pairs m = wholes K (chunks t) l := by
  have e : pcs (t :: l) = pc t ++ pcs l := by unfold pcs; rw [List.flatMap_cons]
  rw [e] at hF
  have hF2 : F = [] ++ pc t ++ pcs l := by rw [List.nil_append, hF]
  have h1 := ht t (by simp)
  have hc : (chunks t - 1) + 1 = chunks t := by unfold chunks; omega
  have hu : pairs m = (OrdI.upto F.length).flatMap (stepP (kept F K)) := by
    unfold pairs
    rw [hm]
    refine OrdI.srt_range hg.1 (fun x hx => ?_) _ (fun x hx => ?_)
    · obtain ⟨v, hv⟩ := lkF_some hx
      rw [hm] at hv
      unfold kept at hv
      split at hv
      · rename_i hc
        obtain ⟨hn, _⟩ := List.getElem?_eq_some_iff.1 hv
        omega
      · cases hv
    · unfold stepP
      split
      · rfl
      · rw [item_none]
        rw [← hm]
        cases hl : lkF m x with
        | none => rfl
        | some v => exact absurd (List.mem_map.2 ⟨_, lkF_mem hl, rfl⟩) hx
  rw [hu]
  unfold OrdI.upto
  rw [List.flatMap_map, List.range_eq_range', show F.length = chunks t + (pcs l).length by rw [hF, List.length_append, pc_len], ← List.range'_append_1, List.flatMap_append]
  have h2 := flat_items (K := K) hL l (pc t) (by intro h0; have := pc_len t; rw [h0] at this; simp at this; omega) hF fun x hx => ht x (by simp [hx])
  rw [pc_len] at h2
  have h3 : (List.range' 0 (chunks t)).flatMap (stp F K) = [] := by
    have h4 : (List.range' (0 + 1) (chunks t - 1)).flatMap (stp F K) = [] := tail_nil (A := []) hF2 hc
    rw [← hc, List.range'_succ, List.flatMap_cons, h4, List.append_nil]
    rfl
  show (List.range' 0 (chunks t)).flatMap (stp F K) ++ (List.range' (0 + chunks t) (pcs l).length).flatMap (stp F K) = _
  rw [h3, List.nil_append, Nat.zero_add, h2]
theorem item_first {t : Bytes} {l : List Bytes} (hL : Lays F) (hF : F = pcs (t :: l)) (ht : 1 ≤ t.length) : item (kept F K) 0 = if whole K 0 t = true then some t else none := by
  have e : pcs (t :: l) = pc t ++ pcs l := by unfold pcs; rw [List.flatMap_cons]
  exact item_at (A := []) hL (show F = [] ++ pc t ++ pcs l by rw [List.nil_append, hF, e]) ht
end
end R14
end Go.Proofs.Ytodfebhimadaiaa
