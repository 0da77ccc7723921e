/- Pl14i: what the reference salvages and decodes. -/
import Derived.Test.YtodfebhimadaiaaPl14h
namespace Go.Proofs.Ytodfebhimadaiaa
open Go.GV
namespace OrdI
theorem unique : ∀ {l m : List Int}, l.Pairwise (· < ·) → m.Pairwise (· < ·) → (∀ x, x ∈ l ↔ x ∈ m) → l = m
  | [], [], _, _, _ => rfl
  | [], y :: m, _, _, h => by have := (h y).2 (by simp); cases this
  | x :: l, [], _, _, h => by have := (h x).1 (by simp); cases this
  | x :: l, y :: m, h1, h2, h => by
    rw [List.pairwise_cons] at h1 h2
    have hxy : x = y := by
      rcases List.mem_cons.1 ((h x).1 (by simp)) with h4 | h4
      · exact h4
      · rcases List.mem_cons.1 ((h y).2 (by simp)) with h5 | h5
        · exact h5.symm
        · have := h1.1 y h5
          have := h2.1 x h4
          omega
    subst hxy
    congr 1
    refine unique h1.2 h2.2 fun z => ⟨fun hz => ?_, fun hz => ?_⟩
    · rcases List.mem_cons.1 ((h z).1 (by simp [hz])) with h4 | h4
      · have := h1.1 z hz; omega
      · exact h4
    · rcases List.mem_cons.1 ((h z).2 (by simp [hz])) with h4 | h4
      · have := h2.1 z hz; omega
      · exact h4
theorem srt_lt {xs : List Int} (h : xs.Nodup) : (srt xs).Pairwise (· < ·) := by
  have h1 : (srt xs).Pairwise (fun x y => x ≤ y) := by
    have h2 := List.pairwise_mergeSort (le := fun x y : Int => decide (x ≤ y)) (fun a b c hab hbc => by simp only [decide_eq_true_eq] at *; omega) (fun a b => by simp only [Bool.or_eq_true, decide_eq_true_eq]; omega) xs
    exact h2.imp (fun h => of_decide_eq_true h)
  have h2 : (srt xs).Nodup := (List.mergeSort_perm xs _).nodup_iff.2 h
  exact (h1.and h2).imp (fun h => by omega)
def upto (n : Nat) : List Int := (List.range n).map fun i : Nat => (i : Int)
theorem upto_lt (n : Nat) : (upto n).Pairwise (· < ·) := by
  unfold upto
  rw [List.pairwise_map]
  exact List.pairwise_lt_range.imp (fun h => by omega)
theorem upto_mem (n : Nat) (x : Int) : x ∈ upto n ↔ 0 ≤ x ∧ x < n := by
  unfold upto
  simp only [List.mem_map, List.mem_range]
  constructor
  · rintro ⟨i, hi, rfl⟩; omega
  · intro h; exact ⟨x.toNat, by omega, by omega⟩
theorem flat_filter {α : Type} (f : Int → List α) (p : Int → Bool) : ∀ l : List Int, (∀ x ∈ l, p x = false → f x = []) → l.flatMap f = (l.filter p).flatMap f
  | [], _ => rfl
  | x :: l, h => by
    have ih := flat_filter f p l fun y hy => h y (by simp [hy])
    rw [List.flatMap_cons, List.filter_cons]
    cases hp : p x with
    | true => rw [if_pos rfl, List.flatMap_cons, ih]
    | false => rw [if_neg (by decide), h x (by simp) hp, List.nil_append, ih]
theorem srt_range {α : Type} {xs : List Int} (hn : xs.Nodup) {N : Nat} (hb : ∀ x ∈ xs, 0 ≤ x ∧ x < N) (f : Int → List α) (hf : ∀ x, x ∉ xs → f x = []) : (srt xs).flatMap f = (upto N).flatMap f := by
  rw [flat_filter f (fun x => decide (x ∈ xs)) (upto N) (fun x _ hx => hf x (of_decide_eq_false hx))]
  congr 1
  refine unique (srt_lt hn) ((upto_lt N).filter _) fun x => ?_
  rw [srt_mem, List.mem_filter, upto_mem, decide_eq_true_eq]
  exact ⟨fun h => ⟨hb x h, h⟩, fun h => h.2⟩
end OrdI
namespace R14
open Rd
section
variable {up : UInt32 → Bytes → UInt32} {s t : Bytes} {l : List Piece} {m : List (Int × Frame)} {i k o : Nat} {n : Int} {ps : List Pair}
theorem rfN_range (up : UInt32 → Bytes → UInt32) (s : Bytes) : 0 ≤ rfN up s ∧ rfN up s ≤ 65535 := by
  have := rN_range s
  unfold rfN
  split
  · exact this
  · omega
theorem gL_append {p : Piece} (hp : p.ok = false) : gL (l ++ [p]) = gL l := by
  funext n
  by_cases hn : 0 ≤ n
  · obtain ⟨j, rfl⟩ := Int.eq_ofNat_of_zero_le hn
    rw [gL_at, gL_at]
    by_cases hj : j < l.length
    · have e : (l ++ [p]).getD j default = l.getD j default := by rw [List.getD_eq_getElem?_getD, List.getElem?_append_left hj, ← List.getD_eq_getElem?_getD]
      rw [e, List.length_append]
      simp only [hj, true_and, show j < l.length + [p].length by omega]
    · rw [if_neg (c := j < l.length ∧ _) (fun h => hj h.1), if_neg]
      rintro ⟨h1, h2⟩
      rw [List.length_append] at h1
      have : [p].length = 1 := rfl
      have e : j = l.length := by omega
      subst e
      rw [List.getD_eq_getElem?_getD, List.getElem?_append_right (Nat.le_refl _), Nat.sub_self] at h2
      simp [hp] at h2
  · unfold gL
    rw [if_neg (fun h => hn h.1), if_neg (fun h => hn h.1)]
theorem gL_set {p : Piece} {j : Nat} (hj : j < l.length) (hp : p.ok = true) (n : Int) : gL (l.set j p) n = if n = j then some (frP p) else gL l n := by
  by_cases hn : 0 ≤ n
  · obtain ⟨i, rfl⟩ := Int.eq_ofNat_of_zero_le hn
    rw [gL_at, gL_at, List.length_set]
    by_cases hij : i = j
    · subst hij
      have e : (l.set i p).getD i default = p := by rw [List.getD_eq_getElem?_getD, List.getElem?_set_self hj]; rfl
      rw [if_pos rfl, e, if_pos ⟨hj, hp⟩]
    · have e : (l.set j p).getD i default = l.getD i default := by rw [List.getD_eq_getElem?_getD, List.getElem?_set_ne (Ne.symm hij), ← List.getD_eq_getElem?_getD]
      rw [e, if_neg (show ¬ ((i : Int) = (j : Int)) by omega)]
  · unfold gL
    rw [if_neg (show ¬ n = (j : Int) by omega), if_neg (fun h => hn h.1), if_neg (fun h => hn h.1)]
theorem gL_nil : gL [] = lkF [] := by
  funext n
  unfold gL
  rw [if_neg (fun h => by simp at h)]; rfl
theorem rel_bad (h : gL l = lkF (coll up s k)) (he : rfE up (blk s k) ≠ 0) : gL l = lkF (coll up s (k + 1)) := by
  rw [h]
  show _ = lkF (stepF up (coll up s k) (blk s k))
  rw [stepF, if_neg (fun h => he h.1)]
theorem at_n (hn : 0 ≤ n) (h1 : n < l.length) (h2 : (l.getD n.toNat default).ok = true) : gL l n = some (frP (l.getD n.toNat default)) := by
  unfold gL
  rw [if_pos ⟨hn, by omega, h2⟩]
theorem at_no (h2 : (l.getD n.toNat default).ok = false) : gL l n = none := by
  unfold gL
  rw [if_neg (fun h => by rw [h.2.2] at h2; cases h2)]
theorem rel_same (h : gL l = lkF (coll up s k)) (h1 : ¬ ((l.length : Int) ≤ rfN up (blk s k))) (h2 : (!(l.getD (rfN up (blk s k)).toNat default).ok) = false) : gL l = lkF (coll up s (k + 1)) := by
  have e := at_n (l := l) (rfN_range up (blk s k)).1 (by omega) (by simpa using h2)
  rw [h] at e
  rw [h]
  show _ = lkF (stepF up (coll up s k) (blk s k))
  rw [stepF, if_neg (fun h => by rw [e] at h; cases h.2)]
theorem rel_set (h : gL l = lkF (coll up s k)) (he : rfE up (blk s k) = 0) (h1 : ¬ ((l.length : Int) ≤ rfN up (blk s k))) (h2 : (!(l.getD (rfN up (blk s k)).toNat default).ok) = true) : gL (l.set (rfN up (blk s k)).toNat ⟨true, rfA up (blk s k), rfB up (blk s k), rfD up (blk s k)⟩) = lkF (coll up s (k + 1)) := by
  have hr := (rfN_range up (blk s k)).1
  have e := at_no (l := l) (n := rfN up (blk s k)) (by simpa using h2)
  funext n
  rw [gL_set (by omega) rfl]
  show _ = lkF (stepF up (coll up s k) (blk s k)) n
  rw [h] at e
  have hc : rfE up (blk s k) = 0 ∧ (lkF (coll up s k) (rfN up (blk s k))).isSome = false := ⟨he, by rw [e]; rfl⟩
  rw [stepF, if_pos hc, lkF_append, ← h, Int.toNat_of_nonneg hr]
  by_cases hn : n = rfN up (blk s k)
  · subst hn
    rw [h, e, if_pos rfl, if_pos rfl]; rfl
  · rw [if_neg hn, if_neg hn]
    cases gL l n <;> rfl
theorem ref_end (h0 : 64 * k ≤ s.length) (h1 : o = 64 * k) (h2 : gL l = lkF (coll up s k)) (h3 : ¬ ((o : Int) + 64 ≤ s.length)) : gL l = lkF (sv up s) := by
  rw [h2, sv, show s.length / 64 = k by omega]
theorem small_gL (h : gL l = lkF (coll up s k)) : Small (gL l) := by rw [h]; exact small_lk (good_coll up s k)
theorem small_sv (h : gL l = lkF (sv up s)) : Small (gL l) := small_gL h
theorem stepP_none (h : gL l n = none) : stepP (gL l) n = [] := by
  unfold stepP
  split
  · rfl
  · rw [item_none (by rw [h]; rfl)]
def atP (l : List Piece) (i : Nat) : List Pair := stepP (gL l) (i : Int)
theorem pairs_range (h : gL l = lkF (sv up s)) (hi : l.length ≤ i) : (List.range i).flatMap (atP l) = pairs (sv up s) := by
  have hg := good_coll up s (s.length / 64)
  have e : (List.range i).flatMap (atP l) = (OrdI.upto i).flatMap (stepP (gL l)) := by
    unfold OrdI.upto
    rw [List.flatMap_map]; rfl
  rw [e]
  unfold pairs
  rw [← h]
  refine (OrdI.srt_range hg.1 (fun x hx => ?_) _ (fun x hx => ?_)).symm
  · obtain ⟨v, hv⟩ := lkF_some hx
    have hv' : gL l x = some v := by rw [h]; exact hv
    unfold gL at hv'
    split at hv'
    · rename_i hc; omega
    · cases hv'
  · apply stepP_none
    rw [h]
    cases hl : lkF (sv up s) x with
    | none => rfl
    | some v => exact absurd (List.mem_map.2 ⟨_, lkF_mem hl, rfl⟩) hx
theorem one_start : ([] : List Pair) = (List.range 1).flatMap (atP l) := by
  show [] = ([0] : List Nat).flatMap (atP l)
  simp [atP, stepP]
theorem range_step (f : Nat → List Pair) : (List.range (i + 1)).flatMap f = (List.range i).flatMap f ++ f i := by
  rw [List.range_succ, List.flatMap_append, List.flatMap_cons, List.flatMap_nil, List.append_nil]
theorem ref_skip (h : ps = (List.range i).flatMap (atP l)) (h1 : 1 ≤ i) (h2 : ((item (gL l) (i : Int)).isSome && pOk ((item (gL l) (i : Int)).getD [])) = false) : ps = (List.range (i + 1)).flatMap (atP l) := by
  rw [range_step, ← h]
  have e : atP l i = [] := by
    unfold atP stepP
    rw [if_neg (by omega)]
    cases hi : item (gL l) (i : Int) with
    | none => rfl
    | some t =>
      rw [hi] at h2
      show (if pOk t = true then _ else []) = []
      have h2 : (true && pOk t) = false := h2
      rw [Bool.true_and] at h2
      rw [h2]; rfl
  rw [e, List.append_nil]
theorem ref_add (h : ps = (List.range i).flatMap (atP l)) (h1 : 1 ≤ i) (h2 : ((item (gL l) (i : Int)).isSome && pOk ((item (gL l) (i : Int)).getD [])) = true) : ps ++ [pairOf ((item (gL l) (i : Int)).getD [])] = (List.range (i + 1)).flatMap (atP l) := by
  rw [range_step, ← h]
  have e : atP l i = [pairOf ((item (gL l) (i : Int)).getD [])] := by
    unfold atP stepP
    rw [if_neg (by omega)]
    cases hi : item (gL l) (i : Int) with
    | none => rw [hi] at h2; cases h2
    | some t =>
      rw [hi] at h2
      show (if pOk t = true then _ else []) = _
      have h2 : (true && pOk t) = true := h2
      rw [Bool.true_and] at h2
      rw [h2]; rfl
  rw [e]
theorem res_badL (h : gL l = lkF (sv up s)) (h2 : (!((item (gL l) 0).isSome) || !(zOk ((item (gL l) 0).getD []))) = true) : dz = svD up s ∧ 0 = svN up s ∧ [] = svP up s ∧ 0 = svM up s ∧ 11 = svE up s := by
  rw [h] at h2
  exact res_bad rfl (by simpa using h2)
theorem res_len (h2 : (!((item (gL l) 0).isSome) || !(zOk ((item (gL l) 0).getD []))) = false) : 1 ≤ l.length := by
  cases hl : l with
  | nil =>
    subst hl
    rw [item_none (g := gL []) (n := 0) (by rw [show gL [] 0 = none from rfl]; rfl)] at h2
    cases h2
  | cons a l => simp
theorem res_okL (h : gL l = lkF (sv up s)) (h2 : (!((item (gL l) 0).isSome) || !(zOk ((item (gL l) 0).getD []))) = false) (h4 : ps = (List.range i).flatMap (atP l)) (h5 : l.length ≤ i) : setOf ((item (gL l) 0).getD []) = svD up s ∧ (z9 ((item (gL l) 0).getD [])).1.getD 0 0 = svN up s ∧ ps = svP up s ∧ max 0 ((zc ((item (gL l) 0).getD [])).1 - (ps.length : Int)) = svM up s ∧ 0 = svE up s := by
  rw [pairs_range h h5] at h4
  rw [Bool.or_eq_false_iff] at h2
  rw [h] at h2 ⊢
  have hr := res_ok (ps := ps) rfl h2.1 h2.2 h4
  have hz : zOk ((item (lkF (sv up s)) 0).getD []) = true := by simpa using h2.2
  have e1 : fD ((item (lkF (sv up s)) 0).getD []) = setOf ((item (lkF (sv up s)) 0).getD []) := if_pos hz
  have e2 : fN ((item (lkF (sv up s)) 0).getD []) = (z9 ((item (lkF (sv up s)) 0).getD [])).1.getD 0 0 := if_pos hz
  have e3 : fC ((item (lkF (sv up s)) 0).getD []) = (zc ((item (lkF (sv up s)) 0).getD [])).1 := if_pos hz
  rw [e1, e2, e3] at hr
  exact hr
theorem dcr_bad (h : ((decide (svE up s ≠ 0) || decide (okE (valid (svD up s) (svN up s) (svP up s)) ≠ 0)) || decide (s ≠ encode up (svD up s) (svN up s) (svP up s))) = true) : dz = dcD up s ∧ 0 = dcN up s ∧ [] = dcP up s ∧ 11 = dcE up s := by
  by_cases h1 : svE up s ≠ 0
  · have h2 := dc_err h1
    refine ⟨h2.1, h2.2.1, h2.2.2.1, ?_⟩
    rw [← h2.2.2.2, (sv_err h1).2]
  · rw [decide_eq_false h1, Bool.false_or] at h
    simp only [Bool.or_eq_true, decide_eq_true_eq] at h
    exact dc_bad h1 (h.imp id Ne.symm)
theorem dcr_ok (h : ((decide (svE up s ≠ 0) || decide (okE (valid (svD up s) (svN up s) (svP up s)) ≠ 0)) || decide (s ≠ encode up (svD up s) (svN up s) (svP up s))) = false) : svD up s = dcD up s ∧ svN up s = dcN up s ∧ svP up s = dcP up s ∧ 0 = dcE up s := by
  simp only [Bool.or_eq_false_iff, decide_eq_false_iff_not] at h
  exact dc_ok h.1.1 (not_or.2 ⟨h.1.2, fun e => h.2 (Ne.symm e)⟩)
end
end R14
end Go.Proofs.Ytodfebhimadaiaa
