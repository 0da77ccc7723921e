/- Pl14f: what is salvaged, and what Decode accepts, step by step. -/
import Derived.Test.YtodfebhimadaiaaPl14e
namespace Go.Proofs.Ytodfebhimadaiaa
open Go.GV
namespace R14
open Rd
def dcOk (up : UInt32 → Bytes → UInt32) (s : Bytes) : Bool := sOk (sv up s) && (valid (svD up s) (svN up s) (svP up s) && decide (encode up (svD up s) (svN up s) (svP up s) = s))
def dcD (up : UInt32 → Bytes → UInt32) (s : Bytes) : DataSet := if dcOk up s = true then svD up s else dz
def dcN (up : UInt32 → Bytes → UInt32) (s : Bytes) : Int := if dcOk up s = true then svN up s else 0
def dcP (up : UInt32 → Bytes → UInt32) (s : Bytes) : List Pair := if dcOk up s = true then svP up s else []
def dcE (up : UInt32 → Bytes → UInt32) (s : Bytes) : Int := if dcOk up s = true then 0 else 11
theorem keys_len (m : List (Int × Frame)) : (srt (m.map fun x => (mf x).1)).length = m.length := by rw [srt_length, List.length_map]
section
variable {up : UInt32 → Bytes → UInt32} {s t : Bytes} {m : List (Int × Frame)} {k j : Nat} {g : Int → Option Frame} {n : Int} {ks : List Int} {ps : List Pair}
theorem blk_of (h : t = s.drop (64 * k)) : sub t 0 64 = blk s k := by
  subst h
  unfold blk sub
  rw [List.drop_zero, List.take_drop]
theorem blk_next (h : t = s.drop (64 * k)) : sub t 64 t.length = s.drop (64 * (k + 1)) := by
  rw [sub_from, h, List.drop_drop]; rfl
theorem coll_yes2 (ht : t = s.drop (64 * k)) (h : m = coll up s k) (h1 : rfE up (sub t 0 64) = 0) (h2 : (lkF m (rfN up (sub t 0 64))).isSome = false) : updF m (rfN up (sub t 0 64)) ⟨rfA up (sub t 0 64), rfB up (sub t 0 64), rfD up (sub t 0 64)⟩ = coll up s (k + 1) := by
  rw [blk_of ht] at *
  exact coll_yes h h1 h2
theorem coll_no2 (ht : t = s.drop (64 * k)) (h : m = coll up s k) (h1 : (decide (rfE up (sub t 0 64) = 0) && !((lkF m (rfN up (sub t 0 64))).isSome)) = false) : m = coll up s (k + 1) := by
  rw [blk_of ht] at *
  refine coll_no h fun h2 => ?_
  rw [decide_eq_true h2.1, h2.2] at h1; cases h1
theorem sv_end (h0 : 64 * k ≤ s.length) (h1 : t = s.drop (64 * k)) (h2 : m = coll up s k) (h3 : t.length < 64) : m = sv up s := by
  rw [h1, List.length_drop] at h3
  rw [h2, sv, show s.length / 64 = k by omega]
theorem good_sv (h : m = sv up s) : Good m := by rw [h]; exact good_coll up s _
theorem sv_len (h : m = sv up s) : m.length ≤ s.length := by
  rw [h]
  have := coll_len up s (s.length / 64)
  unfold sv
  omega
theorem flatP_step {f : Int → List Pair} (hj : j < ks.length) : (ks.take (j + 1)).flatMap f = (ks.take j).flatMap f ++ f (ks.getD j 0) := by
  rw [List.take_succ_eq_append_getElem hj, List.flatMap_append, List.getD_eq_getElem?_getD, List.getElem?_eq_getElem hj]
  simp
theorem pairs_skip {f : Int → List Pair} (hj : j < ks.length) (h : ps = (ks.take j).flatMap f) (h2 : f (ks.getD j 0) = []) : ps = (ks.take (j + 1)).flatMap f := by rw [flatP_step hj, h2, List.append_nil, h]
theorem pairs_add {f : Int → List Pair} {p : Pair} (hj : j < ks.length) (h : ps = (ks.take j).flatMap f) (h2 : f (ks.getD j 0) = [p]) : ps ++ [p] = (ks.take (j + 1)).flatMap f := by rw [flatP_step hj, h2, h]
theorem stepP_zero (h : (decide (n = 0) || !((item g n).isSome)) = true) : stepP g n = [] := by
  unfold stepP
  by_cases hn : n = 0
  · rw [if_pos hn]
  · rw [if_neg hn]
    cases hi : item g n with
    | none => rfl
    | some v => rw [hi, decide_eq_false hn] at h; cases h
theorem stepP_at (h : (decide (n = 0) || !((item g n).isSome)) = false) : stepP g n = if pOk ((item g n).getD []) = true then [pairOf ((item g n).getD [])] else [] := by
  unfold stepP
  by_cases hn : n = 0
  · rw [decide_eq_true hn] at h; cases h
  · rw [if_neg hn]
    cases hi : item g n with
    | none => rw [hi, decide_eq_false hn] at h; cases h
    | some v => rfl
theorem stepP_bad (h : (decide (n = 0) || !((item g n).isSome)) = false) (h2 : decide (fin (pairR ((item g n).getD [])).2 = 0) = false) : stepP g n = [] := by
  rw [stepP_at h, if_neg (by unfold pOk; rw [h2]; decide)]
theorem stepP_ok (h : (decide (n = 0) || !((item g n).isSome)) = false) (h2 : decide (fin (pairR ((item g n).getD [])).2 = 0) = true) : stepP g n = [pairOf ((item g n).getD [])] := by
  rw [stepP_at h, if_pos (by unfold pOk; exact h2)]
theorem stepP_len (g : Int → Option Frame) (n : Int) : (stepP g n).length ≤ 1 := by
  unfold stepP
  split
  · exact Nat.zero_le _
  · split
    · exact Nat.zero_le _
    · split
      · exact Nat.le_refl _
      · exact Nat.zero_le _
theorem flat_len1 {f : Int → List Pair} (hf : ∀ n, (f n).length ≤ 1) : ∀ l : List Int, (l.flatMap f).length ≤ l.length
  | [] => Nat.le_refl _
  | x :: l => by
    have := flat_len1 hf l
    have := hf x
    rw [List.flatMap_cons, List.length_append, List.length_cons]; omega
theorem res_bad (h : m = sv up s) (h2 : (!((item (lkF m) 0).isSome)) = true ∨ (!(zOk ((item (lkF m) 0).getD []))) = true) : dz = svD up s ∧ 0 = svN up s ∧ [] = svP up s ∧ 0 = svM up s ∧ 11 = svE up s := by
  have hs : sOk (sv up s) = false := by
    rw [← h]
    unfold sOk head
    rcases h2 with h2 | h2
    · rw [Bool.not_eq_true'] at h2; rw [h2]; rfl
    · rw [Bool.not_eq_true'] at h2; rw [h2, Bool.and_false]
  unfold svD svN svP svM svE
  rw [hs]
  exact ⟨rfl, rfl, rfl, rfl, rfl⟩
theorem res_ok (h : m = sv up s) (h2 : (!((item (lkF m) 0).isSome)) = false) (h3 : (!(zOk ((item (lkF m) 0).getD []))) = false) (h4 : ps = pairs m) : fD ((item (lkF m) 0).getD []) = svD up s ∧ fN ((item (lkF m) 0).getD []) = svN up s ∧ ps = svP up s ∧ max 0 (fC ((item (lkF m) 0).getD []) - (ps.length : Int)) = svM up s ∧ 0 = svE up s := by
  have hs : sOk (sv up s) = true := by
    rw [← h]
    unfold sOk head
    rw [Bool.not_eq_false'] at h2 h3
    rw [h2, h3]; rfl
  unfold svD svN svP svM svE
  rw [if_pos hs, if_pos hs, if_pos hs, if_pos hs, if_pos hs, ← h, h4]
  exact ⟨rfl, rfl, rfl, rfl, rfl⟩
theorem svP_len (up : UInt32 → Bytes → UInt32) (s : Bytes) : (svP up s).length ≤ s.length := by
  unfold svP
  split
  · have h1 := flat_len1 (stepP_len (lkF (sv up s))) (srt ((sv up s).map (·.1)))
    rw [srt_length, List.length_map] at h1
    exact Nat.le_trans h1 (sv_len rfl)
  · exact Nat.zero_le _
theorem sv_state (h : svE up s = 0) : sOk (sv up s) = true := by
  unfold svE at h
  cases hs : sOk (sv up s) with
  | true => rfl
  | false => rw [hs] at h; cases h
end
end R14
end Go.Proofs.Ytodfebhimadaiaa
