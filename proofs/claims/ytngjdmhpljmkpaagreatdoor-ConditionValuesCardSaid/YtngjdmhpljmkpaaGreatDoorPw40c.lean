/- Pw40c: the reader of words: steps of the walk (plain Lean). -/
import Derived.Test.YtngjdmhpljmkpaaGreatDoorConditionValues8
set_option linter.unusedVariables false
set_option linter.unusedSimpArgs false
namespace Go.Proofs.YtngjdmhpljmkpaaGreatDoor
open Go.GV
namespace R40
theorem rels_len : rels.length = 6 := rfl
section
variable {ws : List Bytes} {i : Nat} {w : Bytes}
theorem isA_t (h : i < ws.length) (hw : ws.getD i [] = w) : true = isA ws i w := (isA_iff.2 ⟨h, hw⟩).symm
theorem isA_f (h : i < ws.length) (hw : ¬ ws.getD i [] = w) : false = isA ws i w := (Bool.eq_false_iff.2 fun e => hw (isA_iff.1 e).2).symm
theorem isA_g (h : ¬ i < ws.length) : false = isA ws i w := (Bool.eq_false_iff.2 fun e => h (isA_iff.1 e).1).symm
theorem is_bd {j : Nat} (h1 : isA ws i w = true → i + 1 = j ∧ i < ws.length) (h2 : isA ws i w = false → i = j) : i ≤ j ∧ j ≤ i + 1 ∧ (i ≤ ws.length → j ≤ ws.length) := by
  cases h : isA ws i w with
  | true => have := h1 h; omega
  | false => have := h2 h; omega
def RelJ (ws : List Bytes) (j0 r : Nat) (op : Int) (j : Nat) : Prop := (op = -1 ∧ j = j0 ∧ ∀ q, q < r → isA ws j0 (rels.getD q []) = false) ∨ (0 ≤ op ∧ j = j0 + 1 ∧ j0 < ws.length ∧ idx rels (ws.getD j0 []) = op)
theorem RelJ.start {j0 : Nat} : RelJ ws j0 0 (-1) j0 := .inl ⟨rfl, rfl, fun q h => absurd h (Nat.not_lt_zero _)⟩
section
variable {j0 r j : Nat} {op : Int}
theorem RelJ.bd (h : RelJ ws j0 r op j) : (op = -1 ∧ j = j0) ∨ (0 ≤ op ∧ op ≤ 5 ∧ j = j0 + 1 ∧ j0 < ws.length) := by
  rcases h with ⟨h1, h2, _⟩ | ⟨h1, h2, h3, h4⟩
  · exact .inl ⟨h1, h2⟩
  · have := (idx_lt rels (ws.getD j0 [])).2
    rw [rels_len] at this
    exact .inr ⟨h1, by omega, h2, h3⟩
theorem RelJ.skip (h : RelJ ws j0 r op j) (ho : ¬ op < 0) : RelJ ws j0 (r + 1) op j := by
  rcases h with ⟨h1, _, _⟩ | h
  · omega
  · exact .inr h
theorem RelJ.miss (h : RelJ ws j0 r op j) (ho : op < 0) (hn : isA ws j (rels.getD r []) = false) : RelJ ws j0 (r + 1) op j := by
  rcases h with ⟨h1, h2, h3⟩ | h
  · refine .inl ⟨h1, h2, fun q hq => ?_⟩
    by_cases e : q = r
    · rw [e, ← h2]; exact hn
    · exact h3 q (by omega)
  · omega
theorem RelJ.hit (h : RelJ ws j0 r op j) (ho : op < 0) (hr : r < rels.length) (hn : isA ws j (rels.getD r []) = true) : RelJ ws j0 (r + 1) (r : Int) (j + 1) := by
  rcases h with ⟨_, h2, h3⟩ | h
  · subst h2
    obtain ⟨h4, h5⟩ := isA_iff.1 hn
    refine .inr ⟨by omega, rfl, h4, ?_⟩
    refine (idx_hit (k := r) hr (fun q hq e => ?_) h5).symm
    have := h3 q hq
    rw [isA_iff.2 ⟨h4, e.symm⟩] at this; cases this
  · omega
theorem RelJ.none_ (h : RelJ ws j0 r op j) (hr : r = 6) (ho : op < 0) : ¬ (j0 < ws.length ∧ 0 ≤ idx rels (ws.getD j0 [])) := by
  rcases h with ⟨_, _, h3⟩ | h
  · rintro ⟨h4, h5⟩
    have h6 := (idx_lt rels (ws.getD j0 [])).2
    rw [rels_len] at h6
    have h7 := h3 (idx rels (ws.getD j0 [])).toNat (by omega)
    rw [isA_iff.2 ⟨h4, (idx_at h5).symm⟩] at h7; cases h7
  · omega
end
theorem basic_0 (h : ws.length ≤ i) : basicV ws i = ⟨false, i, []⟩ := by unfold basicV; rw [if_neg (by omega)]
theorem basic_1 (h : stepV (ws.getD i []) = false) : basicV ws i = ⟨false, i, []⟩ := by unfold basicV; rw [if_neg (by rw [h]; simp)]
section
variable (hi : i < ws.length) (hs : stepV (ws.getD i []) = true)
include hi hs
theorem basic_f (h : isA ws (i + 1) wFAILED = true) : basicV ws i = ⟨true, i + 2, [⟨1, ws.getD i [], 0, 0⟩]⟩ := by
  unfold basicV basicK; rw [if_pos ⟨hi, hs⟩, if_pos h]
theorem basic_r (h0 : isA ws (i + 1) wFAILED = false) (h : isA ws (i + 1) wRAN = true) : basicV ws i = ⟨true, i + 2, [⟨2, ws.getD i [], 0, 0⟩]⟩ := by
  unfold basicV basicK; rw [if_pos ⟨hi, hs⟩, if_neg (by rw [h0]; decide), if_pos h]
theorem basic_n (h0 : isA ws (i + 1) wFAILED = false) (h1 : isA ws (i + 1) wRAN = false) (h : isA ws (i + 1) wRC = false) : basicV ws i = ⟨false, i + 1, []⟩ := by
  unfold basicV basicK; rw [if_pos ⟨hi, hs⟩, if_neg (by rw [h0]; decide), if_neg (by rw [h1]; decide), if_neg (by rw [h]; decide)]
variable {r j : Nat} {op n : Int} (h0 : isA ws (i + 1) wFAILED = false) (h1 : isA ws (i + 1) wRAN = false) (h2 : isA ws (i + 1) wRC = true) (hR : RelJ ws (i + 2) r op j)
include h0 h1 h2 hR
theorem basic_op (hr : r = 6) (ho : op < 0) : basicV ws i = ⟨false, j, []⟩ := by
  have hb := hR.bd
  have hn := hR.none_ hr ho
  unfold basicV basicK
  rw [if_pos ⟨hi, hs⟩, if_neg (by rw [h0]; decide), if_neg (by rw [h1]; decide), if_pos h2, if_neg hn, show j = i + 2 by omega]
theorem basic_c (ho : ¬ op < 0) : basicV ws i = if i + 3 < ws.length then (match numC (ws.getD (i + 3) []) with | some n => ⟨true, i + 4, [⟨0, ws.getD i [], op, n⟩]⟩ | none => ⟨false, i + 3, []⟩) else ⟨false, i + 3, []⟩ := by
  have hb := hR.bd
  have he : idx rels (ws.getD (i + 2) []) = op := by
    rcases hR with ⟨h, _, _⟩ | ⟨_, _, _, h⟩
    · omega
    · exact h
  unfold basicV basicK
  rw [if_pos ⟨hi, hs⟩, if_neg (by rw [h0]; decide), if_neg (by rw [h1]; decide), if_pos h2, he, if_pos ⟨by omega, by omega⟩]
  by_cases h3 : i + 3 < ws.length
  · rw [if_pos h3, if_pos h3]
    cases numC (ws.getD (i + 3) []) <;> rfl
  · rw [if_neg h3, if_neg h3]
theorem basic_e (ho : ¬ op < 0) (hj : ws.length ≤ j) : basicV ws i = ⟨false, j, []⟩ := by
  have hb := hR.bd
  rw [basic_c hi hs h0 h1 h2 hR ho, if_neg (by omega), show j = i + 3 by omega]
theorem basic_x (ho : ¬ op < 0) (hn : numC (ws.getD j []) = none) : basicV ws i = ⟨false, j, []⟩ := by
  have hb := hR.bd
  have e : j = i + 3 := by omega
  rw [basic_c hi hs h0 h1 h2 hR ho, ← e, hn]
  split <;> rfl
theorem basic_y (ho : ¬ op < 0) (hj : j < ws.length) (hn : numC (ws.getD j []) = some n) : basicV ws i = ⟨true, j + 1, [⟨0, ws.getD i [], op, n⟩]⟩ := by
  have hb := hR.bd
  have e : j = i + 3 := by omega
  rw [basic_c hi hs h0 h1 h2 hR ho, ← e, if_pos hj, hn, e]
end
theorem numC_yes {s : Bytes} {n : Int} (h : ¬ Lib.decDigits n.toNat ≠ s) (h0 : 0 ≤ n) (h1 : n ≤ 4095) : numC s = some n := by rw [← Decidable.not_not.1 h]; exact numC_dec h0 h1
theorem numC_no {s : Bytes} {n : Int} {er : Bool} (h : R44.AtoiJ s n er) (hb : er = false ∨ n < 0 ∨ 4095 < n ∨ Lib.decDigits n.toNat ≠ s) : numC s = none := by
  cases hn : numC s with
  | none => rfl
  | some m =>
    exfalso
    unfold numC at hn
    split at hn
    · rename_i h2
      cases hn
      have ha := R44.atoi_dec (n := R44.vN s) (by omega)
      rw [h2.2] at ha
      cases her : er with
      | false => exact h.2.1 her _ ha
      | true =>
        have h3 := h.1 her
        rw [ha] at h3
        injection h3 with h3
        subst h3
        rw [her] at hb
        rcases hb with hb | hb | hb | hb
        · cases hb
        · omega
        · omega
        · exact hb (by rw [Int.toNat_natCast]; exact h2.2)
    · cases hn
section
variable {orF : Nat → PR} {n j m : Nat}
theorem nots_step (h : isA ws i wNOT = true) : nots ws i = nots ws (i + 1) + 1 := by
  obtain ⟨h1, h2⟩ := isA_iff.1 h
  rcases nots_case (ws := ws) i with h3 | h3
  · exact absurd h2 (h3.2 h1)
  · exact h3.1
theorem nots_none (h : isA ws i wNOT = false) : nots ws i = 0 := by
  rcases nots_case (ws := ws) i with h3 | h3
  · exact h3.1
  · rw [isA_iff.2 h3.2] at h; cases h
theorem part_eq (hn : nots ws i = n) {ok : Bool} {p : Nat} {T : List Test} (h : coreG ws orF (i + n) = ⟨ok, p, T⟩) : partG ws orF i = ⟨ok, p, T ++ List.replicate n (bare 4)⟩ := by
  unfold partG; rw [hn, h]
theorem part_eq' (hn : nots ws i = n) (hj : j = i + n) {ok : Bool} {p : Nat} {T : List Test} (h : coreG ws orF j = ⟨ok, p, T⟩) : partG ws orF i = ⟨ok, p, T ++ List.replicate n (bare 4)⟩ := part_eq hn (by rw [← hj]; exact h)
theorem core_lp0 (h1 : isA ws j wLP = true) (h : (orF (j + 1)).ok = false) : coreG ws orF j = ⟨false, (orF (j + 1)).pos, (orF (j + 1)).out⟩ := by
  unfold coreG; rw [if_pos h1, if_neg (by rw [h]; decide)]
theorem core_lp {q : Nat} (h1 : isA ws j wLP = true) (h : (orF (j + 1)).ok = true) (h2 : isA ws (orF (j + 1)).pos wRP = true → (orF (j + 1)).pos + 1 = q ∧ (orF (j + 1)).pos < ws.length) (h3 : isA ws (orF (j + 1)).pos wRP = false → (orF (j + 1)).pos = q) : coreG ws orF j = ⟨isA ws (orF (j + 1)).pos wRP, q, (orF (j + 1)).out⟩ := by
  unfold coreG; rw [if_pos h1, if_pos h]
  cases hp : isA ws (orF (j + 1)).pos wRP with
  | true => rw [if_pos rfl, (h2 hp).1]
  | false => rw [if_neg (by decide), h3 hp]
theorem core_any (h1 : isA ws j wLP = false) (h2 : isA ws j wFAILED = true) : coreG ws orF j = ⟨true, j + 1, [bare 3]⟩ := by
  unfold coreG; rw [if_neg (by rw [h1]; decide), if_pos h2]
theorem core_basic (h1 : isA ws j wLP = false) (h2 : isA ws j wFAILED = false) : coreG ws orF j = basicV ws j := by
  unfold coreG; rw [if_neg (by rw [h1]; decide), if_neg (by rw [h2]; decide)]
theorem core_basic' (h1 : isA ws j wLP = false) (h2 : isA ws j wFAILED = false) : coreG ws orF j = ⟨(basicV ws j).ok, (basicV ws j).pos, (basicV ws j).out⟩ := core_basic h1 h2
end
section
variable {pf : Nat → PR} {k : Int} {n j : Nat} {T : List Test}
theorem chain_no (h : (pf i).ok = false) : chainG ws pf w k i = ⟨false, (pf i).pos, (pf i).out⟩ := by
  unfold chainG; rw [if_neg (by rw [h]; decide)]
  cases hp : pf i; rw [hp] at h; cases h; rfl
theorem chain_start (h : (pf i).ok = true) : chainL ws pf w k (ws.length + 1) ⟨true, (pf i).pos, (pf i).out⟩ = chainG ws pf w k i := by
  unfold chainG; rw [if_pos h]
  cases hp : pf i; rw [hp] at h; cases h; rfl
theorem chain_step {G : PR} (hG : chainL ws pf w k n ⟨true, j, T⟩ = G) (hn : 0 < n) (h : isA ws j w = true) (hok : (pf (j + 1)).ok = true) : chainL ws pf w k (n - 1) ⟨true, (pf (j + 1)).pos, T ++ (pf (j + 1)).out ++ [bare k]⟩ = G := by
  obtain ⟨n, rfl⟩ : ∃ q, n = q + 1 := ⟨n - 1, by omega⟩
  rw [← hG, chainL, if_pos h, if_pos hok]; rfl
theorem chain_bad {G : PR} (hG : chainL ws pf w k n ⟨true, j, T⟩ = G) (hn : 0 < n) (h : isA ws j w = true) (hok : (pf (j + 1)).ok = false) : G = ⟨false, (pf (j + 1)).pos, T ++ (pf (j + 1)).out⟩ := by
  obtain ⟨n, rfl⟩ : ∃ q, n = q + 1 := ⟨n - 1, by omega⟩
  rw [← hG, chainL, if_pos h, if_neg (by rw [hok]; decide)]
theorem chain_done {G : PR} (hG : chainL ws pf w k n ⟨true, j, T⟩ = G) (h : isA ws j w = false) : G = ⟨true, j, T⟩ := by
  rw [← hG, chainL_no h]
end
end
end R40
end Go.Proofs.YtngjdmhpljmkpaaGreatDoor
