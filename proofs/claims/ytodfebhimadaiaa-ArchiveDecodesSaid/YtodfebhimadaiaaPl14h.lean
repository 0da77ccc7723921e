/- Pl14h: pieces by their places. -/
import Derived.Test.YtodfebhimadaiaaPl14g
namespace Go.Proofs.Ytodfebhimadaiaa
open Go.GV
namespace R14
open Rd
theorem zc_range (s : Bytes) : 0 ≤ (zc s).1 ∧ (zc s).1 ≤ 1024 := count_range (z9 s).2 1024 (by decide)
theorem pairOf_len (s : Bytes) : (pairOf s).key.length ≤ 32 ∧ (pairOf s).record.length ≤ 1000 := by
  have h1 := rtext_len ⟨s, 0⟩ 32 (by decide)
  have h2 := rtext_len (pairK s).2 1000 (by decide)
  exact ⟨by show (pairK s).1.length ≤ 32; unfold pairK; omega, by show (pairR s).1.length ≤ 1000; unfold pairR; omega⟩
def frP (p : Piece) : Frame := ⟨p.first, p.last, p.data⟩
def gL (l : List Piece) (n : Int) : Option Frame := if 0 ≤ n ∧ n.toNat < l.length ∧ (l.getD n.toNat default).ok = true then some (frP (l.getD n.toNat default)) else none
section
variable {l : List Piece} {p i F : Nat} {t : Bytes} {g : Int → Option Frame}
theorem gL_at (n : Nat) : gL l (n : Int) = if n < l.length ∧ (l.getD n default).ok = true then some (frP (l.getD n default)) else none := by
  unfold gL
  simp only [Int.toNat_natCast, Int.natCast_nonneg, true_and]
theorem gL_some {n : Nat} (h1 : n < l.length) (h2 : (l.getD n default).ok = true) : gL l (n : Int) = some (frP (l.getD n default)) := by rw [gL_at, if_pos ⟨h1, h2⟩]
theorem gL_none {n : Nat} (h : ¬ (n < l.length ∧ (l.getD n default).ok = true)) : gL l (n : Int) = none := by rw [gL_at, if_neg h]
theorem item_lenD (hs : Small g) (n : Int) : ((item g n).getD []).length ≤ 3670100 := by
  cases h : item g n with
  | none => exact Nat.zero_le _
  | some t => exact item_len hs h
theorem pdata (hs : Small (gL l)) (n : Nat) : n < l.length → (l.getD n default).ok = true → (l.getD n default).data.length ≤ 56 := fun h1 h2 => (hs _ _ (gL_some h1 h2)).2.2
theorem pdata2 (hs : Small (gL l)) (hc : (((decide ((i : Int) < (l.length : Int))) && ((l.getD i default).ok)) && ((decide ((i : Int) = (p : Int))) || (!((l.getD i default).first)))) = true) : (l.getD i default).data.length ≤ 56 := by
  simp only [Bool.and_eq_true, decide_eq_true_eq] at hc
  exact pdata hs i (by omega) hc.1.2
def AtL (l : List Piece) (p i F : Nat) (t : Bytes) : Prop := (p < l.length ∧ (l.getD p default).ok = true ∧ (l.getD p default).first = true) ∧ ((i = p ∧ t = [] ∧ F = 65537) ∨ ∃ f, p < i ∧ At (gL l) p ((i : Int) - 1) f F t ∧ f.last = false)
theorem atl_start (h : (((decide ((l.length : Int) ≤ (p : Int))) || (!((l.getD p default).ok))) || (!((l.getD p default).first))) = false) : AtL l p p 65537 [] := by
  simp only [Bool.or_eq_false_iff, decide_eq_false_iff_not, Bool.not_eq_false'] at h
  exact ⟨⟨by omega, h.1.2, h.2⟩, .inl ⟨rfl, rfl, rfl⟩⟩
theorem noL_start (h : (((decide ((l.length : Int) ≤ (p : Int))) || (!((l.getD p default).ok))) || (!((l.getD p default).first))) = true) : item (gL l) (p : Int) = none := by
  by_cases h1 : p < l.length ∧ (l.getD p default).ok = true
  · rw [decide_eq_false (by omega), h1.2] at h
    exact item_inner (gL_some h1.1 h1.2) (show (l.getD p default).first = false from by simpa using h)
  · exact item_none (by rw [gL_none h1]; rfl)
theorem atl_read (hs : Small (gL l)) (h : AtL l p i F t) (hc : (((decide ((i : Int) < (l.length : Int))) && ((l.getD i default).ok)) && ((decide ((i : Int) = (p : Int))) || (!((l.getD i default).first)))) = true) : At (gL l) p i (frP (l.getD i default)) (F - 1) (t ++ (l.getD i default).data) := by
  simp only [Bool.and_eq_true, Bool.or_eq_true, decide_eq_true_eq, Bool.not_eq_true'] at hc
  obtain ⟨⟨c1, c2⟩, c3⟩ := hc
  have hg := gL_some (l := l) (n := i) (by omega) c2
  rcases h with ⟨⟨s1, s2, s3⟩, ⟨rfl, rfl, rfl⟩ | ⟨f, h1, h2, h3⟩⟩
  · exact at_start hs hg s3
  · have e : (i : Int) - 1 + 1 = i := by omega
    have hfi : (l.getD i default).first = false := by
      rcases c3 with c3 | c3
      · omega
      · exact c3
    have := at_next (f2 := frP (l.getD i default)) hs h2 h3 (by rw [e]; exact hg) hfi
    rw [e] at this
    exact this
theorem atl_next (hs : Small (gL l)) (h : AtL l p i F t) (hc : (((decide ((i : Int) < (l.length : Int))) && ((l.getD i default).ok)) && ((decide ((i : Int) = (p : Int))) || (!((l.getD i default).first)))) = true) (hl : (l.getD i default).last = false) : AtL l p (i + 1) (F - 1) (t ++ (l.getD i default).data) := by
  have hr := atl_read hs h hc
  refine ⟨h.1, .inr ⟨frP (l.getD i default), ?_, ?_, hl⟩⟩
  · rcases h.2 with ⟨h1, _⟩ | ⟨_, h1, _⟩ <;> omega
  · rw [show ((i + 1 : Nat) : Int) - 1 = i by omega]
    exact hr
theorem atl_len (hs : Small (gL l)) (h : AtL l p i F t) (hc : (((decide ((i : Int) < (l.length : Int))) && ((l.getD i default).ok)) && ((decide ((i : Int) = (p : Int))) || (!((l.getD i default).first)))) = true) : (t ++ (l.getD i default).data).length ≤ 3670100 := (at_facts (atl_read hs h hc) hs).2.1
theorem atl_last (hs : Small (gL l)) (h : AtL l p i F t) (hc : (((decide ((i : Int) < (l.length : Int))) && ((l.getD i default).ok)) && ((decide ((i : Int) = (p : Int))) || (!((l.getD i default).first)))) = true) (hl : (l.getD i default).last = true) : item (gL l) (p : Int) = some (t ++ (l.getD i default).data) := at_last (atl_read hs h hc) hl
theorem atl_end (h : AtL l p i F t) (hc : (((decide ((i : Int) < (l.length : Int))) && ((l.getD i default).ok)) && ((decide ((i : Int) = (p : Int))) || (!((l.getD i default).first)))) = false) : item (gL l) (p : Int) = none := by
  rcases h with ⟨⟨s1, s2, s3⟩, ⟨rfl, rfl, rfl⟩ | ⟨f, h1, h2, h3⟩⟩
  · rw [decide_eq_true (show (i : Int) < l.length by omega), s2, decide_eq_true rfl] at hc
    cases hc
  · have e : (i : Int) - 1 + 1 = i := by omega
    by_cases c : i < l.length ∧ (l.getD i default).ok = true
    · rw [decide_eq_true (show (i : Int) < l.length by omega), c.2, decide_eq_false (show ¬ (i : Int) = p by omega)] at hc
      exact at_first h2 h3 (by rw [e]; exact gL_some c.1 c.2) (show (l.getD i default).first = true from by simpa using hc)
    · exact at_gap h2 h3 (by rw [e, gL_none c]; rfl)
end
end R14
end Go.Proofs.Ytodfebhimadaiaa
