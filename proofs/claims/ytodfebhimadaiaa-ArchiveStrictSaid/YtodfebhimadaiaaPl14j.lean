/- Pl14j: what Decode accepts is what Encode returns. -/
import Derived.Test.YtodfebhimadaiaaPl14f
namespace Go.Proofs.Ytodfebhimadaiaa
open Go.GV
namespace R14
variable {s : Bytes}
def Strict (up : UInt32 → Bytes → UInt32) (s : Bytes) : Prop := (dcE up s = 0 → okE (valid (dcD up s) (dcN up s) (dcP up s)) = 0 ∧ s = encode up (dcD up s) (dcN up s) (dcP up s) ∧ valid (dcD up s) (dcN up s) (dcP up s) = true) ∧ (dcE up s ≠ 0 → dcE up s = 11 ∧ dcD up s = dz ∧ dcN up s = 0 ∧ dcP up s = [])
theorem strict (up : UInt32 → Bytes → UInt32) (s : Bytes) : Strict up s := by
  cases h : dcOk up s with
  | true =>
    have hd : dcD up s = svD up s := if_pos h
    have hn : dcN up s = svN up s := if_pos h
    have hp : dcP up s = svP up s := if_pos h
    have he : dcE up s = 0 := if_pos h
    refine ⟨fun _ => ?_, fun h2 => absurd he h2⟩
    rw [hd, hn, hp]
    unfold dcOk at h
    simp only [Bool.and_eq_true, decide_eq_true_eq] at h
    exact ⟨by rw [h.2.1]; rfl, h.2.2.symm, h.2.1⟩
  | false =>
    have h' : ¬ dcOk up s = true := by rw [h]; decide
    have he : dcE up s = 11 := if_neg h'
    exact ⟨fun h2 => (by rw [he] at h2; cases h2), fun _ => ⟨he, if_neg h', if_neg h', if_neg h'⟩⟩
theorem strict_yes {up : UInt32 → Bytes → UInt32} (h : Strict up s) (he : ¬ dcE up s ≠ 0) : ((decide (okE (valid (dcD up s) (dcN up s) (dcP up s)) = 0) && decide (s = encode up (dcD up s) (dcN up s) (dcP up s))) && valid (dcD up s) (dcN up s) (dcP up s)) = true := by
  obtain ⟨h1, h2, h3⟩ := h.1 (Decidable.not_not.1 he)
  rw [decide_eq_true h1, decide_eq_true h2, h3]; rfl
theorem strict_no {up : UInt32 → Bytes → UInt32} (h : Strict up s) (he : dcE up s ≠ 0) : (decide (dcE up s = 11) && same (dcD up s) (dcN up s) (dcP up s) dz 0 []) = true := by
  obtain ⟨h1, h2, h3, h4⟩ := h.2 he
  rw [h1, h2, h3, h4]; decide
end R14
end Go.Proofs.Ytodfebhimadaiaa
