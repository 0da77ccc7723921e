/- Pl14g: the reference of chapters 1 and 14: readers by value, pieces. -/
import Derived.Test.YtodfebhimadaiaaPl14f
namespace Go.Proofs.Ytodfebhimadaiaa
open Go.GV
namespace Rd
section
variable {r : Reader} {most : Int} {s : Bytes} {k : Nat} {n : UInt64}
theorem num_bad (h : r.err = 0) (h2 : R01.dec r.left = (0, 0)) : number r = (0, ⟨[], 11⟩) := number_bad (by omega) (by rw [h2])
theorem num_hit {x : UInt64} (h : r.err = 0) (h2 : R01.dec r.left = (x, k + 1)) : number r = (x, ⟨r.left.drop (k + 1), 0⟩) := by
  rw [number_ok (by omega) (by rw [h2]; omega), h2]
theorem number_left (r : Reader) : (number r).2.left.length ≤ r.left.length := by
  unfold number
  split
  · exact Nat.le_refl _
  · split
    · exact Nat.zero_le _
    · show (r.left.drop _).length ≤ _
      rw [List.length_drop]; omega
theorem count_left (r : Reader) (most : Int) : (count r most).2.left.length ≤ r.left.length := by
  have := number_left r
  unfold count
  split
  · exact this
  · split
    · exact Nat.zero_le _
    · exact this
theorem rtext_left (r : Reader) (most : Int) : (rtext r most).2.left.length ≤ r.left.length := by
  have := count_left r most
  unfold rtext
  split
  · exact this
  · split
    · exact Nat.zero_le _
    · show ((count r most).2.left.drop _).length ≤ _
      rw [List.length_drop]; omega
theorem rbool_left (r : Reader) : (rbool r).2.left.length ≤ r.left.length := by
  unfold rbool
  split
  · exact Nat.le_refl _
  · split
    · exact Nat.zero_le _
    · show (r.left.drop _).length ≤ _
      rw [List.length_drop]; omega
theorem number_zero (r : Reader) : (number r).2.err = 0 ∨ (number r).1 = 0 := by
  unfold number
  split
  · exact .inr rfl
  · split
    · exact .inr rfl
    · exact .inl rfl
theorem number_zeroN (r : Reader) : (number r).2.err = 0 ∨ (number r).1.toNat = 0 := (number_zero r).imp id fun h => by rw [h]; rfl
theorem shl_add {b : UInt8} (hn : n.toNat < 2 ^ (7 * k)) (hk : k < 10) (h9 : (decide ((k : Int) = 9) && decide ((1 : UInt8) < b)) = false) : n + UInt64.ofBitVec (((b % 128).toUInt64).toBitVec <<< (7 * k)) = n ||| UInt64.ofBitVec (((b &&& 127).toUInt64).toBitVec <<< (7 * k)) := by
  have h9' : ¬ (k = 9 ∧ (1 : UInt8) < b) := fun h => by
    rw [decide_eq_true (by omega), decide_eq_true h.2] at h9; cases h9
  have h128 : k = 9 → b.toNat < 128 := fun h => by
    have := R01.small_one h h9'
    omega
  have hf := R01.fits (by omega) h9' h128
  have hb : b % 128 = b &&& 127 := by
    apply UInt8.toNat_inj.1
    rw [R01.and127, UInt8.toNat_mod]; rfl
  rw [hb]
  have e1 := R01.shifted_nat (n := n) hn hf
  have e0 := R01.shifted_nat (n := 0) (m := 7 * k) (b := b) (by show 0 < 2 ^ (7 * k); exact Nat.two_pow_pos _) hf
  unfold R01.shifted at e1 e0
  have hz : (0 : UInt64) ||| UInt64.ofBitVec (((b &&& 127).toUInt64).toBitVec <<< (7 * k)) = UInt64.ofBitVec (((b &&& 127).toUInt64).toBitVec <<< (7 * k)) := by
    apply UInt64.toBitVec_inj.1
    simp
  rw [hz] at e0
  apply UInt64.toNat_inj.1
  rw [UInt64.toNat_add, e1, e0]
  have hlt := (n ||| UInt64.ofBitVec (((b &&& 127).toUInt64).toBitVec <<< (7 * k))).toNat_lt
  rw [e1] at hlt
  rw [show (0 : UInt64).toNat = 0 from rfl, Nat.zero_add]
  exact Nat.mod_eq_of_lt hlt
theorem cnt_big (h0 : 0 ≤ most) (hm : (UInt64.ofInt most).toNat = most.toNat) (h : ((decide (((number r).2).err = 0)) && ((decide (most < 0)) || (decide (UInt64.ofInt most < (number r).1)))) = true) : count r most = (0, ⟨[], 8⟩) := by
  simp only [Bool.and_eq_true, Bool.or_eq_true, decide_eq_true_eq, UInt64.lt_iff_toNat_lt] at h
  exact count_bad (by omega) (by omega)
theorem cnt_fine (h0 : 0 ≤ most) (hm : (UInt64.ofInt most).toNat = most.toNat) (h : ((decide (((number r).2).err = 0)) && ((decide (most < 0)) || (decide (UInt64.ofInt most < (number r).1)))) = false) : count r most = (((number r).1.toNat : Int), (number r).2) := by
  by_cases he : (number r).2.err = 0
  · rw [decide_eq_true he, Bool.true_and, decide_eq_false (by omega), Bool.false_or, decide_eq_false_iff_not, UInt64.lt_iff_toNat_lt] at h
    exact count_ok (by omega) (by omega)
  · rw [count_no he]
    rcases number_zero r with h1 | h1
    · exact absurd h1 he
    · rw [h1]; rfl
theorem cnt_small (h0 : 0 ≤ most) (hm : (UInt64.ofInt most).toNat = most.toNat) (h : ((decide (((number r).2).err = 0)) && ((decide (most < 0)) || (decide (UInt64.ofInt most < (number r).1)))) = false) : ((number r).1.toNat : Int) ≤ most := by
  rcases number_zeroN r with h1 | h1
  · rw [decide_eq_true h1, Bool.true_and, decide_eq_false (by omega), Bool.false_or, decide_eq_false_iff_not, UInt64.lt_iff_toNat_lt] at h
    omega
  · omega
theorem rb_bad (h : ¬ r.err ≠ 0) (h2 : ((decide (((r.left.length : Nat) : Int) = 0)) || (decide ((1 : UInt8) < r.left.getD 0 0))) = true) : rbool r = (false, ⟨[], 11⟩) := by
  simp only [Bool.or_eq_true, decide_eq_true_eq] at h2
  exact rbool_bad h (h2.imp (fun h => List.length_eq_zero_iff.1 (by omega)) id)
theorem rb_ok (h : ¬ r.err ≠ 0) (h2 : ((decide (((r.left.length : Nat) : Int) = 0)) || (decide ((1 : UInt8) < r.left.getD 0 0))) = false) : rbool r = (decide (r.left.getD 0 0 = 1), ⟨r.left.drop 1, 0⟩) := by
  simp only [Bool.or_eq_false_iff, decide_eq_false_iff_not] at h2
  exact rbool_ok h (fun h3 => h3.elim (fun h => h2.1 (by rw [h]; rfl)) h2.2)
theorem rt_big (h : ((decide (((count r most).2).err = 0)) && (decide ((((((count r most).2).left).length : Nat) : Int) < (count r most).1))) = true) : rtext r most = ([], ⟨[], 11⟩) := by
  simp only [Bool.and_eq_true, decide_eq_true_eq] at h
  exact rtext_bad (by omega) h.2
theorem rt_no (h2 : (count r most).2.err ≠ 0) : rtext r most = ([], (count r most).2) := rtext_no h2
theorem rt_ok (h : ((decide (((count r most).2).err = 0)) && (decide ((((((count r most).2).left).length : Nat) : Int) < (count r most).1))) = false) (h2 : ¬ (count r most).2.err ≠ 0) : rtext r most = ((count r most).2.left.take (count r most).1.toNat, ⟨(count r most).2.left.drop (count r most).1.toNat, 0⟩) := by
  rw [decide_eq_true (show (count r most).2.err = 0 by omega), Bool.true_and, decide_eq_false_iff_not] at h
  exact rtext_ok h2 h
theorem end_open (h : ((decide (r.err = 0)) && (decide ((0 : Int) < ((r.left.length : Nat) : Int)))) = true) : fin r = 11 := by
  simp only [Bool.and_eq_true, decide_eq_true_eq] at h
  exact if_pos ⟨h.1, fun e => by rw [e] at h; exact absurd h.2 (by decide)⟩
theorem end_shut (h : ((decide (r.err = 0)) && (decide ((0 : Int) < ((r.left.length : Nat) : Int)))) = false) : fin r = r.err := by
  refine if_neg fun h2 => ?_
  rw [decide_eq_true h2.1, decide_eq_true (by have := List.length_pos_iff.2 h2.2; omega)] at h; cases h
end
end Rd
end Go.Proofs.Ytodfebhimadaiaa
