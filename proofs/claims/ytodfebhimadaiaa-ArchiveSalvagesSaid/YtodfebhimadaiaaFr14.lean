/- Fr14: ReadFrame reads what Frame writes. -/
import Derived.Test.YtodfebhimadaiaaAw14
namespace Go.Proofs.Ytodfebhimadaiaa
open Go.GV
namespace R14
theorem frame_good {up : UInt32 → Bytes → UInt32} {n : Int} {a b : Bool} {d : Bytes} (h : ¬ (n < 0 ∨ 65535 < n ∨ d.length < 1 ∨ 56 < d.length)) :
    ∃ z f, frame up n a b d = UInt8.ofInt n :: UInt8.ofInt (n / 256) :: marks a b :: UInt8.ofNat d.length :: (d ++ List.replicate z 0 ++ R02.le (up 0 f)) := by
  refine ⟨(60 : Int).toNat - (([UInt8.ofInt n, UInt8.ofInt (n / 256), marks a b, UInt8.ofNat d.length] ++ d) : Bytes).length, R01.padded ([UInt8.ofInt n, UInt8.ofInt (n / 256), marks a b, UInt8.ofNat d.length] ++ d) 60, ?_⟩
  unfold frame
  rw [if_neg h]
  unfold R01.padded
  simp only [List.cons_append, List.nil_append, List.append_assoc]
theorem marks_get (a b : Bool) : decide (marks a b % 2 = 1) = a ∧ decide ((2 : UInt8) ≤ marks a b) = b ∧ marks a b ≤ 3 := by
  cases a <;> cases b <;> decide
theorem ofInt_get {n : Int} (h0 : 0 ≤ n) (h1 : n ≤ 65535) : (((UInt8.ofInt n).toNat + 256 * (UInt8.ofInt (n / 256)).toNat : Nat) : Int) = n := by
  simp only [UInt8.ofInt, UInt8.toNat_ofNat']
  omega
theorem len_get {d : Bytes} (h : d.length ≤ 56) : (UInt8.ofNat d.length).toNat = d.length := by
  simp only [UInt8.toNat_ofNat']; omega
theorem read_back {up : UInt32 → Bytes → UInt32} {n : Int} {a b : Bool} {d : Bytes} (h : ¬ (n < 0 ∨ 65535 < n ∨ d.length < 1 ∨ 56 < d.length)) :
    rN (frame up n a b d) = n ∧ rA (frame up n a b d) = a ∧ rB (frame up n a b d) = b ∧ rD (frame up n a b d) = d ∧ rOk up (frame up n a b d) = true := by
  have hl := frame_len (up := up) (a := a) (b := b) h
  obtain ⟨z, f, hf⟩ := frame_good (up := up) (a := a) (b := b) h
  have hm := marks_get a b
  have hN : rN (frame up n a b d) = n := by
    unfold rN; rw [hf]; exact ofInt_get (by omega) (by omega)
  have hA : rA (frame up n a b d) = a := by unfold rA; rw [hf]; exact hm.1
  have hB : rB (frame up n a b d) = b := by unfold rB; rw [hf]; exact hm.2.1
  have hD : rD (frame up n a b d) = d := by
    unfold rD; rw [hf]
    show sub _ 4 (4 + (UInt8.ofNat d.length).toNat) = d
    rw [len_get (by omega)]
    unfold sub
    rw [Nat.add_comm 4 d.length]
    simp only [List.take_succ_cons, List.drop_succ_cons, List.drop_zero]
    rw [List.append_assoc, List.take_append_of_le_length (Nat.le_refl _), List.take_length]
  refine ⟨hN, hA, hB, hD, ?_⟩
  unfold rOk
  rw [hN, hA, hB, hD, decide_eq_true rfl, Bool.and_true]
  simp only [rPre, Bool.and_eq_true, decide_eq_true_eq]
  refine ⟨⟨⟨hl, ?_⟩, ?_⟩, ?_⟩
  · rw [hf]; exact hm.2.2
  · rw [hf]
    show (1 : UInt8) ≤ UInt8.ofNat d.length
    rw [UInt8.le_iff_toNat_le, len_get (by omega)]
    show 1 ≤ d.length; omega
  · rw [hf]
    show UInt8.ofNat d.length ≤ (56 : UInt8)
    rw [UInt8.le_iff_toNat_le, len_get (by omega)]
    show d.length ≤ 56; omega
end R14
end Go.Proofs.Ytodfebhimadaiaa
