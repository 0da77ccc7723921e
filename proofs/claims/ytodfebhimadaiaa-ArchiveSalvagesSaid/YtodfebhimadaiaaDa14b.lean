/- Da14b: the checksum finds every burst of at most four bytes. -/
import Derived.Test.YtodfebhimadaiaaDa14
namespace Go.Proofs.Ytodfebhimadaiaa
open Go.GV
namespace R02
theorem iB32 (x : BitVec 32) : iB 32 x = iB 8 (iB 8 (iB 8 (iB 8 x))) := by rw [← iB_add, ← iB_add, ← iB_add]
theorem pB_le (c : BitVec 32) (h : UInt32) : pB c (le h) = iB 32 (c ^^^ h.toBitVec) := by
  have key : h.toBitVec = (h.toUInt8).toUInt32.toBitVec ^^^ (((UInt32.ofBitVec (h.toBitVec >>> 8)).toUInt8).toUInt32.toBitVec <<< 8 ^^^ (((UInt32.ofBitVec (h.toBitVec >>> 16)).toUInt8).toUInt32.toBitVec <<< 16 ^^^ ((UInt32.ofBitVec (h.toBitVec >>> 24)).toUInt8).toUInt32.toBitVec <<< 24)) := by
    have lo : ∀ (x : BitVec 32) (i : Nat), ((UInt32.ofBitVec x).toUInt8.toUInt32.toBitVec).getLsbD i = (decide (i < 8) && x.getLsbD i) := by
      intro x i
      show ((x.setWidth 8).setWidth 32).getLsbD i = _
      rw [BitVec.getLsbD_setWidth, BitVec.getLsbD_setWidth]
      by_cases h8 : i < 8
      · simp [h8, show i < 32 by omega]
      · simp [h8]
    have l0 : ∀ i, (h.toUInt8.toUInt32.toBitVec).getLsbD i = (decide (i < 8) && h.toBitVec.getLsbD i) := fun i => lo h.toBitVec i
    apply BitVec.eq_of_getLsbD_eq
    intro i hi
    simp only [BitVec.getLsbD_xor, BitVec.getLsbD_shiftLeft, l0, lo, BitVec.getLsbD_ushiftRight]
    by_cases h8 : i < 8
    · simp [h8, hi, show i < 16 by omega, show i < 24 by omega]
    · by_cases h16 : i < 16
      · have e : 8 + (i - 8) = i := by omega
        simp [h8, hi, h16, show i < 24 by omega, e, show i - 8 < 8 by omega]
      · by_cases h24 : i < 24
        · have e : 16 + (i - 16) = i := by omega
          simp [h8, hi, h16, h24, e, show i - 16 < 8 by omega, show ¬ i - 8 < 8 by omega]
        · have e : 24 + (i - 24) = i := by omega
          simp [h8, hi, h16, h24, e, show i - 24 < 8 by omega, show ¬ i - 8 < 8 by omega, show ¬ i - 16 < 8 by omega]
  have low : ∀ (b : UInt8) (k : Nat), k + 8 ≤ 24 → iB 8 (b.toUInt32.toBitVec <<< (k + 8)) = b.toUInt32.toBitVec <<< k := by
    intro b k hk
    have hz : ∀ i, i < 8 → (b.toUInt32.toBitVec <<< (k + 8)).getLsbD i = false := by
      intro i hi
      rw [BitVec.getLsbD_shiftLeft]; simp [show i < k + 8 by omega]
    rw [iB_low _ 8 hz]
    have hb : ∀ i, 8 ≤ i → (b.toUInt32.toBitVec).getLsbD i = false := by
      intro i hi
      show (b.toBitVec.setWidth 32).getLsbD i = false
      rw [BitVec.getLsbD_setWidth, BitVec.getLsbD_of_ge b.toBitVec i hi]; simp
    apply BitVec.eq_of_getLsbD_eq
    intro i hi
    rw [BitVec.getLsbD_ushiftRight, BitVec.getLsbD_shiftLeft, BitVec.getLsbD_shiftLeft]
    by_cases h1 : i < k
    · simp [h1, show 8 + i < k + 8 by omega]
    · have e : 8 + i - (k + 8) = i - k := by omega
      by_cases h2 : 8 + i < 32
      · simp [h1, h2, hi, e, show ¬ 8 + i < k + 8 by omega]
      · have e2 := hb (i - k) (by omega)
        rw [e, e2]; simp
  show iB 8 (iB 8 (iB 8 (iB 8 (c ^^^ h.toUInt8.toUInt32.toBitVec) ^^^ _) ^^^ _) ^^^ _) = _
  rw [iB32]
  congr 1
  conv => rhs; rw [key]
  generalize h.toUInt8 = b0
  generalize (UInt32.ofBitVec (h.toBitVec >>> 8)).toUInt8 = b1
  generalize (UInt32.ofBitVec (h.toBitVec >>> 16)).toUInt8 = b2
  generalize (UInt32.ofBitVec (h.toBitVec >>> 24)).toUInt8 = b3
  have e1 : iB 8 (b1.toUInt32.toBitVec <<< 8) = b1.toUInt32.toBitVec := by have := low b1 0 (by omega); simpa using this
  have e2 : iB 8 (b2.toUInt32.toBitVec <<< 16) = b2.toUInt32.toBitVec <<< 8 := low b2 8 (by omega)
  have e3 : iB 8 (b3.toUInt32.toBitVec <<< 24) = b3.toUInt32.toBitVec <<< 16 := low b3 16 (by omega)
  have e4 : iB 8 (b2.toUInt32.toBitVec <<< 8) = b2.toUInt32.toBitVec := by have := low b2 0 (by omega); simpa using this
  have e5 : iB 8 (b3.toUInt32.toBitVec <<< 16) = b3.toUInt32.toBitVec <<< 8 := low b3 8 (by omega)
  have e6 : iB 8 (b3.toUInt32.toBitVec <<< 8) = b3.toUInt32.toBitVec := by have := low b3 0 (by omega); simpa using this
  simp only [iB_xor, e1, e2, e3, e4, e5, e6, BitVec.xor_assoc]
theorem residue (f : Bytes) : pB (BitVec.allOnes 32) (f ++ le (update 0 f)) = iB 32 (BitVec.allOnes 32) := by
  rw [pB_append, pB_le]
  congr 1
  have : (update 0 f).toBitVec = ~~~(pB (BitVec.allOnes 32) f) := by
    unfold update
    show ~~~(bytes (~~~(0 : UInt32)) f).toBitVec = _
    rw [bytes_bv]; rfl
  rw [this]
  apply BitVec.eq_of_getLsbD_eq
  intro i hi
  simp only [BitVec.getLsbD_xor, BitVec.getLsbD_not, BitVec.getLsbD_allOnes]
  simp [hi]
theorem xorAt_zip {s m : Bytes} {a : Nat} (h : a + m.length ≤ s.length) : xorAt s a m = List.zipWith (· ^^^ ·) s (List.replicate a 0 ++ m ++ List.replicate (s.length - (a + m.length)) 0) := by
  apply List.ext_getElem?
  intro i
  by_cases hi : i < s.length
  · rw [xorAt_get s a m i hi, List.getElem?_zipWith, List.getElem?_eq_getElem hi]
    have hs : s.getD i 0 = s[i] := by simp [List.getD_eq_getElem?_getD, List.getElem?_eq_getElem hi]
    rw [hs]
    by_cases h1 : i < a
    · rw [if_neg (by omega), List.append_assoc, List.getElem?_append_left (by simpa using h1), List.getElem?_replicate, if_pos h1]
      simp
    · by_cases h2 : i < a + m.length
      · rw [if_pos ⟨by omega, h2⟩, List.append_assoc, List.getElem?_append_right (by simp; omega), List.getElem?_append_left (by simp; omega)]
        simp only [List.length_replicate]
        rw [List.getElem?_eq_getElem (by omega)]
        simp [List.getD_eq_getElem?_getD, List.getElem?_eq_getElem (show i - a < m.length by omega)]
      · rw [if_neg (by omega), List.getElem?_append_right (by simp; omega), List.getElem?_replicate, if_pos (by simp; omega)]
        simp
  · rw [List.getElem?_eq_none (by rw [xorAt_length]; omega), List.getElem?_eq_none (by rw [List.length_zipWith]; omega)]
theorem burst {s : Bytes} {a : Nat} {m : UInt32} {c : BitVec 32} (ha : a + 4 ≤ s.length) (hm : m ≠ 0) (h : pB c (xorAt s a (le m)) = pB c s) : False := by
  rw [xorAt_zip (by simpa using ha)] at h
  have hx := pB_xor s (List.replicate a 0 ++ le m ++ List.replicate (s.length - (a + (le m).length)) 0) c 0#32 (by simp; omega)
  rw [BitVec.xor_zero, h] at hx
  have h0 : pB 0#32 (List.replicate a 0 ++ le m ++ List.replicate (s.length - (a + (le m).length)) 0) = 0#32 := by
    have := congrArg (fun z => pB c s ^^^ z) hx
    simp only [← BitVec.xor_assoc, BitVec.xor_self, BitVec.zero_xor] at this
    exact this.symm
  rw [pB_append, pB_append, pB_zeros, pB_zeros, pB_le] at h0
  have hz : iB (8 * a) 0#32 = 0#32 := by rw [iB_low _ _ (by simp)]; simp
  rw [hz, BitVec.zero_xor] at h0
  have := iB_inj _ _ (iB_inj _ _ h0)
  exact hm (UInt32.toBitVec_inj.1 this)
end R02
end Go.Proofs.Ytodfebhimadaiaa
