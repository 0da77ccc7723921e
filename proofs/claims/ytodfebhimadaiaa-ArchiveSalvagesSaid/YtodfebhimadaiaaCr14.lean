/- Cr14: the table of the checksum, and its linear laws. -/
import Derived.Test.YtodfebhimadaiaaPl14
namespace Go.Proofs.Ytodfebhimadaiaa
open Go.GV
namespace R02
def sB (c : BitVec 32) : BitVec 32 := (if c.getLsbD 0 then 2197175160#32 else 0#32) ^^^ (c >>> 1)
def iB : Nat → BitVec 32 → BitVec 32
  | 0, c => c
  | k + 1, c => sB (iB k c)
theorem mod2_bit (c : UInt32) : (c % 2 = 1) ↔ c.toBitVec.getLsbD 0 = true := by
  rw [← UInt32.toNat_inj, UInt32.toNat_mod, BitVec.getLsbD, Nat.testBit_zero, decide_eq_true_iff]
  exact Iff.rfl
theorem shift_bv (c : UInt32) : (shift c).toBitVec = sB c.toBitVec := by
  have e : (c / 2).toBitVec = c.toBitVec >>> 1 := by rw [← shr1]
  unfold shift sB
  by_cases h : c % 2 = 1
  · rw [if_pos h, if_pos ((mod2_bit c).1 h), UInt32.toBitVec_xor, e, BitVec.xor_comm]; rfl
  · rw [if_neg h, if_neg (fun h2 => h ((mod2_bit c).2 h2)), e, BitVec.zero_xor]
theorem iter_bv (c : UInt32) : ∀ k, (iter k c).toBitVec = iB k c.toBitVec
  | 0 => rfl
  | k + 1 => by rw [iter, iB, shift_bv, iter_bv c k]
theorem sB_xor (u v : BitVec 32) : sB (u ^^^ v) = sB u ^^^ sB v := by
  unfold sB
  rw [BitVec.getLsbD_xor, BitVec.ushiftRight_xor_distrib]
  cases u.getLsbD 0 <;> cases v.getLsbD 0
  · simp
  · simp; rw [← BitVec.xor_assoc, ← BitVec.xor_assoc, BitVec.xor_comm (u >>> 1)]
  · simp [BitVec.xor_assoc]
  · simp only [Bool.xor_self, if_true, Bool.false_eq_true, if_false]
    apply BitVec.eq_of_getLsbD_eq
    intro i hi
    simp only [BitVec.getLsbD_xor, BitVec.getLsbD_zero]
    cases (u >>> 1).getLsbD i <;> cases (v >>> 1).getLsbD i <;> cases (2197175160#32).getLsbD i <;> rfl
theorem iB_xor (u v : BitVec 32) : ∀ k, iB k (u ^^^ v) = iB k u ^^^ iB k v
  | 0 => rfl
  | k + 1 => by rw [iB, iB, iB, iB_xor u v k, sB_xor]
theorem sB_low (w : BitVec 32) (h : w.getLsbD 0 = false) : sB w = w >>> 1 := by
  unfold sB; rw [h]; simp
theorem iB_low (w : BitVec 32) : ∀ k, (∀ i, i < k → w.getLsbD i = false) → iB k w = w >>> k
  | 0, _ => by simp [iB]
  | k + 1, h => by
    rw [iB, iB_low w k (fun i hi => h i (by omega)), sB_low _ (by rw [BitVec.getLsbD_ushiftRight]; exact h _ (by omega)), BitVec.shiftRight_add]
theorem iB_add (c : BitVec 32) (j : Nat) : ∀ k, iB (k + j) c = iB k (iB j c)
  | 0 => by rw [Nat.zero_add]; rfl
  | k + 1 => by rw [show k + 1 + j = (k + j) + 1 by omega, iB, iB_add c j k]; rfl
theorem iB_four (y : BitVec 32) : iB 4 y = (y >>> 4) ^^^ iB 4 (y &&& 15#32) := by
  have e : y = (y &&& ~~~15#32) ^^^ (y &&& 15#32) := by
    apply BitVec.eq_of_getLsbD_eq
    intro i hi
    simp only [BitVec.getLsbD_xor, BitVec.getLsbD_and, BitVec.getLsbD_not]
    cases y.getLsbD i <;> cases (15#32).getLsbD i <;> simp [hi]
  have h2 : (y &&& ~~~15#32) >>> 4 = y >>> 4 := by
    apply BitVec.eq_of_getLsbD_eq
    intro i hi
    simp only [BitVec.getLsbD_ushiftRight, BitVec.getLsbD_and, BitVec.getLsbD_not]
    by_cases h : 4 + i < 32
    · have : (15#32).getLsbD (4 + i) = false := by
        simp only [BitVec.getLsbD, BitVec.toNat_ofNat]
        rw [show 15 % 2 ^ 32 = 2 ^ 4 - 1 from rfl, Nat.testBit_two_pow_sub_one]; simp
      rw [this]; simp [h]
    · rw [BitVec.getLsbD_of_ge _ _ (by omega)]; simp
  calc iB 4 y = iB 4 ((y &&& ~~~15#32) ^^^ (y &&& 15#32)) := by rw [← e]
    _ = _ := by
      rw [iB_xor, iB_low _ 4 _, h2]
      intro i hi
      rw [BitVec.getLsbD_and, BitVec.getLsbD_not]
      have : (15#32).getLsbD i = true := by
        simp only [BitVec.getLsbD, BitVec.toNat_ofNat]
        rw [show 15 % 2 ^ 32 = 2 ^ 4 - 1 from rfl, Nat.testBit_two_pow_sub_one]; simp; omega
      rw [this]; simp
theorem tab_get (i : Nat) (h : i < 16) : (tab.getD i 0).toBitVec = iB 4 (BitVec.ofNat 32 i) := by
  rw [show tab.getD i 0 = iter 4 (UInt32.ofNat i) by simp [tab, h, List.getD_eq_getElem?_getD], iter_bv]; rfl
theorem nib_bv (x b : UInt32) (hb : b.toNat < 16) : (nib tab x b).toBitVec = iB 4 (x ^^^ b).toBitVec := by
  unfold nib
  rw [UInt32.toBitVec_xor, tab_get _ (and15_lt _), iB_four (x ^^^ b).toBitVec]
  have e1 : (UInt32.ofBitVec (x.toBitVec >>> 4)).toBitVec = (x ^^^ b).toBitVec >>> 4 := by
    show x.toBitVec >>> 4 = _
    rw [UInt32.toBitVec_xor, BitVec.ushiftRight_xor_distrib]
    have : b.toBitVec >>> 4 = 0#32 := by
      apply BitVec.eq_of_toNat_eq
      rw [BitVec.toNat_ushiftRight, Nat.shiftRight_eq_div_pow]
      show b.toNat / 16 = 0
      omega
    rw [this, BitVec.xor_zero]
  have e2 : BitVec.ofNat 32 ((x ^^^ b) &&& 15).toNat = (x ^^^ b).toBitVec &&& 15#32 := by
    show BitVec.ofNat 32 ((x ^^^ b) &&& 15).toBitVec.toNat = _
    rw [BitVec.ofNat_toNat, BitVec.setWidth_eq, UInt32.toBitVec_and]; rfl
  rw [e1, e2]
theorem byteN_eq (x : UInt32) (b : UInt8) : byteN x b = byte x b := by
  apply UInt32.toBitVec_inj.1
  have hb : b.toUInt32.toNat < 256 := by rw [UInt8.toNat_toUInt32]; exact b.toNat_lt
  have hlo : (b.toUInt32 &&& 15).toNat < 16 := and15_lt _
  have hhi : (UInt32.ofBitVec (b.toUInt32.toBitVec >>> 4)).toNat < 16 := by
    show (b.toUInt32.toBitVec >>> 4).toNat < 16
    rw [BitVec.toNat_ushiftRight, Nat.shiftRight_eq_div_pow]
    show b.toUInt32.toNat / 16 < 16
    omega
  unfold byteN byte
  rw [nib_bv _ _ hhi, iter_bv, UInt32.toBitVec_xor, nib_bv _ _ hlo, show 8 = 4 + 4 from rfl, iB_add]
  have hB := b.toUInt32
  congr 1
  rw [UInt32.toBitVec_xor, UInt32.toBitVec_xor, iB_xor, iB_xor, BitVec.xor_assoc]
  congr 1
  show iB 4 (b.toUInt32 &&& 15).toBitVec ^^^ (b.toUInt32.toBitVec >>> 4) = _
  rw [iB_four b.toUInt32.toBitVec, BitVec.xor_comm, UInt32.toBitVec_and]
  rfl
theorem updateN_eq : updateN = update := by
  funext s l
  unfold updateN update bytes
  congr 1
  generalize ~~~s = c
  induction l generalizing c with
  | nil => rfl
  | cons b l ih => rw [List.foldl_cons, List.foldl_cons, byteN_eq, ih]
end R02
end Go.Proofs.Ytodfebhimadaiaa
