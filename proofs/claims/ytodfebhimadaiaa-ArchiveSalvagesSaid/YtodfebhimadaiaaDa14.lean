/- Da14: damage within four successive bytes. -/
import Derived.Test.YtodfebhimadaiaaAw14
namespace Go.Proofs.Ytodfebhimadaiaa
open Go.GV
namespace R02
def xorAt (s : Bytes) (a : Nat) (m : Bytes) : Bytes := (List.range s.length).map fun i => if a ≤ i ∧ i < a + m.length then s.getD i 0 ^^^ m.getD (i - a) 0 else s.getD i 0
@[simp] theorem xorAt_length (s : Bytes) (a : Nat) (m : Bytes) : (xorAt s a m).length = s.length := by simp [xorAt]
theorem xorAt_get (s : Bytes) (a : Nat) (m : Bytes) (i : Nat) (h : i < s.length) : (xorAt s a m)[i]? = some (if a ≤ i ∧ i < a + m.length then s.getD i 0 ^^^ m.getD (i - a) 0 else s.getD i 0) := by
  unfold xorAt; rw [List.getElem?_map, List.getElem?_range h]; rfl
theorem xorAt_nil (s : Bytes) (a z : Nat) : s ++ List.replicate z 0 = xorAt s a [] ++ List.replicate z 0 := by
  congr 1
  apply List.ext_getElem?
  intro i
  by_cases h : i < s.length
  · rw [xorAt_get s a [] i h, if_neg (by simp)]
    simp [List.getD_eq_getElem?_getD, List.getElem?_eq_getElem h]
  · rw [List.getElem?_eq_none (by omega), List.getElem?_eq_none (by rw [xorAt_length]; omega)]
theorem getD_take (m : Bytes) (k j : Nat) (h : j < k) : (m.take k).getD j 0 = m.getD j 0 := by
  rw [List.getD_eq_getElem?_getD, List.getD_eq_getElem?_getD, List.getElem?_take, if_pos h]
theorem xorAt_step {s m : Bytes} {a k z : Nat} (hk : k < m.length) (ha : a + k < s.length) : (xorAt s a (m.take k) ++ List.replicate z 0).set (a + k) ((xorAt s a (m.take k) ++ List.replicate z 0).getD (a + k) 0 ^^^ m.getD k 0) = xorAt s a (m.take (k + 1)) ++ List.replicate z 0 := by
  have e1 : (xorAt s a (m.take k) ++ List.replicate z 0).getD (a + k) 0 = s.getD (a + k) 0 := by
    rw [List.getD_eq_getElem?_getD, List.getElem?_append_left (by rw [xorAt_length]; omega), xorAt_get _ _ _ _ ha, if_neg (by rw [List.length_take]; omega)]; rfl
  rw [e1, List.set_append_left _ _ (by rw [xorAt_length]; omega)]
  congr 1
  apply List.ext_getElem?
  intro i
  rw [List.getElem?_set]
  by_cases h : i < s.length
  · rw [xorAt_get s a _ i h, xorAt_get s a _ i h]
    by_cases hi : a + k = i
    · subst hi
      rw [if_pos rfl, if_pos (by rw [xorAt_length]; omega), if_pos (by rw [List.length_take]; omega)]
      rw [show a + k - a = k by omega, getD_take _ _ _ (by omega)]
    · rw [if_neg hi]
      by_cases h2 : a ≤ i ∧ i < a + (m.take k).length
      · rw [if_pos h2, if_pos (by rw [List.length_take] at *; omega), getD_take _ _ _ (by rw [List.length_take] at h2; omega), getD_take _ _ _ (by rw [List.length_take] at h2; omega)]
      · rw [if_neg h2, if_neg (by rw [List.length_take] at *; omega)]
  · rw [if_neg (by omega), List.getElem?_eq_none (by rw [xorAt_length]; omega), List.getElem?_eq_none (by rw [xorAt_length]; omega)]
theorem xorAt_skip {s m : Bytes} {a k z : Nat} (hk : k < m.length) (ha : ¬ a + k < s.length) : xorAt s a (m.take k) ++ List.replicate z 0 = xorAt s a (m.take (k + 1)) ++ List.replicate z 0 := by
  congr 1
  apply List.ext_getElem?
  intro i
  by_cases h : i < s.length
  · rw [xorAt_get s a _ i h, xorAt_get s a _ i h]
    by_cases h2 : a ≤ i ∧ i < a + (m.take k).length
    · rw [if_pos h2, if_pos (by rw [List.length_take] at *; omega), getD_take _ _ _ (by rw [List.length_take] at h2; omega), getD_take _ _ _ (by rw [List.length_take] at h2; omega)]
    · rw [if_neg h2, if_neg (by rw [List.length_take] at *; omega)]
  · rw [List.getElem?_eq_none (by rw [xorAt_length]; omega), List.getElem?_eq_none (by rw [xorAt_length]; omega)]
theorem xorAt_done {s m : Bytes} {a k z : Nat} (hk : m.length ≤ k) : ((xorAt s a (m.take k) ++ List.replicate z 0).drop 0).take s.length = xorAt s a m := by
  rw [List.drop_zero, List.take_of_length_le hk, List.take_append_of_le_length (by rw [xorAt_length]; omega), List.take_of_length_le (by rw [xorAt_length]; omega)]
theorem byte_bv (c : UInt32) (b : UInt8) : (byte c b).toBitVec = iB 8 (c.toBitVec ^^^ b.toUInt32.toBitVec) := by
  unfold byte; rw [iter_bv, UInt32.toBitVec_xor]
def pB (c : BitVec 32) (l : Bytes) : BitVec 32 := l.foldl (fun c b => iB 8 (c ^^^ b.toUInt32.toBitVec)) c
theorem bytes_bv : ∀ (l : Bytes) (c : UInt32), (bytes c l).toBitVec = pB c.toBitVec l
  | [], _ => rfl
  | b :: l, c => by
    unfold bytes pB
    rw [List.foldl_cons, List.foldl_cons, ← byte_bv]
    exact bytes_bv l _
theorem pB_append (c : BitVec 32) (l m : Bytes) : pB c (l ++ m) = pB (pB c l) m := List.foldl_append
theorem pB_zeros (c : BitVec 32) : ∀ n, pB c (List.replicate n 0) = iB (8 * n) c
  | 0 => rfl
  | n + 1 => by
    rw [List.replicate_succ', pB_append, pB_zeros c n]
    show iB 8 (iB (8 * n) c ^^^ (0 : UInt8).toUInt32.toBitVec) = _
    rw [show (0 : UInt8).toUInt32.toBitVec = 0#32 from rfl, BitVec.xor_zero, ← iB_add]
    congr 1; omega
theorem u8_xor (x y : UInt8) : (x ^^^ y).toUInt32.toBitVec = x.toUInt32.toBitVec ^^^ y.toUInt32.toBitVec := by
  show (x.toBitVec ^^^ y.toBitVec).setWidth 32 = x.toBitVec.setWidth 32 ^^^ y.toBitVec.setWidth 32
  exact BitVec.setWidth_xor
theorem pB_xor : ∀ (l m : Bytes) (c d : BitVec 32), l.length = m.length → pB (c ^^^ d) (List.zipWith (· ^^^ ·) l m) = pB c l ^^^ pB d m
  | [], [], _, _, _ => rfl
  | x :: l, y :: m, c, d, h => by
    show pB (iB 8 (c ^^^ d ^^^ (x ^^^ y).toUInt32.toBitVec)) (List.zipWith (· ^^^ ·) l m) = pB (iB 8 (c ^^^ x.toUInt32.toBitVec)) l ^^^ pB (iB 8 (d ^^^ y.toUInt32.toBitVec)) m
    rw [← pB_xor l m _ _ (by simpa using h), ← iB_xor, u8_xor]
    congr 2
    apply BitVec.eq_of_getLsbD_eq
    intro i hi
    simp only [BitVec.getLsbD_xor]
    cases c.getLsbD i <;> cases d.getLsbD i <;> cases (x.toUInt32.toBitVec).getLsbD i <;> cases (y.toUInt32.toBitVec).getLsbD i <;> rfl
  | [], _ :: _, _, _, h => by simp at h
  | _ :: _, [], _, _, h => by simp at h
theorem sB_inj (c : BitVec 32) (h : sB c = 0#32) : c = 0#32 := by
  have h31 : (sB c).getLsbD 31 = c.getLsbD 0 := by
    unfold sB
    rw [BitVec.getLsbD_xor, BitVec.getLsbD_ushiftRight, BitVec.getLsbD_of_ge c (1 + 31) (by omega)]
    cases c.getLsbD 0 <;> rfl
  have h0 : c.getLsbD 0 = false := by rw [← h31, h]; rfl
  rw [sB_low c h0] at h
  apply BitVec.eq_of_getLsbD_eq
  intro i hi
  cases i with
  | zero => rw [h0]; rfl
  | succ i =>
    have : (c >>> 1).getLsbD i = false := by rw [h]; simp
    rw [BitVec.getLsbD_ushiftRight, Nat.add_comm] at this
    rw [this]; simp
theorem iB_inj (c : BitVec 32) : ∀ k, iB k c = 0#32 → c = 0#32
  | 0, h => h
  | k + 1, h => iB_inj c k (sB_inj _ h)
end R02
end Go.Proofs.Ytodfebhimadaiaa
