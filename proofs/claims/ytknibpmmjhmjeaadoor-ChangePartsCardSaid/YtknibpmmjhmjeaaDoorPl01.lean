/- Pl01: the encodings of numbers and texts (chapter 1). -/
import Derived.Test.YtknibpmmjhmjeaaDoorGvH
namespace Go.Proofs.YtknibpmmjhmjeaaDoor
open Go.GV
namespace R01
def padded (s : Bytes) (n : Int) : Bytes := s ++ List.replicate (n.toNat - s.length) 0
theorem padded_done (s : Bytes) (n : Int) (h : ¬ ((s.length : Int) < n)) : padded s n = s := by
  unfold padded; rw [show n.toNat - s.length = 0 by omega]; simp
theorem padded_length (s : Bytes) (n : Int) : (padded s n).length = max s.length n.toNat := by
  unfold padded; simp; omega
attribute [simp] padded_length
theorem padded_step (s : Bytes) (n : Int) (h : (s.length : Int) < n) : padded (s ++ [0]) n = padded s n := by
  unfold padded
  rw [show n.toNat - s.length = (n.toNat - (s ++ [0]).length) + 1 by simp; omega, List.replicate_succ]
  simp
end R01
namespace R01
def num (n : Nat) : Bytes := if h : n < 128 then [UInt8.ofNat n] else UInt8.ofNat (n % 128 + 128) :: num (n / 128)
termination_by n
decreasing_by omega
theorem num_lt {n : Nat} (h : n < 128) : num n = [UInt8.ofNat n] := by rw [num]; simp [h]
theorem num_ge {n : Nat} (h : ¬ n < 128) : num n = UInt8.ofNat (n % 128 + 128) :: num (n / 128) := by rw [num]; simp [h]
theorem num_len_aux : ∀ (k n : Nat), n < 2 ^ (7 * (k + 1)) → (num n).length ≤ k + 1
  | 0, n, h => by rw [num_lt (by simpa using h)]; simp
  | k + 1, n, h => by
    by_cases hn : n < 128
    · rw [num_lt hn]; simp
    · rw [num_ge hn, List.length_cons]
      have := num_len_aux k (n / 128) (by
        rw [Nat.div_lt_iff_lt_mul (by decide)]
        have e : 2 ^ (7 * (k + 1 + 1)) = 2 ^ (7 * (k + 1)) * 128 := by rw [show 7 * (k + 1 + 1) = 7 * (k + 1) + 7 by omega, Nat.pow_add]
        omega)
      omega
theorem num_len (x : UInt64) : (num x.toNat).length ≤ 10 := num_len_aux 9 _ (Nat.lt_of_lt_of_le x.toNat_lt (by decide))
def text (s : Bytes) : Bytes := num s.length ++ s
theorem text_len (s : Bytes) (h : s.length ≤ 1073741824) : (text s).length ≤ s.length + 10 := by
  unfold text
  have := num_len (UInt64.ofNat s.length)
  rw [show (UInt64.ofNat s.length).toNat = s.length by simp; omega] at this
  rw [List.length_append]; omega
def bool (b : Bool) : Bytes := if b then [1] else [0]
theorem bool_len (b : Bool) : (bool b).length = 1 := by cases b <;> rfl
attribute [simp] bool_len
set_option maxRecDepth 8192 in
theorem or128 : ∀ q : Nat, q < 256 → q ||| 128 = q % 128 + 128 := by decide
theorem num_dec (n : UInt64) (h : ¬ n < 128) : (n / 128).toNat < n.toNat := by
  rw [UInt64.lt_iff_toNat_lt] at h
  have h : ¬ n.toNat < 128 := h
  rw [UInt64.toNat_div]
  show n.toNat / 128 < n.toNat
  omega
theorem number_small {n : UInt64} (h : n < 128) : [n.toUInt8] = num n.toNat := by
  rw [UInt64.lt_iff_toNat_lt] at h
  rw [num_lt h]
  congr 1
theorem number_big {n : UInt64} (h : ¬ n < 128) : [((n % 128) + 128).toUInt8] ++ num (n / 128).toNat = num n.toNat := by
  rw [UInt64.lt_iff_toNat_lt] at h
  rw [num_ge h, UInt64.toNat_div]
  show _ :: _ = _
  congr 1
  apply UInt8.toNat_inj.1; simp
theorem text_eq {t : Bytes} (h : t.length ≤ 1073741824) : num (UInt64.ofNat t.length).toNat ++ t = text t := by
  unfold text; rw [show (UInt64.ofNat t.length).toNat = t.length by simp; omega]
theorem app_step {bs : Bytes} {m n : UInt64} {k : Nat} (hl : bs.length = 10) (hk : k ≤ 9) (h : bs.take k ++ num m.toNat = num n.toNat) (hm : m.toNat < 2 ^ (64 - 7 * k)) (h128 : (128 : UInt64) ≤ m) :
    k + 1 ≤ 9 ∧ (bs.set k (m.toUInt8 ||| 128)).take (k + 1) ++ num (UInt64.ofBitVec (m.toBitVec >>> 7)).toNat = num n.toNat ∧ (UInt64.ofBitVec (m.toBitVec >>> 7)).toNat < 2 ^ (64 - 7 * (k + 1)) ∧ (UInt64.ofBitVec (m.toBitVec >>> 7)).toNat < m.toNat := by
  have h1 : 128 ≤ m.toNat := by rw [UInt64.le_iff_toNat_le] at h128; simpa using h128
  have hd : (UInt64.ofBitVec (m.toBitVec >>> 7)).toNat = m.toNat / 128 := by
    show (m.toBitVec >>> 7).toNat = _
    rw [BitVec.toNat_ushiftRight, Nat.shiftRight_eq_div_pow]; rfl
  have hk9 : k + 1 ≤ 9 := by
    rcases Nat.lt_or_ge k 9 with h9 | h9
    · omega
    · exfalso
      have : k = 9 := by omega
      subst this
      have : m.toNat < 2 := by simpa using hm
      omega
  refine ⟨hk9, ?_, ?_, by rw [hd]; omega⟩
  · rw [hd, ← h, num_ge (n := m.toNat) (by omega)]
    have e : (bs.set k (m.toUInt8 ||| 128)).take (k + 1) = bs.take k ++ [m.toUInt8 ||| 128] := by
      rw [List.take_succ_eq_append_getElem (by simp; omega), List.take_set_of_le (Nat.le_refl _)]
      simp
    rw [e, List.append_assoc]
    congr 1
    rw [List.singleton_append]
    congr 1
    apply UInt8.toNat_inj.1
    rw [UInt8.toNat_or]
    have e2 : m.toUInt8.toNat = m.toNat % 256 := by simp
    rw [e2]
    show m.toNat % 256 ||| 128 = _
    have h2 : m.toNat % 256 < 256 := Nat.mod_lt _ (by decide)
    have h3 : m.toNat % 128 = m.toNat % 256 % 128 := by omega
    rw [h3]
    generalize m.toNat % 256 = q at h2
    rw [show UInt8.toNat (UInt8.ofNat (q % 128 + 128)) = q % 128 + 128 by simp; omega]
    exact or128 q h2
  · rw [hd, Nat.div_lt_iff_lt_mul (by decide)]
    have e : 2 ^ (64 - 7 * k) = 2 ^ (64 - 7 * (k + 1)) * 128 := by
      rw [show 64 - 7 * k = (64 - 7 * (k + 1)) + 7 by omega, Nat.pow_add]
    omega
theorem app_done {bs s : Bytes} {m n : UInt64} {k : Nat} (hl : bs.length = 10) (hk : k ≤ 9) (h : bs.take k ++ num m.toNat = num n.toNat) (h128 : ¬ (128 : UInt64) ≤ m) :
    s ++ (((bs.set k m.toUInt8).drop 0).take (k + 1)) = s ++ num n.toNat := by
  have h1 : m.toNat < 128 := by rw [UInt64.le_iff_toNat_le] at h128; simpa using h128
  rw [← h, num_lt h1, List.drop_zero]
  congr 1
  rw [List.take_succ_eq_append_getElem (by simp; omega), List.take_set_of_le (Nat.le_refl _)]
  congr 1
  simp only [List.getElem_set_self]
  apply congrArg (· :: [])
  apply UInt8.toNat_inj.1; simp
end R01
end Go.Proofs.YtknibpmmjhmjeaaDoor
