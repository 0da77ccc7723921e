/- Rd14: reading numbers, texts and truth values. -/
import Derived.Test.YtodfebhimadaiaaPl14
namespace Go.Proofs.Ytodfebhimadaiaa
open Go.GV
namespace R01
def decA : Bytes → Nat → Option (Nat × Nat)
  | [], _ => none
  | b :: s, i => if 10 ≤ i then none else if i = 9 ∧ (1 : UInt8) < b then none else if b < (128 : UInt8) then (if b = 0 ∧ 0 < i then none else some (b.toNat, 1)) else (decA s (i + 1)).map fun p => (b.toNat % 128 + 128 * p.1, p.2 + 1)
def dec (s : Bytes) : UInt64 × Nat := match decA s 0 with
  | none => (0, 0)
  | some p => (UInt64.ofNat p.1, p.2)
theorem u8lt {a b : UInt8} : a < b ↔ a.toNat < b.toNat := UInt8.lt_iff_toNat_lt
theorem decA_bound : ∀ (s : Bytes) (i : Nat) (p : Nat × Nat), decA s i = some p → 1 ≤ p.2 ∧ p.2 ≤ s.length ∧ i + p.2 ≤ 10 ∧ p.1 < 2 ^ (64 - 7 * i) ∧ s.take p.2 = num p.1 ∧ (i = 0 ∨ p.1 ≠ 0)
  | [], i, p, h => by cases h
  | b :: s, i, p, h => by
    unfold decA at h
    split at h
    · cases h
    rename_i h10
    split at h
    · cases h
    rename_i h9
    split at h
    · rename_i h128
      split at h
      · cases h
      rename_i h0
      cases h
      have hb : b.toNat < 128 := by simpa [u8lt] using h128
      refine ⟨Nat.le_refl _, by simp, by show i + 1 ≤ 10; omega, ?_, ?_, ?_⟩
      · show b.toNat < 2 ^ (64 - 7 * i)
        by_cases hi : i = 9
        · subst hi
          have : ¬ (1 : UInt8) < b := fun h => h9 ⟨rfl, h⟩
          rw [u8lt] at this
          have h1 : (1 : UInt8).toNat = 1 := rfl
          show b.toNat < 2
          omega
        · have : 2 ^ 7 ≤ 2 ^ (64 - 7 * i) := Nat.pow_le_pow_right (by decide) (by omega)
          omega
      · show [b] = num b.toNat
        rw [num_lt hb]
        congr 1
        exact UInt8.toNat_inj.1 (by simp)
      · show i = 0 ∨ b.toNat ≠ 0
        by_cases hi : i = 0
        · exact .inl hi
        · right
          intro hz
          exact h0 ⟨UInt8.toNat_inj.1 hz, by omega⟩
    · rename_i h128
      have hb : 128 ≤ b.toNat := by
        have := h128
        rw [u8lt] at this
        have h1 : (128 : UInt8).toNat = 128 := rfl
        omega
      cases hq : decA s (i + 1) with
      | none => rw [hq] at h; cases h
      | some q =>
        rw [hq] at h
        cases h
        obtain ⟨a1, a2, a3, a4, a5, a6⟩ := decA_bound s (i + 1) q hq
        have hb2 := b.toNat_lt
        have hq0 : q.1 ≠ 0 := a6.resolve_left (by omega)
        refine ⟨by show 1 ≤ q.2 + 1; omega, by show q.2 + 1 ≤ s.length + 1; omega, by show i + (q.2 + 1) ≤ 10; omega, ?_, ?_, .inr ?_⟩
        · show b.toNat % 128 + 128 * q.1 < 2 ^ (64 - 7 * i)
          have e : 2 ^ (64 - 7 * i) = 2 ^ (64 - 7 * (i + 1)) * 128 := by
            rw [show 64 - 7 * i = (64 - 7 * (i + 1)) + 7 by omega, Nat.pow_add]
          omega
        · show b :: s.take q.2 = num (b.toNat % 128 + 128 * q.1)
          rw [num_ge (by omega), a5, show (b.toNat % 128 + 128 * q.1) % 128 + 128 = b.toNat by omega, show (b.toNat % 128 + 128 * q.1) / 128 = q.1 by omega]
          congr 1
          exact UInt8.toNat_inj.1 (by simp)
        · show b.toNat % 128 + 128 * q.1 ≠ 0
          omega
theorem decA_num : ∀ (k n i : Nat) (t : Bytes), n < 2 ^ (64 - 7 * i) → i ≤ 9 → (i = 0 ∨ n ≠ 0) → 9 - i ≤ k → decA (num n ++ t) i = some (n, (num n).length)
  | k, n, i, t, h, hi, h0, hk => by
    by_cases hn : n < 128
    · rw [num_lt hn]
      show decA (UInt8.ofNat n :: t) i = _
      unfold decA
      have hb : (UInt8.ofNat n).toNat = n := by simp; omega
      rw [if_neg (by omega), if_neg, if_pos, if_neg]
      · rw [hb]; rfl
      · rintro ⟨h1, h2⟩
        have := congrArg UInt8.toNat h1
        rw [hb] at this
        have h3 : (0 : UInt8).toNat = 0 := rfl
        omega
      · rw [u8lt, hb]; exact hn
      · rintro ⟨h1, h2⟩
        subst h1
        rw [u8lt, hb] at h2
        have h3 : (1 : UInt8).toNat = 1 := rfl
        have : n < 2 := h
        omega
    · have hi9 : i < 9 := by
        rcases Nat.lt_or_ge i 9 with h9 | h9
        · exact h9
        · have : i = 9 := by omega
          subst this
          have : n < 2 := h
          omega
      rw [num_ge hn]
      show decA (UInt8.ofNat (n % 128 + 128) :: (num (n / 128) ++ t)) i = _
      have hb : (UInt8.ofNat (n % 128 + 128)).toNat = n % 128 + 128 := by simp; omega
      unfold decA
      have e : 2 ^ (64 - 7 * i) = 2 ^ (64 - 7 * (i + 1)) * 128 := by
        rw [show 64 - 7 * i = (64 - 7 * (i + 1)) + 7 by omega, Nat.pow_add]
      match k, hk with
      | 0, hk => omega
      | k + 1, hk =>
        rw [if_neg (by omega), if_neg (by omega), if_neg, decA_num k (n / 128) (i + 1) t (by rw [Nat.div_lt_iff_lt_mul (by decide)]; omega) (by omega) (.inr (by omega)) (by omega)]
        · rw [hb]
          show some _ = some _
          congr 1
          exact Prod.ext (by show (n % 128 + 128) % 128 + 128 * (n / 128) = n; omega) rfl
        · rw [u8lt, hb]
          have h1 : (128 : UInt8).toNat = 128 := rfl
          omega
theorem dec_num {n : Nat} (h : n < 2 ^ 64) (t : Bytes) : dec (num n ++ t) = (UInt64.ofNat n, (num n).length) := by
  unfold dec
  rw [decA_num 9 n 0 t h (by omega) (.inl rfl) (by omega)]
theorem dec_le (s : Bytes) : (dec s).2 ≤ s.length := by
  unfold dec
  cases h : decA s 0 with
  | none => exact Nat.zero_le _
  | some p => exact (decA_bound s 0 p h).2.1
theorem dec_zero {s : Bytes} (h : (dec s).2 = 0) : (dec s).1 = 0 := by
  unfold dec at *
  cases hq : decA s 0 with
  | none => rfl
  | some p =>
    rw [hq] at h
    have := (decA_bound s 0 p hq).1
    have h : p.2 = 0 := h
    omega
def shifted (n : UInt64) (b : UInt8) (m : Nat) : UInt64 := n ||| UInt64.ofBitVec (((b &&& 127).toUInt64).toBitVec <<< m)
theorem and127 (b : UInt8) : (b &&& 127).toNat = b.toNat % 128 := by
  rw [UInt8.toNat_and]
  exact Nat.and_two_pow_sub_one_eq_mod b.toNat 7
theorem shifted_nat {n : UInt64} {b : UInt8} {m : Nat} (hn : n.toNat < 2 ^ m) (hb : (b.toNat % 128) * 2 ^ m < 2 ^ 64) : (shifted n b m).toNat = n.toNat + (b.toNat % 128) * 2 ^ m := by
  unfold shifted
  rw [UInt64.toNat_or]
  have e : (UInt64.ofBitVec (((b &&& 127).toUInt64).toBitVec <<< m)).toNat = (b.toNat % 128) * 2 ^ m := by
    show ((((b &&& 127).toUInt64).toBitVec <<< m)).toNat = _
    rw [BitVec.toNat_shiftLeft, Nat.shiftLeft_eq]
    have : ((b &&& 127).toUInt64).toBitVec.toNat = b.toNat % 128 := by
      show (b &&& 127).toUInt64.toNat = _
      rw [UInt8.toNat_toUInt64, and127]
    rw [this, Nat.mod_eq_of_lt hb]
  rw [e, Nat.or_comm, Nat.mul_comm, ← Nat.two_pow_add_eq_or_of_lt hn]
  omega
def at_ (s : Bytes) (k : Nat) (n : UInt64) : Prop := decA s 0 = (decA (s.drop k) k).map fun p => (n.toNat + p.1 * 2 ^ (7 * k), k + p.2)
theorem at_zero (s : Bytes) : at_ s 0 0 := by
  unfold at_
  show decA s 0 = (decA s 0).map _
  cases decA s 0 with
  | none => rfl
  | some p => simp
theorem drop_getD {s : Bytes} {k : Nat} (h : k < s.length) : s.drop k = s.getD k 0 :: s.drop (k + 1) := by
  rw [List.drop_eq_getElem_cons h, List.getD_eq_getElem?_getD, List.getElem?_eq_getElem h]; rfl
theorem fits {k : Nat} {b : UInt8} (hk : k ≤ 9) (h9 : ¬ (k = 9 ∧ (1 : UInt8) < b)) (h128 : k = 9 → b.toNat < 128) : (b.toNat % 128) * 2 ^ (7 * k) < 2 ^ 64 := by
  by_cases hi : k = 9
  · subst hi
    have : ¬ (1 : UInt8) < b := fun h => h9 ⟨rfl, h⟩
    rw [u8lt] at this
    have h1 : (1 : UInt8).toNat = 1 := rfl
    have := h128 rfl
    have : b.toNat % 128 ≤ 1 := by omega
    calc (b.toNat % 128) * 2 ^ (7 * 9) ≤ 1 * 2 ^ 63 := Nat.mul_le_mul_right _ this
      _ < 2 ^ 64 := by decide
  · have h1 : 2 ^ (7 * k) ≤ 2 ^ 56 := Nat.pow_le_pow_right (by decide) (by omega)
    have h2 : b.toNat % 128 ≤ 127 := by omega
    calc (b.toNat % 128) * 2 ^ (7 * k) ≤ 127 * 2 ^ 56 := Nat.mul_le_mul h2 h1
      _ < 2 ^ 64 := by decide
theorem small_one {b : UInt8} {k : Nat} (hk : k = 9) (h9 : ¬ (k = 9 ∧ (1 : UInt8) < b)) : b.toNat ≤ 1 := by
  have : ¬ (1 : UInt8) < b := fun h => h9 ⟨hk, h⟩
  rw [u8lt] at this
  have h1 : (1 : UInt8).toNat = 1 := rfl
  omega
theorem at_step {s : Bytes} {k : Nat} {n : UInt64} (h : at_ s k n) (hn : n.toNat < 2 ^ (7 * k)) (hk : k < s.length) (hk10 : k < 10) (h9 : ¬ (k = 9 ∧ (1 : UInt8) < s.getD k 0)) (h128 : ¬ s.getD k 0 < (128 : UInt8)) :
    at_ s (k + 1) (shifted n (s.getD k 0) (7 * k)) ∧ (shifted n (s.getD k 0) (7 * k)).toNat < 2 ^ (7 * (k + 1)) := by
  have hb : 128 ≤ (s.getD k 0).toNat := by
    rw [u8lt] at h128
    have h1 : (128 : UInt8).toNat = 128 := rfl
    omega
  have hk9 : k ≠ 9 := fun e => by have := small_one e h9; omega
  have hs := shifted_nat hn (fits (b := s.getD k 0) (by omega) h9 (fun e => absurd e hk9))
  have e2 : 2 ^ (7 * (k + 1)) = 128 * 2 ^ (7 * k) := by rw [show 7 * (k + 1) = 7 * k + 7 by omega, Nat.pow_add, Nat.mul_comm]
  refine ⟨?_, ?_⟩
  · unfold at_ at *
    rw [h, drop_getD hk]
    rw [decA, if_neg (by omega), if_neg h9, if_neg h128]
    cases decA (s.drop (k + 1)) (k + 1) with
    | none => rfl
    | some p =>
      show some _ = some _
      congr 1
      refine Prod.ext ?_ ?_
      · show n.toNat + ((s.getD k 0).toNat % 128 + 128 * p.1) * 2 ^ (7 * k) = (shifted n (s.getD k 0) (7 * k)).toNat + p.1 * 2 ^ (7 * (k + 1))
        rw [hs, e2, Nat.add_mul, Nat.add_assoc, ← Nat.mul_assoc, Nat.mul_comm p.1 128]
      · show k + (p.2 + 1) = k + 1 + p.2
        omega
  · rw [hs, e2]
    have : (s.getD k 0).toNat % 128 ≤ 127 := by omega
    have := Nat.mul_le_mul_right (2 ^ (7 * k)) this
    omega
theorem at_bad1 {s : Bytes} {k : Nat} {n : UInt64} (h : at_ s k n) (hk : k < s.length) (_hk10 : k < 10) (h9 : k = 9 ∧ (1 : UInt8) < s.getD k 0) : dec s = (0, 0) := by
  unfold at_ at h
  rw [drop_getD hk, decA, if_neg (by omega), if_pos h9] at h
  unfold dec; rw [h]; rfl
theorem at_bad2 {s : Bytes} {k : Nat} {n : UInt64} (h : at_ s k n) (hk : k < s.length) (hk10 : k < 10) (h9 : ¬ (k = 9 ∧ (1 : UInt8) < s.getD k 0)) (h128 : s.getD k 0 < (128 : UInt8)) (h0 : s.getD k 0 = 0 ∧ 0 < k) : dec s = (0, 0) := by
  unfold at_ at h
  rw [drop_getD hk, decA, if_neg (by omega), if_neg h9, if_pos h128, if_pos h0] at h
  unfold dec; rw [h]; rfl
theorem at_hit {s : Bytes} {k : Nat} {n : UInt64} (h : at_ s k n) (hn : n.toNat < 2 ^ (7 * k)) (hk : k < s.length) (hk10 : k < 10) (h9 : ¬ (k = 9 ∧ (1 : UInt8) < s.getD k 0)) (h128 : s.getD k 0 < (128 : UInt8)) (h0 : ¬ (s.getD k 0 = 0 ∧ 0 < k)) : dec s = (shifted n (s.getD k 0) (7 * k), k + 1) := by
  have hb : (s.getD k 0).toNat < 128 := by
    rw [u8lt] at h128
    have h1 : (128 : UInt8).toNat = 128 := rfl
    omega
  have hs := shifted_nat hn (fits (b := s.getD k 0) (by omega) h9 (fun _ => hb))
  unfold at_ at h
  rw [drop_getD hk, decA, if_neg (by omega), if_neg h9, if_pos h128, if_neg h0] at h
  unfold dec
  rw [h]
  show (UInt64.ofNat (n.toNat + (s.getD k 0).toNat * 2 ^ (7 * k)), k + 1) = _
  refine Prod.ext ?_ rfl
  apply UInt64.toNat_inj.1
  rw [hs, Nat.mod_eq_of_lt hb]
  have hlt := (shifted n (s.getD k 0) (7 * k)).toNat_lt
  rw [hs, Nat.mod_eq_of_lt hb] at hlt
  simp only [UInt64.toNat_ofNat']
  exact Nat.mod_eq_of_lt hlt
theorem at_end {s : Bytes} {k : Nat} {n : UInt64} (h : at_ s k n) (hk : s.length ≤ k ∨ 10 ≤ k) : dec s = (0, 0) := by
  unfold at_ at h
  have : decA (s.drop k) k = none := by
    by_cases h1 : s.length ≤ k
    · rw [List.drop_eq_nil_of_le h1]; rfl
    · rw [drop_getD (by omega), decA, if_pos (by omega)]
  rw [this] at h
  unfold dec; rw [h]; rfl
section
variable {s : Bytes} {k : Nat} {n : UInt64}
theorem and_f {p q : Prop} [Decidable p] [Decidable q] (h : (decide p && decide q) = false) : ¬ (p ∧ q) := by
  rintro ⟨h1, h2⟩
  rw [decide_eq_true h1, decide_eq_true h2] at h; cases h
theorem and_t {p q : Prop} [Decidable p] [Decidable q] (h : (decide p && decide q) = true) : p ∧ q := by simpa using h
theorem c9 (h : (decide ((k : Int) = 9) && decide ((1 : UInt8) < s.getD k 0)) = false) : ¬ (k = 9 ∧ (1 : UInt8) < s.getD k 0) := fun h2 => and_f h ⟨by omega, h2.2⟩
theorem c0 (h : (decide (s.getD k 0 = (0 : UInt8)) && decide (0 < (k : Int))) = false) : ¬ (s.getD k 0 = 0 ∧ 0 < k) := fun h2 => and_f h ⟨h2.1, by omega⟩
theorem go_step (h : at_ s k n) (hn : n.toNat < 2 ^ (7 * k)) (hk : k < s.length) (hk10 : k < 10) (h9 : (decide ((k : Int) = 9) && decide ((1 : UInt8) < s.getD k 0)) = false) (h128 : ¬ s.getD k 0 < (128 : UInt8)) :
    at_ s (k + 1) (n ||| UInt64.ofBitVec (((s.getD k 0 &&& 127).toUInt64).toBitVec <<< (7 * k))) ∧ (n ||| UInt64.ofBitVec (((s.getD k 0 &&& 127).toUInt64).toBitVec <<< (7 * k))).toNat < 2 ^ (7 * (k + 1)) := at_step h hn hk hk10 (c9 h9) h128
theorem go_bad1 (h : at_ s k n) (hk : k < s.length) (hk10 : k < 10) (h9 : (decide ((k : Int) = 9) && decide ((1 : UInt8) < s.getD k 0)) = true) : dec s = (0, 0) := at_bad1 h hk hk10 ⟨by have := (and_t h9).1; omega, (and_t h9).2⟩
theorem go_bad2 (h : at_ s k n) (hk : k < s.length) (hk10 : k < 10) (h9 : (decide ((k : Int) = 9) && decide ((1 : UInt8) < s.getD k 0)) = false) (h128 : s.getD k 0 < (128 : UInt8)) (h0 : (decide (s.getD k 0 = (0 : UInt8)) && decide (0 < (k : Int))) = true) : dec s = (0, 0) := at_bad2 h hk hk10 (c9 h9) h128 ⟨(and_t h0).1, by have := (and_t h0).2; omega⟩
theorem go_hit (h : at_ s k n) (hn : n.toNat < 2 ^ (7 * k)) (hk : k < s.length) (hk10 : k < 10) (h9 : (decide ((k : Int) = 9) && decide ((1 : UInt8) < s.getD k 0)) = false) (h128 : s.getD k 0 < (128 : UInt8)) (h0 : (decide (s.getD k 0 = (0 : UInt8)) && decide (0 < (k : Int))) = false) :
    dec s = (n ||| UInt64.ofBitVec (((s.getD k 0 &&& 127).toUInt64).toBitVec <<< (7 * k)), k + 1) := at_hit h hn hk hk10 (c9 h9) h128 (c0 h0)
end
end R01
namespace Rd
def fail (r : Reader) (e : Int) : Reader := if r.err = 0 then ⟨[], e⟩ else r
def number (r : Reader) : UInt64 × Reader := if r.err ≠ 0 then (0, r) else if (R01.dec r.left).2 = 0 then (0, ⟨[], 11⟩) else ((R01.dec r.left).1, ⟨r.left.drop (R01.dec r.left).2, 0⟩)
def count (r : Reader) (most : Int) : Int × Reader := if (number r).2.err ≠ 0 then (0, (number r).2) else if most < (number r).1.toNat then (0, ⟨[], 8⟩) else ((number r).1.toNat, (number r).2)
def rtext (r : Reader) (most : Int) : Bytes × Reader := if (count r most).2.err ≠ 0 then ([], (count r most).2) else if ((count r most).2.left.length : Int) < (count r most).1 then ([], ⟨[], 11⟩) else ((count r most).2.left.take (count r most).1.toNat, ⟨(count r most).2.left.drop (count r most).1.toNat, 0⟩)
def fin (r : Reader) : Int := if r.err = 0 ∧ r.left ≠ [] then 11 else r.err
section
variable {r : Reader} {e most : Int} {x : UInt64}
theorem fail_yes (h : r.err = 0) : fail r e = ⟨[], e⟩ := if_pos h
theorem fail_no (h : ¬ r.err = 0) : fail r e = r := if_neg h
def took (r : Reader) (x : UInt64) : UInt64 := if r.err ≠ 0 then x else (R01.dec r.left).1
theorem took_no (h : r.err ≠ 0) : took r x = x := if_pos h
theorem took_yes (h : ¬ r.err ≠ 0) : took r x = (R01.dec r.left).1 := if_neg h
theorem number_no (h : r.err ≠ 0) : number r = (0, r) := if_pos h
theorem number_bad (h : ¬ r.err ≠ 0) (h2 : (R01.dec r.left).2 = 0) : number r = (0, ⟨[], 11⟩) := by unfold number; rw [if_neg h, if_pos h2]
theorem number_ok (h : ¬ r.err ≠ 0) (h2 : ¬ (R01.dec r.left).2 = 0) : number r = ((R01.dec r.left).1, ⟨r.left.drop (R01.dec r.left).2, 0⟩) := by unfold number; rw [if_neg h, if_neg h2]
theorem number_took : took r 0 = (number r).1 := by
  by_cases h : r.err ≠ 0
  · rw [took_no h, number_no h]
  · rw [took_yes h]
    by_cases h2 : (R01.dec r.left).2 = 0
    · rw [number_bad h h2]; exact R01.dec_zero h2
    · rw [number_ok h h2]
theorem count_no (h : (number r).2.err ≠ 0) : count r most = (0, (number r).2) := if_pos h
theorem count_bad (h : ¬ (number r).2.err ≠ 0) (h2 : most < (number r).1.toNat) : count r most = (0, ⟨[], 8⟩) := by unfold count; rw [if_neg h, if_pos h2]
theorem count_ok (h : ¬ (number r).2.err ≠ 0) (h2 : ¬ most < (number r).1.toNat) : count r most = (((number r).1.toNat : Int), (number r).2) := by unfold count; rw [if_neg h, if_neg h2]
theorem rtext_no (h : (count r most).2.err ≠ 0) : rtext r most = ([], (count r most).2) := if_pos h
theorem rtext_bad (h : ¬ (count r most).2.err ≠ 0) (h2 : ((count r most).2.left.length : Int) < (count r most).1) : rtext r most = ([], ⟨[], 11⟩) := by unfold rtext; rw [if_neg h, if_pos h2]
theorem rtext_ok (h : ¬ (count r most).2.err ≠ 0) (h2 : ¬ ((count r most).2.left.length : Int) < (count r most).1) : rtext r most = ((count r most).2.left.take (count r most).1.toNat, ⟨(count r most).2.left.drop (count r most).1.toNat, 0⟩) := by unfold rtext; rw [if_neg h, if_neg h2]
theorem ofInt64 (n : Int) (h : 0 ≤ n) (h2 : n ≤ 9223372036854775807) : (UInt64.ofInt n).toNat = n.toNat := by
  obtain ⟨m, rfl⟩ : ∃ m : Nat, n = m := ⟨n.toNat, by omega⟩
  simp [UInt64.ofInt]
  omega
theorem fin_open (h : (decide (r.err = 0) && decide (r.left ≠ [])) = true) : fin r = 11 := if_pos (R01.and_t h)
theorem fin_shut (h : (decide (r.err = 0) && decide (r.left ≠ [])) = false) : fin r = r.err := if_neg (R01.and_f h)
end
theorem count_range (r : Reader) (most : Int) (h : 0 ≤ most) : 0 ≤ (count r most).1 ∧ (count r most).1 ≤ most := by
  unfold count
  split
  · exact ⟨Int.le_refl _, h⟩
  · split
    · exact ⟨Int.le_refl _, h⟩
    · rename_i h2
      exact ⟨by omega, by show ((number r).1.toNat : Int) ≤ most; omega⟩
theorem rtext_len (r : Reader) (most : Int) (h : 0 ≤ most) : ((rtext r most).1.length : Int) ≤ most := by
  have hc := count_range r most h
  unfold rtext
  split
  · exact h
  · split
    · exact h
    · show (((count r most).2.left.take (count r most).1.toNat).length : Int) ≤ most
      rw [List.length_take]; omega
end Rd
end Go.Proofs.Ytodfebhimadaiaa
