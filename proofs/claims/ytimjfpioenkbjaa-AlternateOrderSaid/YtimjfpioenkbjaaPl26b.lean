/- Pl26b: laws of the plain functions of chapter 26. -/
import Derived.Test.YtimjfpioenkbjaaPl26
namespace Go.Proofs.Ytimjfpioenkbjaa
open Go.GV
namespace R16
def short (l : List Bytes) (m n : Int) : Bool := decide ((l.length : Int) ≤ m) && l.all fun s => decide ((s.length : Int) ≤ n)
theorem short_long {l : List Bytes} {m n : Int} (h : m < l.length) : short l m n = false := by
  unfold short; rw [decide_eq_false (by omega), Bool.false_and]
theorem short_bad {l : List Bytes} {m n : Int} {k : Nat} (hk : k < l.length) (h : n < (l.getD k []).length) : short l m n = false := by
  rw [Bool.eq_false_iff]
  intro h2
  unfold short at h2
  rw [Bool.and_eq_true, List.all_eq_true] at h2
  have := h2.2 (l.getD k []) (by rw [List.getD_eq_getElem?_getD, List.getElem?_eq_getElem hk]; exact List.getElem_mem _)
  have := of_decide_eq_true this
  omega
theorem short_end {l : List Bytes} {m n : Int} {k : Nat} (hk2 : l.length ≤ k) (h0 : (l.length : Int) ≤ m) (h : ∀ i, i < k → ((l.getD i []).length : Int) ≤ n) : short l m n = true := by
  unfold short
  rw [Bool.and_eq_true, List.all_eq_true]
  refine ⟨decide_eq_true h0, fun x hx => ?_⟩
  obtain ⟨i, hi, rfl⟩ := List.getElem_of_mem hx
  have := h i (by omega)
  rw [List.getD_eq_getElem?_getD, List.getElem?_eq_getElem hi] at this
  exact decide_eq_true this
end R16
namespace R26
theorem sub_sub2 {r : Bytes} {a b : Int} (h0 : 0 ≤ a) (h1 : 0 ≤ b) (h : a + b ≤ r.length) : sub (sub r a.toNat r.length) 0 b.toNat = sub r a.toNat (a + b).toNat := by
  rw [sub_sub (by omega)]; congr 1; omega
theorem key_no {a : DataSet} {r : Bytes} (h : ¬ (isAlt a = true ∧ a.AltAt + a.AltLength ≤ r.length)) : key a r = ([], false) := if_neg h
theorem key_yes {a : DataSet} {r : Bytes} (h : isAlt a = true) (h2 : a.AltAt + a.AltLength ≤ r.length) : key a r = (sub r a.AltAt.toNat (a.AltAt + a.AltLength).toNat, true) := if_pos ⟨h, h2⟩
theorem record_no {a : DataSet} {k b : Bytes} (h : isAlt a = false) : record a k b = ([], 1) := if_neg (by simp [h])
theorem record_bad {a : DataSet} {k b : Bytes} (h : isAlt a = true) (h2 : ¬ ((k.length : Int) = a.AltLength ∧ (b.length : Int) = a.KeyLength - a.AltLength)) : record a k b = ([], 2) := ite1 h h2
theorem record_ok {a : DataSet} {k b : Bytes} (h : isAlt a = true) (h2 : (k.length : Int) = a.AltLength ∧ (b.length : Int) = a.KeyLength - a.AltLength) : record a k b = (k ++ b, 0) := ite2 h h2
theorem parts_no {a : DataSet} {r : Bytes} (h : isAlt a = false) : parts a r = ([], [], 1) := if_neg (by simp [h])
theorem parts_bad {a : DataSet} {r : Bytes} (h : isAlt a = true) (h2 : ¬ (r.length : Int) = a.KeyLength) : parts a r = ([], [], 2) := ite1 h h2
theorem parts_ok {a : DataSet} {r : Bytes} (h : isAlt a = true) (h2 : (r.length : Int) = a.KeyLength) : parts a r = (sub r 0 a.AltLength.toNat, sub r a.AltLength.toNat r.length, 0) := ite2 h h2
theorem span_no {a : DataSet} {k : Bytes} (h : isAlt a = false) : span a k = (⟨[], [], false⟩, 1) := if_neg (by simp [h])
theorem span_bad {a : DataSet} {k : Bytes} (h : isAlt a = true) (h2 : ¬ (k.length : Int) = a.AltLength) : span a k = (⟨[], [], false⟩, 2) := ite1 h h2
theorem span_ok {a : DataSet} {k : Bytes} (h : isAlt a = true) (h2 : (k.length : Int) = a.AltLength) : span a k = (⟨k, k ++ rep [255] (a.KeyLength - a.AltLength).toNat, false⟩, 0) := ite2 h h2
def inr (r : Range) (s : Bytes) : Bool := (!Op.bytesLess s r.Low) && (r.End || (Op.bytesLess s r.High || decide (s = r.High)))
def exBase : DataSet := { Id := 3, Org := 3, Format := 0, Length := 20, Block := 0, KeyAt := 0, KeyLength := 3, Interval := 128, Area := 2, FreeInterval := 0, FreeArea := 0, Base := 0, AltAt := 0, AltLength := 0, Unique := false, Class := 0, Volume := [], Owner := [], Created := 0, Expires := 0, Archived := false }
def exAlt : DataSet := (describe exBase 4 5 2 false).1
theorem describe_cases (base : DataSet) (id pos len : Int) (u : Bool) : describe base id pos len u = (zero, 1) ∨ describe base id pos len u = (zero, 8) ∨ ∃ iv, good base id pos len = true ∧ pick (fun iv => R16.valid (mk base id pos len u iv)) base.Interval = some iv ∧ describe base id pos len u = (mk base id pos len u iv, 0) := by
  cases hg : good base id pos len with
  | false => exact .inl (describe_bad hg)
  | true =>
    cases hp : pick (fun iv => R16.valid (mk base id pos len u iv)) base.Interval with
    | none => exact .inr (.inl (describe_none hg hp))
    | some iv => exact .inr (.inr ⟨iv, rfl, rfl, describe_some hg hp⟩)
theorem describe_err {base : DataSet} {id pos len : Int} {u : Bool} (h : (describe base id pos len u).2 ≠ 0) : (decide ((describe base id pos len u).1 = zero) && (decide ((describe base id pos len u).2 = 1) || decide ((describe base id pos len u).2 = 8))) = true := by
  rcases describe_cases base id pos len u with e | e | ⟨iv, hg, hp, e⟩
  · rw [e]; rfl
  · rw [e]; rfl
  · rw [e] at h; exact absurd rfl h
theorem describe_fit {base : DataSet} {id pos len : Int} {u : Bool} (h : ¬ (describe base id pos len u).2 ≠ 0) :
    valid base (describe base id pos len u).1 = true ∧ R16.valid (describe base id pos len u).1 = true ∧ (describe base id pos len u).1.Id = id ∧ (describe base id pos len u).1.AltAt = pos ∧ (describe base id pos len u).1.AltLength = len ∧ (describe base id pos len u).1.Unique = u ∧ (describe base id pos len u).1.Base = base.Id ∧ base.Interval ≤ (describe base id pos len u).1.Interval ∧
    ((describe base id pos len u).1.Interval = base.Interval ∨ R16.valid { (describe base id pos len u).1 with Interval := (describe base id pos len u).1.Interval / 2 } = false) := by
  rcases describe_cases base id pos len u with e | e | ⟨iv, hg, hp, e⟩
  · rw [e] at h; exact absurd (by decide) h
  · rw [e] at h; exact absurd (by decide) h
  · rw [e]
    have hs := pick_some hp
    have hb := isBase_facts (good_facts hg).1
    refine ⟨(valid_mk hg).trans hs.1, hs.1, rfl, rfl, rfl, rfl, rfl, ?_, ?_⟩
    · show base.Interval ≤ iv
      omega
    · rcases hs.2.2 with h1 | ⟨h1, h2⟩ | ⟨h1, h2⟩
      · exact .inl h1
      · right
        show R16.valid (mk base id pos len u (iv / 2)) = false
        rw [show iv / 2 = base.Interval by omega]; exact h2
      · right
        show R16.valid (mk base id pos len u (iv / 2)) = false
        rw [show iv / 2 = 2 * base.Interval by omega]; exact h2
theorem fits_end {base : DataSet} {id pos len : Int} {u : Bool} (h : ¬ (describe base id pos len u).2 ≠ 0) : (decide ((describe base id pos len u).1.Interval = base.Interval) || !(valid base { (describe base id pos len u).1 with Interval := (describe base id pos len u).1.Interval / 2 })) = true := by
  rcases (describe_fit h).2.2.2.2.2.2.2.2 with h1 | h1
  · rw [decide_eq_true h1, Bool.true_or]
  · have : valid base { (describe base id pos len u).1 with Interval := (describe base id pos len u).1.Interval / 2 } = false := by
      rw [Bool.eq_false_iff]
      intro h2
      unfold valid at h2
      simp only [Bool.and_eq_true] at h2
      rw [(shaped_facts h2.1.2).1] at h1
      cases h1
    rw [this, Bool.not_false, Bool.or_true]
theorem record_err {a : DataSet} {k b : Bytes} (h : (record a k b).2 ≠ 0) : decide ((record a k b).1 = []) = true := by
  cases ha : isAlt a with
  | false => rw [record_no ha]; rfl
  | true =>
    by_cases hb : (k.length : Int) = a.AltLength ∧ (b.length : Int) = a.KeyLength - a.AltLength
    · rw [record_ok ha hb] at h; exact absurd rfl h
    · rw [record_bad ha hb]; rfl
theorem record_fine {a : DataSet} {k b : Bytes} (h : ¬ (record a k b).2 ≠ 0) : isAlt a = true ∧ (k.length : Int) = a.AltLength ∧ (b.length : Int) = a.KeyLength - a.AltLength := by
  cases ha : isAlt a with
  | false => rw [record_no ha] at h; exact absurd (by decide) h
  | true =>
    by_cases hb : (k.length : Int) = a.AltLength ∧ (b.length : Int) = a.KeyLength - a.AltLength
    · exact ⟨rfl, hb⟩
    · rw [record_bad ha hb] at h; exact absurd (by decide) h
/-- a string is not less than its own beginning, and not more than that beginning with 255s behind -/
theorem less_full : ∀ (m : Nat) (r : Bytes), r.length = m → (Op.bytesLess r (rep [255] m) || decide (r = rep [255] m)) = true
  | 0, [], _ => rfl
  | m + 1, x :: r, h => by
    have ih := less_full m r (by simpa using h)
    show (Op.bytesLess (x :: r) (255 :: rep [255] m) || decide (x :: r = 255 :: rep [255] m)) = true
    unfold Op.bytesLess
    by_cases hx : x = 255
    · subst hx
      simpa using ih
    · have : x < 255 := by
        rw [UInt8.lt_iff_toNat_lt]
        have h1 : x.toNat ≠ (255 : UInt8).toNat := fun h => hx (UInt8.toNat_inj.1 h)
        have h2 := x.toNat_lt
        have h3 : (255 : UInt8).toNat = 255 := rfl
        omega
      simp [this]
theorem less_self : ∀ (s : Bytes), Op.bytesLess s s = false
  | [] => rfl
  | x :: s => by unfold Op.bytesLess; simp [less_self s]
theorem span_in : ∀ (k r : Bytes) (m : Nat), r.length = k.length + m → ((!Op.bytesLess r k) && (Op.bytesLess r (k ++ rep [255] m) || decide (r = k ++ rep [255] m))) = decide (r.take k.length = k)
  | [], r, m, h => by
    have h0 : r.length = m := by simpa using h
    rw [List.nil_append, less_full m r h0]
    cases r <;> simp [Op.bytesLess]
  | x :: k, [], m, h => by simp at h; omega
  | x :: k, y :: r, m, h => by
    have ih := span_in k r m (by simp at h; omega)
    rw [List.length_cons, List.take_succ_cons]
    show ((!Op.bytesLess (y :: r) (x :: k)) && (Op.bytesLess (y :: r) (x :: (k ++ rep [255] m)) || decide (y :: r = x :: (k ++ rep [255] m)))) = _
    unfold Op.bytesLess
    by_cases hxy : y = x
    · subst hxy
      simpa using ih
    · by_cases hl : y < x
      · simp [hl, hxy]
      · simp [hl, hxy]
theorem append_take {k b : Bytes} : sub (k ++ b) 0 k.length = k := by
  rw [sub_to, List.take_left']; rfl
theorem append_drop {k b : Bytes} : sub (k ++ b) k.length (k ++ b).length = b := by
  rw [sub_from, List.drop_left']; rfl
theorem parts_fine {a : DataSet} {r : Bytes} (h : ¬ (parts a r).2.2 ≠ 0) : isAlt a = true ∧ (r.length : Int) = a.KeyLength := by
  cases ha : isAlt a with
  | false => rw [parts_no ha] at h; exact absurd (by decide) h
  | true =>
    by_cases hb : (r.length : Int) = a.KeyLength
    · exact ⟨rfl, hb⟩
    · rw [parts_bad ha hb] at h; exact absurd (by decide) h
theorem span_fine {a : DataSet} {k : Bytes} (h : ¬ (span a k).2 ≠ 0) : isAlt a = true ∧ (k.length : Int) = a.AltLength := by
  cases ha : isAlt a with
  | false => rw [span_no ha] at h; exact absurd (by decide) h
  | true =>
    by_cases hb : (k.length : Int) = a.AltLength
    · exact ⟨rfl, hb⟩
    · rw [span_bad ha hb] at h; exact absurd (by decide) h
theorem spans_law {a : DataSet} {r k : Bytes} (h : ¬ (parts a r).2.2 ≠ 0) (h2 : ¬ (span a k).2 ≠ 0) : (inr (span a k).1 r) = decide ((parts a r).1 = k) := by
  have ⟨ha, hr⟩ := parts_fine h
  have ⟨_, hk⟩ := span_fine h2
  have hf := isAlt_facts ha
  rw [span_ok ha hk, parts_ok ha hr]
  show ((!Op.bytesLess r k) && (false || (Op.bytesLess r (k ++ rep [255] (a.KeyLength - a.AltLength).toNat) || decide (r = k ++ rep [255] (a.KeyLength - a.AltLength).toNat)))) = decide (sub r 0 a.AltLength.toNat = k)
  rw [Bool.false_or, span_in k r _ (by omega), sub_to, show a.AltLength.toNat = k.length by omega]
theorem inverts_law {a : DataSet} {k b : Bytes} (h : ¬ (record a k b).2 ≠ 0) :
    ((((((decide ((parts a (record a k b).1).2.2 = 0)) && (decide ((parts a (record a k b).1).1 = k))) && (decide ((parts a (record a k b).1).2.1 = b))) && (decide ((span a k).2 = 0))) && (inr (span a k).1 (record a k b).1)) && (decide (((record a k b).1.length : Int) = a.KeyLength))) = true := by
  have ⟨ha, hk, hb⟩ := record_fine h
  have hf := isAlt_facts ha
  have hl : ((k ++ b).length : Int) = a.KeyLength := by rw [List.length_append]; omega
  rw [record_ok ha ⟨hk, hb⟩]
  have hn : a.AltLength.toNat = k.length := by omega
  have hp : parts a (k ++ b) = (k, b, 0) := by rw [parts_ok ha hl, hn, append_take, append_drop]
  have hs := spans_law (a := a) (r := k ++ b) (k := k) (by rw [hp]; exact fun h => h rfl) (by rw [span_ok ha hk]; exact fun h => h rfl)
  show ((((((decide ((parts a (k ++ b)).2.2 = 0)) && (decide ((parts a (k ++ b)).1 = k))) && (decide ((parts a (k ++ b)).2.1 = b))) && (decide ((span a k).2 = 0))) && (inr (span a k).1 (k ++ b))) && (decide (((k ++ b).length : Int) = a.KeyLength))) = true
  rw [hs, hp, hl, span_ok ha hk]
  simp
theorem key_facts {a : DataSet} {r : Bytes} (h : (key a r).2 = true) : isAlt a = true ∧ 1 ≤ a.AltLength ∧ a.AltLength < a.KeyLength ∧ a.KeyLength ≤ 32 ∧ ((key a r).1.length : Int) = a.AltLength := by
  by_cases h1 : isAlt a = true ∧ a.AltAt + a.AltLength ≤ r.length
  · have hf := isAlt_facts h1.1
    refine ⟨h1.1, by omega, by omega, by omega, ?_⟩
    rw [key_yes h1.1 h1.2]
    show ((sub r a.AltAt.toNat (a.AltAt + a.AltLength).toNat).length : Int) = _
    rw [sub_length _ _ _ (by omega)]
    omega
  · rw [key_no h1] at h; cases h
end R26
end Go.Proofs.Ytimjfpioenkbjaa
