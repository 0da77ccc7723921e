/- Pl26b: laws of the plain functions of chapter 26. -/
import Derived.Test.YtmbinhhlfbgiaaaPl26
namespace Go.Proofs.Ytmbinhhlfbgiaaa
open Go.GV
namespace R16
def short (l : List Bytes) (m n : Int) : Bool := decide ((l.length : Int) ≤ m) && l.all fun s => decide ((s.length : Int) ≤ n)
theorem short_bad {l : List Bytes} {m n : Int} {k : Nat} (hk : k < l.length) (h : n < (l.getD k []).length) : short l m n = false := by
  rw [Bool.eq_false_iff]
  intro h2
  unfold short at h2
  rw [Bool.and_eq_true, List.all_eq_true] at h2
  have := h2.2 (l.getD k []) (by rw [List.getD_eq_getElem?_getD, List.getElem?_eq_getElem hk]; exact List.getElem_mem _)
  have := of_decide_eq_true this
  omega
theorem short_end {l : List Bytes} {m n : Int} {k : Nat} (hk2 : l.length ≤ k) (h0 : (l.length : Int) ≤ m) (h : ∀ i, i < k → ((l.getD i []).length : Int) ≤ n) : short l m n = true := by
  unfold short
  rw [Bool.and_eq_true, List.all_eq_true]
  refine ⟨decide_eq_true h0, fun x hx => ?_⟩
  obtain ⟨i, hi, rfl⟩ := List.getElem_of_mem hx
  have := h i (by omega)
  rw [List.getD_eq_getElem?_getD, List.getElem?_eq_getElem hi] at this
  exact decide_eq_true this
end R16
namespace R26
theorem sub_sub2 {r : Bytes} {a b : Int} (h0 : 0 ≤ a) (h1 : 0 ≤ b) (h : a + b ≤ r.length) : sub (sub r a.toNat r.length) 0 b.toNat = sub r a.toNat (a + b).toNat := by
  rw [sub_sub (by omega)]; congr 1; omega
theorem key_no {a : DataSet} {r : Bytes} (h : ¬ (isAlt a = true ∧ a.AltAt + a.AltLength ≤ r.length)) : key a r = ([], false) := if_neg h
theorem key_yes {a : DataSet} {r : Bytes} (h : isAlt a = true) (h2 : a.AltAt + a.AltLength ≤ r.length) : key a r = (sub r a.AltAt.toNat (a.AltAt + a.AltLength).toNat, true) := if_pos ⟨h, h2⟩
theorem span_no {a : DataSet} {k : Bytes} (h : isAlt a = false) : span a k = (⟨[], [], false⟩, 1) := if_neg (by simp [h])
theorem span_bad {a : DataSet} {k : Bytes} (h : isAlt a = true) (h2 : ¬ (k.length : Int) = a.AltLength) : span a k = (⟨[], [], false⟩, 2) := ite1 h h2
theorem span_ok {a : DataSet} {k : Bytes} (h : isAlt a = true) (h2 : (k.length : Int) = a.AltLength) : span a k = (⟨k, k ++ rep [255] (a.KeyLength - a.AltLength).toNat, false⟩, 0) := ite2 h h2
def inr (r : Range) (s : Bytes) : Bool := (!Op.bytesLess s r.Low) && (r.End || (Op.bytesLess s r.High || decide (s = r.High)))
def exBase : DataSet := { Id := 3, Org := 3, Format := 0, Length := 20, Block := 0, KeyAt := 0, KeyLength := 3, Interval := 128, Area := 2, FreeInterval := 0, FreeArea := 0, Base := 0, AltAt := 0, AltLength := 0, Unique := false, Class := 0, Volume := [], Owner := [], Created := 0, Expires := 0, Archived := false }
def exAlt : DataSet := (describe exBase 4 5 2 false).1
theorem less_self : ∀ (s : Bytes), Op.bytesLess s s = false
  | [] => rfl
  | x :: s => by unfold Op.bytesLess; simp [less_self s]
theorem key_facts {a : DataSet} {r : Bytes} (h : (key a r).2 = true) : isAlt a = true ∧ 1 ≤ a.AltLength ∧ a.AltLength < a.KeyLength ∧ a.KeyLength ≤ 32 ∧ ((key a r).1.length : Int) = a.AltLength := by
  by_cases h1 : isAlt a = true ∧ a.AltAt + a.AltLength ≤ r.length
  · have hf := isAlt_facts h1.1
    refine ⟨h1.1, by omega, by omega, by omega, ?_⟩
    rw [key_yes h1.1 h1.2]
    show ((sub r a.AltAt.toNat (a.AltAt + a.AltLength).toNat).length : Int) = _
    rw [sub_length _ _ _ (by omega)]
    omega
  · rw [key_no h1] at h; cases h
end R26
end Go.Proofs.Ytmbinhhlfbgiaaa
