/- Ss: slices.Sort and slices.Compact of strings, by the shelf's contracts. -/
import Derived.Test.YtimjfpioenkbjaaSh26b
import Derived.Test.YtimjfpioenkbjaaGvN
namespace Go.Proofs.Ytimjfpioenkbjaa
open Go.GV Go.RowKit Go.Sort
def srt (xs : List Bytes) : List Bytes := xs.mergeSort fun x y => decide (x ≤ y)
def cmp (xs : List Bytes) : List Bytes := Lib.compact xs
theorem srt_length (xs : List Bytes) : (srt xs).length = xs.length := List.length_mergeSort xs
theorem cmp_length (xs : List Bytes) : (cmp xs).length ≤ xs.length := by
  unfold cmp Lib.compact Lib.compactUpTo
  rw [List.length_map]
  exact Nat.le_trans (List.length_filter_le _ _) (by simp)
theorem sort_ok (xs : List Bytes) (xsA : Option Addr) (xsC xsN : Nat) (w : World) (hN : xsN = xs.length) (q0 : xs.length ≤ 1000000000) (hg : Give (Lown [Ent.row (.slice xsA xsN xsC) 9 1 xsN (xs.map vS)]) w [Ent.row (.slice xsA xsN xsC) 9 1 xsN (xs.map vS)]) :
    Calls Try.prog 45 #[Value.slice xsA xsN xsC] w (Gives (Lown [Ent.row (.slice xsA xsN xsC) 9 1 xsN (xs.map vS)]) w fun v L => v = Value.tuple #[] ∧ L = [Ent.row (.slice xsA xsN xsC) 9 1 xsN ((srt xs).map vS)]) := by
  subst hN
  have hat := give_one hg
  by_cases hx : xs = []
  · subst hx
    refine (Try.slices_Sort_string_none xsA xsC w).mono ?_
    rintro e w' ⟨rfl, rfl⟩
    refine ⟨_, _, rfl, ⟨rfl, rfl⟩, ?_⟩
    rw [show srt [] = [] by simp [srt]]
    exact st_same hg
  · obtain ⟨g, hA, cur, ho, _, _, _, _⟩ := row_some hat hx
    subst hA
    refine (Try.slices_Sort_string g 0 xsC xs w (row_holds hat hx) (Array.getElem?_eq_some_iff.1 ho).1 (by omega)).mono ?_
    rintro e w' ⟨rfl, k, os, hw⟩
    have hl := srt_length xs
    obtain ⟨h1, h2⟩ := row_put hat rfl hx hw hl xs.length (by rw [← hl]; exact Nat.le_refl _) (ys := srt xs) (by rw [← hl]; exact List.take_length)
    exact ⟨_, _, rfl, ⟨rfl, rfl⟩, st_one rfl rfl h1 h2⟩
theorem compact_ok (xs : List Bytes) (xsA : Option Addr) (xsC xsN : Nat) (w : World) (hN : xsN = xs.length) (q0 : xs.length ≤ 1000000000) (hg : Give (Lown [Ent.row (.slice xsA xsN xsC) 9 1 xsN (xs.map vS)]) w [Ent.row (.slice xsA xsN xsC) 9 1 xsN (xs.map vS)]) :
    Calls Try.prog 46 #[Value.slice xsA xsN xsC] w (Gives (Lown [Ent.row (.slice xsA xsN xsC) 9 1 xsN (xs.map vS)]) w fun v L => v = Value.slice xsA (cmp xs).length xsC ∧ L = [Ent.row (.slice xsA (cmp xs).length xsC) 9 1 (cmp xs).length ((cmp xs).map vS)]) := by
  subst hN
  have hat := give_one hg
  by_cases hx : xs = []
  · subst hx
    refine (Try.slices_Compact_string_empty xsA xsC w).mono ?_
    rintro e w' ⟨rfl, rfl⟩
    exact ⟨_, _, rfl, ⟨rfl, rfl⟩, st_same hg⟩
  · obtain ⟨g, hA, cur, ho, hcap, _, _, _⟩ := row_some hat hx
    subst hA
    refine (Try.slices_Compact_string g 0 xsC xs w (row_holds hat hx) (by omega) hcap).mono ?_
    rintro e w' ⟨rfl, q, hw⟩
    have hc := cmp_length xs
    have hl : (cmp xs ++ List.replicate (xs.length - (cmp xs).length) []).length = xs.length := by rw [List.length_append, List.length_replicate]; omega
    obtain ⟨h1, h2⟩ := row_put (k := q) (os := #[]) hat rfl hx (hw.trans (grow_empty _).symm) hl (cmp xs).length (by show (cmp xs).length ≤ (cmp xs ++ List.replicate (xs.length - (cmp xs).length) []).length; rw [hl]; exact hc) (ys := cmp xs) (List.take_left' rfl)
    exact ⟨_, _, rfl, ⟨rfl, rfl⟩, st_one rfl rfl h1 h2⟩
/-! strings in order -/
theorem less_iff : ∀ (a b : Bytes), Op.bytesLess a b = true ↔ a < b
  | _, [] => by constructor <;> intro h <;> simp_all [Op.bytesLess]
  | [], y :: b => by simp [Op.bytesLess]
  | x :: a, y :: b => by
    rw [Op.bytesLess, List.cons_lt_cons_iff, Bool.or_eq_true, Bool.and_eq_true, less_iff a b]
    simp
end Go.Proofs.Ytimjfpioenkbjaa
