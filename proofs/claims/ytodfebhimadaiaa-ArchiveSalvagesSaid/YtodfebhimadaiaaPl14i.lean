/- Pl14i: what the reference salvages and decodes. -/
import Derived.Test.YtodfebhimadaiaaPl14h
namespace Go.Proofs.Ytodfebhimadaiaa
open Go.GV
namespace OrdI
theorem unique : ∀ {l m : List Int}, l.Pairwise (· < ·) → m.Pairwise (· < ·) → (∀ x, x ∈ l ↔ x ∈ m) → l = m
  | [], [], _, _, _ => rfl
  | [], y :: m, _, _, h => by have := (h y).2 (by simp); cases this
  | x :: l, [], _, _, h => by have := (h x).1 (by simp); cases this
  | x :: l, y :: m, h1, h2, h => by
    rw [List.pairwise_cons] at h1 h2
    have hxy : x = y := by
      rcases List.mem_cons.1 ((h x).1 (by simp)) with h4 | h4
      · exact h4
      · rcases List.mem_cons.1 ((h y).2 (by simp)) with h5 | h5
        · exact h5.symm
        · have := h1.1 y h5
          have := h2.1 x h4
          omega
    subst hxy
    congr 1
    refine unique h1.2 h2.2 fun z => ⟨fun hz => ?_, fun hz => ?_⟩
    · rcases List.mem_cons.1 ((h z).1 (by simp [hz])) with h4 | h4
      · have := h1.1 z hz; omega
      · exact h4
    · rcases List.mem_cons.1 ((h z).2 (by simp [hz])) with h4 | h4
      · have := h2.1 z hz; omega
      · exact h4
theorem srt_lt {xs : List Int} (h : xs.Nodup) : (srt xs).Pairwise (· < ·) := by
  have h1 : (srt xs).Pairwise (fun x y => x ≤ y) := by
    have h2 := List.pairwise_mergeSort (le := fun x y : Int => decide (x ≤ y)) (fun a b c hab hbc => by simp only [decide_eq_true_eq] at *; omega) (fun a b => by simp only [Bool.or_eq_true, decide_eq_true_eq]; omega) xs
    exact h2.imp (fun h => of_decide_eq_true h)
  have h2 : (srt xs).Nodup := (List.mergeSort_perm xs _).nodup_iff.2 h
  exact (h1.and h2).imp (fun h => by omega)
def upto (n : Nat) : List Int := (List.range n).map fun i : Nat => (i : Int)
theorem upto_lt (n : Nat) : (upto n).Pairwise (· < ·) := by
  unfold upto
  rw [List.pairwise_map]
  exact List.pairwise_lt_range.imp (fun h => by omega)
theorem upto_mem (n : Nat) (x : Int) : x ∈ upto n ↔ 0 ≤ x ∧ x < n := by
  unfold upto
  simp only [List.mem_map, List.mem_range]
  constructor
  · rintro ⟨i, hi, rfl⟩; omega
  · intro h; exact ⟨x.toNat, by omega, by omega⟩
theorem flat_filter {α : Type} (f : Int → List α) (p : Int → Bool) : ∀ l : List Int, (∀ x ∈ l, p x = false → f x = []) → l.flatMap f = (l.filter p).flatMap f
  | [], _ => rfl
  | x :: l, h => by
    have ih := flat_filter f p l fun y hy => h y (by simp [hy])
    rw [List.flatMap_cons, List.filter_cons]
    cases hp : p x with
    | true => rw [if_pos rfl, List.flatMap_cons, ih]
    | false => rw [if_neg (by decide), h x (by simp) hp, List.nil_append, ih]
theorem srt_range {α : Type} {xs : List Int} (hn : xs.Nodup) {N : Nat} (hb : ∀ x ∈ xs, 0 ≤ x ∧ x < N) (f : Int → List α) (hf : ∀ x, x ∉ xs → f x = []) : (srt xs).flatMap f = (upto N).flatMap f := by
  rw [flat_filter f (fun x => decide (x ∈ xs)) (upto N) (fun x _ hx => hf x (of_decide_eq_false hx))]
  congr 1
  refine unique (srt_lt hn) ((upto_lt N).filter _) fun x => ?_
  rw [srt_mem, List.mem_filter, upto_mem, decide_eq_true_eq]
  exact ⟨fun h => ⟨hb x h, h⟩, fun h => h.2⟩
end OrdI
namespace R14
open Rd
section
variable {up : UInt32 → Bytes → UInt32} {s t : Bytes} {l : List Piece} {m : List (Int × Frame)} {i k o : Nat} {n : Int} {ps : List Pair}
def atP (l : List Piece) (i : Nat) : List Pair := stepP (gL l) (i : Int)
theorem range_step (f : Nat → List Pair) : (List.range (i + 1)).flatMap f = (List.range i).flatMap f ++ f i := by
  rw [List.range_succ, List.flatMap_append, List.flatMap_cons, List.flatMap_nil, List.append_nil]
end
end R14
end Go.Proofs.Ytodfebhimadaiaa
