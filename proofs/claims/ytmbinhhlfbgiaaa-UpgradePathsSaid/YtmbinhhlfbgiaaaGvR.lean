/- GvR: a range over a map that the loop does not write; how long a map is. -/
import Derived.Test.YtmbinhhlfbgiaaaGvM
import Derived.Laws.IdiomRangeMap
namespace Go.GV
open Go.RowKit Go.MapKept
def Ent.mx (b : Nat) (es : Array MapEntry) (clock : Nat) : Ent := ⟨some b, fun o => o = some (.map es clock)⟩
def Ent.rng {κ : Type} (f : κ → Value) (b bm : Nat) (es : Array MapEntry) (clock : Nat) (left : List (κ × Value)) (cur : Option (κ × Value)) : Ent :=
  ⟨some b, fun o => ∃ seen, o = some (.mapIter (some bm) clock seen clock) ∧ (leftOf es seen).toList.map (fun e => (e.key, e.val)) = left.map (fun p => (f p.1, p.2)) ∧ ∀ p, cur = some p → ∃ e ∈ es.toList, seen.back? = some e.born ∧ e.key = f p.1 ∧ e.val = p.2⟩
def Holds' {κ : Type} (f : κ → Value) (es : Array MapEntry) (l : List (κ × Value)) : Prop := es.toList.map (fun e => (e.key, e.val)) = l.map (fun p => (f p.1, p.2))
section
variable {E : Env} {P : Program} {x : Operand} {dst : Option Nat} {t ty : TypeId} {pos : String} {af : Array Edge} {g : Option (Nat × Bool)} {κ : Type}
end
def wpV (a : Nat) (o : Nat) : Value := .pointer (some ⟨a, o, none⟩)
def putV : List Value → List Nat → List Int → Nat → List Value
  | cs, [], _, _ => cs
  | cs, o :: os, vs, i => putV (cs.set o (vI (vs.getD i 0))) os vs (i + 1)
section
variable {E : Env} {P : Program} {x y : Operand} {dst : Option Nat} {t ty : TypeId} {pos : String} {af : Array Edge} {g : Option (Nat × Bool)}
end
def kT {κ : Type} (s : κ) : κ × Value := (s, vB true)
section
variable {κ : Type} [DecidableEq κ]
def addK (l : List κ) (s : κ) : List κ := if s ∈ l then l else l ++ [s]
theorem upd_kT (l : List κ) (s : κ) : upd (l.map kT) s (vB true) = (addK l s).map kT := by
  unfold addK
  induction l with
  | nil => rfl
  | cons a l ih =>
    rw [List.map_cons]
    unfold kT at *
    unfold upd
    by_cases h : s = a
    · rw [if_pos h, if_pos (by simp [h])]
      simp [h]
    · rw [if_neg h, ih]
      by_cases h2 : s ∈ l
      · rw [if_pos h2, if_pos (by simp [h2])]
        rfl
      · rw [if_neg h2, if_neg (by simp [h, h2])]
        rfl
theorem lk_kT (l : List κ) (s : κ) : lk (l.map kT) s = if s ∈ l then some (vB true) else none := by
  induction l with
  | nil => rfl
  | cons a l ih =>
    rw [List.map_cons]
    unfold kT at *
    unfold lk
    by_cases h : s = a
    · rw [if_pos h, if_pos (by simp [h])]
    · rw [if_neg h, ih]
      by_cases h2 : s ∈ l
      · rw [if_pos h2, if_pos (by simp [h2])]
      · rw [if_neg h2, if_neg (by simp [h, h2])]
def hasK (l : List κ) (s : κ) : Bool := decide (s ∈ l)
theorem hasK_mem {l : List κ} {s : κ} (h : hasK l s = true) : s ∈ l := of_decide_eq_true h
theorem hasK_not {l : List κ} {s : κ} (h : hasK l s = false) : ¬ s ∈ l := of_decide_eq_false h
theorem lk_kT_v (l : List κ) (s : κ) : (lk (l.map kT) s).getD (vB false) = vB (hasK l s) := by
  unfold hasK
  rw [lk_kT]
  by_cases h : s ∈ l
  · rw [if_pos h, decide_eq_true h]; rfl
  · rw [if_neg h, decide_eq_false h]; rfl
theorem addK_new {l : List κ} {s : κ} (h : ¬ s ∈ l) : addK l s = l ++ [s] := if_neg h
end
end Go.GV
