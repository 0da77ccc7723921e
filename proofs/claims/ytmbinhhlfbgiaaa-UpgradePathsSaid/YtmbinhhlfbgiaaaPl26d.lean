/- Pl26d: the order of the records of an index. -/
import Derived.Test.YtmbinhhlfbgiaaaPl26c
import Derived.Test.YtmbinhhlfbgiaaaGvR
namespace Go.Proofs.Ytmbinhhlfbgiaaa
open Go.GV
namespace R26
section
variable {a : DataSet} {l : List Pair} {k : Nat} {f W : List Bytes}
theorem lt_split : ∀ (n : Nat) (x y : Bytes), x.length = y.length → Ord.lt x y → Ord.lt (x.take n) (y.take n) ∨ (x.take n = y.take n ∧ Ord.lt (x.drop n) (y.drop n))
  | 0, x, y, _, h => .inr ⟨rfl, h⟩
  | n + 1, [], y, hl, h => by
    cases y with
    | nil => exact absurd h (Ord.irr _)
    | cons _ _ => simp at hl
  | n + 1, _ :: _, [], hl, _ => by simp at hl
  | n + 1, u :: x, v :: y, hl, h => by
    rw [Ord.lt_cons] at h
    simp only [List.take_succ_cons, List.drop_succ_cons]
    rcases h with h | ⟨h, h2⟩
    · exact .inl (Ord.lt_cons.2 (.inl h))
    · rcases lt_split n x y (by simpa using hl) h2 with h3 | ⟨h3, h4⟩
      · exact .inl (Ord.lt_cons.2 (.inr ⟨h, h3⟩))
      · exact .inr ⟨by rw [h3, UInt8.toNat_inj.1 h], h4⟩
def Wants (a : DataSet) (l : List Pair) (W : List Bytes) : Prop := W.Nodup ∧ ∀ s, s ∈ W ↔ s ∈ ents a l
end
end R26
end Go.Proofs.Ytmbinhhlfbgiaaa
