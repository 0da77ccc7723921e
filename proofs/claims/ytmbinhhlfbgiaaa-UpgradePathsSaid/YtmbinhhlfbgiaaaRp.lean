/- Rp: strings.Repeat, by the shelf's contract. -/
import Derived.Test.YtmbinhhlfbgiaaaSh26
import Derived.Test.YtmbinhhlfbgiaaaGvE
namespace Go.Proofs.Ytmbinhhlfbgiaaa
open Go.GV Go.RowKit
def rep (s : Bytes) : Nat → Bytes
  | 0 => []
  | c + 1 => s ++ rep s c
theorem rep_lib (s : Bytes) : ∀ c, Lib.repeatL s c = rep s c
  | 0 => rfl
  | c + 1 => congrArg (s ++ ·) (rep_lib s c)
theorem rep_length (s : Bytes) : ∀ c, (rep s c).length = s.length * c
  | 0 => rfl
  | c + 1 => by rw [rep, List.length_append, rep_length s c, Nat.mul_succ, Nat.add_comm]
theorem repeat_ok {n : Nat} {s : Bytes} {c : Nat} {w : World}
    (h : Calls Try.prog n #[.string ⟨s.toArray⟩, .int .i64 c] w fun e w' => e = .returned (.string ⟨(Lib.repeatL s c).toArray⟩) ∧ Below w.heap.size w w') :
    Calls Try.prog n #[vS s, vI c] w (Gives [] w fun v L => v = vS (rep s c) ∧ L = []) := by
  refine h.mono ?_
  rintro e w' ⟨rfl, hb⟩
  exact ⟨_, _, rfl, ⟨by rw [rep_lib], rfl⟩, St.nil (Fr.of_below hb)⟩
theorem repeat_spec (s : Bytes) (c : Int) (w : World) (q0 : 0 ≤ c) (q1 : c ≤ 1000) (q2 : s.length ≤ 1000) : Calls Try.prog 58 #[vS s, vI c] w (Gives [] w fun v L => v = vS (rep s c.toNat) ∧ L = []) := by
  obtain ⟨n, rfl⟩ : ∃ n : Nat, c = n := ⟨c.toNat, by omega⟩
  refine repeat_ok (Try.strings_Repeat ⟨s.toArray⟩ n w (by omega) ?_)
  show s.length * n ≤ _
  exact Nat.le_trans (Nat.mul_le_mul q2 (show n ≤ 1000 by omega)) (by decide)
end Go.Proofs.Ytmbinhhlfbgiaaa
