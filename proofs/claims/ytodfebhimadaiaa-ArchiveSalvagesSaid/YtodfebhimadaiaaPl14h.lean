/- Pl14h: pieces by their places. -/
import Derived.Test.YtodfebhimadaiaaPl14g
namespace Go.Proofs.Ytodfebhimadaiaa
open Go.GV
namespace R14
open Rd
def frP (p : Piece) : Frame := ⟨p.first, p.last, p.data⟩
def gL (l : List Piece) (n : Int) : Option Frame := if 0 ≤ n ∧ n.toNat < l.length ∧ (l.getD n.toNat default).ok = true then some (frP (l.getD n.toNat default)) else none
section
variable {l : List Piece} {p i F : Nat} {t : Bytes} {g : Int → Option Frame}
def AtL (l : List Piece) (p i F : Nat) (t : Bytes) : Prop := (p < l.length ∧ (l.getD p default).ok = true ∧ (l.getD p default).first = true) ∧ ((i = p ∧ t = [] ∧ F = 65537) ∨ ∃ f, p < i ∧ At (gL l) p ((i : Int) - 1) f F t ∧ f.last = false)
end
end R14
end Go.Proofs.Ytodfebhimadaiaa
