/- GvO: what an argument of the world outside is, by its type: a struct's fields, a slice's elements. -/
import Derived.Test.YtodfebhimadaiaaGvP
import Derived.Deep.Slices
import Derived.Carry
namespace Go.GV
open Go.RowKit Go.WideShapes Go.ChangeShapes
def OpenAt (P : Program) (t : TypeId) (R : World → List Value → Prop) : Prop :=
  ∀ (H : Type) (enc : TypeId × Value → H) (w : World) (fuel : Nat) (cs : List Value) (x : DataW H × List MemPlace), DataW.trod enc P w 0 (fun _ => true) true fuel t cs = some x → R w cs
section
variable {P : Program} {t : TypeId}
theorem open_s (ht : P.underlying t = some .string) : OpenAt P t fun _ cs => ∃ s : Bytes, cs = [vS s] ∧ s.length ≤ 9223372036854775807 := by
  intro H enc w fuel cs x h
  obtain ⟨s, rfl, _, hs⟩ := DataW.trod_string ht h
  have h2 : s.data.size ≤ 9223372036854775807 := hs
  exact ⟨s.data.toList, rfl, by rw [Array.length_toList]; exact h2⟩
def RFs : List (World → List Value → Prop) → World → List Value → Prop
  | [], _, cs => cs = []
  | R :: rs, w, cs => ∃ p q, cs = p ++ q ∧ R w p ∧ RFs rs w q
def FsOk (P : Program) (N : Nat) : Nat → List Field → List (World → List Value → Prop) → Prop
  | off, [], [] => off = N
  | off, f :: fs, R :: rs => f.offset = off ∧ OpenAt P f.type R ∧ FsOk P N (off + P.cellsOf f.type) fs rs
  | _, _, _ => False
theorem FsOk.nil {N off : Nat} (h : off = N) : FsOk P N off [] [] := h
theorem FsOk.cons {N off : Nat} {f : Field} {fs : List Field} {R : World → List Value → Prop} {rs : List (World → List Value → Prop)} (h1 : f.offset = off) (h2 : OpenAt P f.type R) (h3 : FsOk P N (off + P.cellsOf f.type) fs rs) : FsOk P N off (f :: fs) (R :: rs) := ⟨h1, h2, h3⟩
end
theorem str_inj {z : ByteArray} {s : Bytes} (h : (Value.string z).cells.toList = [vS s]) : z = ⟨s.toArray⟩ := by simpa [Value.cells] using h
end Go.GV
