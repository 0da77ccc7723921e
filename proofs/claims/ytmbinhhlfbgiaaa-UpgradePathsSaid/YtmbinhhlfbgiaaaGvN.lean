/- GvN: rows that a call is handed; parts of rows; rows that the library's sort and compact rewrite. -/
import Derived.Test.YtmbinhhlfbgiaaaGvM
import Derived.Sort.Row
import Derived.Sort.Grow
namespace Go.GV
open Go.RowKit Go.Sort
def Lown (L : List Ent) : List Nat := L.filterMap Ent.own
theorem lown_mem {L : List Ent} : ∀ b ∈ Lown L, ∃ e ∈ L, e.own = some b := fun b h => by
  obtain ⟨e, he, ho⟩ := List.mem_filterMap.1 h
  exact ⟨e, he, ho⟩
theorem lown_in {L : List Ent} : ∀ e ∈ L, ∀ b, e.own = some b → b ∈ Lown L := fun e he _ ho => List.mem_filterMap.2 ⟨e, he, ho⟩
section
variable {α : Type} [Inhabited α] {f : α → Value} {w : World} {e : TypeId} {c : Nat} {xs : List α}
end
def subA (A : Option Addr) (cap lo sz : Nat) : Option Addr := if cap = lo then A else A.map (·.add (lo * sz))
section
variable {E : Env} {P : Program} {w : World} {x y : Operand} {dst : Option Nat} {t t' ty e : TypeId} {pos : String} {af : Array Edge} {g : Option (Nat × Bool)}
end
end Go.GV
