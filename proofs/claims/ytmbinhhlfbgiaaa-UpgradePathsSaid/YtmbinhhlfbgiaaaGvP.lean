/- GvP: the frame of a law: its last step where the world is known by Below. -/
import Derived.Test.YtmbinhhlfbgiaaaGvG
import Derived.Below
import Derived.ChangeSame
import Derived.WalkKit
import Derived.ProofKit
import Derived.OpenShut
import Derived.ShutString
namespace Go.GV
open Go.RowKit Go.WideShapes Go.ChangeShapes
section
variable {H : Type} {enc : TypeId × Value → H} {P : Program}
end
theorem Calls.to_below {P : Program} {f : FuncId} {args : Array Value} {w : World} {φ : Value → List Ent → Prop} (h : Calls P f args w (Gives [] w φ)) {b : Bool} (hφ : ∀ v L, φ v L → v = vB b) :
    Calls P f args w fun e w' => e = .returned (.bool b) ∧ Below w.heap.size w w' :=
  h.mono fun e w' ⟨v, L, he, hv, hS⟩ => ⟨by rw [he, hφ v L hv], hS.fr.below⟩
end Go.GV
