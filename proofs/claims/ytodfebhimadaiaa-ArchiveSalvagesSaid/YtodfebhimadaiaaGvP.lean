/- GvP: the frame of a law: its last step where the world is known by Below. -/
import Derived.Test.YtodfebhimadaiaaGvG
import Derived.Below
import Derived.ChangeSame
import Derived.WalkKit
import Derived.ProofKit
import Derived.OpenShut
import Derived.ShutString
namespace Go.GV
open Go.RowKit Go.WideShapes Go.ChangeShapes
section
variable {H : Type} {enc : TypeId × Value → H} {P : Program}
end
theorem of_wf_u8 {a : Int} (h : (Lit.int .u8 a).wf = true) : ∃ x : UInt8, a = (x.toNat : Int) := by
  simp only [Lit.wf, IntKind.min, IntKind.max, IntKind.signed, IntKind.bits, Bool.and_eq_true] at h
  refine ⟨UInt8.ofNat a.toNat, ?_⟩
  have h1 : 0 ≤ a := by simpa using h.1
  have h2 : a < 2 ^ 8 := by have := h.2; simp at this; omega
  rw [UInt8.toNat_ofNat']
  omega
theorem of_wf_u16 {a : Int} (h : (Lit.int .u16 a).wf = true) : ∃ x : UInt16, a = (x.toNat : Int) := by
  simp only [Lit.wf, IntKind.min, IntKind.max, IntKind.signed, IntKind.bits, Bool.and_eq_true] at h
  refine ⟨UInt16.ofNat a.toNat, ?_⟩
  have h1 : 0 ≤ a := by simpa using h.1
  have h2 : a < 2 ^ 16 := by have := h.2; simp at this; omega
  rw [UInt16.toNat_ofNat']
  omega
theorem of_wf_u32 {a : Int} (h : (Lit.int .u32 a).wf = true) : ∃ x : UInt32, a = (x.toNat : Int) := by
  simp only [Lit.wf, IntKind.min, IntKind.max, IntKind.signed, IntKind.bits, Bool.and_eq_true] at h
  refine ⟨UInt32.ofNat a.toNat, ?_⟩
  have h1 : 0 ≤ a := by simpa using h.1
  have h2 : a < 2 ^ 32 := by have := h.2; simp at this; omega
  rw [UInt32.toNat_ofNat']
  omega
theorem Calls.to_below {P : Program} {f : FuncId} {args : Array Value} {w : World} {φ : Value → List Ent → Prop} (h : Calls P f args w (Gives [] w φ)) {b : Bool} (hφ : ∀ v L, φ v L → v = vB b) :
    Calls P f args w fun e w' => e = .returned (.bool b) ∧ Below w.heap.size w w' :=
  h.mono fun e w' ⟨v, L, he, hv, hS⟩ => ⟨by rw [he, hφ v L hv], hS.fr.below⟩
end Go.GV
