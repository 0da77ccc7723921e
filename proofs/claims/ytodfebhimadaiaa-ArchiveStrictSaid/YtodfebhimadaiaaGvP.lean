/- GvP: the frame of a law: its last step where the world is known by Below. -/
import Derived.Test.YtodfebhimadaiaaGvG
import Derived.Below
import Derived.ChangeSame
import Derived.WalkKit
import Derived.ProofKit
import Derived.OpenShut
import Derived.ShutString
namespace Go.GV
open Go.RowKit Go.WideShapes Go.ChangeShapes
section
variable {H : Type} {enc : TypeId × Value → H} {P : Program}
theorem post_of_below {f : Func} {s : ChangeSpec} {apart fresh handsOn again : Bool} {W W' : World} {args : Array Value} {v : Value} {ds gs : List (DataW H)} {before pa pv : List MemPlace}
    (hW : DataW.Whole enc P f.params.toList s.vars apart W args.toList ds gs before)
    (hres : ∀ (b : Nat) (sp : Nat → Bool) (hd : Bool), DataW.TrodAll enc P W' b sp hd f.resultTypes.toList (v.resultList f.resultTypes.size) (s.fn H (ds ++ gs)).results [])
    (hargs : ∀ sp : Nat → Bool, (∀ p ∈ before, sp p.block = true) → DataW.TrodAll enc P W' 0 sp true f.params.toList args.toList (s.fn H (ds ++ gs)).args pa)
    (hvars : ∀ sp : Nat → Bool, (∀ p ∈ before, sp p.block = true) → DataW.TrodVars enc P W' sp s.vars (s.fn H (ds ++ gs)).vars pv)
    (hps : before = pa ++ pv) (hb : Below W.heap.size W W')
    (hok : ∀ (j : Nat) (t : TypeId) (r : Value), f.resultTypes[j]? = some t → (v.resultList f.resultTypes.size)[j]? = some r → Value.okWide P W' .any 0 t r) :
    s.post enc P f apart fresh handsOn again W args v W' := by
  have hlt : ∀ p ∈ before, p.block < W.heap.size := fun p hp => hW.lt p hp
  have hold : ∀ p ∈ before, (fun b => decide (b < W.heap.size)) p.block = true := fun p hp => by simpa using hlt p hp
  refine ⟨ds, gs, before, [], pa, pv, hW, hres _ _ _, hargs _ hold, hvars _ hold, World.keptBut_mono (fun p hp => ⟨hp, ?_⟩) (hb.frame (· ∈ before)), fun _ => ?_⟩
  · rw [hps, List.mem_append] at hp
    exact Or.inr hp
  · obtain ⟨_, _, _, _, _, hz, hn⟩ := hW
    refine ⟨hok, _, _, ([] ++ pa) ++ pv, ⟨[] ++ pa, pv, trodAll_append (hargs _ (fun _ _ => rfl)) (hres _ _ _), hvars _ (fun _ _ => rfl), rfl, ?_, ?_⟩, ?_⟩
    · intro b off hp
      have hin : MemPlace.cell b off ∈ before := by rw [hps]; simpa using hp
      rw [hb.frozen (hlt _ hin)]
      exact hz b off hin
    · intro ha
      have := hn ha
      rw [hps] at this
      simpa using this
    · intro p hp _
      rw [hps]
      simpa using hp
end
theorem of_wf_u8 {a : Int} (h : (Lit.int .u8 a).wf = true) : ∃ x : UInt8, a = (x.toNat : Int) := by
  simp only [Lit.wf, IntKind.min, IntKind.max, IntKind.signed, IntKind.bits, Bool.and_eq_true] at h
  refine ⟨UInt8.ofNat a.toNat, ?_⟩
  have h1 : 0 ≤ a := by simpa using h.1
  have h2 : a < 2 ^ 8 := by have := h.2; simp at this; omega
  rw [UInt8.toNat_ofNat']
  omega
theorem of_wf_u16 {a : Int} (h : (Lit.int .u16 a).wf = true) : ∃ x : UInt16, a = (x.toNat : Int) := by
  simp only [Lit.wf, IntKind.min, IntKind.max, IntKind.signed, IntKind.bits, Bool.and_eq_true] at h
  refine ⟨UInt16.ofNat a.toNat, ?_⟩
  have h1 : 0 ≤ a := by simpa using h.1
  have h2 : a < 2 ^ 16 := by have := h.2; simp at this; omega
  rw [UInt16.toNat_ofNat']
  omega
theorem of_wf_u32 {a : Int} (h : (Lit.int .u32 a).wf = true) : ∃ x : UInt32, a = (x.toNat : Int) := by
  simp only [Lit.wf, IntKind.min, IntKind.max, IntKind.signed, IntKind.bits, Bool.and_eq_true] at h
  refine ⟨UInt32.ofNat a.toNat, ?_⟩
  have h1 : 0 ≤ a := by simpa using h.1
  have h2 : a < 2 ^ 32 := by have := h.2; simp at this; omega
  rw [UInt32.toNat_ofNat']
  omega
theorem of_wf_u64 {a : Int} (h : (Lit.int .u64 a).wf = true) : ∃ x : UInt64, a = (x.toNat : Int) := by
  simp only [Lit.wf, IntKind.min, IntKind.max, IntKind.signed, IntKind.bits, Bool.and_eq_true] at h
  refine ⟨UInt64.ofNat a.toNat, ?_⟩
  have h1 : 0 ≤ a := by simpa using h.1
  have h2 : a < 2 ^ 64 := by have := h.2; simp at this; omega
  rw [UInt64.toNat_ofNat']
  omega
theorem Calls.to_below {P : Program} {f : FuncId} {args : Array Value} {w : World} {φ : Value → List Ent → Prop} (h : Calls P f args w (Gives [] w φ)) {b : Bool} (hφ : ∀ v L, φ v L → v = vB b) :
    Calls P f args w fun e w' => e = .returned (.bool b) ∧ Below w.heap.size w w' :=
  h.mono fun e w' ⟨v, L, he, hv, hS⟩ => ⟨by rw [he, hφ v L hv], hS.fr.below⟩
end Go.GV
