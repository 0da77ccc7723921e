/- Eq47 (printed) -/
import Derived.Test.YtknibpmmjhmjeaaDoorGvF
import Derived.Test.YtknibpmmjhmjeaaDoorSt47
namespace Go.Proofs.YtknibpmmjhmjeaaDoor
open Go.GV
namespace Ty
theorem eg23 : Tryd.prog.eqGuardType Tryd.prog.depth 23 = false := by kernel_rfl
theorem sh23 : Tryd.prog.stoodInHeld 23 = false := by kernel_rfl
set_option maxRecDepth 20000 in
theorem eq23 (d : Nat) (a b : Change) (w : World) : (Op.equalIn (d + 2) 23 (.agg (Change.enc a).toArray) (.agg (Change.enc b).toArray)).run Tryd.prog w = .ok (decide (a = b)) w := by
  have h := eq_struct (P := Tryd.prog) (d := d + 1) (t := 23) (xs := (Change.enc a).toArray) (ys := (Change.enc b).toArray) (bs := [decide (a.Kind = b.Kind), decide (a.Id = b.Id), decide (a.Key = b.Key), decide (a.Record = b.Record), decide (a.Volume = b.Volume)]) Tryd.underlying23 sh23
    ⟨by decide, .i (d := d + 0) (a := a.Kind) (b := b.Kind) Ty.sc3 Tryd.underlying3 rfl rfl, by decide, .i (d := d + 0) (a := a.Id) (b := b.Id) Ty.sc3 Tryd.underlying3 rfl rfl, by decide, .s (d := d + 0) (a := a.Key) (b := b.Key) Ty.sc9 Tryd.underlying9 rfl rfl, by decide, .s (d := d + 0) (a := a.Record) (b := b.Record) Ty.sc9 Tryd.underlying9 rfl rfl, by decide, .s (d := d + 0) (a := a.Volume) (b := b.Volume) Ty.sc9 Tryd.underlying9 rfl rfl, trivial⟩ w
  refine h.trans (congrArg (fun r => Result.ok r w) ?_)
  cases a; cases b
  rw [Bool.eq_iff_iff]
  simp only [List.all_cons, List.all_nil, id, Bool.and_eq_true, decide_eq_true_eq, Change.mk.injEq, and_true]
theorem eg56 : Tryd.prog.eqGuardType Tryd.prog.depth 56 = false := by kernel_rfl
theorem sh56 : Tryd.prog.stoodInHeld 56 = false := by kernel_rfl
set_option maxRecDepth 20000 in
theorem eq56 (d : Nat) (a b : Numbered) (w : World) : (Op.equalIn (d + 3) 56 (.agg (Numbered.enc a).toArray) (.agg (Numbered.enc b).toArray)).run Tryd.prog w = .ok (decide (a = b)) w := by
  have h := eq_struct (P := Tryd.prog) (d := d + 2) (t := 56) (xs := (Numbered.enc a).toArray) (ys := (Numbered.enc b).toArray) (bs := [decide (a.Number = b.Number), decide (a.Change = b.Change)]) Tryd.underlying56 sh56
    ⟨by decide, .i (d := d + 1) (a := a.Number) (b := b.Number) Ty.sc3 Tryd.underlying3 rfl rfl, by decide, .agg (xa := Change.enc a.Change) (bs := Change.enc b.Change) Ty.ag23 Ty.sz23 rfl rfl (Ty.eq23 (d + 0) a.Change b.Change), trivial⟩ w
  refine h.trans (congrArg (fun r => Result.ok r w) ?_)
  cases a; cases b
  rw [Bool.eq_iff_iff]
  simp only [List.all_cons, List.all_nil, id, Bool.and_eq_true, decide_eq_true_eq, Numbered.mk.injEq, and_true]
theorem eg76 : Tryd.prog.eqGuardType Tryd.prog.depth 76 = false := by kernel_rfl
theorem sh76 : Tryd.prog.stoodInHeld 76 = false := by kernel_rfl
set_option maxRecDepth 20000 in
theorem eq76 (d : Nat) (a b : Reader) (w : World) : (Op.equalIn (d + 2) 76 (.agg (Reader.enc a).toArray) (.agg (Reader.enc b).toArray)).run Tryd.prog w = .ok (decide (a = b)) w := by
  have h := eq_struct (P := Tryd.prog) (d := d + 1) (t := 76) (xs := (Reader.enc a).toArray) (ys := (Reader.enc b).toArray) (bs := [decide (a.left = b.left), decide (a.err = b.err)]) Tryd.underlying76 sh76
    ⟨by decide, .s (d := d + 0) (a := a.left) (b := b.left) Ty.sc9 Tryd.underlying9 rfl rfl, by decide, .i (d := d + 0) (a := a.err) (b := b.err) Ty.sc30 Tryd.underlying30 rfl rfl, trivial⟩ w
  refine h.trans (congrArg (fun r => Result.ok r w) ?_)
  cases a; cases b
  rw [Bool.eq_iff_iff]
  simp only [List.all_cons, List.all_nil, id, Bool.and_eq_true, decide_eq_true_eq, Reader.mk.injEq, and_true]
end Ty
end Go.Proofs.YtknibpmmjhmjeaaDoor
