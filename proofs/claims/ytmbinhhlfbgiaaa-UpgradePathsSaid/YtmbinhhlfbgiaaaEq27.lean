/- Eq27 (printed) -/
import Derived.Test.YtmbinhhlfbgiaaaGvF
import Derived.Test.YtmbinhhlfbgiaaaSt26
namespace Go.Proofs.Ytmbinhhlfbgiaaa
open Go.GV
namespace Ty
theorem eg27 : Try.prog.eqGuardType Try.prog.depth 27 = false := by kernel_rfl
theorem sh27 : Try.prog.stoodInHeld 27 = false := by kernel_rfl
set_option maxRecDepth 20000 in
theorem eq27 (d : Nat) (a b : Change) (w : World) : (Op.equalIn (d + 2) 27 (.agg (Change.enc a).toArray) (.agg (Change.enc b).toArray)).run Try.prog w = .ok (decide (a = b)) w := by
  have h := eq_struct (P := Try.prog) (d := d + 1) (t := 27) (xs := (Change.enc a).toArray) (ys := (Change.enc b).toArray) (bs := [decide (a.Kind = b.Kind), decide (a.Id = b.Id), decide (a.Key = b.Key), decide (a.Record = b.Record), decide (a.Volume = b.Volume)]) Try.underlying27 sh27
    ⟨by decide, .i (d := d + 0) (a := a.Kind) (b := b.Kind) Ty.sc3 Try.underlying3 rfl rfl, by decide, .i (d := d + 0) (a := a.Id) (b := b.Id) Ty.sc3 Try.underlying3 rfl rfl, by decide, .s (d := d + 0) (a := a.Key) (b := b.Key) Ty.sc9 Try.underlying9 rfl rfl, by decide, .s (d := d + 0) (a := a.Record) (b := b.Record) Ty.sc9 Try.underlying9 rfl rfl, by decide, .s (d := d + 0) (a := a.Volume) (b := b.Volume) Ty.sc9 Try.underlying9 rfl rfl, trivial⟩ w
  refine h.trans (congrArg (fun r => Result.ok r w) ?_)
  cases a; cases b
  rw [Bool.eq_iff_iff]
  simp only [List.all_cons, List.all_nil, id, Bool.and_eq_true, decide_eq_true_eq, Change.mk.injEq, and_true]
theorem eg78 : Try.prog.eqGuardType Try.prog.depth 78 = false := by kernel_rfl
theorem sh78 : Try.prog.stoodInHeld 78 = false := by kernel_rfl
set_option maxRecDepth 20000 in
theorem eq78 (d : Nat) (a b : side) (w : World) : (Op.equalIn (d + 2) 78 (.agg (side.enc a).toArray) (.agg (side.enc b).toArray)).run Try.prog w = .ok (decide (a = b)) w := by
  have h := eq_struct (P := Try.prog) (d := d + 1) (t := 78) (xs := (side.enc a).toArray) (ys := (side.enc b).toArray) (bs := [decide (a.key = b.key), decide (a.has = b.has)]) Try.underlying78 sh78
    ⟨by decide, .s (d := d + 0) (a := a.key) (b := b.key) Ty.sc9 Try.underlying9 rfl rfl, by decide, .b (d := d + 0) (a := a.has) (b := b.has) Ty.sc4 Try.underlying4 rfl rfl, trivial⟩ w
  refine h.trans (congrArg (fun r => Result.ok r w) ?_)
  cases a; cases b
  rw [Bool.eq_iff_iff]
  simp only [List.all_cons, List.all_nil, id, Bool.and_eq_true, decide_eq_true_eq, side.mk.injEq, and_true]
end Ty
end Go.Proofs.Ytmbinhhlfbgiaaa
