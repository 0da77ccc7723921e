/- Eq14 (printed) -/
import Derived.Test.YtodfebhimadaiaaGvF
import Derived.Test.YtodfebhimadaiaaSt14
namespace Go.Proofs.Ytodfebhimadaiaa
open Go.GV
namespace Ty
theorem eg34 : Try.prog.eqGuardType Try.prog.depth 34 = false := by kernel_rfl
theorem sh34 : Try.prog.stoodInHeld 34 = false := by kernel_rfl
set_option maxRecDepth 20000 in
theorem eq34 (d : Nat) (a b : DataSet) (w : World) : (Op.equalIn (d + 2) 34 (.agg (DataSet.enc a).toArray) (.agg (DataSet.enc b).toArray)).run Try.prog w = .ok (decide (a = b)) w := by
  have h := eq_struct (P := Try.prog) (d := d + 1) (t := 34) (xs := (DataSet.enc a).toArray) (ys := (DataSet.enc b).toArray) (bs := [decide (a.Id = b.Id), decide (a.Org = b.Org), decide (a.Format = b.Format), decide (a.Length = b.Length), decide (a.Block = b.Block), decide (a.KeyAt = b.KeyAt), decide (a.KeyLength = b.KeyLength), decide (a.Interval = b.Interval), decide (a.Area = b.Area), decide (a.FreeInterval = b.FreeInterval), decide (a.FreeArea = b.FreeArea), decide (a.Base = b.Base), decide (a.AltAt = b.AltAt), decide (a.AltLength = b.AltLength), decide (a.Unique = b.Unique), decide (a.Class = b.Class), decide (a.Volume = b.Volume), decide (a.Owner = b.Owner), decide (a.Created = b.Created), decide (a.Expires = b.Expires), decide (a.Archived = b.Archived)]) Try.underlying34 sh34
    ⟨by decide, .i (d := d + 0) (a := a.Id) (b := b.Id) Ty.sc3 Try.underlying3 rfl rfl, by decide, .i (d := d + 0) (a := a.Org) (b := b.Org) Ty.sc3 Try.underlying3 rfl rfl, by decide, .i (d := d + 0) (a := a.Format) (b := b.Format) Ty.sc3 Try.underlying3 rfl rfl, by decide, .i (d := d + 0) (a := a.Length) (b := b.Length) Ty.sc3 Try.underlying3 rfl rfl, by decide, .i (d := d + 0) (a := a.Block) (b := b.Block) Ty.sc3 Try.underlying3 rfl rfl, by decide, .i (d := d + 0) (a := a.KeyAt) (b := b.KeyAt) Ty.sc3 Try.underlying3 rfl rfl, by decide, .i (d := d + 0) (a := a.KeyLength) (b := b.KeyLength) Ty.sc3 Try.underlying3 rfl rfl, by decide, .i (d := d + 0) (a := a.Interval) (b := b.Interval) Ty.sc3 Try.underlying3 rfl rfl, by decide, .i (d := d + 0) (a := a.Area) (b := b.Area) Ty.sc3 Try.underlying3 rfl rfl, by decide, .i (d := d + 0) (a := a.FreeInterval) (b := b.FreeInterval) Ty.sc3 Try.underlying3 rfl rfl, by decide, .i (d := d + 0) (a := a.FreeArea) (b := b.FreeArea) Ty.sc3 Try.underlying3 rfl rfl, by decide, .i (d := d + 0) (a := a.Base) (b := b.Base) Ty.sc3 Try.underlying3 rfl rfl, by decide, .i (d := d + 0) (a := a.AltAt) (b := b.AltAt) Ty.sc3 Try.underlying3 rfl rfl, by decide, .i (d := d + 0) (a := a.AltLength) (b := b.AltLength) Ty.sc3 Try.underlying3 rfl rfl, by decide, .b (d := d + 0) (a := a.Unique) (b := b.Unique) Ty.sc4 Try.underlying4 rfl rfl, by decide, .i (d := d + 0) (a := a.Class) (b := b.Class) Ty.sc3 Try.underlying3 rfl rfl, by decide, .s (d := d + 0) (a := a.Volume) (b := b.Volume) Ty.sc9 Try.underlying9 rfl rfl, by decide, .s (d := d + 0) (a := a.Owner) (b := b.Owner) Ty.sc9 Try.underlying9 rfl rfl, by decide, .i (d := d + 0) (a := a.Created) (b := b.Created) Ty.sc3 Try.underlying3 rfl rfl, by decide, .i (d := d + 0) (a := a.Expires) (b := b.Expires) Ty.sc3 Try.underlying3 rfl rfl, by decide, .b (d := d + 0) (a := a.Archived) (b := b.Archived) Ty.sc4 Try.underlying4 rfl rfl, trivial⟩ w
  refine h.trans (congrArg (fun r => Result.ok r w) ?_)
  cases a; cases b
  rw [Bool.eq_iff_iff]
  simp only [List.all_cons, List.all_nil, id, Bool.and_eq_true, decide_eq_true_eq, DataSet.mk.injEq, and_true]
theorem eg54 : Try.prog.eqGuardType Try.prog.depth 54 = false := by kernel_rfl
theorem sh54 : Try.prog.stoodInHeld 54 = false := by kernel_rfl
set_option maxRecDepth 20000 in
theorem eq54 (d : Nat) (a b : Pair) (w : World) : (Op.equalIn (d + 2) 54 (.agg (Pair.enc a).toArray) (.agg (Pair.enc b).toArray)).run Try.prog w = .ok (decide (a = b)) w := by
  have h := eq_struct (P := Try.prog) (d := d + 1) (t := 54) (xs := (Pair.enc a).toArray) (ys := (Pair.enc b).toArray) (bs := [decide (a.key = b.key), decide (a.record = b.record)]) Try.underlying54 sh54
    ⟨by decide, .s (d := d + 0) (a := a.key) (b := b.key) Ty.sc9 Try.underlying9 rfl rfl, by decide, .s (d := d + 0) (a := a.record) (b := b.record) Ty.sc9 Try.underlying9 rfl rfl, trivial⟩ w
  refine h.trans (congrArg (fun r => Result.ok r w) ?_)
  cases a; cases b
  rw [Bool.eq_iff_iff]
  simp only [List.all_cons, List.all_nil, id, Bool.and_eq_true, decide_eq_true_eq, Pair.mk.injEq, and_true]
end Ty
end Go.Proofs.Ytodfebhimadaiaa
