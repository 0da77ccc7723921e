/- Op47 (printed) -/
import Derived.Test.YtknibpmmjhmjeaaDoorGvO
import Derived.Test.YtknibpmmjhmjeaaDoorGvF
import Derived.Test.YtknibpmmjhmjeaaDoorSt47
namespace Go.Proofs.YtknibpmmjhmjeaaDoor
open Go.GV
namespace Ty
def _root_.Go.Proofs.YtknibpmmjhmjeaaDoor.Change.ok (a : Change) : Prop := (-9223372036854775808 ≤ a.Kind ∧ a.Kind ≤ 9223372036854775807) ∧ (-9223372036854775808 ≤ a.Id ∧ a.Id ≤ 9223372036854775807) ∧ a.Key.length ≤ 9223372036854775807 ∧ a.Record.length ≤ 9223372036854775807 ∧ a.Volume.length ≤ 9223372036854775807
set_option maxRecDepth 20000 in
theorem op23 : OpenAt Tryd.prog 23 fun _ cs => ∃ a : Change, cs = Change.enc a ∧ Change.ok a := by
  intro H enc w fuel cs x h
  have h := open_struct Tryd.underlying23 (.cons (by kernel_rfl) (open_i Tryd.underlying3) (.cons (by kernel_rfl) (open_i Tryd.underlying3) (.cons (by kernel_rfl) (open_s Tryd.underlying9) (.cons (by kernel_rfl) (open_s Tryd.underlying9) (.cons (by kernel_rfl) (open_s Tryd.underlying9) (.nil (by kernel_rfl))))))) H enc w fuel cs x h
  obtain ⟨p0, q0, rfl, ⟨n0, rfl, hl0, hu0⟩, p1, q1, rfl, ⟨n1, rfl, hl1, hu1⟩, p2, q2, rfl, ⟨s2, rfl, hs2⟩, p3, q3, rfl, ⟨s3, rfl, hs3⟩, p4, q4, rfl, ⟨s4, rfl, hs4⟩, rfl⟩ := h
  exact ⟨Change.mk n0 n1 s2 s3 s4, rfl, ⟨hl0, hu0⟩, ⟨hl1, hu1⟩, hs2, hs3, hs4⟩
def _root_.Go.Proofs.YtknibpmmjhmjeaaDoor.Numbered.ok (a : Numbered) : Prop := (-9223372036854775808 ≤ a.Number ∧ a.Number ≤ 9223372036854775807) ∧ Change.ok a.Change
set_option maxRecDepth 20000 in
theorem op56 : OpenAt Tryd.prog 56 fun _ cs => ∃ a : Numbered, cs = Numbered.enc a ∧ Numbered.ok a := by
  intro H enc w fuel cs x h
  have h := open_struct Tryd.underlying56 (.cons (by kernel_rfl) (open_i Tryd.underlying3) (.cons (by kernel_rfl) Ty.op23 (.nil (by kernel_rfl)))) H enc w fuel cs x h
  obtain ⟨p0, q0, rfl, ⟨n0, rfl, hl0, hu0⟩, p1, q1, rfl, ⟨d1, rfl, hd1⟩, rfl⟩ := h
  exact ⟨Numbered.mk n0 d1, rfl, ⟨hl0, hu0⟩, hd1⟩
def _root_.Go.Proofs.YtknibpmmjhmjeaaDoor.Reader.ok (a : Reader) : Prop := a.left.length ≤ 9223372036854775807 ∧ (-9223372036854775808 ≤ a.err ∧ a.err ≤ 9223372036854775807)
set_option maxRecDepth 20000 in
theorem op76 : OpenAt Tryd.prog 76 fun _ cs => ∃ a : Reader, cs = Reader.enc a ∧ Reader.ok a := by
  intro H enc w fuel cs x h
  have h := open_struct Tryd.underlying76 (.cons (by kernel_rfl) (open_s Tryd.underlying9) (.cons (by kernel_rfl) (open_i Tryd.underlying30) (.nil (by kernel_rfl)))) H enc w fuel cs x h
  obtain ⟨p0, q0, rfl, ⟨s0, rfl, hs0⟩, p1, q1, rfl, ⟨n1, rfl, hl1, hu1⟩, rfl⟩ := h
  exact ⟨Reader.mk s0 n1, rfl, hs0, ⟨hl1, hu1⟩⟩
end Ty
end Go.Proofs.YtknibpmmjhmjeaaDoor
