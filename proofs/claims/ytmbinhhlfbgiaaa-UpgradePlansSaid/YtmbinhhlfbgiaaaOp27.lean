/- Op27 (printed) -/
import Derived.Test.YtmbinhhlfbgiaaaGvO
import Derived.Test.YtmbinhhlfbgiaaaGvF
import Derived.Test.YtmbinhhlfbgiaaaSt26
namespace Go.Proofs.Ytmbinhhlfbgiaaa
open Go.GV
namespace Ty
def _root_.Go.Proofs.Ytmbinhhlfbgiaaa.DataSet.ok (a : DataSet) : Prop := (-9223372036854775808 ≤ a.Id ∧ a.Id ≤ 9223372036854775807) ∧ (-9223372036854775808 ≤ a.Org ∧ a.Org ≤ 9223372036854775807) ∧ (-9223372036854775808 ≤ a.Format ∧ a.Format ≤ 9223372036854775807) ∧ (-9223372036854775808 ≤ a.Length ∧ a.Length ≤ 9223372036854775807) ∧ (-9223372036854775808 ≤ a.Block ∧ a.Block ≤ 9223372036854775807) ∧ (-9223372036854775808 ≤ a.KeyAt ∧ a.KeyAt ≤ 9223372036854775807) ∧ (-9223372036854775808 ≤ a.KeyLength ∧ a.KeyLength ≤ 9223372036854775807) ∧ (-9223372036854775808 ≤ a.Interval ∧ a.Interval ≤ 9223372036854775807) ∧ (-9223372036854775808 ≤ a.Area ∧ a.Area ≤ 9223372036854775807) ∧ (-9223372036854775808 ≤ a.FreeInterval ∧ a.FreeInterval ≤ 9223372036854775807) ∧ (-9223372036854775808 ≤ a.FreeArea ∧ a.FreeArea ≤ 9223372036854775807) ∧ (-9223372036854775808 ≤ a.Base ∧ a.Base ≤ 9223372036854775807) ∧ (-9223372036854775808 ≤ a.AltAt ∧ a.AltAt ≤ 9223372036854775807) ∧ (-9223372036854775808 ≤ a.AltLength ∧ a.AltLength ≤ 9223372036854775807) ∧ (-9223372036854775808 ≤ a.Class ∧ a.Class ≤ 9223372036854775807) ∧ a.Volume.length ≤ 9223372036854775807 ∧ a.Owner.length ≤ 9223372036854775807 ∧ (-9223372036854775808 ≤ a.Created ∧ a.Created ≤ 9223372036854775807) ∧ (-9223372036854775808 ≤ a.Expires ∧ a.Expires ≤ 9223372036854775807)
set_option maxRecDepth 20000 in
theorem op24 : OpenAt Try.prog 24 fun _ cs => ∃ a : DataSet, cs = DataSet.enc a ∧ DataSet.ok a := by
  intro H enc w fuel cs x h
  have h := open_struct Try.underlying24 (.cons (by kernel_rfl) (open_i Try.underlying3) (.cons (by kernel_rfl) (open_i Try.underlying3) (.cons (by kernel_rfl) (open_i Try.underlying3) (.cons (by kernel_rfl) (open_i Try.underlying3) (.cons (by kernel_rfl) (open_i Try.underlying3) (.cons (by kernel_rfl) (open_i Try.underlying3) (.cons (by kernel_rfl) (open_i Try.underlying3) (.cons (by kernel_rfl) (open_i Try.underlying3) (.cons (by kernel_rfl) (open_i Try.underlying3) (.cons (by kernel_rfl) (open_i Try.underlying3) (.cons (by kernel_rfl) (open_i Try.underlying3) (.cons (by kernel_rfl) (open_i Try.underlying3) (.cons (by kernel_rfl) (open_i Try.underlying3) (.cons (by kernel_rfl) (open_i Try.underlying3) (.cons (by kernel_rfl) (open_b Try.underlying4) (.cons (by kernel_rfl) (open_i Try.underlying3) (.cons (by kernel_rfl) (open_s Try.underlying9) (.cons (by kernel_rfl) (open_s Try.underlying9) (.cons (by kernel_rfl) (open_i Try.underlying3) (.cons (by kernel_rfl) (open_i Try.underlying3) (.cons (by kernel_rfl) (open_b Try.underlying4) (.nil (by kernel_rfl))))))))))))))))))))))) H enc w fuel cs x h
  obtain ⟨p0, q0, rfl, ⟨n0, rfl, hl0, hu0⟩, p1, q1, rfl, ⟨n1, rfl, hl1, hu1⟩, p2, q2, rfl, ⟨n2, rfl, hl2, hu2⟩, p3, q3, rfl, ⟨n3, rfl, hl3, hu3⟩, p4, q4, rfl, ⟨n4, rfl, hl4, hu4⟩, p5, q5, rfl, ⟨n5, rfl, hl5, hu5⟩, p6, q6, rfl, ⟨n6, rfl, hl6, hu6⟩, p7, q7, rfl, ⟨n7, rfl, hl7, hu7⟩, p8, q8, rfl, ⟨n8, rfl, hl8, hu8⟩, p9, q9, rfl, ⟨n9, rfl, hl9, hu9⟩, p10, q10, rfl, ⟨n10, rfl, hl10, hu10⟩, p11, q11, rfl, ⟨n11, rfl, hl11, hu11⟩, p12, q12, rfl, ⟨n12, rfl, hl12, hu12⟩, p13, q13, rfl, ⟨n13, rfl, hl13, hu13⟩, p14, q14, rfl, ⟨b14, rfl⟩, p15, q15, rfl, ⟨n15, rfl, hl15, hu15⟩, p16, q16, rfl, ⟨s16, rfl, hs16⟩, p17, q17, rfl, ⟨s17, rfl, hs17⟩, p18, q18, rfl, ⟨n18, rfl, hl18, hu18⟩, p19, q19, rfl, ⟨n19, rfl, hl19, hu19⟩, p20, q20, rfl, ⟨b20, rfl⟩, rfl⟩ := h
  exact ⟨DataSet.mk n0 n1 n2 n3 n4 n5 n6 n7 n8 n9 n10 n11 n12 n13 b14 n15 s16 s17 n18 n19 b20, rfl, ⟨hl0, hu0⟩, ⟨hl1, hu1⟩, ⟨hl2, hu2⟩, ⟨hl3, hu3⟩, ⟨hl4, hu4⟩, ⟨hl5, hu5⟩, ⟨hl6, hu6⟩, ⟨hl7, hu7⟩, ⟨hl8, hu8⟩, ⟨hl9, hu9⟩, ⟨hl10, hu10⟩, ⟨hl11, hu11⟩, ⟨hl12, hu12⟩, ⟨hl13, hu13⟩, ⟨hl15, hu15⟩, hs16, hs17, ⟨hl18, hu18⟩, ⟨hl19, hu19⟩⟩
def _root_.Go.Proofs.Ytmbinhhlfbgiaaa.Change.ok (a : Change) : Prop := (-9223372036854775808 ≤ a.Kind ∧ a.Kind ≤ 9223372036854775807) ∧ (-9223372036854775808 ≤ a.Id ∧ a.Id ≤ 9223372036854775807) ∧ a.Key.length ≤ 9223372036854775807 ∧ a.Record.length ≤ 9223372036854775807 ∧ a.Volume.length ≤ 9223372036854775807
set_option maxRecDepth 20000 in
theorem op27 : OpenAt Try.prog 27 fun _ cs => ∃ a : Change, cs = Change.enc a ∧ Change.ok a := by
  intro H enc w fuel cs x h
  have h := open_struct Try.underlying27 (.cons (by kernel_rfl) (open_i Try.underlying3) (.cons (by kernel_rfl) (open_i Try.underlying3) (.cons (by kernel_rfl) (open_s Try.underlying9) (.cons (by kernel_rfl) (open_s Try.underlying9) (.cons (by kernel_rfl) (open_s Try.underlying9) (.nil (by kernel_rfl))))))) H enc w fuel cs x h
  obtain ⟨p0, q0, rfl, ⟨n0, rfl, hl0, hu0⟩, p1, q1, rfl, ⟨n1, rfl, hl1, hu1⟩, p2, q2, rfl, ⟨s2, rfl, hs2⟩, p3, q3, rfl, ⟨s3, rfl, hs3⟩, p4, q4, rfl, ⟨s4, rfl, hs4⟩, rfl⟩ := h
  exact ⟨Change.mk n0 n1 s2 s3 s4, rfl, ⟨hl0, hu0⟩, ⟨hl1, hu1⟩, hs2, hs3, hs4⟩
def _root_.Go.Proofs.Ytmbinhhlfbgiaaa.Pair.ok (a : Pair) : Prop := a.key.length ≤ 9223372036854775807 ∧ a.record.length ≤ 9223372036854775807
set_option maxRecDepth 20000 in
theorem op53 : OpenAt Try.prog 53 fun _ cs => ∃ a : Pair, cs = Pair.enc a ∧ Pair.ok a := by
  intro H enc w fuel cs x h
  have h := open_struct Try.underlying53 (.cons (by kernel_rfl) (open_s Try.underlying9) (.cons (by kernel_rfl) (open_s Try.underlying9) (.nil (by kernel_rfl)))) H enc w fuel cs x h
  obtain ⟨p0, q0, rfl, ⟨s0, rfl, hs0⟩, p1, q1, rfl, ⟨s1, rfl, hs1⟩, rfl⟩ := h
  exact ⟨Pair.mk s0 s1, rfl, hs0, hs1⟩
def _root_.Go.Proofs.Ytmbinhhlfbgiaaa.Data.okW (w : World) (a : Data) : Prop := (-9223372036854775808 ≤ a.Id ∧ a.Id ≤ 9223372036854775807) ∧ (RO [] w a.PairsA (a.Pairs.flatMap Pair.enc) ∧ a.Pairs.length ≤ 9223372036854775807 ∧ ∀ p ∈ a.Pairs, Pair.ok p)
set_option maxRecDepth 20000 in
theorem op67 : OpenAt Try.prog 67 fun w cs => ∃ a : Data, cs = Data.enc a ∧ Data.okW w a := by
  intro H enc w fuel cs x h
  have h := open_struct Try.underlying67 (.cons (by kernel_rfl) (open_i Try.underlying3) (.cons (by kernel_rfl) (open_sl Try.underlying50 (by kernel_rfl) Pair.enc_len Ty.op53) (.nil (by kernel_rfl)))) H enc w fuel cs x h
  obtain ⟨p0, q0, rfl, ⟨n0, rfl, hl0, hu0⟩, p1, q1, rfl, ⟨A1, c1, xs1, rfl, hR1, hl1, hB1⟩, rfl⟩ := h
  exact ⟨Data.mk n0 xs1 A1 c1, rfl, ⟨hl0, hu0⟩, ⟨hR1, hl1, hB1⟩⟩
theorem _root_.Go.Proofs.Ytmbinhhlfbgiaaa.Data.ros {W : World} {xs : List Data} (hB : ∀ a ∈ xs, Data.okW W a) (i : Nat) : RO [] W (xs.getD i default).PairsA ((xs.getD i default).Pairs.flatMap Pair.enc) ∧ (xs.getD i default).Pairs.length ≤ 9223372036854775807 := by
  by_cases hi : i < xs.length
  · rw [List.getD_eq_getElem?_getD, List.getElem?_eq_getElem hi]
    have h := hB _ (List.getElem_mem hi)
    exact ⟨(h.2).1, (h.2).2.1⟩
  · rw [List.getD_eq_getElem?_getD, List.getElem?_eq_none (by omega)]
    exact ⟨RO.nil, Nat.zero_le _⟩
end Ty
end Go.Proofs.Ytmbinhhlfbgiaaa
