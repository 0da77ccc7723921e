/- Tc: from a row's condition on the listed variables to the fact on the table that strconv.Itoa reads. -/
import Derived.Test.YtknibpmmjhmjeaaDoorRows
import Derived.Test.YtknibpmmjhmjeaaDoorTb
import Derived.ProofKit
import Derived.LaidMore
import Derived.Stop.Joined
import Derived.Lib.LaidTab
namespace Go.Proofs.YtknibpmmjhmjeaaDoor
open Go.GV Go.RowKit
theorem own : ownKnob Tryd.prog.godebug = none := by kernel_rfl
theorem gTab : Tryd.prog.globalNamed Rows.changeIdsRow.laid[2].1 = some 0 := by kernel_rfl
theorem tTab : (Tryd.prog.globals[0]?).map (·.type) = some 116 := by kernel_rfl
theorem dTab : (Rows.laid_internal_strconv_uint64pow10 : DataW Unit) = Lib.tabData .u64 Lib.pow10Tab := by kernel_rfl
theorem door_met (os : Os) (args : Array Value) : laidMetH Tryd.prog Rows.changeIdsRow.laid ((World.doorLaid Tryd.prog 400 os).forCall (fun _ _ => 0) ⟨#[], args, []⟩).memory :=
  laidMetH_of_parts3 (fuel := 8) (laidMet_of_run' 8 (by kernel_rfl) (by kernel_rfl)) (by kernel_rfl) (by kernel_rfl)
theorem tab_of {W : World} (h : laidMetH Tryd.prog Rows.changeIdsRow.laid W) : Tab [] W := by
  rw [MakeChecks.laidMetH_plain _ _ _ (by kernel_rfl)] at h
  obtain ⟨ps, ⟨g0, t0, cs0, f0, p0, q0, hg0, ht0, hv0, hd0, ⟨g1, t1, cs1, f1, p1, q1, hg1, ht1, hv1, hd1, ⟨g2, t2, cs2, f2, p2, q2, hg2, ht2, hv2, hd2, _, _⟩, _⟩, _⟩, _, _⟩ := h
  obtain rfl := Option.some.inj (gTab.symm.trans hg2)
  obtain rfl := Option.some.inj (tTab.symm.trans ht2)
  rw [dTab] at hd2
  have hc := Lib.cells_of_tab Tryd.underlying116 Tryd.underlying77 (by kernel_rfl) (by kernel_rfl) hd2
  unfold World.var? at hv2
  rw [hg2] at hv2
  simp only [Option.bind_some] at hv2
  cases ho : W.heap[0]? with
  | none => rw [ho] at hv2; cases hv2
  | some o =>
    rw [ho] at hv2
    cases o with
    | cells c t f =>
      have hv2 : some c = some cs2 := hv2
      obtain rfl := Option.some.inj hv2
      refine ⟨List.not_mem_nil, (Array.getElem?_eq_some_iff.1 ho).1, t, f, ?_⟩
      rw [ho, ← hc]
    | _ => cases hv2
end Go.Proofs.YtknibpmmjhmjeaaDoor
