/- The proof of 'Rows.JobtextCallsSaid': the frame (printed by frame2.py) round the contract of the law's function. -/
import Derived.Test.YtbfiibgmgopnaaaDoorRows
import Derived.Test.YtbfiibgmgopnaaaDoorJobtextCalls5
import Derived.Test.YtbfiibgmgopnaaaDoorJobtextCalls7
import Derived.Test.YtbfiibgmgopnaaaDoorC39r
import Derived.Test.YtbfiibgmgopnaaaDoorJobtextCalls19
import Derived.SevenTiedAt
import Derived.Deep.DeepHandedRow
import Derived.Deep.DeepWitnessRowRef
import Derived.WalkKit
import Derived.ProofKit
import Derived.OpenShut
import Derived.ShutString
import Derived.ChangeOld
import Derived.Below
import Derived.Carry
set_option linter.unusedVariables false
set_option linter.unusedSimpArgs false
namespace Go.Proofs.YtbfiibgmgopnaaaDoor.jobtextCalls
open Go.ChangeShapes Go.WideShapes Go.ChangeAt Go.RowKit Go.GV
open Go.ChangeMaps (open_string shut_string)
set_option linter.unusedVariables false
theorem laidOut : laidOutB Tryd.prog = true := by kernel_rfl
set_option maxRecDepth 100000 in
set_option maxHeartbeats 2000000 in
theorem lifted (os : Os) (started : os.Started) (H : Type) (enc : TypeId × Value → H) (F : Stop.Interp) :
    ReturnsInHanded {} Tryd.checked os 5 .any ((Rows.OpenSpec.upto Rows.jobtextCallsSpec).preRow enc Tryd.prog Tryd.f5 Rows.jobtextCallsUptoRow.domain false Rows.jobtextCallsUptoRow.laid) (((Rows.OpenSpec.upto Rows.jobtextCallsSpec).at F).post enc Tryd.prog Tryd.f5 false true false false) := by
  have hx : DataW.whole enc Tryd.prog (((start os)).forCall (fun _ _ => 0) ⟨#[], #[.slice none 0 0], []⟩).memory Tryd.f5.params.toList (Rows.OpenSpec.upto Rows.jobtextCallsSpec).vars false (#[.slice none 0 0] : Array Value).toList 8 = some ([.nil], [], []) := by kernel_rfl
  refine returnsInHanded_of_row (C := Tryd.checked) (s := Rows.OpenSpec.upto Rows.jobtextCallsSpec) own started (by kernel_rfl) Tryd.func5
    (witness_row_atRef (enc := enc) (C := Tryd.checked) false (start os) #[.slice none 0 0] (start_os os) (by kernel_rfl) (by kernel_rfl) (by kernel_rfl) (OpenSpec.preRow_of_cond 8 hx (by kernel_rfl) (fun k hk => by cases hk; kernel_rfl) (by kernel_rfl) (door_met os _))) ?_
  intro W base args ds gs before hval0 hW _ hcd _ hL hsh _
  have hcond := hcd _ rfl
  have hT : Tab [] W := tab_of hsh hL
  have hW : DataW.Whole enc Tryd.prog Tryd.f5.params.toList Rows.jobtextCallsSpec.vars false W args.toList ds gs before := hW
  show Calls Tryd.prog 5 args W fun e W' => ∃ v, e = .returned v ∧ Rows.jobtextCallsSpec.post enc Tryd.prog Tryd.f5 false true false false W args v W'
  have hval : ∀ (j : Nat) t v, Tryd.f5.params[j]? = some t → args[j]? = some v → Value.okWide Tryd.prog W .any base t v := hval0
  have hW' := hW
  obtain ⟨p, q, hA0, hV, rfl, hfz, hnd⟩ := hW
  have hA : DataW.TrodAll enc Tryd.prog W 0 (fun _ => true) true Tryd.f5.params.toList args.toList ds p := hA0
  rw [Tryd.params5] at hA hval
  obtain ⟨v0, vs0, d0, ds0, p0, q0, hargs, rfl, rfl, h0, r0⟩ := trodAll_cons hA
  obtain ⟨rfl, rfl, rfl⟩ := trodAll_nil r0
  obtain rfl : args = #[v0] := by cases args; simp_all
  obtain ⟨rfl, rfl⟩ := trodVars_none hV
  have k0 := h0
  have lt0 : ∀ x ∈ p0, x.block < W.heap.size := by obtain ⟨m, hm⟩ := k0; exact DataW.trod_lt m _ _ _ hm
  obtain ⟨m0, hm0⟩ := h0
  have o0 := (open_sl2 (f := fun s : Bytes => [vS s]) Tryd.underlying24 (by kernel_rfl) (fun _ => rfl) (open_s Tryd.underlying9)) H enc W m0 _ _ hm0
  clear hm0
  generalize e0 : v0.cells.toList = cs0 at o0
  obtain ⟨a0, l0, c0, rfl⟩ := okWide_slice Tryd.underlying24 (hval 0 24 v0 rfl rfl)
  obtain ⟨Ax0, cx0, xsx0, rfl, hRx0, hlx0, hBx0⟩ := o0
  obtain ⟨rfl, rfl, rfl⟩ := Go.GV.slice_inj e0
  clear hA0 hval0
  have hbk : Rows.uptoBulk d0 ≤ 1048576 := by have h := of_decide_eq_true hcond; simp only [List.cons_append, List.nil_append, List.append_nil, Rows.uptoBulkAll] at h; omega
  have hq1 : ∀ i, (xsx0.getD i []).length ≤ 1048576 := fun i => by obtain ⟨fu, hfu⟩ := k0; exact Nat.le_trans (strs_bulk Tryd.underlying24 Tryd.underlying9 (by kernel_rfl) hfu (by simpa only [map_flat] using hRx0) i) hbk
  refine (Calls.to_below (P := Tryd.prog) (b := true) (f5_ok xsx0 _ _ W (by simpa only [map_flat] using hRx0) hT hlx0.2 hq1) (fun v L h => h.1)).mono fun e W' ⟨he, bel⟩ => ?_
  subst he
  exact ⟨_, rfl, _, _, _, [], _, [], hW', trodAll_mk1 (shut_bool Tryd.underlying4 _), (trodAll_cons_mk (Below.trod laidOut (by kernel_rfl) (of_decide_eq_true (by kernel_rfl)) k0 bel lt0) trodAll_mk0), rfl, bel.frame _, fun h => by cases h⟩
theorem over : Rows.jobtextCallsUptoRow.holds Tryd.pinned (Rows.OpenSpec.upto Rows.jobtextCallsSpec) :=
  OpenClaim.holds_of_cond 5 Tryd.f5 rfl rfl rfl rfl rfl rfl rfl ⟨rfl, rfl, rfl, rfl, rfl⟩ rfl rfl rfl rfl rfl (by kernel_rfl) Tryd.func5 (by kernel_rfl)
    (of_decide_eq_true (by kernel_rfl)) (by unfold Func.isWrapper; first | (rw [if_pos (by decide +kernel)]; kernel_rfl) | (rw [if_neg (by decide +kernel)]; exact ⟨rfl, rfl⟩))
    (fun os started H enc _ F => by rw [OpenClaim.pre_eq_preRow]; exact lifted os started H enc F)
theorem proved : Rows.JobtextCallsUptoCardSaid :=
  Claim7.holds_tied_plain_at .later [] [.data, .pinned] true (true, "28e7bfe22aa8be8d4f36a2028b33350f6faa753e6b3ede4948a2cf3f8780ef11") true
    over (fun _ h => by cases h) (by kernel_rfl) (fun _ h => by cases h) jobtextCallsUpto_row_tie rfl ⟨rfl, rfl⟩ (by kernel_rfl) rfl
    (fun f fn hf hfn => by
      obtain rfl : f = 5 := Option.some.inj ((show Tryd.prog.funcNamed Rows.jobtextCallsUptoRow.func = some 5 by kernel_rfl).symm.trans hf) |>.symm
      obtain rfl : fn = Tryd.f5 := (Option.some.inj (Tryd.func5.symm.trans hfn)).symm
      exact ⟨by kernel_rfl, fun j t ht => by
        rw [Tryd.params5] at ht
        have hm : t ∈ [24] := by simpa using Array.mem_of_getElem? ht
        have hall : ([24].all fun u => !Tryd.prog.wantsStandIn u) = true := by kernel_rfl
        exact (show Tryd.prog.wantsStandIn t = false by simpa using List.all_eq_true.1 hall t hm)⟩)
    (by kernel_rfl)
end Go.Proofs.YtbfiibgmgopnaaaDoor.jobtextCalls
