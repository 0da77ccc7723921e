/- The proof of 'Rows.ArchiveSalvagesSaid': the frame (printed by frame2.py) round the contract of the law's function. -/
import Derived.Test.YtodfebhimadaiaaRows
import Derived.Test.YtodfebhimadaiaaOp14
import Derived.Test.YtodfebhimadaiaaL14d
import Derived.WalkKit
import Derived.ProofKit
import Derived.OpenShut
import Derived.ShutString
import Derived.ChangeOld
import Derived.Below
import Derived.Carry
namespace Go.Proofs.Ytodfebhimadaiaa.archiveSalvages
open Go.ChangeShapes Go.WideShapes Go.ChangeAt Go.RowKit Go.GV
open Go.ChangeMaps (open_string shut_string)
set_option linter.unusedVariables false
theorem own : ownKnob Try.prog.godebug = none := by kernel_rfl
theorem laidOut : laidOutB Try.prog = true := by kernel_rfl
set_option maxRecDepth 100000 in
set_option maxHeartbeats 2000000 in
theorem lifted (os : Os) (started : os.Started) (H : Type) (enc : TypeId × Value → H) :
    ReturnsInHanded {} Try.checked os 7 .any (Rows.archiveSalvagesSpec.pre6 enc Try.prog Try.f7 Rows.archiveSalvagesRow.domain false) (Rows.archiveSalvagesSpec.post enc Try.prog Try.f7 false true false false) := by
  refine returnsInHanded_of_change (C := Try.checked) own started (by kernel_rfl) Try.func7
    (ChangeSpec.witness6 (enc := enc) (C := Try.checked) false ⟨#[], #[.agg #[.int .i64 0, .int .i64 0, .int .i64 0, .int .i64 0, .int .i64 0, .int .i64 0, .int .i64 0, .int .i64 0, .int .i64 0, .int .i64 0, .int .i64 0, .int .i64 0, .int .i64 0, .int .i64 0, .bool false, .int .i64 0, .string ByteArray.empty, .string ByteArray.empty, .int .i64 0, .int .i64 0, .bool false, .int .i64 0, .slice none 0 0], .slice none 0 0], []⟩ 8 (by kernel_rfl) (by kernel_rfl) (by kernel_rfl) (by kernel_rfl)) ?_
  intro W base args ds gs before hval0 hW hcnd _
  have hval : ∀ (j : Nat) t v, Try.f7.params[j]? = some t → args[j]? = some v → Value.okWide Try.prog W .any base t v := hval0
  have hW' := hW
  obtain ⟨p, q, hA0, hV, rfl, hfz, hnd⟩ := hW
  have hA : DataW.TrodAll enc Try.prog W 0 (fun _ => true) true Try.f7.params.toList args.toList ds p := hA0
  rw [Try.params7] at hA hval
  obtain ⟨v0, vs0, d0, ds0, p0, q0, hargs, rfl, rfl, h0, r0⟩ := trodAll_cons hA
  obtain ⟨v1, vs1, d1, ds1, p1, q1, rfl, rfl, rfl, h1, r1⟩ := trodAll_cons r0
  obtain ⟨rfl, rfl, rfl⟩ := trodAll_nil r1
  obtain rfl : args = #[v0, v1] := by cases args; simp_all
  obtain ⟨rfl, rfl⟩ := trodVars_none hV
  have k0 := h0
  have lt0 : ∀ x ∈ p0, x.block < W.heap.size := by obtain ⟨m, hm⟩ := k0; exact DataW.trod_lt m _ _ _ hm
  obtain ⟨m0, hm0⟩ := h0
  have o0 := (open_struct Try.underlying37 (.cons (by kernel_rfl) Ty.op34 (.cons (by kernel_rfl) (open_i Try.underlying3) (.cons (by kernel_rfl) (open_sl Try.underlying35 (by kernel_rfl) Pair.enc_len Ty.op54) (.nil (by kernel_rfl)))))) H enc W m0 _ _ hm0
  clear hm0
  generalize e0 : v0.cells.toList = cs0 at o0
  obtain ⟨as0, rfl, _⟩ := okWide_struct Try.underlying37 (hval 0 37 v0 rfl rfl)
  obtain ⟨px0_0, qx0_0, rfl, ⟨dx0_0, rfl, hdx0_0⟩, px0_1, qx0_1, rfl, ⟨nx0_1, rfl, hlx0_1, hux0_1⟩, px0_2, qx0_2, rfl, ⟨Ax0_2, cx0_2, xsx0_2, rfl, hRx0_2, hlx0_2, hBx0_2⟩, rfl⟩ := o0
  obtain rfl := Go.GV.agg_inj e0
  have k1 := h1
  have lt1 : ∀ x ∈ p1, x.block < W.heap.size := by obtain ⟨m, hm⟩ := k1; exact DataW.trod_lt m _ _ _ hm
  obtain ⟨m1, hm1⟩ := h1
  have o1 := (open_sl Try.underlying48 (by kernel_rfl) Harm.enc_len Ty.op101) H enc W m1 _ _ hm1
  clear hm1
  generalize e1 : v1.cells.toList = cs1 at o1
  obtain ⟨a1, l1, c1, rfl⟩ := okWide_slice Try.underlying48 (hval 1 48 v1 rfl rfl)
  obtain ⟨Ax1, cx1, xsx1, rfl, hRx1, hlx1, hBx1⟩ := o1
  obtain ⟨rfl, rfl, rfl⟩ := Go.GV.slice_inj e1
  clear hA0 hval0
  refine (Calls.to_below (P := Try.prog) (b := true) (f7_ok dx0_0 nx0_1 xsx0_2 Ax0_2 cx0_2 xsx1 a1 c1 W hRx0_2 hRx1 hlx0_2) (fun v L h => h.1)).mono fun e W' ⟨he, bel⟩ => ?_
  subst he
  exact ⟨_, rfl, _, _, _, [], _, [], hW', trodAll_mk1 (shut_bool Try.underlying4 _), (trodAll_cons_mk (Below.trod laidOut (by kernel_rfl) (of_decide_eq_true (by kernel_rfl)) k0 bel lt0) (trodAll_cons_mk (Below.trod laidOut (by kernel_rfl) (of_decide_eq_true (by kernel_rfl)) k1 bel lt1) trodAll_mk0)), rfl, bel.frame _, fun h => by cases h⟩
theorem over : Rows.archiveSalvagesRow.holds Try.pinned (OpenSpec.ofChange Rows.archiveSalvagesSpec) :=
  OpenClaim.holds_of_wide 7 Try.f7 rfl rfl rfl rfl rfl rfl rfl ⟨rfl, rfl, rfl, rfl, rfl⟩ rfl rfl rfl rfl rfl (by kernel_rfl) Try.func7 (by kernel_rfl)
    (of_decide_eq_true (by kernel_rfl)) (by unfold Func.isWrapper; first | (rw [if_pos (by decide +kernel)]; kernel_rfl) | (rw [if_neg (by decide +kernel)]; exact ⟨rfl, rfl⟩))
    (fun os started H enc _ => lifted os started H enc)
theorem proved : Rows.ArchiveSalvagesSaid := over
end Go.Proofs.Ytodfebhimadaiaa.archiveSalvages
