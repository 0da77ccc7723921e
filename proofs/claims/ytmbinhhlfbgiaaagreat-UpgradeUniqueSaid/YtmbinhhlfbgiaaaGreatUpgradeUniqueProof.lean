/- The proof of 'Rows.UpgradeUniqueSaid': the frame (printed by frame2.py) round the contract of the law's function. -/
import Derived.Test.YtmbinhhlfbgiaaaGreatRows
import Derived.Test.YtmbinhhlfbgiaaaGreatUpgradeUnique4
import Derived.Test.YtmbinhhlfbgiaaaGreatUpgradeUnique21
import Derived.WalkKit
import Derived.ProofKit
import Derived.OpenShut
import Derived.ShutString
import Derived.ChangeOld
import Derived.Below
import Derived.Carry
namespace Go.Proofs.YtmbinhhlfbgiaaaGreat.upgradeUnique
open Go.ChangeShapes Go.WideShapes Go.ChangeAt Go.RowKit Go.GV
open Go.ChangeMaps (open_string shut_string)
set_option linter.unusedVariables false
theorem own : ownKnob Tryz.prog.godebug = none := by kernel_rfl
theorem laidOut : laidOutB Tryz.prog = true := by kernel_rfl
set_option maxRecDepth 100000 in
set_option maxHeartbeats 2000000 in
theorem lifted (os : Os) (started : os.Started) (H : Type) (enc : TypeId × Value → H) :
    ReturnsInHanded {} Tryz.checked os 3 .any (Rows.upgradeUniqueSpec.pre6 enc Tryz.prog Tryz.f3 Rows.upgradeUniqueRow.domain false) (Rows.upgradeUniqueSpec.post enc Tryz.prog Tryz.f3 false true false false) := by
  refine returnsInHanded_of_change_sized (C := Tryz.checked) own started (by kernel_rfl) Tryz.func3
    (ChangeSpec.witness6 (enc := enc) (C := Tryz.checked) false ⟨#[], #[.agg #[.int .i64 0, .int .i64 0, .int .i64 0, .int .i64 0, .int .i64 0, .int .i64 0, .int .i64 0, .int .i64 0, .int .i64 0, .int .i64 0, .int .i64 0, .int .i64 0, .int .i64 0, .int .i64 0, .bool false, .int .i64 0, .string ByteArray.empty, .string ByteArray.empty, .int .i64 0, .int .i64 0, .bool false], .slice none 0 0, .slice none 0 0, .agg #[.int .i64 0, .int .i64 0, .string ByteArray.empty, .string ByteArray.empty, .string ByteArray.empty]], []⟩ 8 (by kernel_rfl) (by kernel_rfl) (by kernel_rfl) (by kernel_rfl)) ?_
  intro W base args ds gs before hval0 hW hcnd hsz0 _
  have hval : ∀ (j : Nat) t v, Tryz.f3.params[j]? = some t → args[j]? = some v → Value.okWide Tryz.prog W .any base t v := hval0
  have hW' := hW
  obtain ⟨p, q, hA0, hV, rfl, hfz, hnd⟩ := hW
  have hA : DataW.TrodAll enc Tryz.prog W 0 (fun _ => true) true Tryz.f3.params.toList args.toList ds p := hA0
  have hsz : (DataW.weightsEach Tryz.prog (Tryz.f3.params.toList ++ Rows.upgradeUniqueSpec.plain.varTypes Tryz.prog) (ds ++ gs)).all (· ≤ reachBytes) = true := hsz0
  rw [Tryz.params3] at hA hval hsz
  obtain ⟨v0, vs0, d0, ds0, p0, q0, hargs, rfl, rfl, h0, r0⟩ := trodAll_cons hA
  obtain ⟨v1, vs1, d1, ds1, p1, q1, rfl, rfl, rfl, h1, r1⟩ := trodAll_cons r0
  obtain ⟨v2, vs2, d2, ds2, p2, q2, rfl, rfl, rfl, h2, r2⟩ := trodAll_cons r1
  obtain ⟨v3, vs3, d3, ds3, p3, q3, rfl, rfl, rfl, h3, r3⟩ := trodAll_cons r2
  obtain ⟨rfl, rfl, rfl⟩ := trodAll_nil r3
  obtain rfl : args = #[v0, v1, v2, v3] := by cases args; simp_all
  obtain ⟨rfl, rfl⟩ := trodVars_none hV
  have k0 := h0
  have lt0 : ∀ x ∈ p0, x.block < W.heap.size := by obtain ⟨m, hm⟩ := k0; exact DataW.trod_lt m _ _ _ hm
  obtain ⟨m0, hm0⟩ := h0
  have o0 := Ty.op23 H enc W m0 _ _ hm0
  clear hm0
  generalize e0 : v0.cells.toList = cs0 at o0
  obtain ⟨as0, rfl, _⟩ := okWide_struct Tryz.underlying23 (hval 0 23 v0 rfl rfl)
  obtain ⟨dx0, rfl, hdx0⟩ := o0
  obtain rfl := Go.GV.agg_inj e0
  have k1 := h1
  have lt1 : ∀ x ∈ p1, x.block < W.heap.size := by obtain ⟨m, hm⟩ := k1; exact DataW.trod_lt m _ _ _ hm
  obtain ⟨m1, hm1⟩ := h1
  have o1 := (open_sl Tryz.underlying24 (by kernel_rfl) DataSet.enc_len Ty.op23) H enc W m1 _ _ hm1
  clear hm1
  generalize e1 : v1.cells.toList = cs1 at o1
  obtain ⟨a1, l1, c1, rfl⟩ := okWide_slice Tryz.underlying24 (hval 1 24 v1 rfl rfl)
  obtain ⟨Ax1, cx1, xsx1, rfl, hRx1, hlx1, hBx1⟩ := o1
  obtain ⟨rfl, rfl, rfl⟩ := Go.GV.slice_inj e1
  have k2 := h2
  have lt2 : ∀ x ∈ p2, x.block < W.heap.size := by obtain ⟨m, hm⟩ := k2; exact DataW.trod_lt m _ _ _ hm
  obtain ⟨m2, hm2⟩ := h2
  have o2 := (open_sl Tryz.underlying25 (by kernel_rfl) Change.enc_len Ty.op27) H enc W m2 _ _ hm2
  clear hm2
  generalize e2 : v2.cells.toList = cs2 at o2
  obtain ⟨a2, l2, c2, rfl⟩ := okWide_slice Tryz.underlying25 (hval 2 25 v2 rfl rfl)
  obtain ⟨Ax2, cx2, xsx2, rfl, hRx2, hlx2, hBx2⟩ := o2
  obtain ⟨rfl, rfl, rfl⟩ := Go.GV.slice_inj e2
  have k3 := h3
  have lt3 : ∀ x ∈ p3, x.block < W.heap.size := by obtain ⟨m, hm⟩ := k3; exact DataW.trod_lt m _ _ _ hm
  obtain ⟨m3, hm3⟩ := h3
  have o3 := Ty.op27 H enc W m3 _ _ hm3
  clear hm3
  generalize e3 : v3.cells.toList = cs3 at o3
  obtain ⟨as3, rfl, _⟩ := okWide_struct Tryz.underlying27 (hval 3 27 v3 rfl rfl)
  obtain ⟨dx3, rfl, hdx3⟩ := o3
  obtain rfl := Go.GV.agg_inj e3
  have hz2 := Go.GV.reach_slice hsz (j := 2) (t := 25) rfl rfl Tryz.underlying25 (b := 64) (by kernel_rfl) k2
  clear hA0 hval0 hsz0
  refine (Calls.to_below (P := Tryz.prog) (b := true) (f3_ok dx0 xsx1 a1 c1 xsx2 a2 c2 dx3 W hRx1 hRx2 hlx1 hz2) (fun v L h => h.1)).mono fun e W' ⟨he, bel⟩ => ?_
  subst he
  exact ⟨_, rfl, _, _, _, [], _, [], hW', trodAll_mk1 (shut_bool Tryz.underlying4 _), (trodAll_cons_mk (Below.trod laidOut (by kernel_rfl) (of_decide_eq_true (by kernel_rfl)) k0 bel lt0) (trodAll_cons_mk (Below.trod laidOut (by kernel_rfl) (of_decide_eq_true (by kernel_rfl)) k1 bel lt1) (trodAll_cons_mk (Below.trod laidOut (by kernel_rfl) (of_decide_eq_true (by kernel_rfl)) k2 bel lt2) (trodAll_cons_mk (Below.trod laidOut (by kernel_rfl) (of_decide_eq_true (by kernel_rfl)) k3 bel lt3) trodAll_mk0)))), rfl, bel.frame _, fun h => by cases h⟩
theorem over : Rows.upgradeUniqueRow.holds Tryz.pinned (OpenSpec.ofChange Rows.upgradeUniqueSpec) :=
  OpenClaim.holds_of_wide 3 Tryz.f3 rfl rfl rfl rfl rfl rfl rfl ⟨rfl, rfl, rfl, rfl, rfl⟩ rfl rfl rfl rfl rfl (by kernel_rfl) Tryz.func3 (by kernel_rfl)
    (of_decide_eq_true (by kernel_rfl)) (by unfold Func.isWrapper; first | (rw [if_pos (by decide +kernel)]; kernel_rfl) | (rw [if_neg (by decide +kernel)]; exact ⟨rfl, rfl⟩))
    (fun os started H enc _ => lifted os started H enc)
theorem proved : Rows.UpgradeUniqueSaid := over
end Go.Proofs.YtmbinhhlfbgiaaaGreat.upgradeUnique
