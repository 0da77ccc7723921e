/- contracts C47b -/
import Derived.Test.YtknibpmmjhmjeaaDoorC47a
namespace Go.Proofs.YtknibpmmjhmjeaaDoor
open Go.GV
set_option linter.unusedVariables false
set_option linter.unusedSimpArgs false

set_option maxRecDepth 20000 in
theorem f56_ok (s : Bytes) (w : World) (q0 : s.length ≤ 1073741824) : Calls Tryd.prog 56 #[vS s] w (Gives [] w fun v L => v = vS (R47.hex s) ∧ L = []) := by
  refine calls_J [] 25 Tryd.func56 rfl Tryd.ntmps56 [(0, vS s)] rfl rfl (Give.nil w) ?_
  refine J_seq ?_
  refine J_region ?_
  refine JO_read (vS []) rfl trivial (fun _ _ => rfl) ?_
  refine JO_nil ?_
  refine JX_then ?_
  refine J_seq ?_
  refine J_region ?_
  refine JO_read (Value.slice none 0 0) rfl trivial (fun _ _ => rfl) ?_
  refine JO_nil ?_
  refine JX_then ?_
  refine J_seq ?_
  refine J_seq ?_
  refine J_region ?_
  refine JO_read (vS s) rfl trivial (fun _ _ => rfl) ?_
  refine JO_op rfl trivial (O_str_bytes s rfl Tryd.underlying9 Tryd.underlying74 Tryd.underlying5 fun b1 c2 z3 hz4 => ?_)
  refine JO_read (vI ((s.length : Nat) : Int)) rfl trivial (fun _ _ => x_len_sl Tryd.underlying74 rfl) ?_
  refine JO_read (vI 0) rfl trivial (fun _ _ => rfl) ?_
  refine JO_nil ?_
  refine JX_then ?_
  refine J_block ?_
  refine J_loop (X := Nat × (List UInt8) × (Option Addr) × Nat) (fun (⟨k, out, outA, outC⟩ : Nat × (List UInt8) × (Option Addr) × Nat) => (k ≤ s.length) ∧ (out = R47.hex (s.take k)) ∧ (out.length = 2 * k)) (fun (⟨k, out, outA, outC⟩ : Nat × (List UInt8) × (Option Addr) × Nat) => [(2, vS []), (3, Value.slice outA out.length outC), (7, Value.slice (some ⟨b1, 0, none⟩) s.length c2), (8, vI ((s.length : Nat) : Int)), (9, vI ((k : Nat) : Int))]) (fun (⟨k, out, outA, outC⟩ : Nat × (List UInt8) × (Option Addr) × Nat) => [Ent.blk b1 5 ((s ++ List.replicate z3 (0 : UInt8)).map vU8) (s.length + z3, s.length + z3 + 1), Ent.row (.slice outA out.length outC) 5 1 out.length (out.map vU8)]) (fun (⟨k, out, outA, outC⟩ : Nat × (List UInt8) × (Option Addr) × Nat) => s.length - k) ((0, ([] : List UInt8), none, 0) : Nat × (List UInt8) × (Option Addr) × Nat) ?_ ⟨rfl, rfl, rfl, rfl, rfl, trivial⟩ (fun _ h => ((h.nilrow 5 1).front 1 _ rfl).keep [true, true] rfl) ?_
  · show (0 ≤ s.length) ∧ (([] : List UInt8) = R47.hex (s.take 0)) ∧ (([] : List UInt8).length = 2 * 0)
    refine ⟨?_, ?_, ?_⟩
    · first | rfl | omega | (simp_all; done) | (simp_all; omega)
    · rfl
    · rfl
  rintro ⟨k, out, outA, outC⟩ hI1
  obtain ⟨i1_0, i1_1, i1_2⟩ : (k ≤ s.length) ∧ (out = R47.hex (s.take k)) ∧ (out.length = 2 * k) := hI1
  refine J_weaken (E' := [(2, vS []), (3, Value.slice outA out.length outC), (7, Value.slice (some ⟨b1, 0, none⟩) s.length c2), (8, vI ((s.length : Nat) : Int)), (9, vI ((k : Nat) : Int))]) (L' := [Ent.blk b1 5 ((s ++ List.replicate z3 (0 : UInt8)).map vU8) (s.length + z3, s.length + z3 + 1), Ent.row (.slice outA out.length outC) 5 1 out.length (out.map vU8)]) ⟨rfl, rfl, rfl, rfl, rfl, trivial⟩ (fun _ h => h) ?_
  refine J_seq ?_
  refine J_region ?_
  refine JO_read (vB (decide (((k : Nat) : Int) < ((s.length : Nat) : Int)))) rfl trivial (fun _ _ => x_lss_i rfl rfl) ?_
  refine JO_nil ?_
  refine JX_then ?_
  refine J_seq ?_
  refine J_cond (decide (((k : Nat) : Int) < ((s.length : Nat) : Int))) rfl rfl (fun h5 => ?_) (fun h5 => ?_)
  · have h5 := of_decide_eq_true h5
    refine J_skip ?_
    refine JX_then ?_
    refine J_seq ?_
    refine J_block ?_
    refine J_seq ?_
    refine J_region ?_
    refine JO_read (Value.pointer (some ⟨b1, k, none⟩)) rfl trivial (fun _ _ => x_indexAddr_sl (k := k) Tryd.underlying74 Ty.sz5 rfl rfl lt_ (add_0k1 _ _)) ?_
    refine JO_read (vU8 ((s ++ List.replicate z3 (0 : UInt8)).getD k 0)) rfl trivial (x_load_arr 0 vU8 0 rfl rfl Ty.sc5 lt_) ?_
    refine JO_read (vU8 ((s ++ List.replicate z3 (0 : UInt8)).getD k 0)) rfl trivial (fun _ _ => rfl) ?_
    refine JO_nil ?_
    refine JX_then ?_
    refine J_draw [Ent.blk b1 5 ((s ++ List.replicate z3 (0 : UInt8)).map vU8) (s.length + z3, s.length + z3 + 1)] [8] [Ent.blk b1 5 ((s ++ List.replicate z3 (0 : UInt8)).map vU8) (s.length + z3, s.length + z3 + 1), Ent.row (.slice outA out.length outC) 5 1 out.length (out.map vU8)] 10 Ty.mixed rfl ?_
    refine JA_take 0 (Value.slice outA out.length outC) rfl (by kernel_rfl) (by kernel_rfl) (by kernel_rfl) rfl (fun _ _ _ h => h) rfl trivial (fun _ _ => rfl) ?_
    refine JA_take 1 (vU8 ((s ++ List.replicate z3 (0 : UInt8)).getD k 0)) rfl (by kernel_rfl) (by kernel_rfl) (by kernel_rfl) rfl (fun _ _ _ h => h) rfl trivial (fun _ _ => rfl) ?_
    refine JA_take 2 (vU8 (UInt8.ofBitVec (((s ++ List.replicate z3 (0 : UInt8)).getD k 0).toBitVec >>> (4 : Nat)))) rfl (by kernel_rfl) (by kernel_rfl) (by kernel_rfl) rfl (fun _ _ _ h => h) rfl trivial (fun _ _ => x_shr_u8 (m := 4) rfl rfl (by decide)) ?_
    refine JA_take 3 (vU8 ([48, 49, 50, 51, 52, 53, 54, 55, 56, 57, 97, 98, 99, 100, 101, 102].getD (UInt8.ofBitVec (((s ++ List.replicate z3 (0 : UInt8)).getD k 0).toBitVec >>> (4 : Nat))).toNat 0)) rfl (by kernel_rfl) (by kernel_rfl) (by kernel_rfl) rfl (fun _ _ _ h => h) rfl trivial (fun _ _ => x_idx_u8 (k := UInt8.ofBitVec (((s ++ List.replicate z3 (0 : UInt8)).getD k 0).toBitVec >>> (4 : Nat))) rfl rfl Tryd.underlying9 (by first | omega | (simp only [List.length_cons, List.length_nil]; omega) | exact R47.shr4_lt _ | exact R47.and15_lt _ | (rw [R47.div16, R47.div16s]; omega) | (rw [R47.mod16, R47.mod16s]; omega) | (rw [R47.div16s]; have := UInt8.toNat_lt (by assumption); simp; omega) | (rw [R47.mod16s]; simp; omega) | (simp; omega))) ?_
    refine JA_take 4 (vU8 ((s ++ List.replicate z3 (0 : UInt8)).getD k 0)) rfl (by kernel_rfl) (by kernel_rfl) (by kernel_rfl) rfl (fun _ _ _ h => h) rfl trivial (fun _ _ => rfl) ?_
    refine JA_take 5 (vU8 (((s ++ List.replicate z3 (0 : UInt8)).getD k 0) &&& 15)) rfl (by kernel_rfl) (by kernel_rfl) (by kernel_rfl) rfl (fun _ _ _ h => h) rfl trivial (fun _ _ => x_and_u8 rfl rfl) ?_
    refine JA_take 6 (vU8 ([48, 49, 50, 51, 52, 53, 54, 55, 56, 57, 97, 98, 99, 100, 101, 102].getD (((s ++ List.replicate z3 (0 : UInt8)).getD k 0) &&& 15).toNat 0)) rfl (by kernel_rfl) (by kernel_rfl) (by kernel_rfl) rfl (fun _ _ _ h => h) rfl trivial (fun _ _ => x_idx_u8 (k := ((s ++ List.replicate z3 (0 : UInt8)).getD k 0) &&& 15) rfl rfl Tryd.underlying9 (by first | omega | (simp only [List.length_cons, List.length_nil]; omega) | exact R47.shr4_lt _ | exact R47.and15_lt _ | (rw [R47.div16, R47.div16s]; omega) | (rw [R47.mod16, R47.mod16s]; omega) | (rw [R47.div16s]; have := UInt8.toNat_lt (by assumption); simp; omega) | (rw [R47.mod16s]; simp; omega) | (simp; omega))) ?_
    refine JA_one 7 (by kernel_rfl) (fun _ h => ⟨h.keep [true, false] rfl, fun _ => h⟩) ?_
    refine JI_op rfl rfl trivial (O_buildSlice (cs := [vU8 ([48, 49, 50, 51, 52, 53, 54, 55, 56, 57, 97, 98, 99, 100, 101, 102].getD (UInt8.ofBitVec (((s ++ List.replicate z3 (0 : UInt8)).getD k 0).toBitVec >>> (4 : Nat))).toNat 0), vU8 ([48, 49, 50, 51, 52, 53, 54, 55, 56, 57, 97, 98, 99, 100, 101, 102].getD (((s ++ List.replicate z3 (0 : UInt8)).getD k 0) &&& 15).toNat 0)]) Tryd.underlying74 Ty.sz5 Ty.ze5 (by decide) (by decide) (by kernel_rfl) fun b7 => ?_)
    refine JA_one 8 (by kernel_rfl) (fun _ h => ⟨h.keep [false, true, false] rfl, fun _ => h.keep [false, true, true] rfl⟩) ?_
    refine JI_op rfl rfl trivial (O_append_m 2 vU8 out [[48, 49, 50, 51, 52, 53, 54, 55, 56, 57, 97, 98, 99, 100, 101, 102].getD (UInt8.ofBitVec (((s ++ List.replicate z3 (0 : UInt8)).getD k 0).toBitVec >>> (4 : Nat))).toNat 0, [48, 49, 50, 51, 52, 53, 54, 55, 56, 57, 97, 98, 99, 100, 101, 102].getD (((s ++ List.replicate z3 (0 : UInt8)).getD k 0) &&& 15).toNat 0] Tryd.underlying74 Ty.sz5 Ty.by5 Ty.ze5 rfl rfl rfl rfl rfl (fun _ => rfl) (cells_blk 0 (off := 0) (m := 2) rfl rfl) lt_ lt_ fun A10 c11 => ?_)
    refine JA_take 9 (Value.slice A10 ((out ++ [[48, 49, 50, 51, 52, 53, 54, 55, 56, 57, 97, 98, 99, 100, 101, 102].getD (UInt8.ofBitVec (((s ++ List.replicate z3 (0 : UInt8)).getD k 0).toBitVec >>> (4 : Nat))).toNat 0, [48, 49, 50, 51, 52, 53, 54, 55, 56, 57, 97, 98, 99, 100, 101, 102].getD (((s ++ List.replicate z3 (0 : UInt8)).getD k 0) &&& 15).toNat 0]).length) c11) rfl (by kernel_rfl) (by kernel_rfl) (by kernel_rfl) rfl (fun _ _ _ h => h) rfl trivial (fun _ _ => rfl) ?_
    refine JA_done (by kernel_rfl) (fun _ h => ⟨h.keep [false, true, false] rfl, fun hh => Bool.noConfusion (show false = true from hh)⟩) ?_
    refine JX_block ?_
    refine JX_then ?_
    refine J_region ?_
    refine JO_read (vI ((k + 1 : Nat) : Int)) rfl trivial (fun _ _ => x_add_n (a := k) (b := 1) rfl rfl (by omega)) ?_
    refine JO_read (vI ((k + 1 : Nat) : Int)) rfl trivial (fun _ _ => rfl) ?_
    refine JO_nil ?_
    refine JX_round ((k + 1, out ++ [[48, 49, 50, 51, 52, 53, 54, 55, 56, 57, 97, 98, 99, 100, 101, 102].getD (UInt8.ofBitVec (((s ++ List.replicate z3 (0 : UInt8)).getD k 0).toBitVec >>> (4 : Nat))).toNat 0, [48, 49, 50, 51, 52, 53, 54, 55, 56, 57, 97, 98, 99, 100, 101, 102].getD (((s ++ List.replicate z3 (0 : UInt8)).getD k 0) &&& 15).toNat 0], A10, c11) : Nat × (List UInt8) × (Option Addr) × Nat) ?_ ?_ ⟨rfl, rfl, rfl, rfl, rfl, trivial⟩ (fun _ h => h.keep [false, true, true] rfl)
    · show ((k + 1) ≤ s.length) ∧ ((out ++ [[48, 49, 50, 51, 52, 53, 54, 55, 56, 57, 97, 98, 99, 100, 101, 102].getD (UInt8.ofBitVec (((s ++ List.replicate z3 (0 : UInt8)).getD k 0).toBitVec >>> (4 : Nat))).toNat 0, [48, 49, 50, 51, 52, 53, 54, 55, 56, 57, 97, 98, 99, 100, 101, 102].getD (((s ++ List.replicate z3 (0 : UInt8)).getD k 0) &&& 15).toNat 0]) = R47.hex (s.take (k + 1))) ∧ ((out ++ [[48, 49, 50, 51, 52, 53, 54, 55, 56, 57, 97, 98, 99, 100, 101, 102].getD (UInt8.ofBitVec (((s ++ List.replicate z3 (0 : UInt8)).getD k 0).toBitVec >>> (4 : Nat))).toNat 0, [48, 49, 50, 51, 52, 53, 54, 55, 56, 57, 97, 98, 99, 100, 101, 102].getD (((s ++ List.replicate z3 (0 : UInt8)).getD k 0) &&& 15).toNat 0]).length = 2 * (k + 1))
      refine ⟨?_, ?_, ?_⟩
      · first | rfl | omega | (simp_all; done) | (simp_all; omega)
      · rw [R47.hex_step (by omega), i1_1, R47.getD_pad (by omega), R47.shr4, R47.and15]
        rfl
      · rw [List.length_append, i1_2]; rfl
    · show s.length - (k + 1) < s.length - k
      first | omega | (simp; omega) | (simp_all; omega)
  · have h5 := of_decide_eq_false h5
    refine J_exit ?_
    refine JX_then_exit ?_
    refine JX_round_exit ?_
    refine JX_block_hit ?_
    refine JX_then ?_
    refine J_seq ?_
    refine J_region ?_
    refine JO_read (Value.slice outA out.length outC) rfl trivial (fun _ _ => rfl) ?_
    refine JO_read (vS out) rfl trivial (x_str_at rfl Tryd.underlying74 Tryd.underlying5 Tryd.underlying9 (cells_row 1 rfl) rfl) ?_
    refine JO_read (vS out) rfl trivial (fun _ _ => rfl) ?_
    refine JO_nil ?_
    refine JX_then ?_
    refine J_ret ?_
    refine JX_rets [vS out] (vS out) Tryd.results56 (fun w h => ⟨rfl, trivial⟩) rfl [] (fun _ h => h.keep [false, false] rfl) ⟨?_, ?_⟩
    · have e_x0 : (out : Bytes) = (R47.hex s) := by
        rw [i1_1, show k = s.length by omega, List.take_length]
      exact congrArg (fun (x0 : Bytes) => vS x0) e_x0
    · rfl

set_option maxRecDepth 20000 in
theorem f40_ok (s : Bytes) (w : World) (q0 : s.length ≤ 1073741824) : Calls Tryd.prog 40 #[vS s] w (Gives [] w fun v L => v = vS (R47.hex s) ∧ L = []) := by
  refine calls_J [] 38 Tryd.func40 rfl Tryd.ntmps40 [(0, vS s)] rfl rfl (Give.nil w) ?_
  refine J_seq ?_
  refine J_region ?_
  refine JO_read (vS []) rfl trivial (fun _ _ => rfl) ?_
  refine JO_nil ?_
  refine JX_then ?_
  refine J_seq ?_
  refine J_region ?_
  refine JO_read (vS [48, 49, 50, 51, 52, 53, 54, 55, 56, 57, 97, 98, 99, 100, 101, 102]) rfl trivial (fun _ _ => rfl) ?_
  refine JO_nil ?_
  refine JX_then ?_
  refine J_seq ?_
  refine J_region ?_
  refine JO_read (vS []) rfl trivial (fun _ _ => rfl) ?_
  refine JO_nil ?_
  refine JX_then ?_
  refine J_seq ?_
  refine J_seq ?_
  refine J_region ?_
  refine JO_read (vI 0) rfl trivial (fun _ _ => rfl) ?_
  refine JO_nil ?_
  refine JX_then ?_
  refine J_block ?_
  refine J_loop (X := Nat × Bytes) (fun (⟨k, out⟩ : Nat × Bytes) => (k ≤ s.length) ∧ (out = R47.hex (s.take k)) ∧ (out.length = 2 * k)) (fun (⟨k, out⟩ : Nat × Bytes) => [(0, vS s), (2, vS []), (3, vS [48, 49, 50, 51, 52, 53, 54, 55, 56, 57, 97, 98, 99, 100, 101, 102]), (4, vS out), (5, vI ((k : Nat) : Int))]) (fun (⟨k, out⟩ : Nat × Bytes) => []) (fun (⟨k, out⟩ : Nat × Bytes) => s.length - k) ((0, []) : Nat × Bytes) ?_ ⟨rfl, rfl, rfl, rfl, rfl, trivial⟩ (fun _ h => h) ?_
  · show (0 ≤ s.length) ∧ ([] = R47.hex (s.take 0)) ∧ ([].length = 2 * 0)
    refine ⟨?_, ?_, ?_⟩
    · first | rfl | omega | (simp_all; done) | (simp_all; omega)
    · rfl
    · rfl
  rintro ⟨k, out⟩ hI1
  obtain ⟨i1_0, i1_1, i1_2⟩ : (k ≤ s.length) ∧ (out = R47.hex (s.take k)) ∧ (out.length = 2 * k) := hI1
  have hd1 := R47.div16 (s.getD k 0)
  have hd2 := R47.div16s (s.getD k 0)
  have hd3 := R47.mod16 (s.getD k 0)
  have hd4 := R47.mod16s (s.getD k 0)
  have hd5 := (s.getD k 0).toNat_lt
  have hd6 := congrArg List.length (R47.hexc (s.getD k 0))
  have hd7 := congrArg List.length (R47.hexd (s.getD k 0))
  simp only [List.length_cons, List.length_nil] at hd6 hd7
  refine J_weaken (E' := [(0, vS s), (2, vS []), (3, vS [48, 49, 50, 51, 52, 53, 54, 55, 56, 57, 97, 98, 99, 100, 101, 102]), (4, vS out), (5, vI ((k : Nat) : Int))]) (L' := []) ⟨rfl, rfl, rfl, rfl, rfl, trivial⟩ (fun _ h => h) ?_
  refine J_seq ?_
  refine J_seq ?_
  refine J_region ?_
  refine JO_read (vI ((k : Nat) : Int)) rfl trivial (fun _ _ => rfl) ?_
  refine JO_read (vS s) rfl trivial (fun _ _ => rfl) ?_
  refine JO_read (vI ((s.length : Nat) : Int)) rfl trivial (fun _ _ => x_len_s rfl Tryd.underlying9) ?_
  refine JO_read (vB (decide (((k : Nat) : Int) < ((s.length : Nat) : Int)))) rfl trivial (fun _ _ => x_lss_i rfl rfl) ?_
  refine JO_nil ?_
  refine JX_then ?_
  refine J_cond (decide (((k : Nat) : Int) < ((s.length : Nat) : Int))) rfl rfl (fun h1 => ?_) (fun h1 => ?_)
  · have h1 := of_decide_eq_true h1
    refine J_skip ?_
    refine JX_then ?_
    refine J_seq ?_
    refine J_block ?_
    refine J_draw [] [] [] 26 Ty.mixed rfl ?_
    refine JA_take 0 (vS out) rfl (by kernel_rfl) (by kernel_rfl) (by kernel_rfl) rfl (fun _ _ _ h => h) rfl trivial (fun _ _ => rfl) ?_
    refine JA_take 1 (vS [48, 49, 50, 51, 52, 53, 54, 55, 56, 57, 97, 98, 99, 100, 101, 102]) rfl (by kernel_rfl) (by kernel_rfl) (by kernel_rfl) rfl (fun _ _ _ h => h) rfl trivial (fun _ _ => rfl) ?_
    refine JA_take 2 (vS s) rfl (by kernel_rfl) (by kernel_rfl) (by kernel_rfl) rfl (fun _ _ _ h => h) rfl trivial (fun _ _ => rfl) ?_
    refine JA_take 3 (vI ((k : Nat) : Int)) rfl (by kernel_rfl) (by kernel_rfl) (by kernel_rfl) rfl (fun _ _ _ h => h) rfl trivial (fun _ _ => rfl) ?_
    refine JA_take 4 (vU8 (s.getD k 0)) rfl (by kernel_rfl) (by kernel_rfl) (by kernel_rfl) rfl (fun _ _ _ h => h) rfl trivial (fun _ _ => x_idx_s (k := k) rfl rfl Tryd.underlying9 (by omega)) ?_
    refine JA_take 5 (vU8 ((s.getD k 0) / 16)) rfl (by kernel_rfl) (by kernel_rfl) (by kernel_rfl) rfl (fun _ _ _ h => h) rfl trivial (fun _ _ => x_quo_u8 rfl rfl (by decide)) ?_
    refine JA_take 6 (vS s) rfl (by kernel_rfl) (by kernel_rfl) (by kernel_rfl) rfl (fun _ _ _ h => h) rfl trivial (fun _ _ => rfl) ?_
    refine JA_take 7 (vI ((k : Nat) : Int)) rfl (by kernel_rfl) (by kernel_rfl) (by kernel_rfl) rfl (fun _ _ _ h => h) rfl trivial (fun _ _ => rfl) ?_
    refine JA_take 8 (vU8 (s.getD k 0)) rfl (by kernel_rfl) (by kernel_rfl) (by kernel_rfl) rfl (fun _ _ _ h => h) rfl trivial (fun _ _ => x_idx_s (k := k) rfl rfl Tryd.underlying9 (by omega)) ?_
    refine JA_take 9 (vU8 ((s.getD k 0) / 16)) rfl (by kernel_rfl) (by kernel_rfl) (by kernel_rfl) rfl (fun _ _ _ h => h) rfl trivial (fun _ _ => x_quo_u8 rfl rfl (by decide)) ?_
    refine JA_take 10 (vU8 (((s.getD k 0) / 16) + 1)) rfl (by kernel_rfl) (by kernel_rfl) (by kernel_rfl) rfl (fun _ _ _ h => h) rfl trivial (fun _ _ => x_add_u8 rfl rfl) ?_
    refine JA_take 11 (vS (sub [48, 49, 50, 51, 52, 53, 54, 55, 56, 57, 97, 98, 99, 100, 101, 102] ((s.getD k 0) / 16).toNat (((s.getD k 0) / 16) + 1).toNat)) rfl (by kernel_rfl) (by kernel_rfl) (by kernel_rfl) rfl (fun _ _ _ h => h) rfl trivial (fun _ _ => x_sub_k (lo := ((s.getD k 0) / 16).toNat) (hi := (((s.getD k 0) / 16) + 1).toNat) rfl Tryd.underlying9 rfl rfl (by first | omega | (simp only [List.length_cons, List.length_nil]; omega) | exact R47.shr4_lt _ | exact R47.and15_lt _ | (rw [R47.div16, R47.div16s]; omega) | (rw [R47.mod16, R47.mod16s]; omega) | (rw [R47.div16s]; have := UInt8.toNat_lt (by assumption); simp; omega) | (rw [R47.mod16s]; simp; omega) | (simp; omega)) (by first | omega | (simp only [List.length_cons, List.length_nil]; omega) | exact R47.shr4_lt _ | exact R47.and15_lt _ | (rw [R47.div16, R47.div16s]; omega) | (rw [R47.mod16, R47.mod16s]; omega) | (rw [R47.div16s]; have := UInt8.toNat_lt (by assumption); simp; omega) | (rw [R47.mod16s]; simp; omega) | (simp; omega))) ?_
    refine JA_take 12 (vS (out ++ (sub [48, 49, 50, 51, 52, 53, 54, 55, 56, 57, 97, 98, 99, 100, 101, 102] ((s.getD k 0) / 16).toNat (((s.getD k 0) / 16) + 1).toNat))) rfl (by kernel_rfl) (by kernel_rfl) (by kernel_rfl) rfl (fun _ _ _ h => h) rfl trivial (fun _ _ => x_cat_s rfl rfl (by first | omega | (simp only [List.length_append, List.length_cons, List.length_nil]; omega) | (simp; omega) | (simp_all; omega))) ?_
    refine JA_take 13 (vS [48, 49, 50, 51, 52, 53, 54, 55, 56, 57, 97, 98, 99, 100, 101, 102]) rfl (by kernel_rfl) (by kernel_rfl) (by kernel_rfl) rfl (fun _ _ _ h => h) rfl trivial (fun _ _ => rfl) ?_
    refine JA_take 14 (vS s) rfl (by kernel_rfl) (by kernel_rfl) (by kernel_rfl) rfl (fun _ _ _ h => h) rfl trivial (fun _ _ => rfl) ?_
    refine JA_take 15 (vI ((k : Nat) : Int)) rfl (by kernel_rfl) (by kernel_rfl) (by kernel_rfl) rfl (fun _ _ _ h => h) rfl trivial (fun _ _ => rfl) ?_
    refine JA_take 16 (vU8 (s.getD k 0)) rfl (by kernel_rfl) (by kernel_rfl) (by kernel_rfl) rfl (fun _ _ _ h => h) rfl trivial (fun _ _ => x_idx_s (k := k) rfl rfl Tryd.underlying9 (by omega)) ?_
    refine JA_take 17 (vU8 ((s.getD k 0) % 16)) rfl (by kernel_rfl) (by kernel_rfl) (by kernel_rfl) rfl (fun _ _ _ h => h) rfl trivial (fun _ _ => x_rem_u8 rfl rfl (by decide)) ?_
    refine JA_take 18 (vS s) rfl (by kernel_rfl) (by kernel_rfl) (by kernel_rfl) rfl (fun _ _ _ h => h) rfl trivial (fun _ _ => rfl) ?_
    refine JA_take 19 (vI ((k : Nat) : Int)) rfl (by kernel_rfl) (by kernel_rfl) (by kernel_rfl) rfl (fun _ _ _ h => h) rfl trivial (fun _ _ => rfl) ?_
    refine JA_take 20 (vU8 (s.getD k 0)) rfl (by kernel_rfl) (by kernel_rfl) (by kernel_rfl) rfl (fun _ _ _ h => h) rfl trivial (fun _ _ => x_idx_s (k := k) rfl rfl Tryd.underlying9 (by omega)) ?_
    refine JA_take 21 (vU8 ((s.getD k 0) % 16)) rfl (by kernel_rfl) (by kernel_rfl) (by kernel_rfl) rfl (fun _ _ _ h => h) rfl trivial (fun _ _ => x_rem_u8 rfl rfl (by decide)) ?_
    refine JA_take 22 (vU8 (((s.getD k 0) % 16) + 1)) rfl (by kernel_rfl) (by kernel_rfl) (by kernel_rfl) rfl (fun _ _ _ h => h) rfl trivial (fun _ _ => x_add_u8 rfl rfl) ?_
    refine JA_take 23 (vS (sub [48, 49, 50, 51, 52, 53, 54, 55, 56, 57, 97, 98, 99, 100, 101, 102] ((s.getD k 0) % 16).toNat (((s.getD k 0) % 16) + 1).toNat)) rfl (by kernel_rfl) (by kernel_rfl) (by kernel_rfl) rfl (fun _ _ _ h => h) rfl trivial (fun _ _ => x_sub_k (lo := ((s.getD k 0) % 16).toNat) (hi := (((s.getD k 0) % 16) + 1).toNat) rfl Tryd.underlying9 rfl rfl (by first | omega | (simp only [List.length_cons, List.length_nil]; omega) | exact R47.shr4_lt _ | exact R47.and15_lt _ | (rw [R47.div16, R47.div16s]; omega) | (rw [R47.mod16, R47.mod16s]; omega) | (rw [R47.div16s]; have := UInt8.toNat_lt (by assumption); simp; omega) | (rw [R47.mod16s]; simp; omega) | (simp; omega)) (by first | omega | (simp only [List.length_cons, List.length_nil]; omega) | exact R47.shr4_lt _ | exact R47.and15_lt _ | (rw [R47.div16, R47.div16s]; omega) | (rw [R47.mod16, R47.mod16s]; omega) | (rw [R47.div16s]; have := UInt8.toNat_lt (by assumption); simp; omega) | (rw [R47.mod16s]; simp; omega) | (simp; omega))) ?_
    refine JA_take 24 (vS ((out ++ (sub [48, 49, 50, 51, 52, 53, 54, 55, 56, 57, 97, 98, 99, 100, 101, 102] ((s.getD k 0) / 16).toNat (((s.getD k 0) / 16) + 1).toNat)) ++ (sub [48, 49, 50, 51, 52, 53, 54, 55, 56, 57, 97, 98, 99, 100, 101, 102] ((s.getD k 0) % 16).toNat (((s.getD k 0) % 16) + 1).toNat))) rfl (by kernel_rfl) (by kernel_rfl) (by kernel_rfl) rfl (fun _ _ _ h => h) rfl trivial (fun _ _ => x_cat_s rfl rfl (by first | omega | (simp only [List.length_append, List.length_cons, List.length_nil]; omega) | (simp; omega) | (simp_all; omega))) ?_
    refine JA_take 25 (vS ((out ++ (sub [48, 49, 50, 51, 52, 53, 54, 55, 56, 57, 97, 98, 99, 100, 101, 102] ((s.getD k 0) / 16).toNat (((s.getD k 0) / 16) + 1).toNat)) ++ (sub [48, 49, 50, 51, 52, 53, 54, 55, 56, 57, 97, 98, 99, 100, 101, 102] ((s.getD k 0) % 16).toNat (((s.getD k 0) % 16) + 1).toNat))) rfl (by kernel_rfl) (by kernel_rfl) (by kernel_rfl) rfl (fun _ _ _ h => h) rfl trivial (fun _ _ => rfl) ?_
    refine JA_done (by kernel_rfl) (fun _ h => ⟨h, fun _ => h⟩) ?_
    refine JX_block ?_
    refine JX_then ?_
    refine J_region ?_
    refine JO_read (vI ((k : Nat) : Int)) rfl trivial (fun _ _ => rfl) ?_
    refine JO_read (vI ((k + 1 : Nat) : Int)) rfl trivial (fun _ _ => x_add_n (a := k) (b := 1) rfl rfl (by omega)) ?_
    refine JO_read (vI ((k + 1 : Nat) : Int)) rfl trivial (fun _ _ => rfl) ?_
    refine JO_nil ?_
    refine JX_round ((k + 1, (out ++ (sub [48, 49, 50, 51, 52, 53, 54, 55, 56, 57, 97, 98, 99, 100, 101, 102] ((s.getD k 0) / 16).toNat (((s.getD k 0) / 16) + 1).toNat)) ++ (sub [48, 49, 50, 51, 52, 53, 54, 55, 56, 57, 97, 98, 99, 100, 101, 102] ((s.getD k 0) % 16).toNat (((s.getD k 0) % 16) + 1).toNat)) : Nat × Bytes) ?_ ?_ ⟨rfl, rfl, rfl, rfl, rfl, trivial⟩ (fun _ h => h)
    · show ((k + 1) ≤ s.length) ∧ (((out ++ (sub [48, 49, 50, 51, 52, 53, 54, 55, 56, 57, 97, 98, 99, 100, 101, 102] ((s.getD k 0) / 16).toNat (((s.getD k 0) / 16) + 1).toNat)) ++ (sub [48, 49, 50, 51, 52, 53, 54, 55, 56, 57, 97, 98, 99, 100, 101, 102] ((s.getD k 0) % 16).toNat (((s.getD k 0) % 16) + 1).toNat)) = R47.hex (s.take (k + 1))) ∧ (((out ++ (sub [48, 49, 50, 51, 52, 53, 54, 55, 56, 57, 97, 98, 99, 100, 101, 102] ((s.getD k 0) / 16).toNat (((s.getD k 0) / 16) + 1).toNat)) ++ (sub [48, 49, 50, 51, 52, 53, 54, 55, 56, 57, 97, 98, 99, 100, 101, 102] ((s.getD k 0) % 16).toNat (((s.getD k 0) % 16) + 1).toNat)).length = 2 * (k + 1))
      refine ⟨?_, ?_, ?_⟩
      · first | rfl | omega | (simp_all; done) | (simp_all; omega)
      · rw [R47.hex_step (by omega), i1_1, R47.hexc, R47.hexd, List.append_assoc]; rfl
      · rw [R47.hexc, R47.hexd, List.length_append, List.length_append, i1_2]; rfl
    · show s.length - (k + 1) < s.length - k
      first | omega | (simp; omega) | (simp_all; omega)
  · have h1 := of_decide_eq_false h1
    refine J_exit ?_
    refine JX_then_exit ?_
    refine JX_round_exit ?_
    refine JX_block_hit ?_
    refine JX_then ?_
    refine J_seq ?_
    refine J_region ?_
    refine JO_read (vS out) rfl trivial (fun _ _ => rfl) ?_
    refine JO_read (vS out) rfl trivial (fun _ _ => rfl) ?_
    refine JO_nil ?_
    refine JX_then ?_
    refine J_ret ?_
    refine JX_rets [vS out] (vS out) Tryd.results40 (fun w h => ⟨rfl, trivial⟩) rfl [] (fun _ h => h) ⟨?_, ?_⟩
    · have e_x0 : (out : Bytes) = (R47.hex s) := by
        rw [i1_1, show k = s.length by omega, List.take_length]
      exact congrArg (fun (x0 : Bytes) => vS x0) e_x0
    · rfl

set_option maxRecDepth 20000 in
theorem f39_ok_aux (m : Nat) : ∀ (n : Int) (w : World) (q0 : 0 ≤ n) (q1 : n ≤ 9223372036854775807), n.toNat < m → Calls Tryd.prog 39 #[vI n] w (Gives [] w fun v L => v = vS (Lib.decDigits n.toNat) ∧ L = []) := by
  induction m with
  | zero => intro n w q0 q1 hm; omega
  | succ m ih =>
    intro n w q0 q1 hm
    refine calls_J [] 18 Tryd.func39 rfl Tryd.ntmps39 [(0, vI n)] rfl rfl (Give.nil w) ?_
    refine J_seq ?_
    refine J_region ?_
    refine JO_read (vS []) rfl trivial (fun _ _ => rfl) ?_
    refine JO_nil ?_
    refine JX_then ?_
    refine J_seq ?_
    refine J_region ?_
    refine JO_read (vI n) rfl trivial (fun _ _ => rfl) ?_
    refine JO_read (vI (n % 10)) rfl trivial (fun _ _ => x_rem_i (a := n) (b := 10) rfl rfl (by omega) (by omega)) ?_
    refine JO_read (vI (48 + (n % 10))) rfl trivial (fun _ _ => x_add_i (a := 48) (b := n % 10) rfl rfl (by omega) (by omega)) ?_
    refine JO_read (vU8 (UInt8.ofInt (48 + (n % 10)))) rfl trivial (fun _ _ => x_conv_i64_u8 (a := 48 + (n % 10)) rfl Tryd.underlying3 Tryd.underlying5) ?_
    refine JO_op rfl trivial (O_buildSlice (cs := [vU8 (UInt8.ofInt (48 + (n % 10)))]) Tryd.underlying74 Ty.sz5 Ty.ze5 (by decide) (by decide) (by kernel_rfl) fun b1 => ?_)
    refine JO_read (vS [UInt8.ofInt (48 + (n % 10))]) rfl trivial (x_str_blk 0 (l := [UInt8.ofInt (48 + (n % 10))]) rfl Tryd.underlying74 Tryd.underlying5 Tryd.underlying9 rfl rfl rfl) ?_
    refine JO_read (vS [UInt8.ofInt (48 + (n % 10))]) rfl trivial (fun _ _ => rfl) ?_
    refine JO_nil ?_
    refine JX_then ?_
    refine J_seq ?_
    refine J_seq ?_
    refine J_region ?_
    refine JO_read (vI n) rfl trivial (fun _ _ => rfl) ?_
    refine JO_read (vB (decide ((10 : Int) ≤ n))) rfl trivial (fun _ _ => x_geq_i rfl rfl) ?_
    refine JO_nil ?_
    refine JX_then ?_
    refine J_cond (decide ((10 : Int) ≤ n)) rfl rfl (fun h2 => ?_) (fun h2 => ?_)
    · have h2 := of_decide_eq_true h2
      refine J_region ?_
      refine JO_read (vI n) rfl trivial (fun _ _ => rfl) ?_
      refine JO_read (vI (n / 10)) rfl trivial (fun _ _ => x_quo_i (a := n) (b := 10) rfl rfl (by omega) (by omega) (by omega)) ?_
      refine JO_call [] [] [Ent.blk b1 5 [vU8 (UInt8.ofInt (48 + (n % 10)))]] rfl trivial (fun _ => x_call Ty.ca39 rfl) (fun _ h => h) (fun _ h => by cases h) (fun w hS => ih (n / 10) w hy_ hy_ (by omega)) ?_
      rintro _ _ ⟨rfl, rfl⟩
      have ha3 := R47.dec_len (n / 10) (by omega)
      refine JO_read (vS [UInt8.ofInt (48 + (n % 10))]) rfl trivial (fun _ _ => rfl) ?_
      refine JO_read (vS ((Lib.decDigits (n / 10).toNat) ++ [UInt8.ofInt (48 + (n % 10))])) rfl trivial (fun _ _ => x_cat_s rfl rfl (by first | omega | (simp only [List.length_append, List.length_cons, List.length_nil]; omega) | (simp; omega) | (simp_all; omega))) ?_
      refine JO_read (vS ((Lib.decDigits (n / 10).toNat) ++ [UInt8.ofInt (48 + (n % 10))])) rfl trivial (fun _ _ => rfl) ?_
      refine JO_nil ?_
      refine JX_then ?_
      refine J_seq ?_
      refine J_region ?_
      refine JO_read (vS ((Lib.decDigits (n / 10).toNat) ++ [UInt8.ofInt (48 + (n % 10))])) rfl trivial (fun _ _ => rfl) ?_
      refine JO_read (vS ((Lib.decDigits (n / 10).toNat) ++ [UInt8.ofInt (48 + (n % 10))])) rfl trivial (fun _ _ => rfl) ?_
      refine JO_nil ?_
      refine JX_then ?_
      refine J_ret ?_
      refine JX_rets [vS ((Lib.decDigits (n / 10).toNat) ++ [UInt8.ofInt (48 + (n % 10))])] (vS ((Lib.decDigits (n / 10).toNat) ++ [UInt8.ofInt (48 + (n % 10))])) Tryd.results39 (fun w h => ⟨rfl, trivial⟩) rfl [] (fun _ h => h.keep [false] rfl) ⟨?_, ?_⟩
      · have e_x0 : ((Lib.decDigits (n / 10).toNat) ++ [UInt8.ofInt (48 + (n % 10))] : Bytes) = (Lib.decDigits n.toNat) := by
          first | exact R47.deci_small (by omega) (by omega) | exact R47.deci_big (by omega) (by omega)
        exact congrArg (fun (x0 : Bytes) => vS x0) e_x0
      · rfl
    · have h2 := of_decide_eq_false h2
      refine J_skip ?_
      refine JX_then ?_
      refine J_seq ?_
      refine J_region ?_
      refine JO_read (vS [UInt8.ofInt (48 + (n % 10))]) rfl trivial (fun _ _ => rfl) ?_
      refine JO_read (vS [UInt8.ofInt (48 + (n % 10))]) rfl trivial (fun _ _ => rfl) ?_
      refine JO_nil ?_
      refine JX_then ?_
      refine J_ret ?_
      refine JX_rets [vS [UInt8.ofInt (48 + (n % 10))]] (vS [UInt8.ofInt (48 + (n % 10))]) Tryd.results39 (fun w h => ⟨rfl, trivial⟩) rfl [] (fun _ h => h.keep [false] rfl) ⟨?_, ?_⟩
      · have e_x0 : ([UInt8.ofInt (48 + (n % 10))] : Bytes) = (Lib.decDigits n.toNat) := by
          first | exact R47.deci_small (by omega) (by omega) | exact R47.deci_big (by omega) (by omega)
        exact congrArg (fun (x0 : Bytes) => vS x0) e_x0
      · rfl
theorem f39_ok (n : Int) (w : World) (q0 : 0 ≤ n) (q1 : n ≤ 9223372036854775807) : Calls Tryd.prog 39 #[vI n] w (Gives [] w fun v L => v = vS (Lib.decDigits n.toNat) ∧ L = []) :=
  f39_ok_aux (n.toNat + 1) n w q0 q1 (Nat.lt_succ_self _)

set_option maxRecDepth 20000 in
theorem f53_ok (c : Change) (w : World) (hT : Tab [] w) (q0 : c.Record.length ≤ 1073741824) : Calls Tryd.prog 53 #[Value.agg ((Change.enc c)).toArray] w (Gives [] w fun v L => v = vS (Lib.decDigits c.Record.length) ∧ L = []) := by
  refine calls_J [] 7 Tryd.func53 rfl Tryd.ntmps53 [(0, Value.agg ((Change.enc c)).toArray)] rfl rfl (Give.nil w) ?_
  refine J_seq ?_
  refine J_region ?_
  refine JO_op rfl trivial (O_box rfl rfl fun b1 => ?_)
  refine JO_read (vS []) rfl trivial (fun _ _ => rfl) ?_
  refine JO_nil ?_
  refine JX_then ?_
  refine J_seq ?_
  refine J_region ?_
  refine JO_read (Value.pointer (some ⟨b1, 3, none⟩)) rfl trivial (fun _ _ => x_fieldAddr Ty.fi23_3 rfl rfl) ?_
  refine JO_read (vS c.Record) rfl trivial (x_load 0 rfl rfl Ty.sc9 rfl) ?_
  refine JO_read (vI ((c.Record.length : Nat) : Int)) rfl trivial (fun _ _ => x_len_s rfl Tryd.underlying9) ?_
  refine JO_call [] [] [Ent.blk b1 23 (Change.enc c)] rfl trivial (fun _ => x_call Ty.ca38 rfl) (fun _ h => h) (fun _ h => by cases h) (fun w hS => itoa_ok ((c.Record.length : Nat) : Int) w (hT.on hS (fun _ h => by cases h)) hy_ hy_) ?_
  rintro _ _ ⟨rfl, rfl⟩
  have ha2 := R47.dec_len ((c.Record.length : Nat) : Int) (by omega)
  refine JO_read (vS (Lib.decDigits ((c.Record.length : Nat) : Int).toNat)) rfl trivial (fun _ _ => rfl) ?_
  refine JO_nil ?_
  refine JX_then ?_
  refine J_ret ?_
  refine JX_rets [vS (Lib.decDigits ((c.Record.length : Nat) : Int).toNat)] (vS (Lib.decDigits ((c.Record.length : Nat) : Int).toNat)) Tryd.results53 (fun w h => ⟨rfl, trivial⟩) rfl [] (fun _ h => h.keep [false] rfl) ⟨?_, ?_⟩
  · have e_x0 : (Lib.decDigits ((c.Record.length : Nat) : Int).toNat : Bytes) = (Lib.decDigits c.Record.length) := by
      first | rfl | omega | (simp_all; done) | (simp_all; omega)
    exact congrArg (fun (x0 : Bytes) => vS x0) e_x0
  · rfl

set_option maxRecDepth 20000 in
theorem f54_ok (c : Change) (w : World) : Calls Tryd.prog 54 #[Value.agg ((Change.enc c)).toArray] w (Gives [] w fun v L => v = vS c.Volume ∧ L = []) := by
  refine calls_J [] 5 Tryd.func54 rfl Tryd.ntmps54 [(0, Value.agg ((Change.enc c)).toArray)] rfl rfl (Give.nil w) ?_
  refine J_seq ?_
  refine J_region ?_
  refine JO_op rfl trivial (O_box rfl rfl fun b1 => ?_)
  refine JO_read (vS []) rfl trivial (fun _ _ => rfl) ?_
  refine JO_nil ?_
  refine JX_then ?_
  refine J_seq ?_
  refine J_region ?_
  refine JO_read (Value.pointer (some ⟨b1, 4, none⟩)) rfl trivial (fun _ _ => x_fieldAddr Ty.fi23_4 rfl rfl) ?_
  refine JO_read (vS c.Volume) rfl trivial (x_load 0 rfl rfl Ty.sc9 rfl) ?_
  refine JO_read (vS c.Volume) rfl trivial (fun _ _ => rfl) ?_
  refine JO_nil ?_
  refine JX_then ?_
  refine J_ret ?_
  refine JX_rets [vS c.Volume] (vS c.Volume) Tryd.results54 (fun w h => ⟨rfl, trivial⟩) rfl [] (fun _ h => h.keep [false] rfl) ⟨?_, ?_⟩
  · rfl
  · rfl

set_option maxRecDepth 20000 in
theorem f55_ok (c : Change) (b : Nat) (w : World) (hT : Tab [b] w) (q0 : c.Record.length ≤ 1073741824) (q1 : c.Key.length ≤ 1073741824) (hg : Give [b] w [Ent.blk b 26 [Value.func (.func 53) #[] #[]]]) : Calls Tryd.prog 55 #[Value.agg ((Change.enc c)).toArray, Value.pointer (some ⟨b, 0, none⟩)] w (Gives [b] w fun v L => v = vS (R47.hex c.Key ++ [32] ++ Lib.decDigits c.Record.length) ∧ L = [Ent.blk b 26 [Value.func (.func 53) #[] #[]]]) := by
  refine calls_J [b] 12 Tryd.func55 rfl Tryd.ntmps55 [(0, Value.agg ((Change.enc c)).toArray), (1, Value.pointer (some ⟨b, 0, none⟩))] rfl rfl hg ?_
  refine J_seq ?_
  refine J_region ?_
  refine JO_op rfl trivial (O_box rfl rfl fun b1 => ?_)
  refine JO_read (vS []) rfl trivial (fun _ _ => rfl) ?_
  refine JO_nil ?_
  refine JX_then ?_
  refine J_seq ?_
  refine J_draw [] [6] [Ent.blk b1 23 (Change.enc c), Ent.blk b 26 [Value.func (.func 53) #[] #[]]] 9 Ty.mixed rfl ?_
  refine JA_take 0 (Value.pointer (some ⟨b1, 2, none⟩)) rfl (by kernel_rfl) (by kernel_rfl) (by kernel_rfl) rfl (fun _ _ _ h => h) rfl trivial (fun _ _ => x_fieldAddr Ty.fi23_2 rfl rfl) ?_
  refine JA_early 4 (Value.func (.func 53) #[] #[]) rfl (by kernel_rfl) (by kernel_rfl) (by kernel_rfl) rfl (by kernel_rfl) (fun _ _ _ h => h) rfl trivial (x_load 1 rfl rfl Ty.sc26 rfl) ?_
  refine JA_early 5 (Value.agg ((Change.enc c)).toArray) rfl (by kernel_rfl) (by kernel_rfl) (by kernel_rfl) rfl (by kernel_rfl) (fun _ _ _ h => h) rfl trivial (x_loadN 0 (Change.enc c) rfl rfl Ty.ag23 Ty.sz23 rfl) ?_
  refine JA_one 1 (by kernel_rfl) (fun _ h => ⟨h.keep [false, false] rfl, fun _ => h⟩) ?_
  refine JI_read (vS c.Key) rfl rfl trivial (x_load 0 rfl rfl Ty.sc9 rfl) ?_
  refine JA_one 2 (by kernel_rfl) (fun _ h => ⟨h.keep [false, false] rfl, fun _ => h⟩) ?_
  refine JI_call [] [] [Ent.blk b1 23 (Change.enc c), Ent.blk b 26 [Value.func (.func 53) #[] #[]]] rfl rfl trivial (fun _ => x_call Ty.ca56 rfl) (fun _ h => h) (fun _ h => by cases h) (fun w hS => f56_ok c.Key w hy_) ?_
  rintro _ _ ⟨rfl, rfl⟩
  have ha2 := R47.hex_length c.Key
  refine JA_take 3 (vS ((R47.hex c.Key) ++ [32])) rfl (by kernel_rfl) (by kernel_rfl) (by kernel_rfl) rfl (fun _ _ _ h => h) rfl trivial (fun _ _ => x_cat_s rfl rfl (by first | omega | (simp only [List.length_append, List.length_cons, List.length_nil]; omega) | (simp; omega) | (simp_all; omega))) ?_
  refine JA_one 6 (by kernel_rfl) (fun _ h => ⟨h.keep [false, false] rfl, fun _ => h⟩) ?_
  refine JI_call [] [] [Ent.blk b1 23 (Change.enc c), Ent.blk b 26 [Value.func (.func 53) #[] #[]]] rfl rfl trivial (fun _ => x_callv (first := []) (caps := []) rfl Ty.ca53 rfl) (fun _ h => h) (fun _ h => by cases h) (fun w hS => f53_ok c w (hT.on hS (fun _ h => by cases h)) hy_) ?_
  rintro _ _ ⟨rfl, rfl⟩
  have ha3 := R47.dec_lenN c.Record.length (by omega)
  refine JA_take 7 (vS (((R47.hex c.Key) ++ [32]) ++ (Lib.decDigits c.Record.length))) rfl (by kernel_rfl) (by kernel_rfl) (by kernel_rfl) rfl (fun _ _ _ h => h) rfl trivial (fun _ _ => x_cat_s rfl rfl (by first | omega | (simp only [List.length_append, List.length_cons, List.length_nil]; omega) | (simp; omega) | (simp_all; omega))) ?_
  refine JA_take 8 (vS (((R47.hex c.Key) ++ [32]) ++ (Lib.decDigits c.Record.length))) rfl (by kernel_rfl) (by kernel_rfl) (by kernel_rfl) rfl (fun _ _ _ h => h) rfl trivial (fun _ _ => rfl) ?_
  refine JA_done (by kernel_rfl) (fun _ h => ⟨h.keep [false, false] rfl, fun hh => Bool.noConfusion (show false = true from hh)⟩) ?_
  refine JX_then ?_
  refine J_ret ?_
  refine JX_rets [vS (((R47.hex c.Key) ++ [32]) ++ (Lib.decDigits c.Record.length))] (vS (((R47.hex c.Key) ++ [32]) ++ (Lib.decDigits c.Record.length))) Tryd.results55 (fun w h => ⟨rfl, trivial⟩) rfl [Ent.blk b 26 [Value.func (.func 53) #[] #[]]] (fun _ h => h.keep [false, true] rfl) ⟨?_, ?_⟩
  · have e_x0 : (((R47.hex c.Key) ++ [32]) ++ (Lib.decDigits c.Record.length) : Bytes) = (R47.hex c.Key ++ [32] ++ Lib.decDigits c.Record.length) := by
      first | rfl | omega | (simp_all; done) | (simp_all; omega)
    exact congrArg (fun (x0 : Bytes) => vS x0) e_x0
  · rfl

set_option maxRecDepth 20000 in
theorem f57_ok (c : Change) (w : World) (q0 : c.Key.length ≤ 1073741824) : Calls Tryd.prog 57 #[Value.agg ((Change.enc c)).toArray] w (Gives [] w fun v L => v = vS (R47.hex c.Key) ∧ L = []) := by
  refine calls_J [] 6 Tryd.func57 rfl Tryd.ntmps57 [(0, Value.agg ((Change.enc c)).toArray)] rfl rfl (Give.nil w) ?_
  refine J_seq ?_
  refine J_region ?_
  refine JO_op rfl trivial (O_box rfl rfl fun b1 => ?_)
  refine JO_read (vS []) rfl trivial (fun _ _ => rfl) ?_
  refine JO_nil ?_
  refine JX_then ?_
  refine J_seq ?_
  refine J_region ?_
  refine JO_read (Value.pointer (some ⟨b1, 2, none⟩)) rfl trivial (fun _ _ => x_fieldAddr Ty.fi23_2 rfl rfl) ?_
  refine JO_read (vS c.Key) rfl trivial (x_load 0 rfl rfl Ty.sc9 rfl) ?_
  refine JO_call [] [] [Ent.blk b1 23 (Change.enc c)] rfl trivial (fun _ => x_call Ty.ca56 rfl) (fun _ h => h) (fun _ h => by cases h) (fun w hS => f56_ok c.Key w hy_) ?_
  rintro _ _ ⟨rfl, rfl⟩
  have ha2 := R47.hex_length c.Key
  refine JO_read (vS (R47.hex c.Key)) rfl trivial (fun _ _ => rfl) ?_
  refine JO_nil ?_
  refine JX_then ?_
  refine J_ret ?_
  refine JX_rets [vS (R47.hex c.Key)] (vS (R47.hex c.Key)) Tryd.results57 (fun w h => ⟨rfl, trivial⟩) rfl [] (fun _ h => h.keep [false] rfl) ⟨?_, ?_⟩
  · rfl
  · rfl

end Go.Proofs.YtknibpmmjhmjeaaDoor
