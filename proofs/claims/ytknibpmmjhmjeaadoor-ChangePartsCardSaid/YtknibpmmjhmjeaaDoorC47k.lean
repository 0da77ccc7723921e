/- contracts C47k -/
import Derived.Test.YtknibpmmjhmjeaaDoorC47i
import Derived.Test.YtknibpmmjhmjeaaDoorPl47d
namespace Go.Proofs.YtknibpmmjhmjeaaDoor
open Go.GV
set_option linter.unusedVariables false
set_option linter.unusedSimpArgs false

set_option maxHeartbeats 4000000 in
set_option maxRecDepth 20000 in
theorem f52_ok (l : List Int) (lA : Option Addr) (lC : Nat) (w : World) (lR : RO [] w lA (l.map vI)) (q0 : l.length ≤ 1000) : Calls Tryd.prog 52 #[Value.slice lA l.length lC] w (Gives [] w fun v L => ∃ A : Option Addr, ∃ c : Nat, v = Value.slice A ((OrdI.insl l).length) c ∧ L = [Ent.row (.slice A (OrdI.insl l).length c) 3 1 (OrdI.insl l).length ((OrdI.insl l).map vI)]) := by
  refine calls_J [] 61 Tryd.func52 rfl Tryd.ntmps52 [(0, Value.slice lA l.length lC)] rfl rfl (Give.nil w) ?_
  refine J_seq ?_
  refine J_region ?_
  refine JO_read (Value.slice none 0 0) rfl trivial (fun _ _ => rfl) ?_
  refine JO_nil ?_
  refine JX_then ?_
  refine J_seq ?_
  refine J_region ?_
  refine JO_op rfl trivial (O_buildSlice0 Tryd.underlying48 Ty.sz3 fun b1 => ?_)
  refine JO_read (Value.slice (some ⟨b1, 0, none⟩) 0 0) rfl trivial (fun _ _ => rfl) ?_
  refine JO_nil ?_
  refine JX_then ?_
  refine J_seq ?_
  refine J_seq ?_
  refine J_region ?_
  refine JO_read (vI 0) rfl trivial (fun _ _ => rfl) ?_
  refine JO_nil ?_
  refine JX_then ?_
  refine J_block ?_
  refine J_loop (X := Nat × (List Int) × (Option Addr) × Nat) (fun (⟨i, out, outA, outC⟩ : Nat × (List Int) × (Option Addr) × Nat) => (i ≤ l.length) ∧ (out = OrdI.insl (l.take i)) ∧ (out.length ≤ i)) (fun (⟨i, out, outA, outC⟩ : Nat × (List Int) × (Option Addr) × Nat) => [(0, Value.slice lA l.length lC), (2, Value.slice none 0 0), (3, Value.slice outA out.length outC), (4, vI ((i : Nat) : Int))]) (fun (⟨i, out, outA, outC⟩ : Nat × (List Int) × (Option Addr) × Nat) => [Ent.row (.slice outA out.length outC) 3 1 out.length (out.map vI)]) (fun (⟨i, out, outA, outC⟩ : Nat × (List Int) × (Option Addr) × Nat) => l.length - i) ((0, ([] : List Int), (some ⟨b1, 0, none⟩), 0) : Nat × (List Int) × (Option Addr) × Nat) ?_ ⟨rfl, rfl, rfl, rfl, trivial⟩ (fun _ h => (St.torow (cs := []) h 1 0 rfl (by decide)).keep [true] rfl) ?_
  · show (0 ≤ l.length) ∧ (([] : List Int) = OrdI.insl (l.take 0)) ∧ (([] : List Int).length ≤ 0)
    refine ⟨?_, ?_, ?_⟩
    · first | rfl | omega | (simp_all; done) | (simp_all; omega)
    · rfl
    · exact Nat.le_refl _
  rintro ⟨i, out, outA, outC⟩ hI1
  obtain ⟨i1_0, i1_1, i1_2⟩ : (i ≤ l.length) ∧ (out = OrdI.insl (l.take i)) ∧ (out.length ≤ i) := hI1
  refine J_weaken (E' := [(0, Value.slice lA l.length lC), (2, Value.slice none 0 0), (3, Value.slice outA out.length outC), (4, vI ((i : Nat) : Int))]) (L' := [Ent.row (.slice outA out.length outC) 3 1 out.length (out.map vI)]) ⟨rfl, rfl, rfl, rfl, trivial⟩ (fun _ h => h) ?_
  refine J_seq ?_
  refine J_seq ?_
  refine J_region ?_
  refine JO_read (vI ((i : Nat) : Int)) rfl trivial (fun _ _ => rfl) ?_
  refine JO_read (Value.slice lA l.length lC) rfl trivial (fun _ _ => rfl) ?_
  refine JO_read (vI ((l.length : Nat) : Int)) rfl trivial (fun _ _ => x_len_sl Tryd.underlying48 rfl) ?_
  refine JO_read (vB (decide (((i : Nat) : Int) < ((l.length : Nat) : Int)))) rfl trivial (fun _ _ => x_lss_i rfl rfl) ?_
  refine JO_nil ?_
  refine JX_then ?_
  refine J_cond (decide (((i : Nat) : Int) < ((l.length : Nat) : Int))) rfl rfl (fun h2 => ?_) (fun h2 => ?_)
  · have h2 := of_decide_eq_true h2
    refine J_skip ?_
    refine JX_then ?_
    refine J_seq ?_
    refine J_block ?_
    refine J_seq ?_
    refine J_region ?_
    refine JO_read (vI 0) rfl trivial (fun _ _ => rfl) ?_
    refine JO_nil ?_
    refine JX_then ?_
    refine J_seq ?_
    refine J_block ?_
    refine J_loop (X := Nat) (fun (k : Nat) => (k ≤ out.length) ∧ (∀ j, j < k → out.getD j 0 < l.getD i 0)) (fun (k : Nat) => [(0, Value.slice lA l.length lC), (2, Value.slice none 0 0), (3, Value.slice outA out.length outC), (4, vI ((i : Nat) : Int)), (5, vI ((k : Nat) : Int))]) (fun (k : Nat) => [Ent.row (.slice outA out.length outC) 3 1 out.length (out.map vI)]) (fun (k : Nat) => out.length - k) (0 : Nat) ?_ ⟨rfl, rfl, rfl, rfl, rfl, trivial⟩ (fun _ h => h) ?_
    · show (0 ≤ out.length) ∧ (∀ j, j < 0 → out.getD j 0 < l.getD i 0)
      refine ⟨?_, ?_⟩
      · first | rfl | omega | (simp_all; done) | (simp_all; omega)
      · intro j hj; omega
    intro k hI2
    obtain ⟨i2_0, i2_1⟩ : (k ≤ out.length) ∧ (∀ j, j < k → out.getD j 0 < l.getD i 0) := hI2
    refine J_weaken (E' := [(0, Value.slice lA l.length lC), (2, Value.slice none 0 0), (3, Value.slice outA out.length outC), (4, vI ((i : Nat) : Int)), (5, vI ((k : Nat) : Int))]) (L' := [Ent.row (.slice outA out.length outC) 3 1 out.length (out.map vI)]) ⟨rfl, rfl, rfl, rfl, rfl, trivial⟩ (fun _ h => h) ?_
    refine J_seq ?_
    refine J_seq ?_
    refine J_draw [Ent.row (.slice outA out.length outC) 3 1 out.length (out.map vI)] [] [Ent.row (.slice outA out.length outC) 3 1 out.length (out.map vI)] 15 Ty.mixed rfl ?_
    refine JA_take 0 (vI ((k : Nat) : Int)) rfl (by kernel_rfl) (by kernel_rfl) (by kernel_rfl) rfl (fun _ _ _ h => h) rfl trivial (fun _ _ => rfl) ?_
    refine JA_take 1 (Value.slice outA out.length outC) rfl (by kernel_rfl) (by kernel_rfl) (by kernel_rfl) rfl (fun _ _ _ h => h) rfl trivial (fun _ _ => rfl) ?_
    refine JA_take 2 (vI ((out.length : Nat) : Int)) rfl (by kernel_rfl) (by kernel_rfl) (by kernel_rfl) rfl (fun _ _ _ h => h) rfl trivial (fun _ _ => x_len_sl Tryd.underlying48 rfl) ?_
    refine JA_take 3 (vB (decide (((k : Nat) : Int) < ((out.length : Nat) : Int)))) rfl (by kernel_rfl) (by kernel_rfl) (by kernel_rfl) rfl (fun _ _ _ h => h) rfl trivial (fun _ _ => x_lss_i rfl rfl) ?_
    refine JA_take 4 (vB (decide (((k : Nat) : Int) < ((out.length : Nat) : Int)))) rfl (by kernel_rfl) (by kernel_rfl) (by kernel_rfl) rfl (fun _ _ _ h => h) rfl trivial (fun _ _ => rfl) ?_
    refine JA_bool (decide (((k : Nat) : Int) < ((out.length : Nat) : Int))) [(0, Value.slice lA l.length lC), (2, Value.slice none 0 0), (3, Value.slice outA out.length outC), (4, vI ((i : Nat) : Int)), (5, vI ((k : Nat) : Int)), (13, vI ((k : Nat) : Int)), (14, Value.slice outA out.length outC), (15, vI ((out.length : Nat) : Int)), (16, vB (decide (((k : Nat) : Int) < ((out.length : Nat) : Int)))), (17, vB true)] [(0, Value.slice lA l.length lC), (2, Value.slice none 0 0), (3, Value.slice outA out.length outC), (4, vI ((i : Nat) : Int)), (5, vI ((k : Nat) : Int)), (13, vI ((k : Nat) : Int)), (14, Value.slice outA out.length outC), (15, vI ((out.length : Nat) : Int)), (16, vB (decide (((k : Nat) : Int) < ((out.length : Nat) : Int)))), (17, vB false)] (fun hb => ⟨rfl, rfl, rfl, rfl, rfl, rfl, rfl, rfl, rfl, congrArg (fun b => some (vB b)) hb, trivial⟩) (fun hb => ⟨rfl, rfl, rfl, rfl, rfl, rfl, rfl, rfl, rfl, congrArg (fun b => some (vB b)) hb, trivial⟩) (fun h3 => ?_) (fun h3 => ?_)
    · have h3 := of_decide_eq_true h3
      refine JA_take 5 (Value.slice outA out.length outC) rfl (by kernel_rfl) (by kernel_rfl) (by kernel_rfl) rfl (fun _ _ _ h => h) rfl ⟨_, rfl, rfl⟩ (fun _ _ => rfl) ?_
      refine JA_take 6 (vI ((k : Nat) : Int)) rfl (by kernel_rfl) (by kernel_rfl) (by kernel_rfl) rfl (fun _ _ _ h => h) rfl ⟨_, rfl, rfl⟩ (fun _ _ => rfl) ?_
      refine JA_take 7 (Value.pointer (some (adr outA k))) rfl (by kernel_rfl) (by kernel_rfl) (by kernel_rfl) rfl (fun _ _ _ h => h) rfl ⟨_, rfl, rfl⟩ (x_indexAddr_at (k := k) (off := k) (cells_row 0 rfl) Tryd.underlying48 Ty.sz3 rfl rfl lt_ (by rw [List.length_map]; first | omega | (simp; omega) | (simp_all; omega) | (simp_all; done)) (Nat.mul_one _)) ?_
      refine JA_take 8 (vI (out.getD k 0)) rfl (by kernel_rfl) (by kernel_rfl) (by kernel_rfl) rfl (fun _ _ _ h => h) rfl ⟨_, rfl, rfl⟩ (x_load_at (cells_row 0 rfl) rfl Ty.sc3 (map_at vI out 0 lt_)) ?_
      refine JA_take 9 (Value.slice lA l.length lC) rfl (by kernel_rfl) (by kernel_rfl) (by kernel_rfl) rfl (fun _ _ _ h => h) rfl ⟨_, rfl, rfl⟩ (fun _ _ => rfl) ?_
      refine JA_take 10 (vI ((i : Nat) : Int)) rfl (by kernel_rfl) (by kernel_rfl) (by kernel_rfl) rfl (fun _ _ _ h => h) rfl ⟨_, rfl, rfl⟩ (fun _ _ => rfl) ?_
      refine JA_take 11 (Value.pointer (some (adr lA i))) rfl (by kernel_rfl) (by kernel_rfl) (by kernel_rfl) rfl (fun _ _ _ h => h) rfl ⟨_, rfl, rfl⟩ (x_indexAddr_at (k := i) (off := i) (cells_ro lR) Tryd.underlying48 Ty.sz3 rfl rfl lt_ (by rw [List.length_map]; first | omega | (simp; omega) | (simp_all; omega) | (simp_all; done)) (Nat.mul_one _)) ?_
      refine JA_take 12 (vI (l.getD i 0)) rfl (by kernel_rfl) (by kernel_rfl) (by kernel_rfl) rfl (fun _ _ _ h => h) rfl ⟨_, rfl, rfl⟩ (x_load_at (cells_ro lR) rfl Ty.sc3 (map_at vI l 0 lt_)) ?_
      refine JA_take 13 (vB (decide ((out.getD k 0) < (l.getD i 0)))) rfl (by kernel_rfl) (by kernel_rfl) (by kernel_rfl) rfl (fun _ _ _ h => h) rfl ⟨_, rfl, rfl⟩ (fun _ _ => x_lss_i rfl rfl) ?_
      refine JA_take 14 (vB (decide ((out.getD k 0) < (l.getD i 0)))) rfl (by kernel_rfl) (by kernel_rfl) (by kernel_rfl) rfl (fun _ _ _ h => h) rfl trivial (fun _ _ => rfl) ?_
      refine JA_done (by kernel_rfl) (fun _ h => ⟨h, fun _ => h⟩) ?_
      refine JX_then ?_
      refine J_cond (decide ((out.getD k 0) < (l.getD i 0))) rfl rfl (fun h4 => ?_) (fun h4 => ?_)
      · have h4 := of_decide_eq_true h4
        refine J_skip ?_
        refine JX_then ?_
        refine J_block ?_
        refine J_region ?_
        refine JO_read (vI ((k : Nat) : Int)) rfl trivial (fun _ _ => rfl) ?_
        refine JO_read (vI ((k + 1 : Nat) : Int)) rfl trivial (fun _ _ => x_add_n (a := k) (b := 1) rfl rfl (by omega)) ?_
        refine JO_read (vI ((k + 1 : Nat) : Int)) rfl trivial (fun _ _ => rfl) ?_
        refine JO_nil ?_
        refine JX_block ?_
        refine JX_round (k + 1 : Nat) ?_ ?_ ⟨rfl, rfl, rfl, rfl, rfl, trivial⟩ (fun _ h => h)
        · show ((k + 1) ≤ out.length) ∧ (∀ j, j < (k + 1) → out.getD j 0 < l.getD i 0)
          refine ⟨?_, ?_⟩
          · first | rfl | omega | (simp_all; done) | (simp_all; omega)
          · intro j hj
            by_cases hjk : j = k
            · subst hjk; omega
            · exact i2_1 j (by omega)
        · show out.length - (k + 1) < out.length - k
          first | omega | (simp; omega) | (simp_all; omega)
      · have h4 := of_decide_eq_false h4
        refine J_exit ?_
        refine JX_then_exit ?_
        refine JX_round_exit ?_
        refine JX_block_hit ?_
        refine JX_then ?_
        refine J_seq ?_
        refine J_seq ?_
        refine J_draw [Ent.row (.slice outA out.length outC) 3 1 out.length (out.map vI)] [] [Ent.row (.slice outA out.length outC) 3 1 out.length (out.map vI)] 15 Ty.mixed rfl ?_
        refine JA_take 0 (vI ((k : Nat) : Int)) rfl (by kernel_rfl) (by kernel_rfl) (by kernel_rfl) rfl (fun _ _ _ h => h) rfl trivial (fun _ _ => rfl) ?_
        refine JA_take 1 (Value.slice outA out.length outC) rfl (by kernel_rfl) (by kernel_rfl) (by kernel_rfl) rfl (fun _ _ _ h => h) rfl trivial (fun _ _ => rfl) ?_
        refine JA_take 2 (vI ((out.length : Nat) : Int)) rfl (by kernel_rfl) (by kernel_rfl) (by kernel_rfl) rfl (fun _ _ _ h => h) rfl trivial (fun _ _ => x_len_sl Tryd.underlying48 rfl) ?_
        refine JA_take 3 (vB (decide (((k : Nat) : Int) < ((out.length : Nat) : Int)))) rfl (by kernel_rfl) (by kernel_rfl) (by kernel_rfl) rfl (fun _ _ _ h => h) rfl trivial (fun _ _ => x_lss_i rfl rfl) ?_
        refine JA_take 4 (vB (decide (((k : Nat) : Int) < ((out.length : Nat) : Int)))) rfl (by kernel_rfl) (by kernel_rfl) (by kernel_rfl) rfl (fun _ _ _ h => h) rfl trivial (fun _ _ => rfl) ?_
        refine JA_bool (decide (((k : Nat) : Int) < ((out.length : Nat) : Int))) [(0, Value.slice lA l.length lC), (2, Value.slice none 0 0), (3, Value.slice outA out.length outC), (4, vI ((i : Nat) : Int)), (5, vI ((k : Nat) : Int)), (13, vI ((k : Nat) : Int)), (14, Value.slice outA out.length outC), (15, vI ((out.length : Nat) : Int)), (16, vB (decide (((k : Nat) : Int) < ((out.length : Nat) : Int)))), (17, vB true), (18, Value.slice outA out.length outC), (19, vI ((k : Nat) : Int)), (20, Value.pointer (some (adr outA k))), (21, vI (out.getD k 0)), (22, Value.slice lA l.length lC), (23, vI ((i : Nat) : Int)), (24, Value.pointer (some (adr lA i))), (25, vI (l.getD i 0)), (26, vB (decide ((out.getD k 0) < (l.getD i 0)))), (27, vB (decide ((out.getD k 0) < (l.getD i 0)))), (30, vI ((k : Nat) : Int)), (31, Value.slice outA out.length outC), (32, vI ((out.length : Nat) : Int)), (33, vB (decide (((k : Nat) : Int) < ((out.length : Nat) : Int)))), (34, vB true)] [(0, Value.slice lA l.length lC), (2, Value.slice none 0 0), (3, Value.slice outA out.length outC), (4, vI ((i : Nat) : Int)), (5, vI ((k : Nat) : Int)), (13, vI ((k : Nat) : Int)), (14, Value.slice outA out.length outC), (15, vI ((out.length : Nat) : Int)), (16, vB (decide (((k : Nat) : Int) < ((out.length : Nat) : Int)))), (17, vB true), (18, Value.slice outA out.length outC), (19, vI ((k : Nat) : Int)), (20, Value.pointer (some (adr outA k))), (21, vI (out.getD k 0)), (22, Value.slice lA l.length lC), (23, vI ((i : Nat) : Int)), (24, Value.pointer (some (adr lA i))), (25, vI (l.getD i 0)), (26, vB (decide ((out.getD k 0) < (l.getD i 0)))), (27, vB (decide ((out.getD k 0) < (l.getD i 0)))), (30, vI ((k : Nat) : Int)), (31, Value.slice outA out.length outC), (32, vI ((out.length : Nat) : Int)), (33, vB (decide (((k : Nat) : Int) < ((out.length : Nat) : Int)))), (34, vB false)] (fun hb => ⟨rfl, rfl, rfl, rfl, rfl, rfl, rfl, rfl, rfl, rfl, rfl, rfl, rfl, rfl, rfl, rfl, rfl, rfl, rfl, rfl, rfl, rfl, rfl, rfl, congrArg (fun b => some (vB b)) hb, trivial⟩) (fun hb => ⟨rfl, rfl, rfl, rfl, rfl, rfl, rfl, rfl, rfl, rfl, rfl, rfl, rfl, rfl, rfl, rfl, rfl, rfl, rfl, rfl, rfl, rfl, rfl, rfl, congrArg (fun b => some (vB b)) hb, trivial⟩) (fun h5 => ?_) (fun h5 => ?_)
        · have h5 := of_decide_eq_true h5
          refine JA_take 5 (Value.slice outA out.length outC) rfl (by kernel_rfl) (by kernel_rfl) (by kernel_rfl) rfl (fun _ _ _ h => h) rfl ⟨_, rfl, rfl⟩ (fun _ _ => rfl) ?_
          refine JA_take 6 (vI ((k : Nat) : Int)) rfl (by kernel_rfl) (by kernel_rfl) (by kernel_rfl) rfl (fun _ _ _ h => h) rfl ⟨_, rfl, rfl⟩ (fun _ _ => rfl) ?_
          refine JA_take 7 (Value.pointer (some (adr outA k))) rfl (by kernel_rfl) (by kernel_rfl) (by kernel_rfl) rfl (fun _ _ _ h => h) rfl ⟨_, rfl, rfl⟩ (x_indexAddr_at (k := k) (off := k) (cells_row 0 rfl) Tryd.underlying48 Ty.sz3 rfl rfl lt_ (by rw [List.length_map]; first | omega | (simp; omega) | (simp_all; omega) | (simp_all; done)) (Nat.mul_one _)) ?_
          refine JA_take 8 (vI (out.getD k 0)) rfl (by kernel_rfl) (by kernel_rfl) (by kernel_rfl) rfl (fun _ _ _ h => h) rfl ⟨_, rfl, rfl⟩ (x_load_at (cells_row 0 rfl) rfl Ty.sc3 (map_at vI out 0 lt_)) ?_
          refine JA_take 9 (Value.slice lA l.length lC) rfl (by kernel_rfl) (by kernel_rfl) (by kernel_rfl) rfl (fun _ _ _ h => h) rfl ⟨_, rfl, rfl⟩ (fun _ _ => rfl) ?_
          refine JA_take 10 (vI ((i : Nat) : Int)) rfl (by kernel_rfl) (by kernel_rfl) (by kernel_rfl) rfl (fun _ _ _ h => h) rfl ⟨_, rfl, rfl⟩ (fun _ _ => rfl) ?_
          refine JA_take 11 (Value.pointer (some (adr lA i))) rfl (by kernel_rfl) (by kernel_rfl) (by kernel_rfl) rfl (fun _ _ _ h => h) rfl ⟨_, rfl, rfl⟩ (x_indexAddr_at (k := i) (off := i) (cells_ro lR) Tryd.underlying48 Ty.sz3 rfl rfl lt_ (by rw [List.length_map]; first | omega | (simp; omega) | (simp_all; omega) | (simp_all; done)) (Nat.mul_one _)) ?_
          refine JA_take 12 (vI (l.getD i 0)) rfl (by kernel_rfl) (by kernel_rfl) (by kernel_rfl) rfl (fun _ _ _ h => h) rfl ⟨_, rfl, rfl⟩ (x_load_at (cells_ro lR) rfl Ty.sc3 (map_at vI l 0 lt_)) ?_
          refine JA_take 13 (vB (decide ((out.getD k 0) = (l.getD i 0)))) rfl (by kernel_rfl) (by kernel_rfl) (by kernel_rfl) rfl (fun _ _ _ h => h) rfl ⟨_, rfl, rfl⟩ (fun _ _ => x_eql_i rfl rfl) ?_
          refine JA_take 14 (vB (decide ((out.getD k 0) = (l.getD i 0)))) rfl (by kernel_rfl) (by kernel_rfl) (by kernel_rfl) rfl (fun _ _ _ h => h) rfl trivial (fun _ _ => rfl) ?_
          refine JA_done (by kernel_rfl) (fun _ h => ⟨h, fun _ => h⟩) ?_
          refine JX_then ?_
          refine J_cond (decide ((out.getD k 0) = (l.getD i 0))) rfl rfl (fun h6 => ?_) (fun h6 => ?_)
          · have h6 := of_decide_eq_true h6
            refine J_exit ?_
            refine JX_then_exit ?_
            refine JX_block_hit ?_
            refine JX_then ?_
            refine J_region ?_
            refine JO_read (vI ((i : Nat) : Int)) rfl trivial (fun _ _ => rfl) ?_
            refine JO_read (vI ((i + 1 : Nat) : Int)) rfl trivial (fun _ _ => x_add_n (a := i) (b := 1) rfl rfl (by omega)) ?_
            refine JO_read (vI ((i + 1 : Nat) : Int)) rfl trivial (fun _ _ => rfl) ?_
            refine JO_nil ?_
            refine JX_round ((i + 1, out, outA, outC) : Nat × (List Int) × (Option Addr) × Nat) ?_ ?_ ⟨rfl, rfl, rfl, rfl, trivial⟩ (fun _ h => h)
            · show ((i + 1) ≤ l.length) ∧ (out = OrdI.insl (l.take (i + 1))) ∧ (out.length ≤ (i + 1))
              refine ⟨?_, ?_, ?_⟩
              · first | rfl | omega | (simp_all; done) | (simp_all; omega)
              · first | exact OrdI.set_hit (by omega) i1_1 i2_0 i2_1 (by omega) (by omega) | exact OrdI.set_new (by omega) i1_1 i2_0 i2_1 (by omega) (by omega)
              · first | omega | (simp only [List.length_append, List.length_take, List.length_drop, List.length_cons, List.length_nil]; omega)
            · show l.length - (i + 1) < l.length - i
              first | omega | (simp; omega) | (simp_all; omega)
          · have h6 := of_decide_eq_false h6
            refine J_skip ?_
            refine JX_then ?_
            refine J_draw [Ent.row (.slice outA out.length outC) 3 1 out.length (out.map vI)] [4, 10, 14] [Ent.row (.slice outA out.length outC) 3 1 out.length (out.map vI)] 16 Ty.mixed rfl ?_
            refine JA_take 1 (Value.slice outA out.length outC) rfl (by kernel_rfl) (by kernel_rfl) (by kernel_rfl) rfl (fun _ _ _ h => h) rfl trivial (fun _ _ => rfl) ?_
            refine JA_take 2 (vI ((k : Nat) : Int)) rfl (by kernel_rfl) (by kernel_rfl) (by kernel_rfl) rfl (fun _ _ _ h => h) rfl trivial (fun _ _ => rfl) ?_
            refine JA_take 3 (Value.slice (subA outA outC 0 1) k outC) rfl (by kernel_rfl) (by kernel_rfl) (by kernel_rfl) rfl (fun _ _ _ h => h) rfl trivial (x_subrow_row 0 (lo := 0) (hi := k) rfl rfl Tryd.underlying48 Ty.sz3 (.inr ⟨rfl, rfl⟩) (.inl rfl) lt_ lt_) ?_
            refine JA_take 5 (Value.slice lA l.length lC) rfl (by kernel_rfl) (by kernel_rfl) (by kernel_rfl) rfl (fun _ _ _ h => h) rfl trivial (fun _ _ => rfl) ?_
            refine JA_take 6 (vI ((i : Nat) : Int)) rfl (by kernel_rfl) (by kernel_rfl) (by kernel_rfl) rfl (fun _ _ _ h => h) rfl trivial (fun _ _ => rfl) ?_
            refine JA_take 7 (Value.pointer (some (adr lA i))) rfl (by kernel_rfl) (by kernel_rfl) (by kernel_rfl) rfl (fun _ _ _ h => h) rfl trivial (x_indexAddr_at (k := i) (off := i) (cells_ro lR) Tryd.underlying48 Ty.sz3 rfl rfl lt_ (by rw [List.length_map]; first | omega | (simp; omega) | (simp_all; omega) | (simp_all; done)) (Nat.mul_one _)) ?_
            refine JA_take 8 (vI (l.getD i 0)) rfl (by kernel_rfl) (by kernel_rfl) (by kernel_rfl) rfl (fun _ _ _ h => h) rfl trivial (x_load_at (cells_ro lR) rfl Ty.sc3 (map_at vI l 0 lt_)) ?_
            refine JA_take 11 (Value.slice outA out.length outC) rfl (by kernel_rfl) (by kernel_rfl) (by kernel_rfl) rfl (fun _ _ _ h => h) rfl trivial (fun _ _ => rfl) ?_
            refine JA_take 12 (vI ((k : Nat) : Int)) rfl (by kernel_rfl) (by kernel_rfl) (by kernel_rfl) rfl (fun _ _ _ h => h) rfl trivial (fun _ _ => rfl) ?_
            refine JA_take 13 (Value.slice (subA outA outC k 1) (out.length - k) (outC - k)) rfl (by kernel_rfl) (by kernel_rfl) (by kernel_rfl) rfl (fun _ _ _ h => h) rfl trivial (x_subrow_row 0 (lo := k) (hi := out.length) rfl rfl Tryd.underlying48 Ty.sz3 (.inl rfl) (.inr ⟨rfl, rfl⟩) lt_ lt_) ?_
            refine JA_finX (X := (Option Addr) × Nat) (fun ⟨A18, c19⟩ => [(0, Value.slice lA l.length lC), (2, Value.slice none 0 0), (3, Value.slice A18 ((((([] : List Int) ++ ((out.drop 0).take (k - 0))) ++ [(l.getD i 0)]) ++ ((out.drop k).take (out.length - k))).length) c19), (4, vI ((i : Nat) : Int))]) (fun ⟨A18, c19⟩ => [Ent.row (.slice A18 (((([] : List Int) ++ ((out.drop 0).take (k - 0))) ++ [(l.getD i 0)]) ++ ((out.drop k).take (out.length - k))).length c19) 3 1 (((([] : List Int) ++ ((out.drop 0).take (k - 0))) ++ [(l.getD i 0)]) ++ ((out.drop k).take (out.length - k))).length ((((([] : List Int) ++ ((out.drop 0).take (k - 0))) ++ [(l.getD i 0)]) ++ ((out.drop k).take (out.length - k))).map vI)]) ?_ (fun key7 => ?_)
            · rintro ⟨A18, c19⟩
              show JX _ _ _ _ _ [(0, Value.slice lA l.length lC), (2, Value.slice none 0 0), (3, Value.slice A18 ((((([] : List Int) ++ ((out.drop 0).take (k - 0))) ++ [(l.getD i 0)]) ++ ((out.drop k).take (out.length - k))).length) c19), (4, vI ((i : Nat) : Int))] [Ent.row (.slice A18 (((([] : List Int) ++ ((out.drop 0).take (k - 0))) ++ [(l.getD i 0)]) ++ ((out.drop k).take (out.length - k))).length c19) 3 1 (((([] : List Int) ++ ((out.drop 0).take (k - 0))) ++ [(l.getD i 0)]) ++ ((out.drop k).take (out.length - k))).length ((((([] : List Int) ++ ((out.drop 0).take (k - 0))) ++ [(l.getD i 0)]) ++ ((out.drop k).take (out.length - k))).map vI)]
              refine JX_block ?_
              refine JX_then ?_
              refine J_region ?_
              refine JO_read (vI ((i : Nat) : Int)) rfl trivial (fun _ _ => rfl) ?_
              refine JO_read (vI ((i + 1 : Nat) : Int)) rfl trivial (fun _ _ => x_add_n (a := i) (b := 1) rfl rfl (by omega)) ?_
              refine JO_read (vI ((i + 1 : Nat) : Int)) rfl trivial (fun _ _ => rfl) ?_
              refine JO_nil ?_
              refine JX_round ((i + 1, ((([] : List Int) ++ ((out.drop 0).take (k - 0))) ++ [(l.getD i 0)]) ++ ((out.drop k).take (out.length - k)), A18, c19) : Nat × (List Int) × (Option Addr) × Nat) ?_ ?_ ⟨rfl, rfl, rfl, rfl, trivial⟩ (fun _ h => h)
              · show ((i + 1) ≤ l.length) ∧ ((((([] : List Int) ++ ((out.drop 0).take (k - 0))) ++ [(l.getD i 0)]) ++ ((out.drop k).take (out.length - k))) = OrdI.insl (l.take (i + 1))) ∧ ((((([] : List Int) ++ ((out.drop 0).take (k - 0))) ++ [(l.getD i 0)]) ++ ((out.drop k).take (out.length - k))).length ≤ (i + 1))
                refine ⟨?_, ?_, ?_⟩
                · first | rfl | omega | (simp_all; done) | (simp_all; omega)
                · first | exact OrdI.set_hit (by omega) i1_1 i2_0 i2_1 (by omega) (by omega) | exact OrdI.set_new (by omega) i1_1 i2_0 i2_1 (by omega) (by omega)
                · first | omega | (simp only [List.length_append, List.length_take, List.length_drop, List.length_cons, List.length_nil]; omega)
              · show l.length - (i + 1) < l.length - i
                first | omega | (simp; omega) | (simp_all; omega)
            · refine JA_ready (rs := [0, 9]) (by kernel_rfl) (by decide) (fun _ h => ⟨h, fun _ => h⟩) (List.forall_mem_cons.2 ⟨?_, (List.forall_mem_cons.2 ⟨?_, all_nil⟩)⟩)
              · refine JI_op rfl rfl trivial (O_buildSlice0 Tryd.underlying48 Ty.sz3 fun b8 => ?_)
                refine JA_weaken (E' := [(0, Value.slice lA l.length lC), (2, Value.slice none 0 0), (3, Value.slice outA out.length outC), (4, vI ((i : Nat) : Int)), (5, vI ((k : Nat) : Int)), (13, vI ((k : Nat) : Int)), (14, Value.slice outA out.length outC), (15, vI ((out.length : Nat) : Int)), (16, vB (decide (((k : Nat) : Int) < ((out.length : Nat) : Int)))), (17, vB true), (18, Value.slice outA out.length outC), (19, vI ((k : Nat) : Int)), (20, Value.pointer (some (adr outA k))), (21, vI (out.getD k 0)), (22, Value.slice lA l.length lC), (23, vI ((i : Nat) : Int)), (24, Value.pointer (some (adr lA i))), (25, vI (l.getD i 0)), (26, vB (decide ((out.getD k 0) < (l.getD i 0)))), (27, vB (decide ((out.getD k 0) < (l.getD i 0)))), (30, vI ((k : Nat) : Int)), (31, Value.slice outA out.length outC), (32, vI ((out.length : Nat) : Int)), (33, vB (decide (((k : Nat) : Int) < ((out.length : Nat) : Int)))), (34, vB true), (35, Value.slice outA out.length outC), (36, vI ((k : Nat) : Int)), (37, Value.pointer (some (adr outA k))), (38, vI (out.getD k 0)), (39, Value.slice lA l.length lC), (40, vI ((i : Nat) : Int)), (41, Value.pointer (some (adr lA i))), (42, vI (l.getD i 0)), (43, vB (decide ((out.getD k 0) = (l.getD i 0)))), (44, vB (decide ((out.getD k 0) = (l.getD i 0)))), (46, Value.slice outA out.length outC), (47, vI ((k : Nat) : Int)), (48, Value.slice (subA outA outC 0 1) k outC), (50, Value.slice lA l.length lC), (51, vI ((i : Nat) : Int)), (52, Value.pointer (some (adr lA i))), (53, vI (l.getD i 0)), (56, Value.slice outA out.length outC), (57, vI ((k : Nat) : Int)), (58, Value.slice (subA outA outC k 1) (out.length - k) (outC - k)), (45, Value.slice (some ⟨b8, 0, none⟩) ((([] : List Int)).length) 0)]) (L' := [Ent.row (.slice (some ⟨b8, 0, none⟩) ([] : List Int).length 0) 3 1 ([] : List Int).length (([] : List Int).map vI), Ent.row (.slice outA out.length outC) 3 1 out.length (out.map vI)]) ⟨rfl, rfl, rfl, rfl, rfl, rfl, rfl, rfl, rfl, rfl, rfl, rfl, rfl, rfl, rfl, rfl, rfl, rfl, rfl, rfl, rfl, rfl, rfl, rfl, rfl, rfl, rfl, rfl, rfl, rfl, rfl, rfl, rfl, rfl, rfl, rfl, rfl, rfl, rfl, rfl, rfl, rfl, rfl, rfl, rfl, rfl, trivial⟩ (fun _ h => (St.torow (cs := []) ((h.front 1 _ rfl).front 1 _ rfl) 1 0 rfl (by decide)).keep [true, true] rfl) ?_
                refine JA_ready (rs := [4, 9]) (by kernel_rfl) (by decide) (fun _ h => ⟨h.keep [false, true] rfl, fun _ => h.keep [false, true] rfl⟩) (List.forall_mem_cons.2 ⟨?_, (List.forall_mem_cons.2 ⟨?_, all_nil⟩)⟩)
                · refine JI_op rfl rfl trivial (O_append_m 0 vI ([] : List Int) ((out.drop 0).take (k - 0)) Tryd.underlying48 Ty.sz3 Ty.by3 Ty.ze3 rfl rfl rfl rfl (by simp only [List.length_take, List.length_drop]; omega) (fun _ => rfl) (cells_sub_row 1 vI 0 k rfl lt_ lt_) lt_ lt_ fun A9 c10 => ?_)
                  refine JA_one 9 (by kernel_rfl) (fun _ h => ⟨h.keep [false, true] rfl, fun hh => Bool.noConfusion (show false = true from hh)⟩) ?_
                  refine JI_op rfl rfl trivial (O_buildSlice (cs := [vI (l.getD i 0)]) Tryd.underlying48 Ty.sz3 Ty.ze3 (by decide) (by decide) (by kernel_rfl) fun b12 => ?_)
                  refine JA_one 10 (by kernel_rfl) (fun _ h => ⟨h.keep [false, false, true] rfl, fun hh => Bool.noConfusion (show false = true from hh)⟩) ?_
                  refine JI_op rfl rfl trivial (O_append_m 1 vI (([] : List Int) ++ ((out.drop 0).take (k - 0))) [(l.getD i 0)] Tryd.underlying48 Ty.sz3 Ty.by3 Ty.ze3 rfl rfl rfl rfl rfl (fun _ => rfl) (cells_blk 0 (off := 0) (m := 1) rfl rfl) lt_ lt_ fun A15 c16 => ?_)
                  refine JA_one 14 (by kernel_rfl) (fun _ h => ⟨h.keep [false, false, true] rfl, fun hh => Bool.noConfusion (show false = true from hh)⟩) ?_
                  refine JI_op rfl rfl trivial (O_append_m 1 vI ((([] : List Int) ++ ((out.drop 0).take (k - 0))) ++ [(l.getD i 0)]) ((out.drop k).take (out.length - k)) Tryd.underlying48 Ty.sz3 Ty.by3 Ty.ze3 rfl rfl rfl rfl (by simp only [List.length_take, List.length_drop]; omega) (fun _ => rfl) (cells_sub_row 2 vI k out.length rfl lt_ lt_) lt_ lt_ fun A19 c20 => ?_)
                  refine JA_take 15 (Value.slice A19 ((((([] : List Int) ++ ((out.drop 0).take (k - 0))) ++ [(l.getD i 0)]) ++ ((out.drop k).take (out.length - k))).length) c20) rfl (by kernel_rfl) (by kernel_rfl) (by kernel_rfl) rfl (fun _ _ _ h => h) rfl trivial (fun _ _ => rfl) ?_
                  exact JA_done (by kernel_rfl) (fun _ h => ⟨h.keep [false, false, true] rfl, fun hh => Bool.noConfusion (show false = true from hh)⟩) (JX_weaken (E' := [(0, Value.slice lA l.length lC), (2, Value.slice none 0 0), (3, Value.slice A19 ((((([] : List Int) ++ ((out.drop 0).take (k - 0))) ++ [(l.getD i 0)]) ++ ((out.drop k).take (out.length - k))).length) c20), (4, vI ((i : Nat) : Int))]) (L' := [Ent.row (.slice A19 (((([] : List Int) ++ ((out.drop 0).take (k - 0))) ++ [(l.getD i 0)]) ++ ((out.drop k).take (out.length - k))).length c20) 3 1 (((([] : List Int) ++ ((out.drop 0).take (k - 0))) ++ [(l.getD i 0)]) ++ ((out.drop k).take (out.length - k))).length ((((([] : List Int) ++ ((out.drop 0).take (k - 0))) ++ [(l.getD i 0)]) ++ ((out.drop k).take (out.length - k))).map vI)]) ⟨rfl, rfl, rfl, rfl, trivial⟩ (fun _ h => h.keep [false, true, false] rfl) (key7 (A19, c20)))
                · refine JI_op rfl rfl trivial (O_buildSlice (cs := [vI (l.getD i 0)]) Tryd.underlying48 Ty.sz3 Ty.ze3 (by decide) (by decide) (by kernel_rfl) fun b21 => ?_)
                  refine JA_one 4 (by kernel_rfl) (fun _ h => ⟨h.keep [false, false, true] rfl, fun _ => h.keep [false, false, true] rfl⟩) ?_
                  refine JI_op rfl rfl trivial (O_append_m 1 vI ([] : List Int) ((out.drop 0).take (k - 0)) Tryd.underlying48 Ty.sz3 Ty.by3 Ty.ze3 rfl rfl rfl rfl (by simp only [List.length_take, List.length_drop]; omega) (fun _ => rfl) (cells_sub_row 2 vI 0 k rfl lt_ lt_) lt_ lt_ fun A24 c25 => ?_)
                  refine JA_one 10 (by kernel_rfl) (fun _ h => ⟨h.keep [false, false, true] rfl, fun hh => Bool.noConfusion (show false = true from hh)⟩) ?_
                  refine JI_op rfl rfl trivial (O_append_m 1 vI (([] : List Int) ++ ((out.drop 0).take (k - 0))) [(l.getD i 0)] Tryd.underlying48 Ty.sz3 Ty.by3 Ty.ze3 rfl rfl rfl rfl rfl (fun _ => rfl) (cells_blk 0 (off := 0) (m := 1) rfl rfl) lt_ lt_ fun A28 c29 => ?_)
                  refine JA_one 14 (by kernel_rfl) (fun _ h => ⟨h.keep [false, false, true] rfl, fun hh => Bool.noConfusion (show false = true from hh)⟩) ?_
                  refine JI_op rfl rfl trivial (O_append_m 1 vI ((([] : List Int) ++ ((out.drop 0).take (k - 0))) ++ [(l.getD i 0)]) ((out.drop k).take (out.length - k)) Tryd.underlying48 Ty.sz3 Ty.by3 Ty.ze3 rfl rfl rfl rfl (by simp only [List.length_take, List.length_drop]; omega) (fun _ => rfl) (cells_sub_row 2 vI k out.length rfl lt_ lt_) lt_ lt_ fun A32 c33 => ?_)
                  refine JA_take 15 (Value.slice A32 ((((([] : List Int) ++ ((out.drop 0).take (k - 0))) ++ [(l.getD i 0)]) ++ ((out.drop k).take (out.length - k))).length) c33) rfl (by kernel_rfl) (by kernel_rfl) (by kernel_rfl) rfl (fun _ _ _ h => h) rfl trivial (fun _ _ => rfl) ?_
                  exact JA_done (by kernel_rfl) (fun _ h => ⟨h.keep [false, false, true] rfl, fun hh => Bool.noConfusion (show false = true from hh)⟩) (JX_weaken (E' := [(0, Value.slice lA l.length lC), (2, Value.slice none 0 0), (3, Value.slice A32 ((((([] : List Int) ++ ((out.drop 0).take (k - 0))) ++ [(l.getD i 0)]) ++ ((out.drop k).take (out.length - k))).length) c33), (4, vI ((i : Nat) : Int))]) (L' := [Ent.row (.slice A32 (((([] : List Int) ++ ((out.drop 0).take (k - 0))) ++ [(l.getD i 0)]) ++ ((out.drop k).take (out.length - k))).length c33) 3 1 (((([] : List Int) ++ ((out.drop 0).take (k - 0))) ++ [(l.getD i 0)]) ++ ((out.drop k).take (out.length - k))).length ((((([] : List Int) ++ ((out.drop 0).take (k - 0))) ++ [(l.getD i 0)]) ++ ((out.drop k).take (out.length - k))).map vI)]) ⟨rfl, rfl, rfl, rfl, trivial⟩ (fun _ h => h.keep [false, true, false] rfl) (key7 (A32, c33)))
              · refine JI_op rfl rfl trivial (O_buildSlice (cs := [vI (l.getD i 0)]) Tryd.underlying48 Ty.sz3 Ty.ze3 (by decide) (by decide) (by kernel_rfl) fun b34 => ?_)
                refine JA_one 0 (by kernel_rfl) (fun _ h => ⟨h.keep [false, true] rfl, fun _ => h.keep [false, true] rfl⟩) ?_
                refine JI_op rfl rfl trivial (O_buildSlice0 Tryd.underlying48 Ty.sz3 fun b36 => ?_)
                refine JA_weaken (E' := [(0, Value.slice lA l.length lC), (2, Value.slice none 0 0), (3, Value.slice outA out.length outC), (4, vI ((i : Nat) : Int)), (5, vI ((k : Nat) : Int)), (13, vI ((k : Nat) : Int)), (14, Value.slice outA out.length outC), (15, vI ((out.length : Nat) : Int)), (16, vB (decide (((k : Nat) : Int) < ((out.length : Nat) : Int)))), (17, vB true), (18, Value.slice outA out.length outC), (19, vI ((k : Nat) : Int)), (20, Value.pointer (some (adr outA k))), (21, vI (out.getD k 0)), (22, Value.slice lA l.length lC), (23, vI ((i : Nat) : Int)), (24, Value.pointer (some (adr lA i))), (25, vI (l.getD i 0)), (26, vB (decide ((out.getD k 0) < (l.getD i 0)))), (27, vB (decide ((out.getD k 0) < (l.getD i 0)))), (30, vI ((k : Nat) : Int)), (31, Value.slice outA out.length outC), (32, vI ((out.length : Nat) : Int)), (33, vB (decide (((k : Nat) : Int) < ((out.length : Nat) : Int)))), (34, vB true), (35, Value.slice outA out.length outC), (36, vI ((k : Nat) : Int)), (37, Value.pointer (some (adr outA k))), (38, vI (out.getD k 0)), (39, Value.slice lA l.length lC), (40, vI ((i : Nat) : Int)), (41, Value.pointer (some (adr lA i))), (42, vI (l.getD i 0)), (43, vB (decide ((out.getD k 0) = (l.getD i 0)))), (44, vB (decide ((out.getD k 0) = (l.getD i 0)))), (46, Value.slice outA out.length outC), (47, vI ((k : Nat) : Int)), (48, Value.slice (subA outA outC 0 1) k outC), (50, Value.slice lA l.length lC), (51, vI ((i : Nat) : Int)), (52, Value.pointer (some (adr lA i))), (53, vI (l.getD i 0)), (56, Value.slice outA out.length outC), (57, vI ((k : Nat) : Int)), (58, Value.slice (subA outA outC k 1) (out.length - k) (outC - k)), (54, Value.slice (some ⟨b34, 0, none⟩) 1 1), (45, Value.slice (some ⟨b36, 0, none⟩) ((([] : List Int)).length) 0)]) (L' := [Ent.row (.slice (some ⟨b36, 0, none⟩) ([] : List Int).length 0) 3 1 ([] : List Int).length (([] : List Int).map vI), Ent.blk b34 3 [vI (l.getD i 0)], Ent.row (.slice outA out.length outC) 3 1 out.length (out.map vI)]) ⟨rfl, rfl, rfl, rfl, rfl, rfl, rfl, rfl, rfl, rfl, rfl, rfl, rfl, rfl, rfl, rfl, rfl, rfl, rfl, rfl, rfl, rfl, rfl, rfl, rfl, rfl, rfl, rfl, rfl, rfl, rfl, rfl, rfl, rfl, rfl, rfl, rfl, rfl, rfl, rfl, rfl, rfl, rfl, rfl, rfl, rfl, rfl, trivial⟩ (fun _ h => (St.torow (cs := []) (((h.front 2 _ rfl).front 2 _ rfl).front 2 _ rfl) 1 0 rfl (by decide)).keep [true, true, true] rfl) ?_
                refine JA_one 4 (by kernel_rfl) (fun _ h => ⟨h.keep [false, false, true] rfl, fun _ => h.keep [false, false, true] rfl⟩) ?_
                refine JI_op rfl rfl trivial (O_append_m 0 vI ([] : List Int) ((out.drop 0).take (k - 0)) Tryd.underlying48 Ty.sz3 Ty.by3 Ty.ze3 rfl rfl rfl rfl (by simp only [List.length_take, List.length_drop]; omega) (fun _ => rfl) (cells_sub_row 2 vI 0 k rfl lt_ lt_) lt_ lt_ fun A39 c40 => ?_)
                refine JA_one 10 (by kernel_rfl) (fun _ h => ⟨h.keep [false, false, true] rfl, fun hh => Bool.noConfusion (show false = true from hh)⟩) ?_
                refine JI_op rfl rfl trivial (O_append_m 0 vI (([] : List Int) ++ ((out.drop 0).take (k - 0))) [(l.getD i 0)] Tryd.underlying48 Ty.sz3 Ty.by3 Ty.ze3 rfl rfl rfl rfl rfl (fun _ => rfl) (cells_blk 1 (off := 0) (m := 1) rfl rfl) lt_ lt_ fun A43 c44 => ?_)
                refine JA_one 14 (by kernel_rfl) (fun _ h => ⟨h.keep [false, false, true] rfl, fun hh => Bool.noConfusion (show false = true from hh)⟩) ?_
                refine JI_op rfl rfl trivial (O_append_m 0 vI ((([] : List Int) ++ ((out.drop 0).take (k - 0))) ++ [(l.getD i 0)]) ((out.drop k).take (out.length - k)) Tryd.underlying48 Ty.sz3 Ty.by3 Ty.ze3 rfl rfl rfl rfl (by simp only [List.length_take, List.length_drop]; omega) (fun _ => rfl) (cells_sub_row 2 vI k out.length rfl lt_ lt_) lt_ lt_ fun A47 c48 => ?_)
                refine JA_take 15 (Value.slice A47 ((((([] : List Int) ++ ((out.drop 0).take (k - 0))) ++ [(l.getD i 0)]) ++ ((out.drop k).take (out.length - k))).length) c48) rfl (by kernel_rfl) (by kernel_rfl) (by kernel_rfl) rfl (fun _ _ _ h => h) rfl trivial (fun _ _ => rfl) ?_
                exact JA_done (by kernel_rfl) (fun _ h => ⟨h.keep [false, false, true] rfl, fun hh => Bool.noConfusion (show false = true from hh)⟩) (JX_weaken (E' := [(0, Value.slice lA l.length lC), (2, Value.slice none 0 0), (3, Value.slice A47 ((((([] : List Int) ++ ((out.drop 0).take (k - 0))) ++ [(l.getD i 0)]) ++ ((out.drop k).take (out.length - k))).length) c48), (4, vI ((i : Nat) : Int))]) (L' := [Ent.row (.slice A47 (((([] : List Int) ++ ((out.drop 0).take (k - 0))) ++ [(l.getD i 0)]) ++ ((out.drop k).take (out.length - k))).length c48) 3 1 (((([] : List Int) ++ ((out.drop 0).take (k - 0))) ++ [(l.getD i 0)]) ++ ((out.drop k).take (out.length - k))).length ((((([] : List Int) ++ ((out.drop 0).take (k - 0))) ++ [(l.getD i 0)]) ++ ((out.drop k).take (out.length - k))).map vI)]) ⟨rfl, rfl, rfl, rfl, trivial⟩ (fun _ h => h.keep [true, false, false] rfl) (key7 (A47, c48)))
        · have h5 := of_decide_eq_false h5
          refine JA_shun 5 rfl (by kernel_rfl) (by kernel_rfl) (by kernel_rfl) rfl (fun _ _ _ h => h) rfl ⟨_, rfl, rfl⟩ ?_
          refine JA_shun 6 rfl (by kernel_rfl) (by kernel_rfl) (by kernel_rfl) rfl (fun _ _ _ h => h) rfl ⟨_, rfl, rfl⟩ ?_
          refine JA_shun 7 rfl (by kernel_rfl) (by kernel_rfl) (by kernel_rfl) rfl (fun _ _ _ h => h) rfl ⟨_, rfl, rfl⟩ ?_
          refine JA_shun 8 rfl (by kernel_rfl) (by kernel_rfl) (by kernel_rfl) rfl (fun _ _ _ h => h) rfl ⟨_, rfl, rfl⟩ ?_
          refine JA_shun 9 rfl (by kernel_rfl) (by kernel_rfl) (by kernel_rfl) rfl (fun _ _ _ h => h) rfl ⟨_, rfl, rfl⟩ ?_
          refine JA_shun 10 rfl (by kernel_rfl) (by kernel_rfl) (by kernel_rfl) rfl (fun _ _ _ h => h) rfl ⟨_, rfl, rfl⟩ ?_
          refine JA_shun 11 rfl (by kernel_rfl) (by kernel_rfl) (by kernel_rfl) rfl (fun _ _ _ h => h) rfl ⟨_, rfl, rfl⟩ ?_
          refine JA_shun 12 rfl (by kernel_rfl) (by kernel_rfl) (by kernel_rfl) rfl (fun _ _ _ h => h) rfl ⟨_, rfl, rfl⟩ ?_
          refine JA_shun 13 rfl (by kernel_rfl) (by kernel_rfl) (by kernel_rfl) rfl (fun _ _ _ h => h) rfl ⟨_, rfl, rfl⟩ ?_
          refine JA_take 14 (vB false) rfl (by kernel_rfl) (by kernel_rfl) (by kernel_rfl) rfl (fun _ _ _ h => h) rfl trivial (fun _ _ => rfl) ?_
          refine JA_done (by kernel_rfl) (fun _ h => ⟨h, fun _ => h⟩) ?_
          refine JX_then ?_
          refine J_cond false rfl rfl (fun h => by cases h) (fun h => ?_)
          refine J_skip ?_
          refine JX_then ?_
          refine J_draw [Ent.row (.slice outA out.length outC) 3 1 out.length (out.map vI)] [4, 10, 14] [Ent.row (.slice outA out.length outC) 3 1 out.length (out.map vI)] 16 Ty.mixed rfl ?_
          refine JA_take 1 (Value.slice outA out.length outC) rfl (by kernel_rfl) (by kernel_rfl) (by kernel_rfl) rfl (fun _ _ _ h => h) rfl trivial (fun _ _ => rfl) ?_
          refine JA_take 2 (vI ((k : Nat) : Int)) rfl (by kernel_rfl) (by kernel_rfl) (by kernel_rfl) rfl (fun _ _ _ h => h) rfl trivial (fun _ _ => rfl) ?_
          refine JA_take 3 (Value.slice (subA outA outC 0 1) k outC) rfl (by kernel_rfl) (by kernel_rfl) (by kernel_rfl) rfl (fun _ _ _ h => h) rfl trivial (x_subrow_row 0 (lo := 0) (hi := k) rfl rfl Tryd.underlying48 Ty.sz3 (.inr ⟨rfl, rfl⟩) (.inl rfl) lt_ lt_) ?_
          refine JA_take 5 (Value.slice lA l.length lC) rfl (by kernel_rfl) (by kernel_rfl) (by kernel_rfl) rfl (fun _ _ _ h => h) rfl trivial (fun _ _ => rfl) ?_
          refine JA_take 6 (vI ((i : Nat) : Int)) rfl (by kernel_rfl) (by kernel_rfl) (by kernel_rfl) rfl (fun _ _ _ h => h) rfl trivial (fun _ _ => rfl) ?_
          refine JA_take 7 (Value.pointer (some (adr lA i))) rfl (by kernel_rfl) (by kernel_rfl) (by kernel_rfl) rfl (fun _ _ _ h => h) rfl trivial (x_indexAddr_at (k := i) (off := i) (cells_ro lR) Tryd.underlying48 Ty.sz3 rfl rfl lt_ (by rw [List.length_map]; first | omega | (simp; omega) | (simp_all; omega) | (simp_all; done)) (Nat.mul_one _)) ?_
          refine JA_take 8 (vI (l.getD i 0)) rfl (by kernel_rfl) (by kernel_rfl) (by kernel_rfl) rfl (fun _ _ _ h => h) rfl trivial (x_load_at (cells_ro lR) rfl Ty.sc3 (map_at vI l 0 lt_)) ?_
          refine JA_take 11 (Value.slice outA out.length outC) rfl (by kernel_rfl) (by kernel_rfl) (by kernel_rfl) rfl (fun _ _ _ h => h) rfl trivial (fun _ _ => rfl) ?_
          refine JA_take 12 (vI ((k : Nat) : Int)) rfl (by kernel_rfl) (by kernel_rfl) (by kernel_rfl) rfl (fun _ _ _ h => h) rfl trivial (fun _ _ => rfl) ?_
          refine JA_take 13 (Value.slice (subA outA outC k 1) (out.length - k) (outC - k)) rfl (by kernel_rfl) (by kernel_rfl) (by kernel_rfl) rfl (fun _ _ _ h => h) rfl trivial (x_subrow_row 0 (lo := k) (hi := out.length) rfl rfl Tryd.underlying48 Ty.sz3 (.inl rfl) (.inr ⟨rfl, rfl⟩) lt_ lt_) ?_
          refine JA_finX (X := (Option Addr) × Nat) (fun ⟨A60, c61⟩ => [(0, Value.slice lA l.length lC), (2, Value.slice none 0 0), (3, Value.slice A60 ((((([] : List Int) ++ ((out.drop 0).take (k - 0))) ++ [(l.getD i 0)]) ++ ((out.drop k).take (out.length - k))).length) c61), (4, vI ((i : Nat) : Int))]) (fun ⟨A60, c61⟩ => [Ent.row (.slice A60 (((([] : List Int) ++ ((out.drop 0).take (k - 0))) ++ [(l.getD i 0)]) ++ ((out.drop k).take (out.length - k))).length c61) 3 1 (((([] : List Int) ++ ((out.drop 0).take (k - 0))) ++ [(l.getD i 0)]) ++ ((out.drop k).take (out.length - k))).length ((((([] : List Int) ++ ((out.drop 0).take (k - 0))) ++ [(l.getD i 0)]) ++ ((out.drop k).take (out.length - k))).map vI)]) ?_ (fun key49 => ?_)
          · rintro ⟨A60, c61⟩
            show JX _ _ _ _ _ [(0, Value.slice lA l.length lC), (2, Value.slice none 0 0), (3, Value.slice A60 ((((([] : List Int) ++ ((out.drop 0).take (k - 0))) ++ [(l.getD i 0)]) ++ ((out.drop k).take (out.length - k))).length) c61), (4, vI ((i : Nat) : Int))] [Ent.row (.slice A60 (((([] : List Int) ++ ((out.drop 0).take (k - 0))) ++ [(l.getD i 0)]) ++ ((out.drop k).take (out.length - k))).length c61) 3 1 (((([] : List Int) ++ ((out.drop 0).take (k - 0))) ++ [(l.getD i 0)]) ++ ((out.drop k).take (out.length - k))).length ((((([] : List Int) ++ ((out.drop 0).take (k - 0))) ++ [(l.getD i 0)]) ++ ((out.drop k).take (out.length - k))).map vI)]
            refine JX_block ?_
            refine JX_then ?_
            refine J_region ?_
            refine JO_read (vI ((i : Nat) : Int)) rfl trivial (fun _ _ => rfl) ?_
            refine JO_read (vI ((i + 1 : Nat) : Int)) rfl trivial (fun _ _ => x_add_n (a := i) (b := 1) rfl rfl (by omega)) ?_
            refine JO_read (vI ((i + 1 : Nat) : Int)) rfl trivial (fun _ _ => rfl) ?_
            refine JO_nil ?_
            refine JX_round ((i + 1, ((([] : List Int) ++ ((out.drop 0).take (k - 0))) ++ [(l.getD i 0)]) ++ ((out.drop k).take (out.length - k)), A60, c61) : Nat × (List Int) × (Option Addr) × Nat) ?_ ?_ ⟨rfl, rfl, rfl, rfl, trivial⟩ (fun _ h => h)
            · show ((i + 1) ≤ l.length) ∧ ((((([] : List Int) ++ ((out.drop 0).take (k - 0))) ++ [(l.getD i 0)]) ++ ((out.drop k).take (out.length - k))) = OrdI.insl (l.take (i + 1))) ∧ ((((([] : List Int) ++ ((out.drop 0).take (k - 0))) ++ [(l.getD i 0)]) ++ ((out.drop k).take (out.length - k))).length ≤ (i + 1))
              refine ⟨?_, ?_, ?_⟩
              · first | rfl | omega | (simp_all; done) | (simp_all; omega)
              · first | exact OrdI.set_hit (by omega) i1_1 i2_0 i2_1 (by omega) (by omega) | exact OrdI.set_new (by omega) i1_1 i2_0 i2_1 (by omega) (by omega)
              · first | omega | (simp only [List.length_append, List.length_take, List.length_drop, List.length_cons, List.length_nil]; omega)
            · show l.length - (i + 1) < l.length - i
              first | omega | (simp; omega) | (simp_all; omega)
          · refine JA_ready (rs := [0, 9]) (by kernel_rfl) (by decide) (fun _ h => ⟨h, fun _ => h⟩) (List.forall_mem_cons.2 ⟨?_, (List.forall_mem_cons.2 ⟨?_, all_nil⟩)⟩)
            · refine JI_op rfl rfl trivial (O_buildSlice0 Tryd.underlying48 Ty.sz3 fun b50 => ?_)
              refine JA_weaken (E' := [(0, Value.slice lA l.length lC), (2, Value.slice none 0 0), (3, Value.slice outA out.length outC), (4, vI ((i : Nat) : Int)), (5, vI ((k : Nat) : Int)), (13, vI ((k : Nat) : Int)), (14, Value.slice outA out.length outC), (15, vI ((out.length : Nat) : Int)), (16, vB (decide (((k : Nat) : Int) < ((out.length : Nat) : Int)))), (17, vB true), (18, Value.slice outA out.length outC), (19, vI ((k : Nat) : Int)), (20, Value.pointer (some (adr outA k))), (21, vI (out.getD k 0)), (22, Value.slice lA l.length lC), (23, vI ((i : Nat) : Int)), (24, Value.pointer (some (adr lA i))), (25, vI (l.getD i 0)), (26, vB (decide ((out.getD k 0) < (l.getD i 0)))), (27, vB (decide ((out.getD k 0) < (l.getD i 0)))), (30, vI ((k : Nat) : Int)), (31, Value.slice outA out.length outC), (32, vI ((out.length : Nat) : Int)), (33, vB (decide (((k : Nat) : Int) < ((out.length : Nat) : Int)))), (34, vB false), (35, undef), (36, undef), (37, undef), (38, undef), (39, undef), (40, undef), (41, undef), (42, undef), (43, undef), (44, vB false), (46, Value.slice outA out.length outC), (47, vI ((k : Nat) : Int)), (48, Value.slice (subA outA outC 0 1) k outC), (50, Value.slice lA l.length lC), (51, vI ((i : Nat) : Int)), (52, Value.pointer (some (adr lA i))), (53, vI (l.getD i 0)), (56, Value.slice outA out.length outC), (57, vI ((k : Nat) : Int)), (58, Value.slice (subA outA outC k 1) (out.length - k) (outC - k)), (45, Value.slice (some ⟨b50, 0, none⟩) ((([] : List Int)).length) 0)]) (L' := [Ent.row (.slice (some ⟨b50, 0, none⟩) ([] : List Int).length 0) 3 1 ([] : List Int).length (([] : List Int).map vI), Ent.row (.slice outA out.length outC) 3 1 out.length (out.map vI)]) ⟨rfl, rfl, rfl, rfl, rfl, rfl, rfl, rfl, rfl, rfl, rfl, rfl, rfl, rfl, rfl, rfl, rfl, rfl, rfl, rfl, rfl, rfl, rfl, rfl, rfl, rfl, rfl, rfl, rfl, rfl, rfl, rfl, rfl, rfl, rfl, rfl, rfl, rfl, rfl, rfl, rfl, rfl, rfl, rfl, rfl, rfl, trivial⟩ (fun _ h => (St.torow (cs := []) ((h.front 1 _ rfl).front 1 _ rfl) 1 0 rfl (by decide)).keep [true, true] rfl) ?_
              refine JA_ready (rs := [4, 9]) (by kernel_rfl) (by decide) (fun _ h => ⟨h.keep [false, true] rfl, fun _ => h.keep [false, true] rfl⟩) (List.forall_mem_cons.2 ⟨?_, (List.forall_mem_cons.2 ⟨?_, all_nil⟩)⟩)
              · refine JI_op rfl rfl trivial (O_append_m 0 vI ([] : List Int) ((out.drop 0).take (k - 0)) Tryd.underlying48 Ty.sz3 Ty.by3 Ty.ze3 rfl rfl rfl rfl (by simp only [List.length_take, List.length_drop]; omega) (fun _ => rfl) (cells_sub_row 1 vI 0 k rfl lt_ lt_) lt_ lt_ fun A51 c52 => ?_)
                refine JA_one 9 (by kernel_rfl) (fun _ h => ⟨h.keep [false, true] rfl, fun hh => Bool.noConfusion (show false = true from hh)⟩) ?_
                refine JI_op rfl rfl trivial (O_buildSlice (cs := [vI (l.getD i 0)]) Tryd.underlying48 Ty.sz3 Ty.ze3 (by decide) (by decide) (by kernel_rfl) fun b54 => ?_)
                refine JA_one 10 (by kernel_rfl) (fun _ h => ⟨h.keep [false, false, true] rfl, fun hh => Bool.noConfusion (show false = true from hh)⟩) ?_
                refine JI_op rfl rfl trivial (O_append_m 1 vI (([] : List Int) ++ ((out.drop 0).take (k - 0))) [(l.getD i 0)] Tryd.underlying48 Ty.sz3 Ty.by3 Ty.ze3 rfl rfl rfl rfl rfl (fun _ => rfl) (cells_blk 0 (off := 0) (m := 1) rfl rfl) lt_ lt_ fun A57 c58 => ?_)
                refine JA_one 14 (by kernel_rfl) (fun _ h => ⟨h.keep [false, false, true] rfl, fun hh => Bool.noConfusion (show false = true from hh)⟩) ?_
                refine JI_op rfl rfl trivial (O_append_m 1 vI ((([] : List Int) ++ ((out.drop 0).take (k - 0))) ++ [(l.getD i 0)]) ((out.drop k).take (out.length - k)) Tryd.underlying48 Ty.sz3 Ty.by3 Ty.ze3 rfl rfl rfl rfl (by simp only [List.length_take, List.length_drop]; omega) (fun _ => rfl) (cells_sub_row 2 vI k out.length rfl lt_ lt_) lt_ lt_ fun A61 c62 => ?_)
                refine JA_take 15 (Value.slice A61 ((((([] : List Int) ++ ((out.drop 0).take (k - 0))) ++ [(l.getD i 0)]) ++ ((out.drop k).take (out.length - k))).length) c62) rfl (by kernel_rfl) (by kernel_rfl) (by kernel_rfl) rfl (fun _ _ _ h => h) rfl trivial (fun _ _ => rfl) ?_
                exact JA_done (by kernel_rfl) (fun _ h => ⟨h.keep [false, false, true] rfl, fun hh => Bool.noConfusion (show false = true from hh)⟩) (JX_weaken (E' := [(0, Value.slice lA l.length lC), (2, Value.slice none 0 0), (3, Value.slice A61 ((((([] : List Int) ++ ((out.drop 0).take (k - 0))) ++ [(l.getD i 0)]) ++ ((out.drop k).take (out.length - k))).length) c62), (4, vI ((i : Nat) : Int))]) (L' := [Ent.row (.slice A61 (((([] : List Int) ++ ((out.drop 0).take (k - 0))) ++ [(l.getD i 0)]) ++ ((out.drop k).take (out.length - k))).length c62) 3 1 (((([] : List Int) ++ ((out.drop 0).take (k - 0))) ++ [(l.getD i 0)]) ++ ((out.drop k).take (out.length - k))).length ((((([] : List Int) ++ ((out.drop 0).take (k - 0))) ++ [(l.getD i 0)]) ++ ((out.drop k).take (out.length - k))).map vI)]) ⟨rfl, rfl, rfl, rfl, trivial⟩ (fun _ h => h.keep [false, true, false] rfl) (key49 (A61, c62)))
              · refine JI_op rfl rfl trivial (O_buildSlice (cs := [vI (l.getD i 0)]) Tryd.underlying48 Ty.sz3 Ty.ze3 (by decide) (by decide) (by kernel_rfl) fun b63 => ?_)
                refine JA_one 4 (by kernel_rfl) (fun _ h => ⟨h.keep [false, false, true] rfl, fun _ => h.keep [false, false, true] rfl⟩) ?_
                refine JI_op rfl rfl trivial (O_append_m 1 vI ([] : List Int) ((out.drop 0).take (k - 0)) Tryd.underlying48 Ty.sz3 Ty.by3 Ty.ze3 rfl rfl rfl rfl (by simp only [List.length_take, List.length_drop]; omega) (fun _ => rfl) (cells_sub_row 2 vI 0 k rfl lt_ lt_) lt_ lt_ fun A66 c67 => ?_)
                refine JA_one 10 (by kernel_rfl) (fun _ h => ⟨h.keep [false, false, true] rfl, fun hh => Bool.noConfusion (show false = true from hh)⟩) ?_
                refine JI_op rfl rfl trivial (O_append_m 1 vI (([] : List Int) ++ ((out.drop 0).take (k - 0))) [(l.getD i 0)] Tryd.underlying48 Ty.sz3 Ty.by3 Ty.ze3 rfl rfl rfl rfl rfl (fun _ => rfl) (cells_blk 0 (off := 0) (m := 1) rfl rfl) lt_ lt_ fun A70 c71 => ?_)
                refine JA_one 14 (by kernel_rfl) (fun _ h => ⟨h.keep [false, false, true] rfl, fun hh => Bool.noConfusion (show false = true from hh)⟩) ?_
                refine JI_op rfl rfl trivial (O_append_m 1 vI ((([] : List Int) ++ ((out.drop 0).take (k - 0))) ++ [(l.getD i 0)]) ((out.drop k).take (out.length - k)) Tryd.underlying48 Ty.sz3 Ty.by3 Ty.ze3 rfl rfl rfl rfl (by simp only [List.length_take, List.length_drop]; omega) (fun _ => rfl) (cells_sub_row 2 vI k out.length rfl lt_ lt_) lt_ lt_ fun A74 c75 => ?_)
                refine JA_take 15 (Value.slice A74 ((((([] : List Int) ++ ((out.drop 0).take (k - 0))) ++ [(l.getD i 0)]) ++ ((out.drop k).take (out.length - k))).length) c75) rfl (by kernel_rfl) (by kernel_rfl) (by kernel_rfl) rfl (fun _ _ _ h => h) rfl trivial (fun _ _ => rfl) ?_
                exact JA_done (by kernel_rfl) (fun _ h => ⟨h.keep [false, false, true] rfl, fun hh => Bool.noConfusion (show false = true from hh)⟩) (JX_weaken (E' := [(0, Value.slice lA l.length lC), (2, Value.slice none 0 0), (3, Value.slice A74 ((((([] : List Int) ++ ((out.drop 0).take (k - 0))) ++ [(l.getD i 0)]) ++ ((out.drop k).take (out.length - k))).length) c75), (4, vI ((i : Nat) : Int))]) (L' := [Ent.row (.slice A74 (((([] : List Int) ++ ((out.drop 0).take (k - 0))) ++ [(l.getD i 0)]) ++ ((out.drop k).take (out.length - k))).length c75) 3 1 (((([] : List Int) ++ ((out.drop 0).take (k - 0))) ++ [(l.getD i 0)]) ++ ((out.drop k).take (out.length - k))).length ((((([] : List Int) ++ ((out.drop 0).take (k - 0))) ++ [(l.getD i 0)]) ++ ((out.drop k).take (out.length - k))).map vI)]) ⟨rfl, rfl, rfl, rfl, trivial⟩ (fun _ h => h.keep [false, true, false] rfl) (key49 (A74, c75)))
            · refine JI_op rfl rfl trivial (O_buildSlice (cs := [vI (l.getD i 0)]) Tryd.underlying48 Ty.sz3 Ty.ze3 (by decide) (by decide) (by kernel_rfl) fun b76 => ?_)
              refine JA_one 0 (by kernel_rfl) (fun _ h => ⟨h.keep [false, true] rfl, fun _ => h.keep [false, true] rfl⟩) ?_
              refine JI_op rfl rfl trivial (O_buildSlice0 Tryd.underlying48 Ty.sz3 fun b78 => ?_)
              refine JA_weaken (E' := [(0, Value.slice lA l.length lC), (2, Value.slice none 0 0), (3, Value.slice outA out.length outC), (4, vI ((i : Nat) : Int)), (5, vI ((k : Nat) : Int)), (13, vI ((k : Nat) : Int)), (14, Value.slice outA out.length outC), (15, vI ((out.length : Nat) : Int)), (16, vB (decide (((k : Nat) : Int) < ((out.length : Nat) : Int)))), (17, vB true), (18, Value.slice outA out.length outC), (19, vI ((k : Nat) : Int)), (20, Value.pointer (some (adr outA k))), (21, vI (out.getD k 0)), (22, Value.slice lA l.length lC), (23, vI ((i : Nat) : Int)), (24, Value.pointer (some (adr lA i))), (25, vI (l.getD i 0)), (26, vB (decide ((out.getD k 0) < (l.getD i 0)))), (27, vB (decide ((out.getD k 0) < (l.getD i 0)))), (30, vI ((k : Nat) : Int)), (31, Value.slice outA out.length outC), (32, vI ((out.length : Nat) : Int)), (33, vB (decide (((k : Nat) : Int) < ((out.length : Nat) : Int)))), (34, vB false), (35, undef), (36, undef), (37, undef), (38, undef), (39, undef), (40, undef), (41, undef), (42, undef), (43, undef), (44, vB false), (46, Value.slice outA out.length outC), (47, vI ((k : Nat) : Int)), (48, Value.slice (subA outA outC 0 1) k outC), (50, Value.slice lA l.length lC), (51, vI ((i : Nat) : Int)), (52, Value.pointer (some (adr lA i))), (53, vI (l.getD i 0)), (56, Value.slice outA out.length outC), (57, vI ((k : Nat) : Int)), (58, Value.slice (subA outA outC k 1) (out.length - k) (outC - k)), (54, Value.slice (some ⟨b76, 0, none⟩) 1 1), (45, Value.slice (some ⟨b78, 0, none⟩) ((([] : List Int)).length) 0)]) (L' := [Ent.row (.slice (some ⟨b78, 0, none⟩) ([] : List Int).length 0) 3 1 ([] : List Int).length (([] : List Int).map vI), Ent.blk b76 3 [vI (l.getD i 0)], Ent.row (.slice outA out.length outC) 3 1 out.length (out.map vI)]) ⟨rfl, rfl, rfl, rfl, rfl, rfl, rfl, rfl, rfl, rfl, rfl, rfl, rfl, rfl, rfl, rfl, rfl, rfl, rfl, rfl, rfl, rfl, rfl, rfl, rfl, rfl, rfl, rfl, rfl, rfl, rfl, rfl, rfl, rfl, rfl, rfl, rfl, rfl, rfl, rfl, rfl, rfl, rfl, rfl, rfl, rfl, rfl, trivial⟩ (fun _ h => (St.torow (cs := []) (((h.front 2 _ rfl).front 2 _ rfl).front 2 _ rfl) 1 0 rfl (by decide)).keep [true, true, true] rfl) ?_
              refine JA_one 4 (by kernel_rfl) (fun _ h => ⟨h.keep [false, false, true] rfl, fun _ => h.keep [false, false, true] rfl⟩) ?_
              refine JI_op rfl rfl trivial (O_append_m 0 vI ([] : List Int) ((out.drop 0).take (k - 0)) Tryd.underlying48 Ty.sz3 Ty.by3 Ty.ze3 rfl rfl rfl rfl (by simp only [List.length_take, List.length_drop]; omega) (fun _ => rfl) (cells_sub_row 2 vI 0 k rfl lt_ lt_) lt_ lt_ fun A81 c82 => ?_)
              refine JA_one 10 (by kernel_rfl) (fun _ h => ⟨h.keep [false, false, true] rfl, fun hh => Bool.noConfusion (show false = true from hh)⟩) ?_
              refine JI_op rfl rfl trivial (O_append_m 0 vI (([] : List Int) ++ ((out.drop 0).take (k - 0))) [(l.getD i 0)] Tryd.underlying48 Ty.sz3 Ty.by3 Ty.ze3 rfl rfl rfl rfl rfl (fun _ => rfl) (cells_blk 1 (off := 0) (m := 1) rfl rfl) lt_ lt_ fun A85 c86 => ?_)
              refine JA_one 14 (by kernel_rfl) (fun _ h => ⟨h.keep [false, false, true] rfl, fun hh => Bool.noConfusion (show false = true from hh)⟩) ?_
              refine JI_op rfl rfl trivial (O_append_m 0 vI ((([] : List Int) ++ ((out.drop 0).take (k - 0))) ++ [(l.getD i 0)]) ((out.drop k).take (out.length - k)) Tryd.underlying48 Ty.sz3 Ty.by3 Ty.ze3 rfl rfl rfl rfl (by simp only [List.length_take, List.length_drop]; omega) (fun _ => rfl) (cells_sub_row 2 vI k out.length rfl lt_ lt_) lt_ lt_ fun A89 c90 => ?_)
              refine JA_take 15 (Value.slice A89 ((((([] : List Int) ++ ((out.drop 0).take (k - 0))) ++ [(l.getD i 0)]) ++ ((out.drop k).take (out.length - k))).length) c90) rfl (by kernel_rfl) (by kernel_rfl) (by kernel_rfl) rfl (fun _ _ _ h => h) rfl trivial (fun _ _ => rfl) ?_
              exact JA_done (by kernel_rfl) (fun _ h => ⟨h.keep [false, false, true] rfl, fun hh => Bool.noConfusion (show false = true from hh)⟩) (JX_weaken (E' := [(0, Value.slice lA l.length lC), (2, Value.slice none 0 0), (3, Value.slice A89 ((((([] : List Int) ++ ((out.drop 0).take (k - 0))) ++ [(l.getD i 0)]) ++ ((out.drop k).take (out.length - k))).length) c90), (4, vI ((i : Nat) : Int))]) (L' := [Ent.row (.slice A89 (((([] : List Int) ++ ((out.drop 0).take (k - 0))) ++ [(l.getD i 0)]) ++ ((out.drop k).take (out.length - k))).length c90) 3 1 (((([] : List Int) ++ ((out.drop 0).take (k - 0))) ++ [(l.getD i 0)]) ++ ((out.drop k).take (out.length - k))).length ((((([] : List Int) ++ ((out.drop 0).take (k - 0))) ++ [(l.getD i 0)]) ++ ((out.drop k).take (out.length - k))).map vI)]) ⟨rfl, rfl, rfl, rfl, trivial⟩ (fun _ h => h.keep [true, false, false] rfl) (key49 (A89, c90)))
    · have h3 := of_decide_eq_false h3
      refine JA_shun 5 rfl (by kernel_rfl) (by kernel_rfl) (by kernel_rfl) rfl (fun _ _ _ h => h) rfl ⟨_, rfl, rfl⟩ ?_
      refine JA_shun 6 rfl (by kernel_rfl) (by kernel_rfl) (by kernel_rfl) rfl (fun _ _ _ h => h) rfl ⟨_, rfl, rfl⟩ ?_
      refine JA_shun 7 rfl (by kernel_rfl) (by kernel_rfl) (by kernel_rfl) rfl (fun _ _ _ h => h) rfl ⟨_, rfl, rfl⟩ ?_
      refine JA_shun 8 rfl (by kernel_rfl) (by kernel_rfl) (by kernel_rfl) rfl (fun _ _ _ h => h) rfl ⟨_, rfl, rfl⟩ ?_
      refine JA_shun 9 rfl (by kernel_rfl) (by kernel_rfl) (by kernel_rfl) rfl (fun _ _ _ h => h) rfl ⟨_, rfl, rfl⟩ ?_
      refine JA_shun 10 rfl (by kernel_rfl) (by kernel_rfl) (by kernel_rfl) rfl (fun _ _ _ h => h) rfl ⟨_, rfl, rfl⟩ ?_
      refine JA_shun 11 rfl (by kernel_rfl) (by kernel_rfl) (by kernel_rfl) rfl (fun _ _ _ h => h) rfl ⟨_, rfl, rfl⟩ ?_
      refine JA_shun 12 rfl (by kernel_rfl) (by kernel_rfl) (by kernel_rfl) rfl (fun _ _ _ h => h) rfl ⟨_, rfl, rfl⟩ ?_
      refine JA_shun 13 rfl (by kernel_rfl) (by kernel_rfl) (by kernel_rfl) rfl (fun _ _ _ h => h) rfl ⟨_, rfl, rfl⟩ ?_
      refine JA_take 14 (vB false) rfl (by kernel_rfl) (by kernel_rfl) (by kernel_rfl) rfl (fun _ _ _ h => h) rfl trivial (fun _ _ => rfl) ?_
      refine JA_done (by kernel_rfl) (fun _ h => ⟨h, fun _ => h⟩) ?_
      refine JX_then ?_
      refine J_cond false rfl rfl (fun h => by cases h) (fun h => ?_)
      refine J_exit ?_
      refine JX_then_exit ?_
      refine JX_round_exit ?_
      refine JX_block_hit ?_
      refine JX_then ?_
      refine J_seq ?_
      refine J_seq ?_
      refine J_draw [Ent.row (.slice outA out.length outC) 3 1 out.length (out.map vI)] [] [Ent.row (.slice outA out.length outC) 3 1 out.length (out.map vI)] 15 Ty.mixed rfl ?_
      refine JA_take 0 (vI ((k : Nat) : Int)) rfl (by kernel_rfl) (by kernel_rfl) (by kernel_rfl) rfl (fun _ _ _ h => h) rfl trivial (fun _ _ => rfl) ?_
      refine JA_take 1 (Value.slice outA out.length outC) rfl (by kernel_rfl) (by kernel_rfl) (by kernel_rfl) rfl (fun _ _ _ h => h) rfl trivial (fun _ _ => rfl) ?_
      refine JA_take 2 (vI ((out.length : Nat) : Int)) rfl (by kernel_rfl) (by kernel_rfl) (by kernel_rfl) rfl (fun _ _ _ h => h) rfl trivial (fun _ _ => x_len_sl Tryd.underlying48 rfl) ?_
      refine JA_take 3 (vB (decide (((k : Nat) : Int) < ((out.length : Nat) : Int)))) rfl (by kernel_rfl) (by kernel_rfl) (by kernel_rfl) rfl (fun _ _ _ h => h) rfl trivial (fun _ _ => x_lss_i rfl rfl) ?_
      refine JA_take 4 (vB (decide (((k : Nat) : Int) < ((out.length : Nat) : Int)))) rfl (by kernel_rfl) (by kernel_rfl) (by kernel_rfl) rfl (fun _ _ _ h => h) rfl trivial (fun _ _ => rfl) ?_
      refine JA_bool (decide (((k : Nat) : Int) < ((out.length : Nat) : Int))) [(0, Value.slice lA l.length lC), (2, Value.slice none 0 0), (3, Value.slice outA out.length outC), (4, vI ((i : Nat) : Int)), (5, vI ((k : Nat) : Int)), (13, vI ((k : Nat) : Int)), (14, Value.slice outA out.length outC), (15, vI ((out.length : Nat) : Int)), (16, vB (decide (((k : Nat) : Int) < ((out.length : Nat) : Int)))), (17, vB false), (18, undef), (19, undef), (20, undef), (21, undef), (22, undef), (23, undef), (24, undef), (25, undef), (26, undef), (27, vB false), (30, vI ((k : Nat) : Int)), (31, Value.slice outA out.length outC), (32, vI ((out.length : Nat) : Int)), (33, vB (decide (((k : Nat) : Int) < ((out.length : Nat) : Int)))), (34, vB true)] [(0, Value.slice lA l.length lC), (2, Value.slice none 0 0), (3, Value.slice outA out.length outC), (4, vI ((i : Nat) : Int)), (5, vI ((k : Nat) : Int)), (13, vI ((k : Nat) : Int)), (14, Value.slice outA out.length outC), (15, vI ((out.length : Nat) : Int)), (16, vB (decide (((k : Nat) : Int) < ((out.length : Nat) : Int)))), (17, vB false), (18, undef), (19, undef), (20, undef), (21, undef), (22, undef), (23, undef), (24, undef), (25, undef), (26, undef), (27, vB false), (30, vI ((k : Nat) : Int)), (31, Value.slice outA out.length outC), (32, vI ((out.length : Nat) : Int)), (33, vB (decide (((k : Nat) : Int) < ((out.length : Nat) : Int)))), (34, vB false)] (fun hb => ⟨rfl, rfl, rfl, rfl, rfl, rfl, rfl, rfl, rfl, rfl, rfl, rfl, rfl, rfl, rfl, rfl, rfl, rfl, rfl, rfl, rfl, rfl, rfl, rfl, congrArg (fun b => some (vB b)) hb, trivial⟩) (fun hb => ⟨rfl, rfl, rfl, rfl, rfl, rfl, rfl, rfl, rfl, rfl, rfl, rfl, rfl, rfl, rfl, rfl, rfl, rfl, rfl, rfl, rfl, rfl, rfl, rfl, congrArg (fun b => some (vB b)) hb, trivial⟩) (fun h91 => ?_) (fun h91 => ?_)
      · have h91 := of_decide_eq_true h91
        refine JA_take 5 (Value.slice outA out.length outC) rfl (by kernel_rfl) (by kernel_rfl) (by kernel_rfl) rfl (fun _ _ _ h => h) rfl ⟨_, rfl, rfl⟩ (fun _ _ => rfl) ?_
        refine JA_take 6 (vI ((k : Nat) : Int)) rfl (by kernel_rfl) (by kernel_rfl) (by kernel_rfl) rfl (fun _ _ _ h => h) rfl ⟨_, rfl, rfl⟩ (fun _ _ => rfl) ?_
        refine JA_take 7 (Value.pointer (some (adr outA k))) rfl (by kernel_rfl) (by kernel_rfl) (by kernel_rfl) rfl (fun _ _ _ h => h) rfl ⟨_, rfl, rfl⟩ (x_indexAddr_at (k := k) (off := k) (cells_row 0 rfl) Tryd.underlying48 Ty.sz3 rfl rfl lt_ (by rw [List.length_map]; first | omega | (simp; omega) | (simp_all; omega) | (simp_all; done)) (Nat.mul_one _)) ?_
        refine JA_take 8 (vI (out.getD k 0)) rfl (by kernel_rfl) (by kernel_rfl) (by kernel_rfl) rfl (fun _ _ _ h => h) rfl ⟨_, rfl, rfl⟩ (x_load_at (cells_row 0 rfl) rfl Ty.sc3 (map_at vI out 0 lt_)) ?_
        refine JA_take 9 (Value.slice lA l.length lC) rfl (by kernel_rfl) (by kernel_rfl) (by kernel_rfl) rfl (fun _ _ _ h => h) rfl ⟨_, rfl, rfl⟩ (fun _ _ => rfl) ?_
        refine JA_take 10 (vI ((i : Nat) : Int)) rfl (by kernel_rfl) (by kernel_rfl) (by kernel_rfl) rfl (fun _ _ _ h => h) rfl ⟨_, rfl, rfl⟩ (fun _ _ => rfl) ?_
        refine JA_take 11 (Value.pointer (some (adr lA i))) rfl (by kernel_rfl) (by kernel_rfl) (by kernel_rfl) rfl (fun _ _ _ h => h) rfl ⟨_, rfl, rfl⟩ (x_indexAddr_at (k := i) (off := i) (cells_ro lR) Tryd.underlying48 Ty.sz3 rfl rfl lt_ (by rw [List.length_map]; first | omega | (simp; omega) | (simp_all; omega) | (simp_all; done)) (Nat.mul_one _)) ?_
        refine JA_take 12 (vI (l.getD i 0)) rfl (by kernel_rfl) (by kernel_rfl) (by kernel_rfl) rfl (fun _ _ _ h => h) rfl ⟨_, rfl, rfl⟩ (x_load_at (cells_ro lR) rfl Ty.sc3 (map_at vI l 0 lt_)) ?_
        refine JA_take 13 (vB (decide ((out.getD k 0) = (l.getD i 0)))) rfl (by kernel_rfl) (by kernel_rfl) (by kernel_rfl) rfl (fun _ _ _ h => h) rfl ⟨_, rfl, rfl⟩ (fun _ _ => x_eql_i rfl rfl) ?_
        refine JA_take 14 (vB (decide ((out.getD k 0) = (l.getD i 0)))) rfl (by kernel_rfl) (by kernel_rfl) (by kernel_rfl) rfl (fun _ _ _ h => h) rfl trivial (fun _ _ => rfl) ?_
        refine JA_done (by kernel_rfl) (fun _ h => ⟨h, fun _ => h⟩) ?_
        refine JX_then ?_
        refine J_cond (decide ((out.getD k 0) = (l.getD i 0))) rfl rfl (fun h92 => ?_) (fun h92 => ?_)
        · have h92 := of_decide_eq_true h92
          refine J_exit ?_
          refine JX_then_exit ?_
          refine JX_block_hit ?_
          refine JX_then ?_
          refine J_region ?_
          refine JO_read (vI ((i : Nat) : Int)) rfl trivial (fun _ _ => rfl) ?_
          refine JO_read (vI ((i + 1 : Nat) : Int)) rfl trivial (fun _ _ => x_add_n (a := i) (b := 1) rfl rfl (by omega)) ?_
          refine JO_read (vI ((i + 1 : Nat) : Int)) rfl trivial (fun _ _ => rfl) ?_
          refine JO_nil ?_
          refine JX_round ((i + 1, out, outA, outC) : Nat × (List Int) × (Option Addr) × Nat) ?_ ?_ ⟨rfl, rfl, rfl, rfl, trivial⟩ (fun _ h => h)
          · show ((i + 1) ≤ l.length) ∧ (out = OrdI.insl (l.take (i + 1))) ∧ (out.length ≤ (i + 1))
            refine ⟨?_, ?_, ?_⟩
            · first | rfl | omega | (simp_all; done) | (simp_all; omega)
            · first | exact OrdI.set_hit (by omega) i1_1 i2_0 i2_1 (by omega) (by omega) | exact OrdI.set_new (by omega) i1_1 i2_0 i2_1 (by omega) (by omega)
            · first | omega | (simp only [List.length_append, List.length_take, List.length_drop, List.length_cons, List.length_nil]; omega)
          · show l.length - (i + 1) < l.length - i
            first | omega | (simp; omega) | (simp_all; omega)
        · have h92 := of_decide_eq_false h92
          refine J_skip ?_
          refine JX_then ?_
          refine J_draw [Ent.row (.slice outA out.length outC) 3 1 out.length (out.map vI)] [4, 10, 14] [Ent.row (.slice outA out.length outC) 3 1 out.length (out.map vI)] 16 Ty.mixed rfl ?_
          refine JA_take 1 (Value.slice outA out.length outC) rfl (by kernel_rfl) (by kernel_rfl) (by kernel_rfl) rfl (fun _ _ _ h => h) rfl trivial (fun _ _ => rfl) ?_
          refine JA_take 2 (vI ((k : Nat) : Int)) rfl (by kernel_rfl) (by kernel_rfl) (by kernel_rfl) rfl (fun _ _ _ h => h) rfl trivial (fun _ _ => rfl) ?_
          refine JA_take 3 (Value.slice (subA outA outC 0 1) k outC) rfl (by kernel_rfl) (by kernel_rfl) (by kernel_rfl) rfl (fun _ _ _ h => h) rfl trivial (x_subrow_row 0 (lo := 0) (hi := k) rfl rfl Tryd.underlying48 Ty.sz3 (.inr ⟨rfl, rfl⟩) (.inl rfl) lt_ lt_) ?_
          refine JA_take 5 (Value.slice lA l.length lC) rfl (by kernel_rfl) (by kernel_rfl) (by kernel_rfl) rfl (fun _ _ _ h => h) rfl trivial (fun _ _ => rfl) ?_
          refine JA_take 6 (vI ((i : Nat) : Int)) rfl (by kernel_rfl) (by kernel_rfl) (by kernel_rfl) rfl (fun _ _ _ h => h) rfl trivial (fun _ _ => rfl) ?_
          refine JA_take 7 (Value.pointer (some (adr lA i))) rfl (by kernel_rfl) (by kernel_rfl) (by kernel_rfl) rfl (fun _ _ _ h => h) rfl trivial (x_indexAddr_at (k := i) (off := i) (cells_ro lR) Tryd.underlying48 Ty.sz3 rfl rfl lt_ (by rw [List.length_map]; first | omega | (simp; omega) | (simp_all; omega) | (simp_all; done)) (Nat.mul_one _)) ?_
          refine JA_take 8 (vI (l.getD i 0)) rfl (by kernel_rfl) (by kernel_rfl) (by kernel_rfl) rfl (fun _ _ _ h => h) rfl trivial (x_load_at (cells_ro lR) rfl Ty.sc3 (map_at vI l 0 lt_)) ?_
          refine JA_take 11 (Value.slice outA out.length outC) rfl (by kernel_rfl) (by kernel_rfl) (by kernel_rfl) rfl (fun _ _ _ h => h) rfl trivial (fun _ _ => rfl) ?_
          refine JA_take 12 (vI ((k : Nat) : Int)) rfl (by kernel_rfl) (by kernel_rfl) (by kernel_rfl) rfl (fun _ _ _ h => h) rfl trivial (fun _ _ => rfl) ?_
          refine JA_take 13 (Value.slice (subA outA outC k 1) (out.length - k) (outC - k)) rfl (by kernel_rfl) (by kernel_rfl) (by kernel_rfl) rfl (fun _ _ _ h => h) rfl trivial (x_subrow_row 0 (lo := k) (hi := out.length) rfl rfl Tryd.underlying48 Ty.sz3 (.inl rfl) (.inr ⟨rfl, rfl⟩) lt_ lt_) ?_
          refine JA_finX (X := (Option Addr) × Nat) (fun ⟨A104, c105⟩ => [(0, Value.slice lA l.length lC), (2, Value.slice none 0 0), (3, Value.slice A104 ((((([] : List Int) ++ ((out.drop 0).take (k - 0))) ++ [(l.getD i 0)]) ++ ((out.drop k).take (out.length - k))).length) c105), (4, vI ((i : Nat) : Int))]) (fun ⟨A104, c105⟩ => [Ent.row (.slice A104 (((([] : List Int) ++ ((out.drop 0).take (k - 0))) ++ [(l.getD i 0)]) ++ ((out.drop k).take (out.length - k))).length c105) 3 1 (((([] : List Int) ++ ((out.drop 0).take (k - 0))) ++ [(l.getD i 0)]) ++ ((out.drop k).take (out.length - k))).length ((((([] : List Int) ++ ((out.drop 0).take (k - 0))) ++ [(l.getD i 0)]) ++ ((out.drop k).take (out.length - k))).map vI)]) ?_ (fun key93 => ?_)
          · rintro ⟨A104, c105⟩
            show JX _ _ _ _ _ [(0, Value.slice lA l.length lC), (2, Value.slice none 0 0), (3, Value.slice A104 ((((([] : List Int) ++ ((out.drop 0).take (k - 0))) ++ [(l.getD i 0)]) ++ ((out.drop k).take (out.length - k))).length) c105), (4, vI ((i : Nat) : Int))] [Ent.row (.slice A104 (((([] : List Int) ++ ((out.drop 0).take (k - 0))) ++ [(l.getD i 0)]) ++ ((out.drop k).take (out.length - k))).length c105) 3 1 (((([] : List Int) ++ ((out.drop 0).take (k - 0))) ++ [(l.getD i 0)]) ++ ((out.drop k).take (out.length - k))).length ((((([] : List Int) ++ ((out.drop 0).take (k - 0))) ++ [(l.getD i 0)]) ++ ((out.drop k).take (out.length - k))).map vI)]
            refine JX_block ?_
            refine JX_then ?_
            refine J_region ?_
            refine JO_read (vI ((i : Nat) : Int)) rfl trivial (fun _ _ => rfl) ?_
            refine JO_read (vI ((i + 1 : Nat) : Int)) rfl trivial (fun _ _ => x_add_n (a := i) (b := 1) rfl rfl (by omega)) ?_
            refine JO_read (vI ((i + 1 : Nat) : Int)) rfl trivial (fun _ _ => rfl) ?_
            refine JO_nil ?_
            refine JX_round ((i + 1, ((([] : List Int) ++ ((out.drop 0).take (k - 0))) ++ [(l.getD i 0)]) ++ ((out.drop k).take (out.length - k)), A104, c105) : Nat × (List Int) × (Option Addr) × Nat) ?_ ?_ ⟨rfl, rfl, rfl, rfl, trivial⟩ (fun _ h => h)
            · show ((i + 1) ≤ l.length) ∧ ((((([] : List Int) ++ ((out.drop 0).take (k - 0))) ++ [(l.getD i 0)]) ++ ((out.drop k).take (out.length - k))) = OrdI.insl (l.take (i + 1))) ∧ ((((([] : List Int) ++ ((out.drop 0).take (k - 0))) ++ [(l.getD i 0)]) ++ ((out.drop k).take (out.length - k))).length ≤ (i + 1))
              refine ⟨?_, ?_, ?_⟩
              · first | rfl | omega | (simp_all; done) | (simp_all; omega)
              · first | exact OrdI.set_hit (by omega) i1_1 i2_0 i2_1 (by omega) (by omega) | exact OrdI.set_new (by omega) i1_1 i2_0 i2_1 (by omega) (by omega)
              · first | omega | (simp only [List.length_append, List.length_take, List.length_drop, List.length_cons, List.length_nil]; omega)
            · show l.length - (i + 1) < l.length - i
              first | omega | (simp; omega) | (simp_all; omega)
          · refine JA_ready (rs := [0, 9]) (by kernel_rfl) (by decide) (fun _ h => ⟨h, fun _ => h⟩) (List.forall_mem_cons.2 ⟨?_, (List.forall_mem_cons.2 ⟨?_, all_nil⟩)⟩)
            · refine JI_op rfl rfl trivial (O_buildSlice0 Tryd.underlying48 Ty.sz3 fun b94 => ?_)
              refine JA_weaken (E' := [(0, Value.slice lA l.length lC), (2, Value.slice none 0 0), (3, Value.slice outA out.length outC), (4, vI ((i : Nat) : Int)), (5, vI ((k : Nat) : Int)), (13, vI ((k : Nat) : Int)), (14, Value.slice outA out.length outC), (15, vI ((out.length : Nat) : Int)), (16, vB (decide (((k : Nat) : Int) < ((out.length : Nat) : Int)))), (17, vB false), (18, undef), (19, undef), (20, undef), (21, undef), (22, undef), (23, undef), (24, undef), (25, undef), (26, undef), (27, vB false), (30, vI ((k : Nat) : Int)), (31, Value.slice outA out.length outC), (32, vI ((out.length : Nat) : Int)), (33, vB (decide (((k : Nat) : Int) < ((out.length : Nat) : Int)))), (34, vB true), (35, Value.slice outA out.length outC), (36, vI ((k : Nat) : Int)), (37, Value.pointer (some (adr outA k))), (38, vI (out.getD k 0)), (39, Value.slice lA l.length lC), (40, vI ((i : Nat) : Int)), (41, Value.pointer (some (adr lA i))), (42, vI (l.getD i 0)), (43, vB (decide ((out.getD k 0) = (l.getD i 0)))), (44, vB (decide ((out.getD k 0) = (l.getD i 0)))), (46, Value.slice outA out.length outC), (47, vI ((k : Nat) : Int)), (48, Value.slice (subA outA outC 0 1) k outC), (50, Value.slice lA l.length lC), (51, vI ((i : Nat) : Int)), (52, Value.pointer (some (adr lA i))), (53, vI (l.getD i 0)), (56, Value.slice outA out.length outC), (57, vI ((k : Nat) : Int)), (58, Value.slice (subA outA outC k 1) (out.length - k) (outC - k)), (45, Value.slice (some ⟨b94, 0, none⟩) ((([] : List Int)).length) 0)]) (L' := [Ent.row (.slice (some ⟨b94, 0, none⟩) ([] : List Int).length 0) 3 1 ([] : List Int).length (([] : List Int).map vI), Ent.row (.slice outA out.length outC) 3 1 out.length (out.map vI)]) ⟨rfl, rfl, rfl, rfl, rfl, rfl, rfl, rfl, rfl, rfl, rfl, rfl, rfl, rfl, rfl, rfl, rfl, rfl, rfl, rfl, rfl, rfl, rfl, rfl, rfl, rfl, rfl, rfl, rfl, rfl, rfl, rfl, rfl, rfl, rfl, rfl, rfl, rfl, rfl, rfl, rfl, rfl, rfl, rfl, rfl, rfl, trivial⟩ (fun _ h => (St.torow (cs := []) ((h.front 1 _ rfl).front 1 _ rfl) 1 0 rfl (by decide)).keep [true, true] rfl) ?_
              refine JA_ready (rs := [4, 9]) (by kernel_rfl) (by decide) (fun _ h => ⟨h.keep [false, true] rfl, fun _ => h.keep [false, true] rfl⟩) (List.forall_mem_cons.2 ⟨?_, (List.forall_mem_cons.2 ⟨?_, all_nil⟩)⟩)
              · refine JI_op rfl rfl trivial (O_append_m 0 vI ([] : List Int) ((out.drop 0).take (k - 0)) Tryd.underlying48 Ty.sz3 Ty.by3 Ty.ze3 rfl rfl rfl rfl (by simp only [List.length_take, List.length_drop]; omega) (fun _ => rfl) (cells_sub_row 1 vI 0 k rfl lt_ lt_) lt_ lt_ fun A95 c96 => ?_)
                refine JA_one 9 (by kernel_rfl) (fun _ h => ⟨h.keep [false, true] rfl, fun hh => Bool.noConfusion (show false = true from hh)⟩) ?_
                refine JI_op rfl rfl trivial (O_buildSlice (cs := [vI (l.getD i 0)]) Tryd.underlying48 Ty.sz3 Ty.ze3 (by decide) (by decide) (by kernel_rfl) fun b98 => ?_)
                refine JA_one 10 (by kernel_rfl) (fun _ h => ⟨h.keep [false, false, true] rfl, fun hh => Bool.noConfusion (show false = true from hh)⟩) ?_
                refine JI_op rfl rfl trivial (O_append_m 1 vI (([] : List Int) ++ ((out.drop 0).take (k - 0))) [(l.getD i 0)] Tryd.underlying48 Ty.sz3 Ty.by3 Ty.ze3 rfl rfl rfl rfl rfl (fun _ => rfl) (cells_blk 0 (off := 0) (m := 1) rfl rfl) lt_ lt_ fun A101 c102 => ?_)
                refine JA_one 14 (by kernel_rfl) (fun _ h => ⟨h.keep [false, false, true] rfl, fun hh => Bool.noConfusion (show false = true from hh)⟩) ?_
                refine JI_op rfl rfl trivial (O_append_m 1 vI ((([] : List Int) ++ ((out.drop 0).take (k - 0))) ++ [(l.getD i 0)]) ((out.drop k).take (out.length - k)) Tryd.underlying48 Ty.sz3 Ty.by3 Ty.ze3 rfl rfl rfl rfl (by simp only [List.length_take, List.length_drop]; omega) (fun _ => rfl) (cells_sub_row 2 vI k out.length rfl lt_ lt_) lt_ lt_ fun A105 c106 => ?_)
                refine JA_take 15 (Value.slice A105 ((((([] : List Int) ++ ((out.drop 0).take (k - 0))) ++ [(l.getD i 0)]) ++ ((out.drop k).take (out.length - k))).length) c106) rfl (by kernel_rfl) (by kernel_rfl) (by kernel_rfl) rfl (fun _ _ _ h => h) rfl trivial (fun _ _ => rfl) ?_
                exact JA_done (by kernel_rfl) (fun _ h => ⟨h.keep [false, false, true] rfl, fun hh => Bool.noConfusion (show false = true from hh)⟩) (JX_weaken (E' := [(0, Value.slice lA l.length lC), (2, Value.slice none 0 0), (3, Value.slice A105 ((((([] : List Int) ++ ((out.drop 0).take (k - 0))) ++ [(l.getD i 0)]) ++ ((out.drop k).take (out.length - k))).length) c106), (4, vI ((i : Nat) : Int))]) (L' := [Ent.row (.slice A105 (((([] : List Int) ++ ((out.drop 0).take (k - 0))) ++ [(l.getD i 0)]) ++ ((out.drop k).take (out.length - k))).length c106) 3 1 (((([] : List Int) ++ ((out.drop 0).take (k - 0))) ++ [(l.getD i 0)]) ++ ((out.drop k).take (out.length - k))).length ((((([] : List Int) ++ ((out.drop 0).take (k - 0))) ++ [(l.getD i 0)]) ++ ((out.drop k).take (out.length - k))).map vI)]) ⟨rfl, rfl, rfl, rfl, trivial⟩ (fun _ h => h.keep [false, true, false] rfl) (key93 (A105, c106)))
              · refine JI_op rfl rfl trivial (O_buildSlice (cs := [vI (l.getD i 0)]) Tryd.underlying48 Ty.sz3 Ty.ze3 (by decide) (by decide) (by kernel_rfl) fun b107 => ?_)
                refine JA_one 4 (by kernel_rfl) (fun _ h => ⟨h.keep [false, false, true] rfl, fun _ => h.keep [false, false, true] rfl⟩) ?_
                refine JI_op rfl rfl trivial (O_append_m 1 vI ([] : List Int) ((out.drop 0).take (k - 0)) Tryd.underlying48 Ty.sz3 Ty.by3 Ty.ze3 rfl rfl rfl rfl (by simp only [List.length_take, List.length_drop]; omega) (fun _ => rfl) (cells_sub_row 2 vI 0 k rfl lt_ lt_) lt_ lt_ fun A110 c111 => ?_)
                refine JA_one 10 (by kernel_rfl) (fun _ h => ⟨h.keep [false, false, true] rfl, fun hh => Bool.noConfusion (show false = true from hh)⟩) ?_
                refine JI_op rfl rfl trivial (O_append_m 1 vI (([] : List Int) ++ ((out.drop 0).take (k - 0))) [(l.getD i 0)] Tryd.underlying48 Ty.sz3 Ty.by3 Ty.ze3 rfl rfl rfl rfl rfl (fun _ => rfl) (cells_blk 0 (off := 0) (m := 1) rfl rfl) lt_ lt_ fun A114 c115 => ?_)
                refine JA_one 14 (by kernel_rfl) (fun _ h => ⟨h.keep [false, false, true] rfl, fun hh => Bool.noConfusion (show false = true from hh)⟩) ?_
                refine JI_op rfl rfl trivial (O_append_m 1 vI ((([] : List Int) ++ ((out.drop 0).take (k - 0))) ++ [(l.getD i 0)]) ((out.drop k).take (out.length - k)) Tryd.underlying48 Ty.sz3 Ty.by3 Ty.ze3 rfl rfl rfl rfl (by simp only [List.length_take, List.length_drop]; omega) (fun _ => rfl) (cells_sub_row 2 vI k out.length rfl lt_ lt_) lt_ lt_ fun A118 c119 => ?_)
                refine JA_take 15 (Value.slice A118 ((((([] : List Int) ++ ((out.drop 0).take (k - 0))) ++ [(l.getD i 0)]) ++ ((out.drop k).take (out.length - k))).length) c119) rfl (by kernel_rfl) (by kernel_rfl) (by kernel_rfl) rfl (fun _ _ _ h => h) rfl trivial (fun _ _ => rfl) ?_
                exact JA_done (by kernel_rfl) (fun _ h => ⟨h.keep [false, false, true] rfl, fun hh => Bool.noConfusion (show false = true from hh)⟩) (JX_weaken (E' := [(0, Value.slice lA l.length lC), (2, Value.slice none 0 0), (3, Value.slice A118 ((((([] : List Int) ++ ((out.drop 0).take (k - 0))) ++ [(l.getD i 0)]) ++ ((out.drop k).take (out.length - k))).length) c119), (4, vI ((i : Nat) : Int))]) (L' := [Ent.row (.slice A118 (((([] : List Int) ++ ((out.drop 0).take (k - 0))) ++ [(l.getD i 0)]) ++ ((out.drop k).take (out.length - k))).length c119) 3 1 (((([] : List Int) ++ ((out.drop 0).take (k - 0))) ++ [(l.getD i 0)]) ++ ((out.drop k).take (out.length - k))).length ((((([] : List Int) ++ ((out.drop 0).take (k - 0))) ++ [(l.getD i 0)]) ++ ((out.drop k).take (out.length - k))).map vI)]) ⟨rfl, rfl, rfl, rfl, trivial⟩ (fun _ h => h.keep [false, true, false] rfl) (key93 (A118, c119)))
            · refine JI_op rfl rfl trivial (O_buildSlice (cs := [vI (l.getD i 0)]) Tryd.underlying48 Ty.sz3 Ty.ze3 (by decide) (by decide) (by kernel_rfl) fun b120 => ?_)
              refine JA_one 0 (by kernel_rfl) (fun _ h => ⟨h.keep [false, true] rfl, fun _ => h.keep [false, true] rfl⟩) ?_
              refine JI_op rfl rfl trivial (O_buildSlice0 Tryd.underlying48 Ty.sz3 fun b122 => ?_)
              refine JA_weaken (E' := [(0, Value.slice lA l.length lC), (2, Value.slice none 0 0), (3, Value.slice outA out.length outC), (4, vI ((i : Nat) : Int)), (5, vI ((k : Nat) : Int)), (13, vI ((k : Nat) : Int)), (14, Value.slice outA out.length outC), (15, vI ((out.length : Nat) : Int)), (16, vB (decide (((k : Nat) : Int) < ((out.length : Nat) : Int)))), (17, vB false), (18, undef), (19, undef), (20, undef), (21, undef), (22, undef), (23, undef), (24, undef), (25, undef), (26, undef), (27, vB false), (30, vI ((k : Nat) : Int)), (31, Value.slice outA out.length outC), (32, vI ((out.length : Nat) : Int)), (33, vB (decide (((k : Nat) : Int) < ((out.length : Nat) : Int)))), (34, vB true), (35, Value.slice outA out.length outC), (36, vI ((k : Nat) : Int)), (37, Value.pointer (some (adr outA k))), (38, vI (out.getD k 0)), (39, Value.slice lA l.length lC), (40, vI ((i : Nat) : Int)), (41, Value.pointer (some (adr lA i))), (42, vI (l.getD i 0)), (43, vB (decide ((out.getD k 0) = (l.getD i 0)))), (44, vB (decide ((out.getD k 0) = (l.getD i 0)))), (46, Value.slice outA out.length outC), (47, vI ((k : Nat) : Int)), (48, Value.slice (subA outA outC 0 1) k outC), (50, Value.slice lA l.length lC), (51, vI ((i : Nat) : Int)), (52, Value.pointer (some (adr lA i))), (53, vI (l.getD i 0)), (56, Value.slice outA out.length outC), (57, vI ((k : Nat) : Int)), (58, Value.slice (subA outA outC k 1) (out.length - k) (outC - k)), (54, Value.slice (some ⟨b120, 0, none⟩) 1 1), (45, Value.slice (some ⟨b122, 0, none⟩) ((([] : List Int)).length) 0)]) (L' := [Ent.row (.slice (some ⟨b122, 0, none⟩) ([] : List Int).length 0) 3 1 ([] : List Int).length (([] : List Int).map vI), Ent.blk b120 3 [vI (l.getD i 0)], Ent.row (.slice outA out.length outC) 3 1 out.length (out.map vI)]) ⟨rfl, rfl, rfl, rfl, rfl, rfl, rfl, rfl, rfl, rfl, rfl, rfl, rfl, rfl, rfl, rfl, rfl, rfl, rfl, rfl, rfl, rfl, rfl, rfl, rfl, rfl, rfl, rfl, rfl, rfl, rfl, rfl, rfl, rfl, rfl, rfl, rfl, rfl, rfl, rfl, rfl, rfl, rfl, rfl, rfl, rfl, rfl, trivial⟩ (fun _ h => (St.torow (cs := []) (((h.front 2 _ rfl).front 2 _ rfl).front 2 _ rfl) 1 0 rfl (by decide)).keep [true, true, true] rfl) ?_
              refine JA_one 4 (by kernel_rfl) (fun _ h => ⟨h.keep [false, false, true] rfl, fun _ => h.keep [false, false, true] rfl⟩) ?_
              refine JI_op rfl rfl trivial (O_append_m 0 vI ([] : List Int) ((out.drop 0).take (k - 0)) Tryd.underlying48 Ty.sz3 Ty.by3 Ty.ze3 rfl rfl rfl rfl (by simp only [List.length_take, List.length_drop]; omega) (fun _ => rfl) (cells_sub_row 2 vI 0 k rfl lt_ lt_) lt_ lt_ fun A125 c126 => ?_)
              refine JA_one 10 (by kernel_rfl) (fun _ h => ⟨h.keep [false, false, true] rfl, fun hh => Bool.noConfusion (show false = true from hh)⟩) ?_
              refine JI_op rfl rfl trivial (O_append_m 0 vI (([] : List Int) ++ ((out.drop 0).take (k - 0))) [(l.getD i 0)] Tryd.underlying48 Ty.sz3 Ty.by3 Ty.ze3 rfl rfl rfl rfl rfl (fun _ => rfl) (cells_blk 1 (off := 0) (m := 1) rfl rfl) lt_ lt_ fun A129 c130 => ?_)
              refine JA_one 14 (by kernel_rfl) (fun _ h => ⟨h.keep [false, false, true] rfl, fun hh => Bool.noConfusion (show false = true from hh)⟩) ?_
              refine JI_op rfl rfl trivial (O_append_m 0 vI ((([] : List Int) ++ ((out.drop 0).take (k - 0))) ++ [(l.getD i 0)]) ((out.drop k).take (out.length - k)) Tryd.underlying48 Ty.sz3 Ty.by3 Ty.ze3 rfl rfl rfl rfl (by simp only [List.length_take, List.length_drop]; omega) (fun _ => rfl) (cells_sub_row 2 vI k out.length rfl lt_ lt_) lt_ lt_ fun A133 c134 => ?_)
              refine JA_take 15 (Value.slice A133 ((((([] : List Int) ++ ((out.drop 0).take (k - 0))) ++ [(l.getD i 0)]) ++ ((out.drop k).take (out.length - k))).length) c134) rfl (by kernel_rfl) (by kernel_rfl) (by kernel_rfl) rfl (fun _ _ _ h => h) rfl trivial (fun _ _ => rfl) ?_
              exact JA_done (by kernel_rfl) (fun _ h => ⟨h.keep [false, false, true] rfl, fun hh => Bool.noConfusion (show false = true from hh)⟩) (JX_weaken (E' := [(0, Value.slice lA l.length lC), (2, Value.slice none 0 0), (3, Value.slice A133 ((((([] : List Int) ++ ((out.drop 0).take (k - 0))) ++ [(l.getD i 0)]) ++ ((out.drop k).take (out.length - k))).length) c134), (4, vI ((i : Nat) : Int))]) (L' := [Ent.row (.slice A133 (((([] : List Int) ++ ((out.drop 0).take (k - 0))) ++ [(l.getD i 0)]) ++ ((out.drop k).take (out.length - k))).length c134) 3 1 (((([] : List Int) ++ ((out.drop 0).take (k - 0))) ++ [(l.getD i 0)]) ++ ((out.drop k).take (out.length - k))).length ((((([] : List Int) ++ ((out.drop 0).take (k - 0))) ++ [(l.getD i 0)]) ++ ((out.drop k).take (out.length - k))).map vI)]) ⟨rfl, rfl, rfl, rfl, trivial⟩ (fun _ h => h.keep [true, false, false] rfl) (key93 (A133, c134)))
      · have h91 := of_decide_eq_false h91
        refine JA_shun 5 rfl (by kernel_rfl) (by kernel_rfl) (by kernel_rfl) rfl (fun _ _ _ h => h) rfl ⟨_, rfl, rfl⟩ ?_
        refine JA_shun 6 rfl (by kernel_rfl) (by kernel_rfl) (by kernel_rfl) rfl (fun _ _ _ h => h) rfl ⟨_, rfl, rfl⟩ ?_
        refine JA_shun 7 rfl (by kernel_rfl) (by kernel_rfl) (by kernel_rfl) rfl (fun _ _ _ h => h) rfl ⟨_, rfl, rfl⟩ ?_
        refine JA_shun 8 rfl (by kernel_rfl) (by kernel_rfl) (by kernel_rfl) rfl (fun _ _ _ h => h) rfl ⟨_, rfl, rfl⟩ ?_
        refine JA_shun 9 rfl (by kernel_rfl) (by kernel_rfl) (by kernel_rfl) rfl (fun _ _ _ h => h) rfl ⟨_, rfl, rfl⟩ ?_
        refine JA_shun 10 rfl (by kernel_rfl) (by kernel_rfl) (by kernel_rfl) rfl (fun _ _ _ h => h) rfl ⟨_, rfl, rfl⟩ ?_
        refine JA_shun 11 rfl (by kernel_rfl) (by kernel_rfl) (by kernel_rfl) rfl (fun _ _ _ h => h) rfl ⟨_, rfl, rfl⟩ ?_
        refine JA_shun 12 rfl (by kernel_rfl) (by kernel_rfl) (by kernel_rfl) rfl (fun _ _ _ h => h) rfl ⟨_, rfl, rfl⟩ ?_
        refine JA_shun 13 rfl (by kernel_rfl) (by kernel_rfl) (by kernel_rfl) rfl (fun _ _ _ h => h) rfl ⟨_, rfl, rfl⟩ ?_
        refine JA_take 14 (vB false) rfl (by kernel_rfl) (by kernel_rfl) (by kernel_rfl) rfl (fun _ _ _ h => h) rfl trivial (fun _ _ => rfl) ?_
        refine JA_done (by kernel_rfl) (fun _ h => ⟨h, fun _ => h⟩) ?_
        refine JX_then ?_
        refine J_cond false rfl rfl (fun h => by cases h) (fun h => ?_)
        refine J_skip ?_
        refine JX_then ?_
        refine J_draw [Ent.row (.slice outA out.length outC) 3 1 out.length (out.map vI)] [4, 10, 14] [Ent.row (.slice outA out.length outC) 3 1 out.length (out.map vI)] 16 Ty.mixed rfl ?_
        refine JA_take 1 (Value.slice outA out.length outC) rfl (by kernel_rfl) (by kernel_rfl) (by kernel_rfl) rfl (fun _ _ _ h => h) rfl trivial (fun _ _ => rfl) ?_
        refine JA_take 2 (vI ((k : Nat) : Int)) rfl (by kernel_rfl) (by kernel_rfl) (by kernel_rfl) rfl (fun _ _ _ h => h) rfl trivial (fun _ _ => rfl) ?_
        refine JA_take 3 (Value.slice (subA outA outC 0 1) k outC) rfl (by kernel_rfl) (by kernel_rfl) (by kernel_rfl) rfl (fun _ _ _ h => h) rfl trivial (x_subrow_row 0 (lo := 0) (hi := k) rfl rfl Tryd.underlying48 Ty.sz3 (.inr ⟨rfl, rfl⟩) (.inl rfl) lt_ lt_) ?_
        refine JA_take 5 (Value.slice lA l.length lC) rfl (by kernel_rfl) (by kernel_rfl) (by kernel_rfl) rfl (fun _ _ _ h => h) rfl trivial (fun _ _ => rfl) ?_
        refine JA_take 6 (vI ((i : Nat) : Int)) rfl (by kernel_rfl) (by kernel_rfl) (by kernel_rfl) rfl (fun _ _ _ h => h) rfl trivial (fun _ _ => rfl) ?_
        refine JA_take 7 (Value.pointer (some (adr lA i))) rfl (by kernel_rfl) (by kernel_rfl) (by kernel_rfl) rfl (fun _ _ _ h => h) rfl trivial (x_indexAddr_at (k := i) (off := i) (cells_ro lR) Tryd.underlying48 Ty.sz3 rfl rfl lt_ (by rw [List.length_map]; first | omega | (simp; omega) | (simp_all; omega) | (simp_all; done)) (Nat.mul_one _)) ?_
        refine JA_take 8 (vI (l.getD i 0)) rfl (by kernel_rfl) (by kernel_rfl) (by kernel_rfl) rfl (fun _ _ _ h => h) rfl trivial (x_load_at (cells_ro lR) rfl Ty.sc3 (map_at vI l 0 lt_)) ?_
        refine JA_take 11 (Value.slice outA out.length outC) rfl (by kernel_rfl) (by kernel_rfl) (by kernel_rfl) rfl (fun _ _ _ h => h) rfl trivial (fun _ _ => rfl) ?_
        refine JA_take 12 (vI ((k : Nat) : Int)) rfl (by kernel_rfl) (by kernel_rfl) (by kernel_rfl) rfl (fun _ _ _ h => h) rfl trivial (fun _ _ => rfl) ?_
        refine JA_take 13 (Value.slice (subA outA outC k 1) (out.length - k) (outC - k)) rfl (by kernel_rfl) (by kernel_rfl) (by kernel_rfl) rfl (fun _ _ _ h => h) rfl trivial (x_subrow_row 0 (lo := k) (hi := out.length) rfl rfl Tryd.underlying48 Ty.sz3 (.inl rfl) (.inr ⟨rfl, rfl⟩) lt_ lt_) ?_
        refine JA_finX (X := (Option Addr) × Nat) (fun ⟨A146, c147⟩ => [(0, Value.slice lA l.length lC), (2, Value.slice none 0 0), (3, Value.slice A146 ((((([] : List Int) ++ ((out.drop 0).take (k - 0))) ++ [(l.getD i 0)]) ++ ((out.drop k).take (out.length - k))).length) c147), (4, vI ((i : Nat) : Int))]) (fun ⟨A146, c147⟩ => [Ent.row (.slice A146 (((([] : List Int) ++ ((out.drop 0).take (k - 0))) ++ [(l.getD i 0)]) ++ ((out.drop k).take (out.length - k))).length c147) 3 1 (((([] : List Int) ++ ((out.drop 0).take (k - 0))) ++ [(l.getD i 0)]) ++ ((out.drop k).take (out.length - k))).length ((((([] : List Int) ++ ((out.drop 0).take (k - 0))) ++ [(l.getD i 0)]) ++ ((out.drop k).take (out.length - k))).map vI)]) ?_ (fun key135 => ?_)
        · rintro ⟨A146, c147⟩
          show JX _ _ _ _ _ [(0, Value.slice lA l.length lC), (2, Value.slice none 0 0), (3, Value.slice A146 ((((([] : List Int) ++ ((out.drop 0).take (k - 0))) ++ [(l.getD i 0)]) ++ ((out.drop k).take (out.length - k))).length) c147), (4, vI ((i : Nat) : Int))] [Ent.row (.slice A146 (((([] : List Int) ++ ((out.drop 0).take (k - 0))) ++ [(l.getD i 0)]) ++ ((out.drop k).take (out.length - k))).length c147) 3 1 (((([] : List Int) ++ ((out.drop 0).take (k - 0))) ++ [(l.getD i 0)]) ++ ((out.drop k).take (out.length - k))).length ((((([] : List Int) ++ ((out.drop 0).take (k - 0))) ++ [(l.getD i 0)]) ++ ((out.drop k).take (out.length - k))).map vI)]
          refine JX_block ?_
          refine JX_then ?_
          refine J_region ?_
          refine JO_read (vI ((i : Nat) : Int)) rfl trivial (fun _ _ => rfl) ?_
          refine JO_read (vI ((i + 1 : Nat) : Int)) rfl trivial (fun _ _ => x_add_n (a := i) (b := 1) rfl rfl (by omega)) ?_
          refine JO_read (vI ((i + 1 : Nat) : Int)) rfl trivial (fun _ _ => rfl) ?_
          refine JO_nil ?_
          refine JX_round ((i + 1, ((([] : List Int) ++ ((out.drop 0).take (k - 0))) ++ [(l.getD i 0)]) ++ ((out.drop k).take (out.length - k)), A146, c147) : Nat × (List Int) × (Option Addr) × Nat) ?_ ?_ ⟨rfl, rfl, rfl, rfl, trivial⟩ (fun _ h => h)
          · show ((i + 1) ≤ l.length) ∧ ((((([] : List Int) ++ ((out.drop 0).take (k - 0))) ++ [(l.getD i 0)]) ++ ((out.drop k).take (out.length - k))) = OrdI.insl (l.take (i + 1))) ∧ ((((([] : List Int) ++ ((out.drop 0).take (k - 0))) ++ [(l.getD i 0)]) ++ ((out.drop k).take (out.length - k))).length ≤ (i + 1))
            refine ⟨?_, ?_, ?_⟩
            · first | rfl | omega | (simp_all; done) | (simp_all; omega)
            · first | exact OrdI.set_hit (by omega) i1_1 i2_0 i2_1 (by omega) (by omega) | exact OrdI.set_new (by omega) i1_1 i2_0 i2_1 (by omega) (by omega)
            · first | omega | (simp only [List.length_append, List.length_take, List.length_drop, List.length_cons, List.length_nil]; omega)
          · show l.length - (i + 1) < l.length - i
            first | omega | (simp; omega) | (simp_all; omega)
        · refine JA_ready (rs := [0, 9]) (by kernel_rfl) (by decide) (fun _ h => ⟨h, fun _ => h⟩) (List.forall_mem_cons.2 ⟨?_, (List.forall_mem_cons.2 ⟨?_, all_nil⟩)⟩)
          · refine JI_op rfl rfl trivial (O_buildSlice0 Tryd.underlying48 Ty.sz3 fun b136 => ?_)
            refine JA_weaken (E' := [(0, Value.slice lA l.length lC), (2, Value.slice none 0 0), (3, Value.slice outA out.length outC), (4, vI ((i : Nat) : Int)), (5, vI ((k : Nat) : Int)), (13, vI ((k : Nat) : Int)), (14, Value.slice outA out.length outC), (15, vI ((out.length : Nat) : Int)), (16, vB (decide (((k : Nat) : Int) < ((out.length : Nat) : Int)))), (17, vB false), (18, undef), (19, undef), (20, undef), (21, undef), (22, undef), (23, undef), (24, undef), (25, undef), (26, undef), (27, vB false), (30, vI ((k : Nat) : Int)), (31, Value.slice outA out.length outC), (32, vI ((out.length : Nat) : Int)), (33, vB (decide (((k : Nat) : Int) < ((out.length : Nat) : Int)))), (34, vB false), (35, undef), (36, undef), (37, undef), (38, undef), (39, undef), (40, undef), (41, undef), (42, undef), (43, undef), (44, vB false), (46, Value.slice outA out.length outC), (47, vI ((k : Nat) : Int)), (48, Value.slice (subA outA outC 0 1) k outC), (50, Value.slice lA l.length lC), (51, vI ((i : Nat) : Int)), (52, Value.pointer (some (adr lA i))), (53, vI (l.getD i 0)), (56, Value.slice outA out.length outC), (57, vI ((k : Nat) : Int)), (58, Value.slice (subA outA outC k 1) (out.length - k) (outC - k)), (45, Value.slice (some ⟨b136, 0, none⟩) ((([] : List Int)).length) 0)]) (L' := [Ent.row (.slice (some ⟨b136, 0, none⟩) ([] : List Int).length 0) 3 1 ([] : List Int).length (([] : List Int).map vI), Ent.row (.slice outA out.length outC) 3 1 out.length (out.map vI)]) ⟨rfl, rfl, rfl, rfl, rfl, rfl, rfl, rfl, rfl, rfl, rfl, rfl, rfl, rfl, rfl, rfl, rfl, rfl, rfl, rfl, rfl, rfl, rfl, rfl, rfl, rfl, rfl, rfl, rfl, rfl, rfl, rfl, rfl, rfl, rfl, rfl, rfl, rfl, rfl, rfl, rfl, rfl, rfl, rfl, rfl, rfl, trivial⟩ (fun _ h => (St.torow (cs := []) ((h.front 1 _ rfl).front 1 _ rfl) 1 0 rfl (by decide)).keep [true, true] rfl) ?_
            refine JA_ready (rs := [4, 9]) (by kernel_rfl) (by decide) (fun _ h => ⟨h.keep [false, true] rfl, fun _ => h.keep [false, true] rfl⟩) (List.forall_mem_cons.2 ⟨?_, (List.forall_mem_cons.2 ⟨?_, all_nil⟩)⟩)
            · refine JI_op rfl rfl trivial (O_append_m 0 vI ([] : List Int) ((out.drop 0).take (k - 0)) Tryd.underlying48 Ty.sz3 Ty.by3 Ty.ze3 rfl rfl rfl rfl (by simp only [List.length_take, List.length_drop]; omega) (fun _ => rfl) (cells_sub_row 1 vI 0 k rfl lt_ lt_) lt_ lt_ fun A137 c138 => ?_)
              refine JA_one 9 (by kernel_rfl) (fun _ h => ⟨h.keep [false, true] rfl, fun hh => Bool.noConfusion (show false = true from hh)⟩) ?_
              refine JI_op rfl rfl trivial (O_buildSlice (cs := [vI (l.getD i 0)]) Tryd.underlying48 Ty.sz3 Ty.ze3 (by decide) (by decide) (by kernel_rfl) fun b140 => ?_)
              refine JA_one 10 (by kernel_rfl) (fun _ h => ⟨h.keep [false, false, true] rfl, fun hh => Bool.noConfusion (show false = true from hh)⟩) ?_
              refine JI_op rfl rfl trivial (O_append_m 1 vI (([] : List Int) ++ ((out.drop 0).take (k - 0))) [(l.getD i 0)] Tryd.underlying48 Ty.sz3 Ty.by3 Ty.ze3 rfl rfl rfl rfl rfl (fun _ => rfl) (cells_blk 0 (off := 0) (m := 1) rfl rfl) lt_ lt_ fun A143 c144 => ?_)
              refine JA_one 14 (by kernel_rfl) (fun _ h => ⟨h.keep [false, false, true] rfl, fun hh => Bool.noConfusion (show false = true from hh)⟩) ?_
              refine JI_op rfl rfl trivial (O_append_m 1 vI ((([] : List Int) ++ ((out.drop 0).take (k - 0))) ++ [(l.getD i 0)]) ((out.drop k).take (out.length - k)) Tryd.underlying48 Ty.sz3 Ty.by3 Ty.ze3 rfl rfl rfl rfl (by simp only [List.length_take, List.length_drop]; omega) (fun _ => rfl) (cells_sub_row 2 vI k out.length rfl lt_ lt_) lt_ lt_ fun A147 c148 => ?_)
              refine JA_take 15 (Value.slice A147 ((((([] : List Int) ++ ((out.drop 0).take (k - 0))) ++ [(l.getD i 0)]) ++ ((out.drop k).take (out.length - k))).length) c148) rfl (by kernel_rfl) (by kernel_rfl) (by kernel_rfl) rfl (fun _ _ _ h => h) rfl trivial (fun _ _ => rfl) ?_
              exact JA_done (by kernel_rfl) (fun _ h => ⟨h.keep [false, false, true] rfl, fun hh => Bool.noConfusion (show false = true from hh)⟩) (JX_weaken (E' := [(0, Value.slice lA l.length lC), (2, Value.slice none 0 0), (3, Value.slice A147 ((((([] : List Int) ++ ((out.drop 0).take (k - 0))) ++ [(l.getD i 0)]) ++ ((out.drop k).take (out.length - k))).length) c148), (4, vI ((i : Nat) : Int))]) (L' := [Ent.row (.slice A147 (((([] : List Int) ++ ((out.drop 0).take (k - 0))) ++ [(l.getD i 0)]) ++ ((out.drop k).take (out.length - k))).length c148) 3 1 (((([] : List Int) ++ ((out.drop 0).take (k - 0))) ++ [(l.getD i 0)]) ++ ((out.drop k).take (out.length - k))).length ((((([] : List Int) ++ ((out.drop 0).take (k - 0))) ++ [(l.getD i 0)]) ++ ((out.drop k).take (out.length - k))).map vI)]) ⟨rfl, rfl, rfl, rfl, trivial⟩ (fun _ h => h.keep [false, true, false] rfl) (key135 (A147, c148)))
            · refine JI_op rfl rfl trivial (O_buildSlice (cs := [vI (l.getD i 0)]) Tryd.underlying48 Ty.sz3 Ty.ze3 (by decide) (by decide) (by kernel_rfl) fun b149 => ?_)
              refine JA_one 4 (by kernel_rfl) (fun _ h => ⟨h.keep [false, false, true] rfl, fun _ => h.keep [false, false, true] rfl⟩) ?_
              refine JI_op rfl rfl trivial (O_append_m 1 vI ([] : List Int) ((out.drop 0).take (k - 0)) Tryd.underlying48 Ty.sz3 Ty.by3 Ty.ze3 rfl rfl rfl rfl (by simp only [List.length_take, List.length_drop]; omega) (fun _ => rfl) (cells_sub_row 2 vI 0 k rfl lt_ lt_) lt_ lt_ fun A152 c153 => ?_)
              refine JA_one 10 (by kernel_rfl) (fun _ h => ⟨h.keep [false, false, true] rfl, fun hh => Bool.noConfusion (show false = true from hh)⟩) ?_
              refine JI_op rfl rfl trivial (O_append_m 1 vI (([] : List Int) ++ ((out.drop 0).take (k - 0))) [(l.getD i 0)] Tryd.underlying48 Ty.sz3 Ty.by3 Ty.ze3 rfl rfl rfl rfl rfl (fun _ => rfl) (cells_blk 0 (off := 0) (m := 1) rfl rfl) lt_ lt_ fun A156 c157 => ?_)
              refine JA_one 14 (by kernel_rfl) (fun _ h => ⟨h.keep [false, false, true] rfl, fun hh => Bool.noConfusion (show false = true from hh)⟩) ?_
              refine JI_op rfl rfl trivial (O_append_m 1 vI ((([] : List Int) ++ ((out.drop 0).take (k - 0))) ++ [(l.getD i 0)]) ((out.drop k).take (out.length - k)) Tryd.underlying48 Ty.sz3 Ty.by3 Ty.ze3 rfl rfl rfl rfl (by simp only [List.length_take, List.length_drop]; omega) (fun _ => rfl) (cells_sub_row 2 vI k out.length rfl lt_ lt_) lt_ lt_ fun A160 c161 => ?_)
              refine JA_take 15 (Value.slice A160 ((((([] : List Int) ++ ((out.drop 0).take (k - 0))) ++ [(l.getD i 0)]) ++ ((out.drop k).take (out.length - k))).length) c161) rfl (by kernel_rfl) (by kernel_rfl) (by kernel_rfl) rfl (fun _ _ _ h => h) rfl trivial (fun _ _ => rfl) ?_
              exact JA_done (by kernel_rfl) (fun _ h => ⟨h.keep [false, false, true] rfl, fun hh => Bool.noConfusion (show false = true from hh)⟩) (JX_weaken (E' := [(0, Value.slice lA l.length lC), (2, Value.slice none 0 0), (3, Value.slice A160 ((((([] : List Int) ++ ((out.drop 0).take (k - 0))) ++ [(l.getD i 0)]) ++ ((out.drop k).take (out.length - k))).length) c161), (4, vI ((i : Nat) : Int))]) (L' := [Ent.row (.slice A160 (((([] : List Int) ++ ((out.drop 0).take (k - 0))) ++ [(l.getD i 0)]) ++ ((out.drop k).take (out.length - k))).length c161) 3 1 (((([] : List Int) ++ ((out.drop 0).take (k - 0))) ++ [(l.getD i 0)]) ++ ((out.drop k).take (out.length - k))).length ((((([] : List Int) ++ ((out.drop 0).take (k - 0))) ++ [(l.getD i 0)]) ++ ((out.drop k).take (out.length - k))).map vI)]) ⟨rfl, rfl, rfl, rfl, trivial⟩ (fun _ h => h.keep [false, true, false] rfl) (key135 (A160, c161)))
          · refine JI_op rfl rfl trivial (O_buildSlice (cs := [vI (l.getD i 0)]) Tryd.underlying48 Ty.sz3 Ty.ze3 (by decide) (by decide) (by kernel_rfl) fun b162 => ?_)
            refine JA_one 0 (by kernel_rfl) (fun _ h => ⟨h.keep [false, true] rfl, fun _ => h.keep [false, true] rfl⟩) ?_
            refine JI_op rfl rfl trivial (O_buildSlice0 Tryd.underlying48 Ty.sz3 fun b164 => ?_)
            refine JA_weaken (E' := [(0, Value.slice lA l.length lC), (2, Value.slice none 0 0), (3, Value.slice outA out.length outC), (4, vI ((i : Nat) : Int)), (5, vI ((k : Nat) : Int)), (13, vI ((k : Nat) : Int)), (14, Value.slice outA out.length outC), (15, vI ((out.length : Nat) : Int)), (16, vB (decide (((k : Nat) : Int) < ((out.length : Nat) : Int)))), (17, vB false), (18, undef), (19, undef), (20, undef), (21, undef), (22, undef), (23, undef), (24, undef), (25, undef), (26, undef), (27, vB false), (30, vI ((k : Nat) : Int)), (31, Value.slice outA out.length outC), (32, vI ((out.length : Nat) : Int)), (33, vB (decide (((k : Nat) : Int) < ((out.length : Nat) : Int)))), (34, vB false), (35, undef), (36, undef), (37, undef), (38, undef), (39, undef), (40, undef), (41, undef), (42, undef), (43, undef), (44, vB false), (46, Value.slice outA out.length outC), (47, vI ((k : Nat) : Int)), (48, Value.slice (subA outA outC 0 1) k outC), (50, Value.slice lA l.length lC), (51, vI ((i : Nat) : Int)), (52, Value.pointer (some (adr lA i))), (53, vI (l.getD i 0)), (56, Value.slice outA out.length outC), (57, vI ((k : Nat) : Int)), (58, Value.slice (subA outA outC k 1) (out.length - k) (outC - k)), (54, Value.slice (some ⟨b162, 0, none⟩) 1 1), (45, Value.slice (some ⟨b164, 0, none⟩) ((([] : List Int)).length) 0)]) (L' := [Ent.row (.slice (some ⟨b164, 0, none⟩) ([] : List Int).length 0) 3 1 ([] : List Int).length (([] : List Int).map vI), Ent.blk b162 3 [vI (l.getD i 0)], Ent.row (.slice outA out.length outC) 3 1 out.length (out.map vI)]) ⟨rfl, rfl, rfl, rfl, rfl, rfl, rfl, rfl, rfl, rfl, rfl, rfl, rfl, rfl, rfl, rfl, rfl, rfl, rfl, rfl, rfl, rfl, rfl, rfl, rfl, rfl, rfl, rfl, rfl, rfl, rfl, rfl, rfl, rfl, rfl, rfl, rfl, rfl, rfl, rfl, rfl, rfl, rfl, rfl, rfl, rfl, rfl, trivial⟩ (fun _ h => (St.torow (cs := []) (((h.front 2 _ rfl).front 2 _ rfl).front 2 _ rfl) 1 0 rfl (by decide)).keep [true, true, true] rfl) ?_
            refine JA_one 4 (by kernel_rfl) (fun _ h => ⟨h.keep [false, false, true] rfl, fun _ => h.keep [false, false, true] rfl⟩) ?_
            refine JI_op rfl rfl trivial (O_append_m 0 vI ([] : List Int) ((out.drop 0).take (k - 0)) Tryd.underlying48 Ty.sz3 Ty.by3 Ty.ze3 rfl rfl rfl rfl (by simp only [List.length_take, List.length_drop]; omega) (fun _ => rfl) (cells_sub_row 2 vI 0 k rfl lt_ lt_) lt_ lt_ fun A167 c168 => ?_)
            refine JA_one 10 (by kernel_rfl) (fun _ h => ⟨h.keep [false, false, true] rfl, fun hh => Bool.noConfusion (show false = true from hh)⟩) ?_
            refine JI_op rfl rfl trivial (O_append_m 0 vI (([] : List Int) ++ ((out.drop 0).take (k - 0))) [(l.getD i 0)] Tryd.underlying48 Ty.sz3 Ty.by3 Ty.ze3 rfl rfl rfl rfl rfl (fun _ => rfl) (cells_blk 1 (off := 0) (m := 1) rfl rfl) lt_ lt_ fun A171 c172 => ?_)
            refine JA_one 14 (by kernel_rfl) (fun _ h => ⟨h.keep [false, false, true] rfl, fun hh => Bool.noConfusion (show false = true from hh)⟩) ?_
            refine JI_op rfl rfl trivial (O_append_m 0 vI ((([] : List Int) ++ ((out.drop 0).take (k - 0))) ++ [(l.getD i 0)]) ((out.drop k).take (out.length - k)) Tryd.underlying48 Ty.sz3 Ty.by3 Ty.ze3 rfl rfl rfl rfl (by simp only [List.length_take, List.length_drop]; omega) (fun _ => rfl) (cells_sub_row 2 vI k out.length rfl lt_ lt_) lt_ lt_ fun A175 c176 => ?_)
            refine JA_take 15 (Value.slice A175 ((((([] : List Int) ++ ((out.drop 0).take (k - 0))) ++ [(l.getD i 0)]) ++ ((out.drop k).take (out.length - k))).length) c176) rfl (by kernel_rfl) (by kernel_rfl) (by kernel_rfl) rfl (fun _ _ _ h => h) rfl trivial (fun _ _ => rfl) ?_
            exact JA_done (by kernel_rfl) (fun _ h => ⟨h.keep [false, false, true] rfl, fun hh => Bool.noConfusion (show false = true from hh)⟩) (JX_weaken (E' := [(0, Value.slice lA l.length lC), (2, Value.slice none 0 0), (3, Value.slice A175 ((((([] : List Int) ++ ((out.drop 0).take (k - 0))) ++ [(l.getD i 0)]) ++ ((out.drop k).take (out.length - k))).length) c176), (4, vI ((i : Nat) : Int))]) (L' := [Ent.row (.slice A175 (((([] : List Int) ++ ((out.drop 0).take (k - 0))) ++ [(l.getD i 0)]) ++ ((out.drop k).take (out.length - k))).length c176) 3 1 (((([] : List Int) ++ ((out.drop 0).take (k - 0))) ++ [(l.getD i 0)]) ++ ((out.drop k).take (out.length - k))).length ((((([] : List Int) ++ ((out.drop 0).take (k - 0))) ++ [(l.getD i 0)]) ++ ((out.drop k).take (out.length - k))).map vI)]) ⟨rfl, rfl, rfl, rfl, trivial⟩ (fun _ h => h.keep [true, false, false] rfl) (key135 (A175, c176)))
  · have h2 := of_decide_eq_false h2
    refine J_exit ?_
    refine JX_then_exit ?_
    refine JX_round_exit ?_
    refine JX_block_hit ?_
    refine JX_then ?_
    refine J_seq ?_
    refine J_region ?_
    refine JO_read (Value.slice outA out.length outC) rfl trivial (fun _ _ => rfl) ?_
    refine JO_read (Value.slice outA out.length outC) rfl trivial (fun _ _ => rfl) ?_
    refine JO_nil ?_
    refine JX_then ?_
    refine J_ret ?_
    refine JX_rets [Value.slice outA out.length outC] (Value.slice outA out.length outC) Tryd.results52 (fun w h => ⟨rfl, trivial⟩) rfl [Ent.row (.slice outA out.length outC) 3 1 out.length (out.map vI)] (fun _ h => h) ⟨outA, outC, ?_, ?_⟩
    · have e_x0 : (out.length : Nat) = ((OrdI.insl l).length) := by
        rw [i1_1, show i = l.length by omega, List.take_length]
      exact congrArg (fun (x0 : Nat) => Value.slice outA x0 outC) e_x0
    · have e_y0 : (out : List Int) = (OrdI.insl l) := by
        rw [i1_1, show i = l.length by omega, List.take_length]
      have e_all := (congrArg (fun (y0 : List Int) => [Ent.row (.slice outA y0.length outC) 3 1 y0.length (y0.map vI)]) e_y0)
      exact e_all

end Go.Proofs.YtknibpmmjhmjeaaDoor
