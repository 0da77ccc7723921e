/- contracts C47l -/
import Derived.Test.YtknibpmmjhmjeaaDoorC47j
import Derived.Test.YtknibpmmjhmjeaaDoorC47k
namespace Go.Proofs.YtknibpmmjhmjeaaDoor
open Go.GV
set_option linter.unusedVariables false
set_option linter.unusedSimpArgs false

set_option maxRecDepth 20000 in
theorem f29_ok (num : Int) (unit : Int) (ch : List Change) (chA : Option Addr) (chC : Nat) (w : World) (chR : RO [] w chA (ch.flatMap Change.enc)) (q0 : ch.length ≤ 1000) : Calls Tryd.prog 29 #[Value.agg #[vI num, vI unit, Value.slice chA ch.length chC]] w (Gives [] w fun v L => ∃ A : Option Addr, ∃ c : Nat, v = Value.slice A ((R47.ids ch).length) c ∧ L = [Ent.row (.slice A (R47.ids ch).length c) 3 1 (R47.ids ch).length ((R47.ids ch).map vI)]) := by
  refine calls_J [] 24 Tryd.func29 rfl Tryd.ntmps29 [(0, Value.agg #[vI num, vI unit, Value.slice chA ch.length chC])] rfl rfl (Give.nil w) ?_
  refine J_seq ?_
  refine J_region ?_
  refine JO_op rfl trivial (O_box rfl rfl fun b1 => ?_)
  refine JO_read (Value.slice none 0 0) rfl trivial (fun _ _ => rfl) ?_
  refine JO_nil ?_
  refine JX_then ?_
  refine J_seq ?_
  refine J_region ?_
  refine JO_op rfl trivial (O_buildSlice0 Tryd.underlying48 Ty.sz3 fun b2 => ?_)
  refine JO_read (Value.slice (some ⟨b2, 0, none⟩) 0 0) rfl trivial (fun _ _ => rfl) ?_
  refine JO_nil ?_
  refine JX_then ?_
  refine J_seq ?_
  refine J_seq ?_
  refine J_region ?_
  refine JO_read (vI 0) rfl trivial (fun _ _ => rfl) ?_
  refine JO_nil ?_
  refine JX_then ?_
  refine J_block ?_
  refine J_loop (X := Nat × (List Int) × (Option Addr) × Nat) (fun (⟨k, xs, xsA, xsC⟩ : Nat × (List Int) × (Option Addr) × Nat) => (k ≤ ch.length) ∧ (xs = (ch.take k).map Change.Id) ∧ (xs.length ≤ k)) (fun (⟨k, xs, xsA, xsC⟩ : Nat × (List Int) × (Option Addr) × Nat) => [(1, Value.pointer (some ⟨b1, 0, none⟩)), (2, Value.slice none 0 0), (3, Value.slice xsA xs.length xsC), (4, vI ((k : Nat) : Int))]) (fun (⟨k, xs, xsA, xsC⟩ : Nat × (List Int) × (Option Addr) × Nat) => [Ent.blk b1 29 [vI num, vI unit, Value.slice chA ch.length chC], Ent.row (.slice xsA xs.length xsC) 3 1 xs.length (xs.map vI)]) (fun (⟨k, xs, xsA, xsC⟩ : Nat × (List Int) × (Option Addr) × Nat) => ch.length - k) ((0, ([] : List Int), (some ⟨b2, 0, none⟩), 0) : Nat × (List Int) × (Option Addr) × Nat) ?_ ⟨rfl, rfl, rfl, rfl, trivial⟩ (fun _ h => ((St.torow (cs := []) h 1 0 rfl (by decide)).front 1 _ rfl).keep [true, true] rfl) ?_
  · show (0 ≤ ch.length) ∧ (([] : List Int) = (ch.take 0).map Change.Id) ∧ (([] : List Int).length ≤ 0)
    refine ⟨?_, ?_, ?_⟩
    · first | rfl | omega | (simp_all; done) | (simp_all; omega)
    · rfl
    · exact Nat.le_refl _
  rintro ⟨k, xs, xsA, xsC⟩ hI1
  obtain ⟨i1_0, i1_1, i1_2⟩ : (k ≤ ch.length) ∧ (xs = (ch.take k).map Change.Id) ∧ (xs.length ≤ k) := hI1
  refine J_weaken (E' := [(1, Value.pointer (some ⟨b1, 0, none⟩)), (2, Value.slice none 0 0), (3, Value.slice xsA xs.length xsC), (4, vI ((k : Nat) : Int))]) (L' := [Ent.blk b1 29 [vI num, vI unit, Value.slice chA ch.length chC], Ent.row (.slice xsA xs.length xsC) 3 1 xs.length (xs.map vI)]) ⟨rfl, rfl, rfl, rfl, trivial⟩ (fun _ h => h) ?_
  refine J_seq ?_
  refine J_seq ?_
  refine J_region ?_
  refine JO_read (vI ((k : Nat) : Int)) rfl trivial (fun _ _ => rfl) ?_
  refine JO_read (Value.pointer (some ⟨b1, 2, none⟩)) rfl trivial (fun _ _ => x_fieldAddr Ty.fi29_2 rfl rfl) ?_
  refine JO_read (Value.slice chA ch.length chC) rfl trivial (x_load 0 rfl rfl Ty.sc27 rfl) ?_
  refine JO_read (vI ((ch.length : Nat) : Int)) rfl trivial (fun _ _ => x_len_sl Tryd.underlying27 rfl) ?_
  refine JO_read (vB (decide (((k : Nat) : Int) < ((ch.length : Nat) : Int)))) rfl trivial (fun _ _ => x_lss_i rfl rfl) ?_
  refine JO_nil ?_
  refine JX_then ?_
  refine J_cond (decide (((k : Nat) : Int) < ((ch.length : Nat) : Int))) rfl rfl (fun h3 => ?_) (fun h3 => ?_)
  · have h3 := of_decide_eq_true h3
    refine J_skip ?_
    refine JX_then ?_
    refine J_seq ?_
    refine J_block ?_
    refine J_region ?_
    refine JO_read (Value.slice xsA xs.length xsC) rfl trivial (fun _ _ => rfl) ?_
    refine JO_read (Value.pointer (some ⟨b1, 2, none⟩)) rfl trivial (fun _ _ => x_fieldAddr Ty.fi29_2 rfl rfl) ?_
    refine JO_read (Value.slice chA ch.length chC) rfl trivial (x_load 0 rfl rfl Ty.sc27 rfl) ?_
    refine JO_read (vI ((k : Nat) : Int)) rfl trivial (fun _ _ => rfl) ?_
    refine JO_read (Value.pointer (some (adr chA (k * 5)))) rfl trivial (x_indexAddr_at (k := k) (off := k * 5) (cells_ro chR) Tryd.underlying27 Ty.sz23 rfl rfl lt_ (by rw [flat_length Change.enc 5 Change.enc_len]; first | omega | (simp; omega) | (simp_all; omega) | (simp_all; done)) rfl) ?_
    refine JO_read (Value.pointer (some (adr chA (k * 5 + 1)))) rfl trivial (fun _ _ => x_fieldAddr Ty.fi23_1 rfl (adr_add _ _ _)) ?_
    refine JO_read (vI ((ch.getD k default).Id)) rfl trivial (x_load_at (cells_ro chR) rfl Ty.sc3 (flat_at Change.enc 5 Change.enc_len ch default k 1 lt_ (by decide))) ?_
    refine JO_op rfl trivial (O_buildSlice (cs := [vI ((ch.getD k default).Id)]) Tryd.underlying48 Ty.sz3 Ty.ze3 (by decide) (by decide) (by kernel_rfl) fun b4 => ?_)
    refine JO_op rfl trivial (O_append_m 2 vI xs [(ch.getD k default).Id] Tryd.underlying48 Ty.sz3 Ty.by3 Ty.ze3 rfl rfl rfl rfl rfl (fun _ => rfl) (cells_blk 0 (off := 0) (m := 1) rfl rfl) lt_ lt_ fun A5 c6 => ?_)
    refine JO_read (Value.slice A5 ((xs ++ [(ch.getD k default).Id]).length) c6) rfl trivial (fun _ _ => rfl) ?_
    refine JO_nil ?_
    refine JX_block ?_
    refine JX_then ?_
    refine J_region ?_
    refine JO_read (vI ((k : Nat) : Int)) rfl trivial (fun _ _ => rfl) ?_
    refine JO_read (vI ((k + 1 : Nat) : Int)) rfl trivial (fun _ _ => x_add_n (a := k) (b := 1) rfl rfl (by omega)) ?_
    refine JO_read (vI ((k + 1 : Nat) : Int)) rfl trivial (fun _ _ => rfl) ?_
    refine JO_nil ?_
    refine JX_round ((k + 1, xs ++ [(ch.getD k default).Id], A5, c6) : Nat × (List Int) × (Option Addr) × Nat) ?_ ?_ ⟨rfl, rfl, rfl, rfl, trivial⟩ (fun _ h => h.keep [false, true, true] rfl)
    · show ((k + 1) ≤ ch.length) ∧ ((xs ++ [(ch.getD k default).Id]) = (ch.take (k + 1)).map Change.Id) ∧ ((xs ++ [(ch.getD k default).Id]).length ≤ (k + 1))
      refine ⟨?_, ?_, ?_⟩
      · first | rfl | omega | (simp_all; done) | (simp_all; omega)
      · rw [i1_1]; exact (R47.map_step (by omega)).symm
      · rw [List.length_append]; simp only [List.length_cons, List.length_nil]; omega
    · show ch.length - (k + 1) < ch.length - k
      first | omega | (simp; omega) | (simp_all; omega)
  · have h3 := of_decide_eq_false h3
    refine J_exit ?_
    refine JX_then_exit ?_
    refine JX_round_exit ?_
    refine JX_block_hit ?_
    refine JX_then ?_
    refine J_seq ?_
    refine J_region ?_
    refine JO_read (Value.slice xsA xs.length xsC) rfl trivial (fun _ _ => rfl) ?_
    refine JO_call [] [] [Ent.blk b1 29 [vI num, vI unit, Value.slice chA ch.length chC], Ent.row (.slice xsA xs.length xsC) 3 1 xs.length (xs.map vI)] rfl trivial (fun _ => x_call Ty.ca52 rfl) (fun _ h => h) (fun _ h => by cases h) (fun w hS => f52_ok xs xsA xsC w (RO.of_row hS 1 rfl) hy_) ?_
    rintro _ _ ⟨A7, c8, rfl, rfl⟩
    refine JO_read (Value.slice A7 ((OrdI.insl xs).length) c8) rfl trivial (fun _ _ => rfl) ?_
    refine JO_nil ?_
    refine JX_then ?_
    refine J_ret ?_
    refine JX_rets [Value.slice A7 ((OrdI.insl xs).length) c8] (Value.slice A7 ((OrdI.insl xs).length) c8) Tryd.results29 (fun w h => ⟨rfl, trivial⟩) rfl [Ent.row (.slice A7 (OrdI.insl xs).length c8) 3 1 (OrdI.insl xs).length ((OrdI.insl xs).map vI)] (fun _ h => h.keep [true, false, false] rfl) ⟨A7, c8, ?_, ?_⟩
    · have e_x0 : ((OrdI.insl xs).length : Nat) = ((R47.ids ch).length) := by
        first | (rw [i1_1, show k = ch.length by omega, List.take_length]; exact congrArg List.length (OrdI.same _).symm) | (rw [i1_1, show k = ch.length by omega, List.take_length]; exact (OrdI.same _).symm)
      exact congrArg (fun (x0 : Nat) => Value.slice A7 x0 c8) e_x0
    · have e_y0 : ((OrdI.insl xs) : List Int) = (R47.ids ch) := by
        first | (rw [i1_1, show k = ch.length by omega, List.take_length]; exact congrArg List.length (OrdI.same _).symm) | (rw [i1_1, show k = ch.length by omega, List.take_length]; exact (OrdI.same _).symm)
      have e_all := (congrArg (fun (y0 : List Int) => [Ent.row (.slice A7 y0.length c8) 3 1 y0.length (y0.map vI)]) e_y0)
      exact e_all

set_option maxRecDepth 20000 in
theorem f32_ok (num : Int) (unit : Int) (ch : List Change) (chA : Option Addr) (chC : Nat) (id : Int) (w : World) (chR : RO [] w chA (ch.flatMap Change.enc)) (q0 : 0 ≤ num) (q1 : num ≤ 1099511627776) (q2 : ch.length ≤ 1000) : Calls Tryd.prog 32 #[Value.agg #[vI num, vI unit, Value.slice chA ch.length chC], vI id] w (Gives [] w fun v L => ∃ A : Option Addr, ∃ c : Nat, v = Value.slice A ((R47.of num ch id).length) c ∧ L = [Ent.row (.slice A (R47.of num ch id).length c) 56 6 (R47.of num ch id).length ((R47.of num ch id).flatMap Numbered.enc)]) := by
  refine calls_J [] 31 Tryd.func32 rfl Tryd.ntmps32 [(0, Value.agg #[vI num, vI unit, Value.slice chA ch.length chC]), (1, vI id)] rfl rfl (Give.nil w) ?_
  refine J_seq ?_
  refine J_region ?_
  refine JO_op rfl trivial (O_box rfl rfl fun b1 => ?_)
  refine JO_read (Value.slice none 0 0) rfl trivial (fun _ _ => rfl) ?_
  refine JO_nil ?_
  refine JX_then ?_
  refine J_seq ?_
  refine J_region ?_
  refine JO_read (Value.slice none 0 0) rfl trivial (fun _ _ => rfl) ?_
  refine JO_nil ?_
  refine JX_then ?_
  refine J_seq ?_
  refine J_seq ?_
  refine J_region ?_
  refine JO_read (Value.pointer (some ⟨b1, 2, none⟩)) rfl trivial (fun _ _ => x_fieldAddr Ty.fi29_2 rfl rfl) ?_
  refine JO_read (Value.slice chA ch.length chC) rfl trivial (x_load 0 rfl rfl Ty.sc27 rfl) ?_
  refine JO_read (vI ((ch.length : Nat) : Int)) rfl trivial (fun _ _ => x_len_sl Tryd.underlying27 rfl) ?_
  refine JO_read (vI 0) rfl trivial (fun _ _ => rfl) ?_
  refine JO_nil ?_
  refine JX_then ?_
  refine J_block ?_
  refine J_loop (X := Nat × (List Numbered) × (Option Addr) × Nat) (fun (⟨k, xs, xsA, xsC⟩ : Nat × (List Numbered) × (Option Addr) × Nat) => (k ≤ ch.length) ∧ (xs = R47.ofN num ch id k) ∧ (xs.length ≤ k)) (fun (⟨k, xs, xsA, xsC⟩ : Nat × (List Numbered) × (Option Addr) × Nat) => [(1, vI id), (2, Value.pointer (some ⟨b1, 0, none⟩)), (4, Value.slice none 0 0), (5, Value.slice xsA xs.length xsC), (9, Value.slice chA ch.length chC), (10, vI ((ch.length : Nat) : Int)), (11, vI ((k : Nat) : Int))]) (fun (⟨k, xs, xsA, xsC⟩ : Nat × (List Numbered) × (Option Addr) × Nat) => [Ent.blk b1 29 [vI num, vI unit, Value.slice chA ch.length chC], Ent.row (.slice xsA xs.length xsC) 56 6 xs.length (xs.flatMap Numbered.enc)]) (fun (⟨k, xs, xsA, xsC⟩ : Nat × (List Numbered) × (Option Addr) × Nat) => ch.length - k) ((0, ([] : List Numbered), none, 0) : Nat × (List Numbered) × (Option Addr) × Nat) ?_ ⟨rfl, rfl, rfl, rfl, rfl, rfl, rfl, trivial⟩ (fun _ h => ((h.nilrow 56 6).front 1 _ rfl).keep [true, true] rfl) ?_
  · show (0 ≤ ch.length) ∧ (([] : List Numbered) = R47.ofN num ch id 0) ∧ (([] : List Numbered).length ≤ 0)
    refine ⟨?_, ?_, ?_⟩
    · first | rfl | omega | (simp_all; done) | (simp_all; omega)
    · rfl
    · exact Nat.le_refl _
  rintro ⟨k, xs, xsA, xsC⟩ hI1
  obtain ⟨i1_0, i1_1, i1_2⟩ : (k ≤ ch.length) ∧ (xs = R47.ofN num ch id k) ∧ (xs.length ≤ k) := hI1
  refine J_weaken (E' := [(1, vI id), (2, Value.pointer (some ⟨b1, 0, none⟩)), (4, Value.slice none 0 0), (5, Value.slice xsA xs.length xsC), (9, Value.slice chA ch.length chC), (10, vI ((ch.length : Nat) : Int)), (11, vI ((k : Nat) : Int))]) (L' := [Ent.blk b1 29 [vI num, vI unit, Value.slice chA ch.length chC], Ent.row (.slice xsA xs.length xsC) 56 6 xs.length (xs.flatMap Numbered.enc)]) ⟨rfl, rfl, rfl, rfl, rfl, rfl, rfl, trivial⟩ (fun _ h => h) ?_
  refine J_seq ?_
  refine J_region ?_
  refine JO_read (vB (decide (((k : Nat) : Int) < ((ch.length : Nat) : Int)))) rfl trivial (fun _ _ => x_lss_i rfl rfl) ?_
  refine JO_nil ?_
  refine JX_then ?_
  refine J_seq ?_
  refine J_cond (decide (((k : Nat) : Int) < ((ch.length : Nat) : Int))) rfl rfl (fun h2 => ?_) (fun h2 => ?_)
  · have h2 := of_decide_eq_true h2
    refine J_skip ?_
    refine JX_then ?_
    refine J_seq ?_
    refine J_block ?_
    refine J_seq ?_
    refine J_region ?_
    refine JO_read (vI ((k : Nat) : Int)) rfl trivial (fun _ _ => rfl) ?_
    refine JO_read (Value.pointer (some (adr chA (k * 5)))) rfl trivial (x_indexAddr_at (k := k) (off := k * 5) (cells_ro chR) Tryd.underlying27 Ty.sz23 rfl rfl lt_ (by rw [flat_length Change.enc 5 Change.enc_len]; first | omega | (simp; omega) | (simp_all; omega) | (simp_all; done)) rfl) ?_
    refine JO_read (Value.agg ((Change.enc (ch.getD k default))).toArray) rfl trivial (x_loadN_at (Change.enc (ch.getD k default)) (cells_ro chR) rfl Ty.ag23 Ty.sz23 (flat_drop Change.enc 5 Change.enc_len ch default k lt_)) ?_
    refine JO_op rfl trivial (O_alloc Ty.ze23 rfl fun b3 => ?_)
    refine JO_read (vI ((k : Nat) : Int)) rfl trivial (fun _ _ => rfl) ?_
    refine JO_op rfl trivial (O_storeS (vs := (Change.enc (ch.getD k default))) 0 (Change.enc (ch.getD k default)) [Ent.blk b3 23 (Change.enc (ch.getD k default)), Ent.blk b1 29 [vI num, vI unit, Value.slice chA ch.length chC], Ent.row (.slice xsA xs.length xsC) 56 6 xs.length (xs.flatMap Numbered.enc)] rfl rfl rfl Ty.sz23 rfl (Nat.le_of_ble_eq_true rfl) rfl rfl rfl ?_)
    refine JO_nil ?_
    refine JX_then ?_
    refine J_seq ?_
    refine J_region ?_
    refine JO_read (Value.pointer (some ⟨b3, 1, none⟩)) rfl trivial (fun _ _ => x_fieldAddr Ty.fi23_1 rfl rfl) ?_
    refine JO_read (vI ((ch.getD k default).Id)) rfl trivial (x_load 0 rfl rfl Ty.sc3 rfl) ?_
    refine JO_read (vI id) rfl trivial (fun _ _ => rfl) ?_
    refine JO_read (vB (decide ((ch.getD k default).Id = id))) rfl trivial (fun _ _ => x_eql_i rfl rfl) ?_
    refine JO_nil ?_
    refine JX_then ?_
    refine J_cond (decide ((ch.getD k default).Id = id)) rfl rfl (fun h4 => ?_) (fun h4 => ?_)
    · have h4 := of_decide_eq_true h4
      refine J_region ?_
      refine JO_read (Value.slice xsA xs.length xsC) rfl trivial (fun _ _ => rfl) ?_
      refine JO_read (Value.pointer (some ⟨b1, 0, none⟩)) rfl trivial (fun _ _ => x_fieldAddr Ty.fi29_0 rfl rfl) ?_
      refine JO_read (vI num) rfl trivial (x_load 1 rfl rfl Ty.sc3 rfl) ?_
      refine JO_read (vI ((k : Nat) : Int)) rfl trivial (fun _ _ => rfl) ?_
      refine JO_read (vI (num + ((k : Nat) : Int))) rfl trivial (fun _ _ => x_add_i (a := num) (b := ((k : Nat) : Int)) rfl rfl (by omega) (by omega)) ?_
      refine JO_read (Value.agg ((Change.enc (ch.getD k default))).toArray) rfl trivial (x_loadN 0 (Change.enc (ch.getD k default)) rfl rfl Ty.ag23 Ty.sz23 rfl) ?_
      refine JO_read (Value.agg (([vI (num + ((k : Nat) : Int))] ++ Change.enc (ch.getD k default))).toArray) rfl trivial (fun _ _ => x_build (by kernel_rfl)) ?_
      refine JO_op rfl trivial (O_buildSlice (cs := ([vI (num + ((k : Nat) : Int))] ++ Change.enc (ch.getD k default))) Tryd.underlying53 Ty.sz56 Ty.ze56 (by decide) (by decide) (by kernel_rfl) fun b5 => ?_)
      refine JO_op rfl trivial (O_append_f 3 Numbered.enc 6 xs [(Numbered.mk (num + ((k : Nat) : Int)) (ch.getD k default))] Tryd.underlying53 Ty.sz56 Ty.by56 Ty.ze56 rfl (by decide) rfl rfl rfl rfl Numbered.enc_len Numbered.enc_one (cells_blk 0 (off := 0) (m := 6) rfl rfl) lt_ lt_ fun A6 c7 => ?_)
      refine JO_read (Value.slice A6 ((xs ++ [(Numbered.mk (num + ((k : Nat) : Int)) (ch.getD k default))]).length) c7) rfl trivial (fun _ _ => rfl) ?_
      refine JO_nil ?_
      refine JX_block ?_
      refine JX_then ?_
      refine J_region ?_
      refine JO_read (vI ((k + 1 : Nat) : Int)) rfl trivial (fun _ _ => x_add_n (a := k) (b := 1) rfl rfl (by omega)) ?_
      refine JO_read (vI ((k + 1 : Nat) : Int)) rfl trivial (fun _ _ => rfl) ?_
      refine JO_nil ?_
      refine JX_round ((k + 1, xs ++ [(Numbered.mk (num + ((k : Nat) : Int)) (ch.getD k default))], A6, c7) : Nat × (List Numbered) × (Option Addr) × Nat) ?_ ?_ ⟨rfl, rfl, rfl, rfl, rfl, rfl, rfl, trivial⟩ (fun _ h => h.keep [false, false, true, true] rfl)
      · show ((k + 1) ≤ ch.length) ∧ ((xs ++ [(Numbered.mk (num + ((k : Nat) : Int)) (ch.getD k default))]) = R47.ofN num ch id (k + 1)) ∧ ((xs ++ [(Numbered.mk (num + ((k : Nat) : Int)) (ch.getD k default))]).length ≤ (k + 1))
        refine ⟨?_, ?_, ?_⟩
        · first | rfl | omega | (simp_all; done) | (simp_all; omega)
        · first | (rw [i1_1]; exact (R47.ofN_yes (by omega)).symm) | (rw [i1_1]; exact (R47.ofN_no (by omega)).symm)
        · first | omega | (rw [List.length_append]; simp only [List.length_cons, List.length_nil]; omega)
      · show ch.length - (k + 1) < ch.length - k
        first | omega | (simp; omega) | (simp_all; omega)
    · have h4 := of_decide_eq_false h4
      refine J_skip ?_
      refine JX_block ?_
      refine JX_then ?_
      refine J_region ?_
      refine JO_read (vI ((k + 1 : Nat) : Int)) rfl trivial (fun _ _ => x_add_n (a := k) (b := 1) rfl rfl (by omega)) ?_
      refine JO_read (vI ((k + 1 : Nat) : Int)) rfl trivial (fun _ _ => rfl) ?_
      refine JO_nil ?_
      refine JX_round ((k + 1, xs, xsA, xsC) : Nat × (List Numbered) × (Option Addr) × Nat) ?_ ?_ ⟨rfl, rfl, rfl, rfl, rfl, rfl, rfl, trivial⟩ (fun _ h => h.keep [false, true, true] rfl)
      · show ((k + 1) ≤ ch.length) ∧ (xs = R47.ofN num ch id (k + 1)) ∧ (xs.length ≤ (k + 1))
        refine ⟨?_, ?_, ?_⟩
        · first | rfl | omega | (simp_all; done) | (simp_all; omega)
        · first | (rw [i1_1]; exact (R47.ofN_yes (by omega)).symm) | (rw [i1_1]; exact (R47.ofN_no (by omega)).symm)
        · first | omega | (rw [List.length_append]; simp only [List.length_cons, List.length_nil]; omega)
      · show ch.length - (k + 1) < ch.length - k
        first | omega | (simp; omega) | (simp_all; omega)
  · have h2 := of_decide_eq_false h2
    refine J_exit ?_
    refine JX_then_exit ?_
    refine JX_round_exit ?_
    refine JX_block_hit ?_
    refine JX_then ?_
    refine J_seq ?_
    refine J_region ?_
    refine JO_read (Value.slice xsA xs.length xsC) rfl trivial (fun _ _ => rfl) ?_
    refine JO_read (Value.slice xsA xs.length xsC) rfl trivial (fun _ _ => rfl) ?_
    refine JO_nil ?_
    refine JX_then ?_
    refine J_ret ?_
    refine JX_rets [Value.slice xsA xs.length xsC] (Value.slice xsA xs.length xsC) Tryd.results32 (fun w h => ⟨rfl, trivial⟩) rfl [Ent.row (.slice xsA xs.length xsC) 56 6 xs.length (xs.flatMap Numbered.enc)] (fun _ h => h.keep [false, true] rfl) ⟨xsA, xsC, ?_, ?_⟩
    · have e_x0 : (xs.length : Nat) = ((R47.of num ch id).length) := by
        rw [i1_1, show k = ch.length by omega]; rfl
      exact congrArg (fun (x0 : Nat) => Value.slice xsA x0 xsC) e_x0
    · have e_y0 : (xs : List Numbered) = (R47.of num ch id) := by
        rw [i1_1, show k = ch.length by omega]; rfl
      have e_all := (congrArg (fun (y0 : List Numbered) => [Ent.row (.slice xsA y0.length xsC) 56 6 y0.length (y0.flatMap Numbered.enc)]) e_y0)
      exact e_all

set_option maxRecDepth 20000 in
theorem f33_ok (num : Int) (unit : Int) (ch : List Change) (chA : Option Addr) (chC : Nat) (id : Int) (w : World) (chR : RO [] w chA (ch.flatMap Change.enc)) (q0 : 0 ≤ num) (q1 : num ≤ 1099511627776) (q2 : ch.length ≤ 1000) : Calls Tryd.prog 33 #[Value.agg #[vI num, vI unit, Value.slice chA ch.length chC], vI id] w (Gives [] w fun v L => ∃ A : Option Addr, ∃ c : Nat, v = Value.slice A ((R47.of num ch id).length) c ∧ L = [Ent.row (.slice A (R47.of num ch id).length c) 56 6 (R47.of num ch id).length ((R47.of num ch id).flatMap Numbered.enc)]) := by
  refine calls_J [] 37 Tryd.func33 rfl Tryd.ntmps33 [(0, Value.agg #[vI num, vI unit, Value.slice chA ch.length chC]), (1, vI id)] rfl rfl (Give.nil w) ?_
  refine J_seq ?_
  refine J_region ?_
  refine JO_op rfl trivial (O_box rfl rfl fun b1 => ?_)
  refine JO_read (Value.slice none 0 0) rfl trivial (fun _ _ => rfl) ?_
  refine JO_nil ?_
  refine JX_then ?_
  refine J_seq ?_
  refine J_region ?_
  refine JO_op rfl trivial (O_buildSlice0 Tryd.underlying53 Ty.sz56 fun b2 => ?_)
  refine JO_read (Value.slice (some ⟨b2, 0, none⟩) 0 0) rfl trivial (fun _ _ => rfl) ?_
  refine JO_nil ?_
  refine JX_then ?_
  refine J_seq ?_
  refine J_seq ?_
  refine J_region ?_
  refine JO_read (vI 0) rfl trivial (fun _ _ => rfl) ?_
  refine JO_nil ?_
  refine JX_then ?_
  refine J_block ?_
  refine J_loop (X := Nat × (List Numbered) × (Option Addr) × Nat) (fun (⟨k, xs, xsA, xsC⟩ : Nat × (List Numbered) × (Option Addr) × Nat) => (k ≤ ch.length) ∧ (xs = R47.ofN num ch id k) ∧ (xs.length ≤ k)) (fun (⟨k, xs, xsA, xsC⟩ : Nat × (List Numbered) × (Option Addr) × Nat) => [(1, vI id), (2, Value.pointer (some ⟨b1, 0, none⟩)), (4, Value.slice none 0 0), (5, Value.slice xsA xs.length xsC), (6, vI ((k : Nat) : Int))]) (fun (⟨k, xs, xsA, xsC⟩ : Nat × (List Numbered) × (Option Addr) × Nat) => [Ent.blk b1 29 [vI num, vI unit, Value.slice chA ch.length chC], Ent.row (.slice xsA xs.length xsC) 56 6 xs.length (xs.flatMap Numbered.enc)]) (fun (⟨k, xs, xsA, xsC⟩ : Nat × (List Numbered) × (Option Addr) × Nat) => ch.length - k) ((0, ([] : List Numbered), (some ⟨b2, 0, none⟩), 0) : Nat × (List Numbered) × (Option Addr) × Nat) ?_ ⟨rfl, rfl, rfl, rfl, rfl, trivial⟩ (fun _ h => ((St.torow (cs := []) h 6 0 rfl (by decide)).front 1 _ rfl).keep [true, true] rfl) ?_
  · show (0 ≤ ch.length) ∧ (([] : List Numbered) = R47.ofN num ch id 0) ∧ (([] : List Numbered).length ≤ 0)
    refine ⟨?_, ?_, ?_⟩
    · first | rfl | omega | (simp_all; done) | (simp_all; omega)
    · rfl
    · exact Nat.le_refl _
  rintro ⟨k, xs, xsA, xsC⟩ hI1
  obtain ⟨i1_0, i1_1, i1_2⟩ : (k ≤ ch.length) ∧ (xs = R47.ofN num ch id k) ∧ (xs.length ≤ k) := hI1
  refine J_weaken (E' := [(1, vI id), (2, Value.pointer (some ⟨b1, 0, none⟩)), (4, Value.slice none 0 0), (5, Value.slice xsA xs.length xsC), (6, vI ((k : Nat) : Int))]) (L' := [Ent.blk b1 29 [vI num, vI unit, Value.slice chA ch.length chC], Ent.row (.slice xsA xs.length xsC) 56 6 xs.length (xs.flatMap Numbered.enc)]) ⟨rfl, rfl, rfl, rfl, rfl, trivial⟩ (fun _ h => h) ?_
  refine J_seq ?_
  refine J_seq ?_
  refine J_region ?_
  refine JO_read (vI ((k : Nat) : Int)) rfl trivial (fun _ _ => rfl) ?_
  refine JO_read (Value.pointer (some ⟨b1, 2, none⟩)) rfl trivial (fun _ _ => x_fieldAddr Ty.fi29_2 rfl rfl) ?_
  refine JO_read (Value.slice chA ch.length chC) rfl trivial (x_load 0 rfl rfl Ty.sc27 rfl) ?_
  refine JO_read (vI ((ch.length : Nat) : Int)) rfl trivial (fun _ _ => x_len_sl Tryd.underlying27 rfl) ?_
  refine JO_read (vB (decide (((k : Nat) : Int) < ((ch.length : Nat) : Int)))) rfl trivial (fun _ _ => x_lss_i rfl rfl) ?_
  refine JO_nil ?_
  refine JX_then ?_
  refine J_cond (decide (((k : Nat) : Int) < ((ch.length : Nat) : Int))) rfl rfl (fun h3 => ?_) (fun h3 => ?_)
  · have h3 := of_decide_eq_true h3
    refine J_skip ?_
    refine JX_then ?_
    refine J_seq ?_
    refine J_block ?_
    refine J_seq ?_
    refine J_region ?_
    refine JO_read (Value.pointer (some ⟨b1, 2, none⟩)) rfl trivial (fun _ _ => x_fieldAddr Ty.fi29_2 rfl rfl) ?_
    refine JO_read (Value.slice chA ch.length chC) rfl trivial (x_load 0 rfl rfl Ty.sc27 rfl) ?_
    refine JO_read (vI ((k : Nat) : Int)) rfl trivial (fun _ _ => rfl) ?_
    refine JO_read (Value.pointer (some (adr chA (k * 5)))) rfl trivial (x_indexAddr_at (k := k) (off := k * 5) (cells_ro chR) Tryd.underlying27 Ty.sz23 rfl rfl lt_ (by rw [flat_length Change.enc 5 Change.enc_len]; first | omega | (simp; omega) | (simp_all; omega) | (simp_all; done)) rfl) ?_
    refine JO_read (Value.pointer (some (adr chA (k * 5 + 1)))) rfl trivial (fun _ _ => x_fieldAddr Ty.fi23_1 rfl (adr_add _ _ _)) ?_
    refine JO_read (vI ((ch.getD k default).Id)) rfl trivial (x_load_at (cells_ro chR) rfl Ty.sc3 (flat_at Change.enc 5 Change.enc_len ch default k 1 lt_ (by decide))) ?_
    refine JO_read (vI id) rfl trivial (fun _ _ => rfl) ?_
    refine JO_read (vB (decide ((ch.getD k default).Id = id))) rfl trivial (fun _ _ => x_eql_i rfl rfl) ?_
    refine JO_nil ?_
    refine JX_then ?_
    refine J_cond (decide ((ch.getD k default).Id = id)) rfl rfl (fun h4 => ?_) (fun h4 => ?_)
    · have h4 := of_decide_eq_true h4
      refine J_draw [Ent.blk b1 29 [vI num, vI unit, Value.slice chA ch.length chC]] [12] [Ent.blk b1 29 [vI num, vI unit, Value.slice chA ch.length chC], Ent.row (.slice xsA xs.length xsC) 56 6 xs.length (xs.flatMap Numbered.enc)] 14 Ty.mixed rfl ?_
      refine JA_take 0 (Value.slice xsA xs.length xsC) rfl (by kernel_rfl) (by kernel_rfl) (by kernel_rfl) rfl (fun _ _ _ h => h) rfl trivial (fun _ _ => rfl) ?_
      refine JA_take 1 (Value.pointer (some ⟨b1, 0, none⟩)) rfl (by kernel_rfl) (by kernel_rfl) (by kernel_rfl) rfl (fun _ _ _ h => h) rfl trivial (fun _ _ => x_fieldAddr Ty.fi29_0 rfl rfl) ?_
      refine JA_take 2 (vI num) rfl (by kernel_rfl) (by kernel_rfl) (by kernel_rfl) rfl (fun _ _ _ h => h) rfl trivial (x_load 0 rfl rfl Ty.sc3 rfl) ?_
      refine JA_take 3 (vI ((k : Nat) : Int)) rfl (by kernel_rfl) (by kernel_rfl) (by kernel_rfl) rfl (fun _ _ _ h => h) rfl trivial (fun _ _ => rfl) ?_
      refine JA_take 4 (vI (num + ((k : Nat) : Int))) rfl (by kernel_rfl) (by kernel_rfl) (by kernel_rfl) rfl (fun _ _ _ h => h) rfl trivial (fun _ _ => x_add_i (a := num) (b := ((k : Nat) : Int)) rfl rfl (by omega) (by omega)) ?_
      refine JA_take 5 (Value.pointer (some ⟨b1, 2, none⟩)) rfl (by kernel_rfl) (by kernel_rfl) (by kernel_rfl) rfl (fun _ _ _ h => h) rfl trivial (fun _ _ => x_fieldAddr Ty.fi29_2 rfl rfl) ?_
      refine JA_take 6 (Value.slice chA ch.length chC) rfl (by kernel_rfl) (by kernel_rfl) (by kernel_rfl) rfl (fun _ _ _ h => h) rfl trivial (x_load 0 rfl rfl Ty.sc27 rfl) ?_
      refine JA_take 7 (vI ((k : Nat) : Int)) rfl (by kernel_rfl) (by kernel_rfl) (by kernel_rfl) rfl (fun _ _ _ h => h) rfl trivial (fun _ _ => rfl) ?_
      refine JA_take 8 (Value.pointer (some (adr chA (k * 5)))) rfl (by kernel_rfl) (by kernel_rfl) (by kernel_rfl) rfl (fun _ _ _ h => h) rfl trivial (x_indexAddr_at (k := k) (off := k * 5) (cells_ro chR) Tryd.underlying27 Ty.sz23 rfl rfl lt_ (by rw [flat_length Change.enc 5 Change.enc_len]; first | omega | (simp; omega) | (simp_all; omega) | (simp_all; done)) rfl) ?_
      refine JA_take 9 (Value.agg ((Change.enc (ch.getD k default))).toArray) rfl (by kernel_rfl) (by kernel_rfl) (by kernel_rfl) rfl (fun _ _ _ h => h) rfl trivial (x_loadN_at (Change.enc (ch.getD k default)) (cells_ro chR) rfl Ty.ag23 Ty.sz23 (flat_drop Change.enc 5 Change.enc_len ch default k lt_)) ?_
      refine JA_take 10 (Value.agg (([vI (num + ((k : Nat) : Int))] ++ Change.enc (ch.getD k default))).toArray) rfl (by kernel_rfl) (by kernel_rfl) (by kernel_rfl) rfl (fun _ _ _ h => h) rfl trivial (fun _ _ => x_build (by kernel_rfl)) ?_
      refine JA_one 11 (by kernel_rfl) (fun _ h => ⟨h.keep [true, false] rfl, fun _ => h⟩) ?_
      refine JI_op rfl rfl trivial (O_buildSlice (cs := ([vI (num + ((k : Nat) : Int))] ++ Change.enc (ch.getD k default))) Tryd.underlying53 Ty.sz56 Ty.ze56 (by decide) (by decide) (by kernel_rfl) fun b6 => ?_)
      refine JA_one 12 (by kernel_rfl) (fun _ h => ⟨h.keep [false, true, false] rfl, fun _ => h.keep [false, true, true] rfl⟩) ?_
      refine JI_op rfl rfl trivial (O_append_f 2 Numbered.enc 6 xs [(Numbered.mk (num + ((k : Nat) : Int)) (ch.getD k default))] Tryd.underlying53 Ty.sz56 Ty.by56 Ty.ze56 rfl (by decide) rfl rfl rfl rfl Numbered.enc_len Numbered.enc_one (cells_blk 0 (off := 0) (m := 6) rfl rfl) lt_ lt_ fun A9 c10 => ?_)
      refine JA_take 13 (Value.slice A9 ((xs ++ [(Numbered.mk (num + ((k : Nat) : Int)) (ch.getD k default))]).length) c10) rfl (by kernel_rfl) (by kernel_rfl) (by kernel_rfl) rfl (fun _ _ _ h => h) rfl trivial (fun _ _ => rfl) ?_
      refine JA_done (by kernel_rfl) (fun _ h => ⟨h.keep [false, true, false] rfl, fun hh => Bool.noConfusion (show false = true from hh)⟩) ?_
      refine JX_block ?_
      refine JX_then ?_
      refine J_region ?_
      refine JO_read (vI ((k : Nat) : Int)) rfl trivial (fun _ _ => rfl) ?_
      refine JO_read (vI ((k + 1 : Nat) : Int)) rfl trivial (fun _ _ => x_add_n (a := k) (b := 1) rfl rfl (by omega)) ?_
      refine JO_read (vI ((k + 1 : Nat) : Int)) rfl trivial (fun _ _ => rfl) ?_
      refine JO_nil ?_
      refine JX_round ((k + 1, xs ++ [(Numbered.mk (num + ((k : Nat) : Int)) (ch.getD k default))], A9, c10) : Nat × (List Numbered) × (Option Addr) × Nat) ?_ ?_ ⟨rfl, rfl, rfl, rfl, rfl, trivial⟩ (fun _ h => h.keep [false, true, true] rfl)
      · show ((k + 1) ≤ ch.length) ∧ ((xs ++ [(Numbered.mk (num + ((k : Nat) : Int)) (ch.getD k default))]) = R47.ofN num ch id (k + 1)) ∧ ((xs ++ [(Numbered.mk (num + ((k : Nat) : Int)) (ch.getD k default))]).length ≤ (k + 1))
        refine ⟨?_, ?_, ?_⟩
        · first | rfl | omega | (simp_all; done) | (simp_all; omega)
        · first | (rw [i1_1]; exact (R47.ofN_yes (by omega)).symm) | (rw [i1_1]; exact (R47.ofN_no (by omega)).symm)
        · first | omega | (rw [List.length_append]; simp only [List.length_cons, List.length_nil]; omega)
      · show ch.length - (k + 1) < ch.length - k
        first | omega | (simp; omega) | (simp_all; omega)
    · have h4 := of_decide_eq_false h4
      refine J_skip ?_
      refine JX_block ?_
      refine JX_then ?_
      refine J_region ?_
      refine JO_read (vI ((k : Nat) : Int)) rfl trivial (fun _ _ => rfl) ?_
      refine JO_read (vI ((k + 1 : Nat) : Int)) rfl trivial (fun _ _ => x_add_n (a := k) (b := 1) rfl rfl (by omega)) ?_
      refine JO_read (vI ((k + 1 : Nat) : Int)) rfl trivial (fun _ _ => rfl) ?_
      refine JO_nil ?_
      refine JX_round ((k + 1, xs, xsA, xsC) : Nat × (List Numbered) × (Option Addr) × Nat) ?_ ?_ ⟨rfl, rfl, rfl, rfl, rfl, trivial⟩ (fun _ h => h)
      · show ((k + 1) ≤ ch.length) ∧ (xs = R47.ofN num ch id (k + 1)) ∧ (xs.length ≤ (k + 1))
        refine ⟨?_, ?_, ?_⟩
        · first | rfl | omega | (simp_all; done) | (simp_all; omega)
        · first | (rw [i1_1]; exact (R47.ofN_yes (by omega)).symm) | (rw [i1_1]; exact (R47.ofN_no (by omega)).symm)
        · first | omega | (rw [List.length_append]; simp only [List.length_cons, List.length_nil]; omega)
      · show ch.length - (k + 1) < ch.length - k
        first | omega | (simp; omega) | (simp_all; omega)
  · have h3 := of_decide_eq_false h3
    refine J_exit ?_
    refine JX_then_exit ?_
    refine JX_round_exit ?_
    refine JX_block_hit ?_
    refine JX_then ?_
    refine J_seq ?_
    refine J_region ?_
    refine JO_read (Value.slice xsA xs.length xsC) rfl trivial (fun _ _ => rfl) ?_
    refine JO_read (Value.slice xsA xs.length xsC) rfl trivial (fun _ _ => rfl) ?_
    refine JO_nil ?_
    refine JX_then ?_
    refine J_ret ?_
    refine JX_rets [Value.slice xsA xs.length xsC] (Value.slice xsA xs.length xsC) Tryd.results33 (fun w h => ⟨rfl, trivial⟩) rfl [Ent.row (.slice xsA xs.length xsC) 56 6 xs.length (xs.flatMap Numbered.enc)] (fun _ h => h.keep [false, true] rfl) ⟨xsA, xsC, ?_, ?_⟩
    · have e_x0 : (xs.length : Nat) = ((R47.of num ch id).length) := by
        rw [i1_1, show k = ch.length by omega]; rfl
      exact congrArg (fun (x0 : Nat) => Value.slice xsA x0 xsC) e_x0
    · have e_y0 : (xs : List Numbered) = (R47.of num ch id) := by
        rw [i1_1, show k = ch.length by omega]; rfl
      have e_all := (congrArg (fun (y0 : List Numbered) => [Ent.row (.slice xsA y0.length xsC) 56 6 y0.length (y0.flatMap Numbered.enc)]) e_y0)
      exact e_all

end Go.Proofs.YtknibpmmjhmjeaaDoor
