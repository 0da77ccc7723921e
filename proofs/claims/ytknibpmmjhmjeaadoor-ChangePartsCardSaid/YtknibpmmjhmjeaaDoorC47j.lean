/- contracts C47j -/
import Derived.Test.YtknibpmmjhmjeaaDoorC47i
import Derived.Test.YtknibpmmjhmjeaaDoorPl47d
namespace Go.Proofs.YtknibpmmjhmjeaaDoor
open Go.GV
set_option linter.unusedVariables false
set_option linter.unusedSimpArgs false

set_option maxRecDepth 20000 in
theorem f27_ok (num : Int) (unit : Int) (ch : List Change) (chA : Option Addr) (chC : Nat) (w : World) (chR : RO [] w chA (ch.flatMap Change.enc)) (q0 : ch.length ≤ 1000) : Calls Tryd.prog 27 #[Value.agg #[vI num, vI unit, Value.slice chA ch.length chC]] w (Gives [] w fun v L => ∃ A : Option Addr, ∃ c : Nat, v = Value.slice A ((R47.ids ch).length) c ∧ L = [Ent.row (.slice A (R47.ids ch).length c) 3 1 (R47.ids ch).length ((R47.ids ch).map vI)]) := by
  refine calls_J [] 23 Tryd.func27 rfl Tryd.ntmps27 [(0, Value.agg #[vI num, vI unit, Value.slice chA ch.length chC])] rfl rfl (Give.nil w) ?_
  refine J_seq ?_
  refine J_region ?_
  refine JO_op rfl trivial (O_box rfl rfl fun b1 => ?_)
  refine JO_read (Value.slice none 0 0) rfl trivial (fun _ _ => rfl) ?_
  refine JO_nil ?_
  refine JX_then ?_
  refine J_seq ?_
  refine J_region ?_
  refine JO_read (Value.slice none 0 0) rfl trivial (fun _ _ => rfl) ?_
  refine JO_nil ?_
  refine JX_then ?_
  refine J_seq ?_
  refine J_seq ?_
  refine J_region ?_
  refine JO_read (Value.pointer (some ⟨b1, 2, none⟩)) rfl trivial (fun _ _ => x_fieldAddr Ty.fi29_2 rfl rfl) ?_
  refine JO_read (Value.slice chA ch.length chC) rfl trivial (x_load 0 rfl rfl Ty.sc27 rfl) ?_
  refine JO_read (vI ((ch.length : Nat) : Int)) rfl trivial (fun _ _ => x_len_sl Tryd.underlying27 rfl) ?_
  refine JO_read (vI 0) rfl trivial (fun _ _ => rfl) ?_
  refine JO_nil ?_
  refine JX_then ?_
  refine J_block ?_
  refine J_loop (X := Nat × (List Int) × (Option Addr) × Nat) (fun (⟨k, xs, xsA, xsC⟩ : Nat × (List Int) × (Option Addr) × Nat) => (k ≤ ch.length) ∧ (xs = (ch.take k).map Change.Id) ∧ (xs.length ≤ k)) (fun (⟨k, xs, xsA, xsC⟩ : Nat × (List Int) × (Option Addr) × Nat) => [(2, Value.slice none 0 0), (3, Value.slice xsA xs.length xsC), (7, Value.slice chA ch.length chC), (8, vI ((ch.length : Nat) : Int)), (9, vI ((k : Nat) : Int))]) (fun (⟨k, xs, xsA, xsC⟩ : Nat × (List Int) × (Option Addr) × Nat) => [Ent.row (.slice xsA xs.length xsC) 3 1 xs.length (xs.map vI)]) (fun (⟨k, xs, xsA, xsC⟩ : Nat × (List Int) × (Option Addr) × Nat) => ch.length - k) ((0, ([] : List Int), none, 0) : Nat × (List Int) × (Option Addr) × Nat) ?_ ⟨rfl, rfl, rfl, rfl, rfl, trivial⟩ (fun _ h => (h.nilrow 3 1).keep [true, false] rfl) ?_
  · show (0 ≤ ch.length) ∧ (([] : List Int) = (ch.take 0).map Change.Id) ∧ (([] : List Int).length ≤ 0)
    refine ⟨?_, ?_, ?_⟩
    · first | rfl | omega | (simp_all; done) | (simp_all; omega)
    · rfl
    · exact Nat.le_refl _
  rintro ⟨k, xs, xsA, xsC⟩ hI1
  obtain ⟨i1_0, i1_1, i1_2⟩ : (k ≤ ch.length) ∧ (xs = (ch.take k).map Change.Id) ∧ (xs.length ≤ k) := hI1
  refine J_weaken (E' := [(2, Value.slice none 0 0), (3, Value.slice xsA xs.length xsC), (7, Value.slice chA ch.length chC), (8, vI ((ch.length : Nat) : Int)), (9, vI ((k : Nat) : Int))]) (L' := [Ent.row (.slice xsA xs.length xsC) 3 1 xs.length (xs.map vI)]) ⟨rfl, rfl, rfl, rfl, rfl, trivial⟩ (fun _ h => h) ?_
  refine J_seq ?_
  refine J_region ?_
  refine JO_read (vB (decide (((k : Nat) : Int) < ((ch.length : Nat) : Int)))) rfl trivial (fun _ _ => x_lss_i rfl rfl) ?_
  refine JO_nil ?_
  refine JX_then ?_
  refine J_seq ?_
  refine J_cond (decide (((k : Nat) : Int) < ((ch.length : Nat) : Int))) rfl rfl (fun h2 => ?_) (fun h2 => ?_)
  · have h2 := of_decide_eq_true h2
    refine J_skip ?_
    refine JX_then ?_
    refine J_seq ?_
    refine J_block ?_
    refine J_seq ?_
    refine J_region ?_
    refine JO_read (Value.pointer (some (adr chA (k * 5)))) rfl trivial (x_indexAddr_at (k := k) (off := k * 5) (cells_ro chR) Tryd.underlying27 Ty.sz23 rfl rfl lt_ (by rw [flat_length Change.enc 5 Change.enc_len]; first | omega | (simp; omega) | (simp_all; omega) | (simp_all; done)) rfl) ?_
    refine JO_read (Value.agg ((Change.enc (ch.getD k default))).toArray) rfl trivial (x_loadN_at (Change.enc (ch.getD k default)) (cells_ro chR) rfl Ty.ag23 Ty.sz23 (flat_drop Change.enc 5 Change.enc_len ch default k lt_)) ?_
    refine JO_op rfl trivial (O_alloc Ty.ze23 rfl fun b3 => ?_)
    refine JO_op rfl trivial (O_storeS (vs := (Change.enc (ch.getD k default))) 0 (Change.enc (ch.getD k default)) [Ent.blk b3 23 (Change.enc (ch.getD k default)), Ent.row (.slice xsA xs.length xsC) 3 1 xs.length (xs.map vI)] rfl rfl rfl Ty.sz23 rfl (Nat.le_of_ble_eq_true rfl) rfl rfl rfl ?_)
    refine JO_nil ?_
    refine JX_then ?_
    refine J_region ?_
    refine JO_read (Value.slice xsA xs.length xsC) rfl trivial (fun _ _ => rfl) ?_
    refine JO_read (Value.pointer (some ⟨b3, 1, none⟩)) rfl trivial (fun _ _ => x_fieldAddr Ty.fi23_1 rfl rfl) ?_
    refine JO_read (vI ((ch.getD k default).Id)) rfl trivial (x_load 0 rfl rfl Ty.sc3 rfl) ?_
    refine JO_op rfl trivial (O_buildSlice (cs := [vI ((ch.getD k default).Id)]) Tryd.underlying48 Ty.sz3 Ty.ze3 (by decide) (by decide) (by kernel_rfl) fun b4 => ?_)
    refine JO_op rfl trivial (O_append_m 2 vI xs [(ch.getD k default).Id] Tryd.underlying48 Ty.sz3 Ty.by3 Ty.ze3 rfl rfl rfl rfl rfl (fun _ => rfl) (cells_blk 0 (off := 0) (m := 1) rfl rfl) lt_ lt_ fun A5 c6 => ?_)
    refine JO_read (Value.slice A5 ((xs ++ [(ch.getD k default).Id]).length) c6) rfl trivial (fun _ _ => rfl) ?_
    refine JO_nil ?_
    refine JX_block ?_
    refine JX_then ?_
    refine J_region ?_
    refine JO_read (vI ((k + 1 : Nat) : Int)) rfl trivial (fun _ _ => x_add_n (a := k) (b := 1) rfl rfl (by omega)) ?_
    refine JO_read (vI ((k + 1 : Nat) : Int)) rfl trivial (fun _ _ => rfl) ?_
    refine JO_nil ?_
    refine JX_round ((k + 1, xs ++ [(ch.getD k default).Id], A5, c6) : Nat × (List Int) × (Option Addr) × Nat) ?_ ?_ ⟨rfl, rfl, rfl, rfl, rfl, trivial⟩ (fun _ h => h.keep [false, false, true] rfl)
    · show ((k + 1) ≤ ch.length) ∧ ((xs ++ [(ch.getD k default).Id]) = (ch.take (k + 1)).map Change.Id) ∧ ((xs ++ [(ch.getD k default).Id]).length ≤ (k + 1))
      refine ⟨?_, ?_, ?_⟩
      · first | rfl | omega | (simp_all; done) | (simp_all; omega)
      · rw [i1_1]; exact (R47.map_step (by omega)).symm
      · rw [List.length_append]; simp only [List.length_cons, List.length_nil]; omega
    · show ch.length - (k + 1) < ch.length - k
      first | omega | (simp; omega) | (simp_all; omega)
  · have h2 := of_decide_eq_false h2
    refine J_exit ?_
    refine JX_then_exit ?_
    refine JX_round_exit ?_
    refine JX_block_hit ?_
    refine JX_then ?_
    refine J_seq ?_
    refine J_region ?_
    refine JO_read (Value.slice xsA xs.length xsC) rfl trivial (fun _ _ => rfl) ?_
    refine JO_call (Lown [Ent.row (.slice xsA xs.length xsC) 3 1 xs.length (xs.map vI)]) [Ent.row (.slice xsA xs.length xsC) 3 1 xs.length (xs.map vI)] [] rfl trivial (fun _ => x_call Ty.ca50 rfl) (fun _ h => h) lown_mem (fun w hS => sort_ok xs xsA xsC xs.length w (by first | rfl | exact (srt_length _).symm) (by first | omega | (rw [srt_length]; omega)) (hS.give lown_in)) ?_
    rintro _ _ ⟨rfl, rfl⟩
    refine JO_nil ?_
    refine JX_then ?_
    refine J_seq ?_
    refine J_region ?_
    refine JO_read (Value.slice xsA xs.length xsC) rfl trivial (fun _ _ => rfl) ?_
    refine JO_call (Lown [Ent.row (.slice xsA xs.length xsC) 3 1 xs.length ((srt xs).map vI)]) [Ent.row (.slice xsA xs.length xsC) 3 1 xs.length ((srt xs).map vI)] [] rfl trivial (fun _ => x_call Ty.ca51 rfl) (fun _ h => h) lown_mem (fun w hS => compact_ok (srt xs) xsA xsC xs.length w (by first | rfl | exact (srt_length _).symm) (by first | omega | (rw [srt_length]; omega)) (hS.give lown_in)) ?_
    rintro _ _ ⟨rfl, rfl⟩
    refine JO_read (Value.slice xsA ((cmp (srt xs)).length) xsC) rfl trivial (fun _ _ => rfl) ?_
    refine JO_nil ?_
    refine JX_then ?_
    refine J_ret ?_
    refine JX_rets [Value.slice xsA ((cmp (srt xs)).length) xsC] (Value.slice xsA ((cmp (srt xs)).length) xsC) Tryd.results27 (fun w h => ⟨rfl, trivial⟩) rfl [Ent.row (.slice xsA (cmp (srt xs)).length xsC) 3 1 (cmp (srt xs)).length ((cmp (srt xs)).map vI)] (fun _ h => h) ⟨xsA, xsC, ?_, ?_⟩
    · have e_x0 : ((cmp (srt xs)).length : Nat) = ((R47.ids ch).length) := by
        rw [i1_1, show k = ch.length by omega, List.take_length]; rfl
      exact congrArg (fun (x0 : Nat) => Value.slice xsA x0 xsC) e_x0
    · have e_y0 : (cmp (srt xs) : List Int) = (R47.ids ch) := by
        rw [i1_1, show k = ch.length by omega, List.take_length]; rfl
      have e_all := (congrArg (fun (y0 : List Int) => [Ent.row (.slice xsA y0.length xsC) 3 1 y0.length (y0.map vI)]) e_y0)
      exact e_all

set_option maxRecDepth 20000 in
theorem f28_ok (a : List Int) (aA : Option Addr) (aC : Nat) (b : List Int) (bA : Option Addr) (bC : Nat) (w : World) (aR : RO [] w aA (a.map vI)) (bR : RO [] w bA (b.map vI)) (q0 : a.length ≤ 9223372036854775807) : Calls Tryd.prog 28 #[Value.slice aA a.length aC, Value.slice bA b.length bC] w (Gives [] w fun v L => v = vB (decide (a = b)) ∧ L = []) := by
  refine calls_J [] 26 Tryd.func28 rfl Tryd.ntmps28 [(0, Value.slice aA a.length aC), (1, Value.slice bA b.length bC)] rfl rfl (Give.nil w) ?_
  refine J_seq ?_
  refine J_region ?_
  refine JO_read (vB false) rfl trivial (fun _ _ => rfl) ?_
  refine JO_nil ?_
  refine JX_then ?_
  refine J_seq ?_
  refine J_seq ?_
  refine J_region ?_
  refine JO_read (Value.slice aA a.length aC) rfl trivial (fun _ _ => rfl) ?_
  refine JO_read (vI ((a.length : Nat) : Int)) rfl trivial (fun _ _ => x_len_sl Tryd.underlying48 rfl) ?_
  refine JO_read (Value.slice bA b.length bC) rfl trivial (fun _ _ => rfl) ?_
  refine JO_read (vI ((b.length : Nat) : Int)) rfl trivial (fun _ _ => x_len_sl Tryd.underlying48 rfl) ?_
  refine JO_read (vB (decide (((a.length : Nat) : Int) ≠ ((b.length : Nat) : Int)))) rfl trivial (fun _ _ => x_neq_i rfl rfl) ?_
  refine JO_nil ?_
  refine JX_then ?_
  refine J_cond (decide (((a.length : Nat) : Int) ≠ ((b.length : Nat) : Int))) rfl rfl (fun h1 => ?_) (fun h1 => ?_)
  · have h1 := of_decide_eq_true h1
    refine J_seq ?_
    refine J_region ?_
    refine JO_read (vB false) rfl trivial (fun _ _ => rfl) ?_
    refine JO_nil ?_
    refine JX_then ?_
    refine J_ret ?_
    refine JX_then_ret ?_
    refine JX_rets [vB false] (vB false) Tryd.results28 (fun w h => ⟨rfl, trivial⟩) rfl [] (fun _ h => h) ⟨?_, ?_⟩
    · have e_x0 : (false : Bool) = (decide (a = b)) := by
        first | exact (R47.ints_no (by omega)).symm | exact (R47.ints_bad (k := k) (by omega)).symm | exact (R47.ints_all i1_1 (fun i hi => i1_2 i (by omega))).symm
      exact congrArg (fun (x0 : Bool) => vB x0) e_x0
    · rfl
  · have h1 := of_decide_eq_false h1
    refine J_skip ?_
    refine JX_then ?_
    refine J_seq ?_
    refine J_seq ?_
    refine J_region ?_
    refine JO_read (vI 0) rfl trivial (fun _ _ => rfl) ?_
    refine JO_nil ?_
    refine JX_then ?_
    refine J_block ?_
    refine J_loop (X := Nat) (fun (k : Nat) => (k ≤ a.length) ∧ (a.length = b.length) ∧ (∀ i, i < k → a.getD i 0 = b.getD i 0)) (fun (k : Nat) => [(0, Value.slice aA a.length aC), (1, Value.slice bA b.length bC), (5, vI ((k : Nat) : Int))]) (fun (k : Nat) => []) (fun (k : Nat) => a.length - k) (0 : Nat) ?_ ⟨rfl, rfl, rfl, trivial⟩ (fun _ h => h) ?_
    · show (0 ≤ a.length) ∧ (a.length = b.length) ∧ (∀ i, i < 0 → a.getD i 0 = b.getD i 0)
      refine ⟨?_, ?_, ?_⟩
      · first | rfl | omega | (simp_all; done) | (simp_all; omega)
      · first | rfl | omega | (simp_all; done) | (simp_all; omega)
      · intro i hi; omega
    intro k hI1
    obtain ⟨i1_0, i1_1, i1_2⟩ : (k ≤ a.length) ∧ (a.length = b.length) ∧ (∀ i, i < k → a.getD i 0 = b.getD i 0) := hI1
    refine J_weaken (E' := [(0, Value.slice aA a.length aC), (1, Value.slice bA b.length bC), (5, vI ((k : Nat) : Int))]) (L' := []) ⟨rfl, rfl, rfl, trivial⟩ (fun _ h => h) ?_
    refine J_seq ?_
    refine J_seq ?_
    refine J_region ?_
    refine JO_read (vI ((k : Nat) : Int)) rfl trivial (fun _ _ => rfl) ?_
    refine JO_read (Value.slice aA a.length aC) rfl trivial (fun _ _ => rfl) ?_
    refine JO_read (vI ((a.length : Nat) : Int)) rfl trivial (fun _ _ => x_len_sl Tryd.underlying48 rfl) ?_
    refine JO_read (vB (decide (((k : Nat) : Int) < ((a.length : Nat) : Int)))) rfl trivial (fun _ _ => x_lss_i rfl rfl) ?_
    refine JO_nil ?_
    refine JX_then ?_
    refine J_cond (decide (((k : Nat) : Int) < ((a.length : Nat) : Int))) rfl rfl (fun h2 => ?_) (fun h2 => ?_)
    · have h2 := of_decide_eq_true h2
      refine J_skip ?_
      refine JX_then ?_
      refine J_seq ?_
      refine J_block ?_
      refine J_seq ?_
      refine J_draw [] [] [] 9 Ty.mixed rfl ?_
      refine JA_take 0 (Value.slice aA a.length aC) rfl (by kernel_rfl) (by kernel_rfl) (by kernel_rfl) rfl (fun _ _ _ h => h) rfl trivial (fun _ _ => rfl) ?_
      refine JA_take 1 (vI ((k : Nat) : Int)) rfl (by kernel_rfl) (by kernel_rfl) (by kernel_rfl) rfl (fun _ _ _ h => h) rfl trivial (fun _ _ => rfl) ?_
      refine JA_take 2 (Value.pointer (some (adr aA k))) rfl (by kernel_rfl) (by kernel_rfl) (by kernel_rfl) rfl (fun _ _ _ h => h) rfl trivial (x_indexAddr_at (k := k) (off := k) (cells_ro aR) Tryd.underlying48 Ty.sz3 rfl rfl lt_ (by rw [List.length_map]; first | omega | (simp; omega) | (simp_all; omega) | (simp_all; done)) (Nat.mul_one _)) ?_
      refine JA_take 3 (vI (a.getD k 0)) rfl (by kernel_rfl) (by kernel_rfl) (by kernel_rfl) rfl (fun _ _ _ h => h) rfl trivial (x_load_at (cells_ro aR) rfl Ty.sc3 (map_at vI a 0 lt_)) ?_
      refine JA_take 4 (Value.slice bA b.length bC) rfl (by kernel_rfl) (by kernel_rfl) (by kernel_rfl) rfl (fun _ _ _ h => h) rfl trivial (fun _ _ => rfl) ?_
      refine JA_take 5 (vI ((k : Nat) : Int)) rfl (by kernel_rfl) (by kernel_rfl) (by kernel_rfl) rfl (fun _ _ _ h => h) rfl trivial (fun _ _ => rfl) ?_
      refine JA_take 6 (Value.pointer (some (adr bA k))) rfl (by kernel_rfl) (by kernel_rfl) (by kernel_rfl) rfl (fun _ _ _ h => h) rfl trivial (x_indexAddr_at (k := k) (off := k) (cells_ro bR) Tryd.underlying48 Ty.sz3 rfl rfl lt_ (by rw [List.length_map]; first | omega | (simp; omega) | (simp_all; omega) | (simp_all; done)) (Nat.mul_one _)) ?_
      refine JA_take 7 (vI (b.getD k 0)) rfl (by kernel_rfl) (by kernel_rfl) (by kernel_rfl) rfl (fun _ _ _ h => h) rfl trivial (x_load_at (cells_ro bR) rfl Ty.sc3 (map_at vI b 0 lt_)) ?_
      refine JA_take 8 (vB (decide ((a.getD k 0) ≠ (b.getD k 0)))) rfl (by kernel_rfl) (by kernel_rfl) (by kernel_rfl) rfl (fun _ _ _ h => h) rfl trivial (fun _ _ => x_neq_i rfl rfl) ?_
      refine JA_done (by kernel_rfl) (fun _ h => ⟨h, fun _ => h⟩) ?_
      refine JX_then ?_
      refine J_cond (decide ((a.getD k 0) ≠ (b.getD k 0))) rfl rfl (fun h3 => ?_) (fun h3 => ?_)
      · have h3 := of_decide_eq_true h3
        refine J_seq ?_
        refine J_region ?_
        refine JO_read (vB false) rfl trivial (fun _ _ => rfl) ?_
        refine JO_nil ?_
        refine JX_then ?_
        refine J_ret ?_
        refine JX_block_ret ?_
        refine JX_then_ret ?_
        refine JX_round_ret ?_
        refine JX_block_ret ?_
        refine JX_then_ret ?_
        refine JX_rets [vB false] (vB false) Tryd.results28 (fun w h => ⟨rfl, trivial⟩) rfl [] (fun _ h => h) ⟨?_, ?_⟩
        · have e_x0 : (false : Bool) = (decide (a = b)) := by
            first | exact (R47.ints_no (by omega)).symm | exact (R47.ints_bad (k := k) (by omega)).symm | exact (R47.ints_all i1_1 (fun i hi => i1_2 i (by omega))).symm
          exact congrArg (fun (x0 : Bool) => vB x0) e_x0
        · rfl
      · have h3 := of_decide_eq_false h3
        refine J_skip ?_
        refine JX_block ?_
        refine JX_then ?_
        refine J_region ?_
        refine JO_read (vI ((k : Nat) : Int)) rfl trivial (fun _ _ => rfl) ?_
        refine JO_read (vI ((k + 1 : Nat) : Int)) rfl trivial (fun _ _ => x_add_n (a := k) (b := 1) rfl rfl (by omega)) ?_
        refine JO_read (vI ((k + 1 : Nat) : Int)) rfl trivial (fun _ _ => rfl) ?_
        refine JO_nil ?_
        refine JX_round (k + 1 : Nat) ?_ ?_ ⟨rfl, rfl, rfl, trivial⟩ (fun _ h => h)
        · show ((k + 1) ≤ a.length) ∧ (a.length = b.length) ∧ (∀ i, i < (k + 1) → a.getD i 0 = b.getD i 0)
          refine ⟨?_, ?_, ?_⟩
          · first | rfl | omega | (simp_all; done) | (simp_all; omega)
          · exact i1_1
          · intro i hi
            by_cases hik : i = k
            · subst hik; omega
            · exact i1_2 i (by omega)
        · show a.length - (k + 1) < a.length - k
          first | omega | (simp; omega) | (simp_all; omega)
    · have h2 := of_decide_eq_false h2
      refine J_exit ?_
      refine JX_then_exit ?_
      refine JX_round_exit ?_
      refine JX_block_hit ?_
      refine JX_then ?_
      refine J_seq ?_
      refine J_region ?_
      refine JO_read (vB true) rfl trivial (fun _ _ => rfl) ?_
      refine JO_nil ?_
      refine JX_then ?_
      refine J_ret ?_
      refine JX_rets [vB true] (vB true) Tryd.results28 (fun w h => ⟨rfl, trivial⟩) rfl [] (fun _ h => h) ⟨?_, ?_⟩
      · have e_x0 : (true : Bool) = (decide (a = b)) := by
          first | exact (R47.ints_no (by omega)).symm | exact (R47.ints_bad (k := k) (by omega)).symm | exact (R47.ints_all i1_1 (fun i hi => i1_2 i (by omega))).symm
        exact congrArg (fun (x0 : Bool) => vB x0) e_x0
      · rfl

end Go.Proofs.YtknibpmmjhmjeaaDoor
