/- contracts C26f -/
import Derived.Test.YtimjfpioenkbjaaC26e
import Derived.Test.YtimjfpioenkbjaaPl26c
namespace Go.Proofs.Ytimjfpioenkbjaa
open Go.GV
set_option linter.unusedVariables false
set_option linter.unusedSimpArgs false

set_option maxRecDepth 20000 in
theorem f44_ok (x : Pair) (a : Nat) (o : Nat) (xs : List Bytes) (xsA : Option Addr) (xsC : Nat) (xsN : Nat) (alt : DataSet) (w : World) (xsQ : xsN = xs.length) (q0 : x.key.length ≤ 100) (q1 : x.record.length ≤ 300) (q2 : xs.length ≤ 1000) (hg : Give (Lown [Ent.blk a 23 (DataSet.enc alt), Ent.blk o 33 [Value.slice xsA xsN xsC], Ent.row (.slice xsA xsN xsC) 9 1 xsN (xs.map vS)]) w [Ent.blk a 23 (DataSet.enc alt), Ent.blk o 33 [Value.slice xsA xsN xsC], Ent.row (.slice xsA xsN xsC) 9 1 xsN (xs.map vS)]) : Calls Try.prog 44 #[Value.agg #[vS x.key, vS x.record], Value.pointer (some ⟨a, 0, none⟩), Value.pointer (some ⟨o, 0, none⟩)] w (Gives (Lown [Ent.blk a 23 (DataSet.enc alt), Ent.blk o 33 [Value.slice xsA xsN xsC], Ent.row (.slice xsA xsN xsC) 9 1 xsN (xs.map vS)]) w fun v L => ∃ A2 : Option Addr, ∃ c2 : Nat, v = Value.tuple #[] ∧ L = [Ent.blk a 23 (DataSet.enc alt), Ent.blk o 33 [Value.slice A2 ((R26.add alt x xs).length) c2], Ent.row (.slice A2 (R26.add alt x xs).length c2) 9 1 (R26.add alt x xs).length ((R26.add alt x xs).map vS)]) := by
  subst xsQ
  refine calls_J (Lown [Ent.blk a 23 (DataSet.enc alt), Ent.blk o 33 [Value.slice xsA xs.length xsC], Ent.row (.slice xsA xs.length xsC) 9 1 xs.length (xs.map vS)]) 29 Try.func44 rfl Try.ntmps44 [(0, Value.agg #[vS x.key, vS x.record]), (1, Value.pointer (some ⟨a, 0, none⟩)), (2, Value.pointer (some ⟨o, 0, none⟩))] rfl rfl hg ?_
  refine J_seq ?_
  refine J_region ?_
  refine JO_op rfl trivial (O_box rfl rfl fun b1 => ?_)
  refine JO_nil ?_
  refine JX_then ?_
  refine J_seq ?_
  refine J_region ?_
  refine JO_read (Value.agg ((DataSet.enc alt)).toArray) rfl trivial (x_loadN 1 (DataSet.enc alt) rfl rfl Ty.ag23 Ty.sz23 rfl) ?_
  refine JO_read (Value.pointer (some ⟨b1, 1, none⟩)) rfl trivial (fun _ _ => x_fieldAddr Ty.fi55_1 rfl rfl) ?_
  refine JO_read (vS x.record) rfl trivial (x_load 0 rfl rfl Ty.sc9 rfl) ?_
  refine JO_call [] [] [Ent.blk b1 55 [vS x.key, vS x.record], Ent.blk a 23 (DataSet.enc alt), Ent.blk o 33 [Value.slice xsA xs.length xsC], Ent.row (.slice xsA xs.length xsC) 9 1 xs.length (xs.map vS)] rfl trivial (fun _ => x_call Ty.ca17 rfl) (fun _ h => h) (fun _ h => by cases h) (fun w hS => f17_ok alt x.record w) ?_
  rintro _ _ ⟨rfl, rfl⟩
  refine JO_read (Value.tuple #[vS ((R26.key alt x.record).1), vB ((R26.key alt x.record).2)]) rfl trivial (fun _ _ => rfl) ?_
  refine JO_read (vS ((R26.key alt x.record).1)) rfl trivial (fun _ _ => rfl) ?_
  refine JO_read (vB ((R26.key alt x.record).2)) rfl trivial (fun _ _ => rfl) ?_
  refine JO_read (vS ((R26.key alt x.record).1)) rfl trivial (fun _ _ => rfl) ?_
  refine JO_read (vB ((R26.key alt x.record).2)) rfl trivial (fun _ _ => rfl) ?_
  refine JO_nil ?_
  refine JX_then ?_
  refine J_seq ?_
  refine J_draw [Ent.blk b1 55 [vS x.key, vS x.record], Ent.blk a 23 (DataSet.enc alt), Ent.blk o 33 [Value.slice xsA xs.length xsC], Ent.row (.slice xsA xs.length xsC) 9 1 xs.length (xs.map vS)] [] [Ent.blk b1 55 [vS x.key, vS x.record], Ent.blk a 23 (DataSet.enc alt), Ent.blk o 33 [Value.slice xsA xs.length xsC], Ent.row (.slice xsA xs.length xsC) 9 1 xs.length (xs.map vS)] 9 Ty.mixed rfl ?_
  refine JA_take 0 (vB ((R26.key alt x.record).2)) rfl (by kernel_rfl) (by kernel_rfl) (by kernel_rfl) rfl (fun _ _ _ h => h) rfl trivial (fun _ _ => rfl) ?_
  refine JA_take 1 (vB ((R26.key alt x.record).2)) rfl (by kernel_rfl) (by kernel_rfl) (by kernel_rfl) rfl (fun _ _ _ h => h) rfl trivial (fun _ _ => rfl) ?_
  refine JA_bool ((R26.key alt x.record).2) [(0, Value.agg #[vS x.key, vS x.record]), (1, Value.pointer (some ⟨a, 0, none⟩)), (2, Value.pointer (some ⟨o, 0, none⟩)), (3, Value.pointer (some ⟨b1, 0, none⟩)), (7, Value.agg ((DataSet.enc alt)).toArray), (8, Value.pointer (some ⟨b1, 1, none⟩)), (9, vS x.record), (10, Value.tuple #[vS ((R26.key alt x.record).1), vB ((R26.key alt x.record).2)]), (6, Value.tuple #[vS ((R26.key alt x.record).1), vB ((R26.key alt x.record).2)]), (11, vS ((R26.key alt x.record).1)), (12, vB ((R26.key alt x.record).2)), (4, vS ((R26.key alt x.record).1)), (5, vB ((R26.key alt x.record).2)), (13, vB ((R26.key alt x.record).2)), (14, vB true)] [(0, Value.agg #[vS x.key, vS x.record]), (1, Value.pointer (some ⟨a, 0, none⟩)), (2, Value.pointer (some ⟨o, 0, none⟩)), (3, Value.pointer (some ⟨b1, 0, none⟩)), (7, Value.agg ((DataSet.enc alt)).toArray), (8, Value.pointer (some ⟨b1, 1, none⟩)), (9, vS x.record), (10, Value.tuple #[vS ((R26.key alt x.record).1), vB ((R26.key alt x.record).2)]), (6, Value.tuple #[vS ((R26.key alt x.record).1), vB ((R26.key alt x.record).2)]), (11, vS ((R26.key alt x.record).1)), (12, vB ((R26.key alt x.record).2)), (4, vS ((R26.key alt x.record).1)), (5, vB ((R26.key alt x.record).2)), (13, vB ((R26.key alt x.record).2)), (14, vB false)] (fun hb => ⟨rfl, rfl, rfl, rfl, rfl, rfl, rfl, rfl, rfl, rfl, rfl, rfl, rfl, rfl, congrArg (fun b => some (vB b)) hb, trivial⟩) (fun hb => ⟨rfl, rfl, rfl, rfl, rfl, rfl, rfl, rfl, rfl, rfl, rfl, rfl, rfl, rfl, congrArg (fun b => some (vB b)) hb, trivial⟩) (fun h2 => ?_) (fun h2 => ?_)
  · have hi3 := R26.key_facts h2
    refine JA_take 2 (Value.pointer (some ⟨b1, 0, none⟩)) rfl (by kernel_rfl) (by kernel_rfl) (by kernel_rfl) rfl (fun _ _ _ h => h) rfl ⟨_, rfl, rfl⟩ (fun _ _ => x_fieldAddr Ty.fi55_0 rfl rfl) ?_
    refine JA_take 3 (vS x.key) rfl (by kernel_rfl) (by kernel_rfl) (by kernel_rfl) rfl (fun _ _ _ h => h) rfl ⟨_, rfl, rfl⟩ (x_load 0 rfl rfl Ty.sc9 rfl) ?_
    refine JA_take 4 (vI ((x.key.length : Nat) : Int)) rfl (by kernel_rfl) (by kernel_rfl) (by kernel_rfl) rfl (fun _ _ _ h => h) rfl ⟨_, rfl, rfl⟩ (fun _ _ => x_len_s rfl Try.underlying9) ?_
    refine JA_take 5 (Value.agg ((DataSet.enc alt)).toArray) rfl (by kernel_rfl) (by kernel_rfl) (by kernel_rfl) rfl (fun _ _ _ h => h) rfl ⟨_, rfl, rfl⟩ (x_loadN 1 (DataSet.enc alt) rfl rfl Ty.ag23 Ty.sz23 rfl) ?_
    refine JA_one 6 (by kernel_rfl) (fun _ h => ⟨h, fun _ => h⟩) ?_
    refine JI_call [] [] [Ent.blk b1 55 [vS x.key, vS x.record], Ent.blk a 23 (DataSet.enc alt), Ent.blk o 33 [Value.slice xsA xs.length xsC], Ent.row (.slice xsA xs.length xsC) 9 1 xs.length (xs.map vS)] rfl rfl ⟨_, rfl, rfl⟩ (fun _ => x_call Ty.ca42 rfl) (fun _ h => h) (fun _ h => by cases h) (fun w hS => f42_ok alt w hy_ hy_ hy_ hy_) ?_
    rintro _ _ ⟨rfl, rfl⟩
    refine JA_take 7 (vB (decide (((x.key.length : Nat) : Int) = alt.KeyLength - alt.AltLength))) rfl (by kernel_rfl) (by kernel_rfl) (by kernel_rfl) rfl (fun _ _ _ h => h) rfl ⟨_, rfl, rfl⟩ (fun _ _ => x_eql_i rfl rfl) ?_
    refine JA_take 8 (vB (decide (((x.key.length : Nat) : Int) = alt.KeyLength - alt.AltLength))) rfl (by kernel_rfl) (by kernel_rfl) (by kernel_rfl) rfl (fun _ _ _ h => h) rfl trivial (fun _ _ => rfl) ?_
    refine JA_done (by kernel_rfl) (fun _ h => ⟨h, fun _ => h⟩) ?_
    refine JX_then ?_
    refine J_cond (decide (((x.key.length : Nat) : Int) = alt.KeyLength - alt.AltLength)) rfl rfl (fun h4 => ?_) (fun h4 => ?_)
    · have h4w := h4
      have h4 := of_decide_eq_true h4
      refine J_region ?_
      refine JO_read (Value.slice xsA xs.length xsC) rfl trivial (x_load 2 rfl rfl Ty.sc33 rfl) ?_
      refine JO_read (vS ((R26.key alt x.record).1)) rfl trivial (fun _ _ => rfl) ?_
      refine JO_read (Value.pointer (some ⟨b1, 0, none⟩)) rfl trivial (fun _ _ => x_fieldAddr Ty.fi55_0 rfl rfl) ?_
      refine JO_read (vS x.key) rfl trivial (x_load 0 rfl rfl Ty.sc9 rfl) ?_
      refine JO_read (vS (((R26.key alt x.record).1) ++ x.key)) rfl trivial (fun _ _ => x_cat_s rfl rfl (by first | omega | (simp only [List.length_append, List.length_cons, List.length_nil]; omega) | (simp; omega) | (simp_all; omega))) ?_
      refine JO_op rfl trivial (O_buildSlice (cs := [vS (((R26.key alt x.record).1) ++ x.key)]) Try.underlying33 Ty.sz9 Ty.ze9 (by decide) (by decide) (by kernel_rfl) fun b5 => ?_)
      refine JO_op rfl trivial (O_append_m 4 vS xs [((R26.key alt x.record).1) ++ x.key] Try.underlying33 Ty.sz9 Ty.by9 Ty.ze9 rfl rfl rfl rfl rfl (fun _ => rfl) (cells_blk 0 (off := 0) (m := 1) rfl rfl) lt_ lt_ fun A6 c7 => ?_)
      refine JO_op rfl trivial (O_store 3 [Value.slice A6 ((xs ++ [((R26.key alt x.record).1) ++ x.key]).length) c7] [Ent.blk b5 9 [vS (((R26.key alt x.record).1) ++ x.key)], Ent.blk b1 55 [vS x.key, vS x.record], Ent.blk a 23 (DataSet.enc alt), Ent.blk o 33 [Value.slice A6 ((xs ++ [((R26.key alt x.record).1) ++ x.key]).length) c7], Ent.row (.slice A6 (xs ++ [((R26.key alt x.record).1) ++ x.key]).length c7) 9 1 (xs ++ [((R26.key alt x.record).1) ++ x.key]).length ((xs ++ [((R26.key alt x.record).1) ++ x.key]).map vS)] rfl rfl rfl Ty.sz33 rfl (Nat.le_of_ble_eq_true rfl) rfl rfl rfl ?_)
      refine JO_nil ?_
      refine JX_end0 Try.results44 [Ent.blk a 23 (DataSet.enc alt), Ent.blk o 33 [Value.slice A6 ((xs ++ [((R26.key alt x.record).1) ++ x.key]).length) c7], Ent.row (.slice A6 (xs ++ [((R26.key alt x.record).1) ++ x.key]).length c7) 9 1 (xs ++ [((R26.key alt x.record).1) ++ x.key]).length ((xs ++ [((R26.key alt x.record).1) ++ x.key]).map vS)] (fun _ h => h.keep [false, false, true, true, true] rfl) ⟨A6, c7, ?_, ?_⟩
      · rfl
      · have e_y0 : (xs ++ [((R26.key alt x.record).1) ++ x.key] : List Bytes) = (R26.add alt x xs) := by
          first | exact (R26.add_yes (by assumption) (by omega)).symm | exact (R26.add_no (fun h3 => by simp_all; try omega)).symm
        have e_all := (congrArg (fun (y0 : List Bytes) => [Ent.blk a 23 (DataSet.enc alt), Ent.blk o 33 [Value.slice A6 y0.length c7], Ent.row (.slice A6 y0.length c7) 9 1 y0.length (y0.map vS)]) e_y0)
        exact e_all
    · have h4w := h4
      have h4 := of_decide_eq_false h4
      refine J_skip ?_
      refine JX_end0 Try.results44 [Ent.blk a 23 (DataSet.enc alt), Ent.blk o 33 [Value.slice xsA xs.length xsC], Ent.row (.slice xsA xs.length xsC) 9 1 xs.length (xs.map vS)] (fun _ h => h.keep [false, true, true, true] rfl) ⟨xsA, xsC, ?_, ?_⟩
      · rfl
      · have e_y0 : (xs : List Bytes) = (R26.add alt x xs) := by
          first | exact (R26.add_yes (by assumption) (by omega)).symm | exact (R26.add_no (fun h3 => by simp_all; try omega)).symm
        have e_all := (congrArg (fun (y0 : List Bytes) => [Ent.blk a 23 (DataSet.enc alt), Ent.blk o 33 [Value.slice xsA y0.length xsC], Ent.row (.slice xsA y0.length xsC) 9 1 y0.length (y0.map vS)]) e_y0)
        exact e_all
  · refine JA_shun 2 rfl (by kernel_rfl) (by kernel_rfl) (by kernel_rfl) rfl (fun _ _ _ h => h) rfl ⟨_, rfl, rfl⟩ ?_
    refine JA_shun 3 rfl (by kernel_rfl) (by kernel_rfl) (by kernel_rfl) rfl (fun _ _ _ h => h) rfl ⟨_, rfl, rfl⟩ ?_
    refine JA_shun 4 rfl (by kernel_rfl) (by kernel_rfl) (by kernel_rfl) rfl (fun _ _ _ h => h) rfl ⟨_, rfl, rfl⟩ ?_
    refine JA_shun 5 rfl (by kernel_rfl) (by kernel_rfl) (by kernel_rfl) rfl (fun _ _ _ h => h) rfl ⟨_, rfl, rfl⟩ ?_
    refine JA_shun 6 rfl (by kernel_rfl) (by kernel_rfl) (by kernel_rfl) rfl (fun _ _ _ h => h) rfl ⟨_, rfl, rfl⟩ ?_
    refine JA_shun 7 rfl (by kernel_rfl) (by kernel_rfl) (by kernel_rfl) rfl (fun _ _ _ h => h) rfl ⟨_, rfl, rfl⟩ ?_
    refine JA_take 8 (vB false) rfl (by kernel_rfl) (by kernel_rfl) (by kernel_rfl) rfl (fun _ _ _ h => h) rfl trivial (fun _ _ => rfl) ?_
    refine JA_done (by kernel_rfl) (fun _ h => ⟨h, fun _ => h⟩) ?_
    refine JX_then ?_
    refine J_cond false rfl rfl (fun h => by cases h) (fun h => ?_)
    refine J_skip ?_
    refine JX_end0 Try.results44 [Ent.blk a 23 (DataSet.enc alt), Ent.blk o 33 [Value.slice xsA xs.length xsC], Ent.row (.slice xsA xs.length xsC) 9 1 xs.length (xs.map vS)] (fun _ h => h.keep [false, true, true, true] rfl) ⟨xsA, xsC, ?_, ?_⟩
    · rfl
    · have e_y0 : (xs : List Bytes) = (R26.add alt x xs) := by
        first | exact (R26.add_yes (by assumption) (by omega)).symm | exact (R26.add_no (fun h3 => by simp_all; try omega)).symm
      have e_all := (congrArg (fun (y0 : List Bytes) => [Ent.blk a 23 (DataSet.enc alt), Ent.blk o 33 [Value.slice xsA y0.length xsC], Ent.row (.slice xsA y0.length xsC) 9 1 y0.length (y0.map vS)]) e_y0)
      exact e_all

set_option maxRecDepth 20000 in
theorem f28_ok (alt : DataSet) (l : List Pair) (lA : Option Addr) (lC : Nat) (w : World) (lR : RO [] w lA (l.flatMap Pair.enc)) (q0 : l.length ≤ 1000) (q1 : ∀ i, i < l.length → (l.getD i default).key.length ≤ 100 ∧ (l.getD i default).record.length ≤ 300) : Calls Try.prog 28 #[Value.agg ((DataSet.enc alt)).toArray, Value.slice lA l.length lC] w (Gives [] w fun v L => ∃ A : Option Addr, ∃ c : Nat, v = Value.slice A ((R26.recs alt l).length) c ∧ L = [Ent.row (.slice A (R26.recs alt l).length c) 9 1 (R26.recs alt l).length ((R26.recs alt l).map vS)]) := by
  refine calls_J [] 24 Try.func28 rfl Try.ntmps28 [(0, Value.agg ((DataSet.enc alt)).toArray), (1, Value.slice lA l.length lC)] rfl rfl (Give.nil w) ?_
  refine J_seq ?_
  refine J_region ?_
  refine JO_op rfl trivial (O_box rfl rfl fun b1 => ?_)
  refine JO_read (Value.slice none 0 0) rfl trivial (fun _ _ => rfl) ?_
  refine JO_nil ?_
  refine JX_then ?_
  refine J_seq ?_
  refine J_region ?_
  refine JO_op rfl trivial (O_alloc Ty.ze33 rfl fun b2 => ?_)
  refine JO_nil ?_
  refine JX_then ?_
  refine J_seq ?_
  refine J_region ?_
  refine JO_read (Value.func (.func 44) #[] #[Value.pointer (some ⟨b1, 0, none⟩), Value.pointer (some ⟨b2, 0, none⟩)]) rfl trivial (fun _ _ => x_makeFunc rfl rfl) ?_
  refine JO_read (Value.func (.func 44) #[] #[Value.pointer (some ⟨b1, 0, none⟩), Value.pointer (some ⟨b2, 0, none⟩)]) rfl trivial (fun _ _ => rfl) ?_
  refine JO_nil ?_
  refine JX_then ?_
  refine J_seq ?_
  refine J_seq ?_
  refine J_region ?_
  refine JO_read (Value.slice lA l.length lC) rfl trivial (fun _ _ => rfl) ?_
  refine JO_read (vI ((l.length : Nat) : Int)) rfl trivial (fun _ _ => x_len_sl Try.underlying47 rfl) ?_
  refine JO_read (vI 0) rfl trivial (fun _ _ => rfl) ?_
  refine JO_nil ?_
  refine JX_then ?_
  refine J_block ?_
  refine J_loop (X := Nat × (List Bytes) × (Option Addr) × Nat) (fun (⟨k, xs, xsA, xsC⟩ : Nat × (List Bytes) × (Option Addr) × Nat) => (k ≤ l.length) ∧ (xs = R26.ents alt (l.take k)) ∧ (xs.length ≤ k)) (fun (⟨k, xs, xsA, xsC⟩ : Nat × (List Bytes) × (Option Addr) × Nat) => [(4, Value.slice none 0 0), (5, Value.pointer (some ⟨b2, 0, none⟩)), (6, Value.func (.func 44) #[] #[Value.pointer (some ⟨b1, 0, none⟩), Value.pointer (some ⟨b2, 0, none⟩)]), (10, Value.slice lA l.length lC), (11, vI ((l.length : Nat) : Int)), (12, vI ((k : Nat) : Int))]) (fun (⟨k, xs, xsA, xsC⟩ : Nat × (List Bytes) × (Option Addr) × Nat) => [Ent.blk b2 33 [Value.slice xsA xs.length xsC], Ent.blk b1 23 (DataSet.enc alt), Ent.row (.slice xsA xs.length xsC) 9 1 xs.length (xs.map vS)]) (fun (⟨k, xs, xsA, xsC⟩ : Nat × (List Bytes) × (Option Addr) × Nat) => l.length - k) ((0, ([] : List Bytes), none, 0) : Nat × (List Bytes) × (Option Addr) × Nat) ?_ ⟨rfl, rfl, rfl, rfl, rfl, rfl, trivial⟩ (fun _ h => (((h.nilrow 9 1).front 2 _ rfl).front 2 _ rfl).keep [true, true, true] rfl) ?_
  · show (0 ≤ l.length) ∧ (([] : List Bytes) = R26.ents alt (l.take 0)) ∧ (([] : List Bytes).length ≤ 0)
    refine ⟨?_, ?_, ?_⟩
    · first | rfl | omega | (simp_all; done) | (simp_all; omega)
    · rfl
    · exact Nat.le_refl _
  rintro ⟨k, xs, xsA, xsC⟩ hI1
  obtain ⟨i1_0, i1_1, i1_2⟩ : (k ≤ l.length) ∧ (xs = R26.ents alt (l.take k)) ∧ (xs.length ≤ k) := hI1
  have hqk := q1 k
  refine J_weaken (E' := [(4, Value.slice none 0 0), (5, Value.pointer (some ⟨b2, 0, none⟩)), (6, Value.func (.func 44) #[] #[Value.pointer (some ⟨b1, 0, none⟩), Value.pointer (some ⟨b2, 0, none⟩)]), (10, Value.slice lA l.length lC), (11, vI ((l.length : Nat) : Int)), (12, vI ((k : Nat) : Int))]) (L' := [Ent.blk b2 33 [Value.slice xsA xs.length xsC], Ent.blk b1 23 (DataSet.enc alt), Ent.row (.slice xsA xs.length xsC) 9 1 xs.length (xs.map vS)]) ⟨rfl, rfl, rfl, rfl, rfl, rfl, trivial⟩ (fun _ h => h) ?_
  refine J_seq ?_
  refine J_region ?_
  refine JO_read (vB (decide (((k : Nat) : Int) < ((l.length : Nat) : Int)))) rfl trivial (fun _ _ => x_lss_i rfl rfl) ?_
  refine JO_nil ?_
  refine JX_then ?_
  refine J_seq ?_
  refine J_cond (decide (((k : Nat) : Int) < ((l.length : Nat) : Int))) rfl rfl (fun h3 => ?_) (fun h3 => ?_)
  · have h3 := of_decide_eq_true h3
    refine J_skip ?_
    refine JX_then ?_
    refine J_seq ?_
    refine J_block ?_
    refine J_seq ?_
    refine J_region ?_
    refine JO_read (Value.pointer (some (adr lA (k * 2)))) rfl trivial (x_indexAddr_at (k := k) (off := k * 2) (cells_ro lR) Try.underlying47 Ty.sz55 rfl rfl lt_ (by rw [flat_length Pair.enc 2 Pair.enc_len]; first | omega | (simp; omega) | (simp_all; omega) | (simp_all; done)) rfl) ?_
    refine JO_read (Value.agg #[vS ((l.getD k default).key), vS ((l.getD k default).record)]) rfl trivial (x_loadN_at [vS ((l.getD k default).key), vS ((l.getD k default).record)] (cells_ro lR) rfl Ty.ag55 Ty.sz55 (flat_drop Pair.enc 2 Pair.enc_len l default k lt_)) ?_
    refine JO_op rfl trivial (O_alloc Ty.ze55 rfl fun b4 => ?_)
    refine JO_op rfl trivial (O_store 0 [vS ((l.getD k default).key), vS ((l.getD k default).record)] [Ent.blk b4 55 [vS ((l.getD k default).key), vS ((l.getD k default).record)], Ent.blk b2 33 [Value.slice xsA xs.length xsC], Ent.blk b1 23 (DataSet.enc alt), Ent.row (.slice xsA xs.length xsC) 9 1 xs.length (xs.map vS)] rfl rfl rfl Ty.sz55 rfl (Nat.le_of_ble_eq_true rfl) rfl rfl rfl ?_)
    refine JO_nil ?_
    refine JX_then ?_
    refine J_region ?_
    refine JO_read (Value.func (.func 44) #[] #[Value.pointer (some ⟨b1, 0, none⟩), Value.pointer (some ⟨b2, 0, none⟩)]) rfl trivial (fun _ _ => rfl) ?_
    refine JO_read (Value.agg #[vS ((l.getD k default).key), vS ((l.getD k default).record)]) rfl trivial (x_loadN 0 [vS ((l.getD k default).key), vS ((l.getD k default).record)] rfl rfl Ty.ag55 Ty.sz55 rfl) ?_
    refine JO_call (Lown [Ent.blk b1 23 (DataSet.enc alt), Ent.blk b2 33 [Value.slice xsA xs.length xsC], Ent.row (.slice xsA xs.length xsC) 9 1 xs.length (xs.map vS)]) [Ent.blk b1 23 (DataSet.enc alt), Ent.blk b2 33 [Value.slice xsA xs.length xsC], Ent.row (.slice xsA xs.length xsC) 9 1 xs.length (xs.map vS)] [Ent.blk b4 55 [vS ((l.getD k default).key), vS ((l.getD k default).record)]] rfl trivial (fun _ => x_callv (first := []) (caps := [Value.pointer (some ⟨b1, 0, none⟩), Value.pointer (some ⟨b2, 0, none⟩)]) rfl Ty.ca44 rfl) (fun _ h => (((h.front 3 _ rfl).front 2 _ rfl).front 3 _ rfl).keep [true, true, true, true] rfl) lown_mem (fun w hS => f44_ok (l.getD k default) b1 b2 xs xsA xsC xs.length alt w hy_ hy_ hy_ hy_ (hS.give lown_in)) ?_
    rintro _ _ ⟨e5, e6, rfl, rfl⟩
    have ha7 := R26.add_len alt (l.getD k default) xs
    refine JO_nil ?_
    refine JX_block ?_
    refine JX_then ?_
    refine J_region ?_
    refine JO_read (vI ((k + 1 : Nat) : Int)) rfl trivial (fun _ _ => x_add_n (a := k) (b := 1) rfl rfl (by omega)) ?_
    refine JO_read (vI ((k + 1 : Nat) : Int)) rfl trivial (fun _ _ => rfl) ?_
    refine JO_nil ?_
    refine JX_round ((k + 1, (R26.add alt (l.getD k default) xs), e5, e6) : Nat × (List Bytes) × (Option Addr) × Nat) ?_ ?_ ⟨rfl, rfl, rfl, rfl, rfl, rfl, trivial⟩ (fun _ h => (((h.front 2 _ rfl).front 1 _ rfl).front 2 _ rfl).keep [true, true, true, false] rfl)
    · show ((k + 1) ≤ l.length) ∧ ((R26.add alt (l.getD k default) xs) = R26.ents alt (l.take (k + 1))) ∧ ((R26.add alt (l.getD k default) xs).length ≤ (k + 1))
      refine ⟨?_, ?_, ?_⟩
      · first | rfl | omega | (simp_all; done) | (simp_all; omega)
      · rw [i1_1]; exact (R26.flat_step (by omega)).symm
      · omega
    · show l.length - (k + 1) < l.length - k
      first | omega | (simp; omega) | (simp_all; omega)
  · have h3 := of_decide_eq_false h3
    refine J_exit ?_
    refine JX_then_exit ?_
    refine JX_round_exit ?_
    refine JX_block_hit ?_
    refine JX_then ?_
    refine J_seq ?_
    refine J_region ?_
    refine JO_read (Value.slice xsA xs.length xsC) rfl trivial (x_load 0 rfl rfl Ty.sc33 rfl) ?_
    refine JO_call (Lown [Ent.row (.slice xsA xs.length xsC) 9 1 xs.length (xs.map vS)]) [Ent.row (.slice xsA xs.length xsC) 9 1 xs.length (xs.map vS)] [Ent.blk b2 33 [Value.slice xsA xs.length xsC], Ent.blk b1 23 (DataSet.enc alt)] rfl trivial (fun _ => x_call Ty.ca45 rfl) (fun _ h => (((h.front 1 _ rfl).front 1 _ rfl).front 2 _ rfl).keep [true, true, true] rfl) lown_mem (fun w hS => sort_ok xs xsA xsC xs.length w (by first | rfl | exact (srt_length _).symm) (by first | omega | (rw [srt_length]; omega)) (hS.give lown_in)) ?_
    rintro _ _ ⟨rfl, rfl⟩
    refine JO_nil ?_
    refine JX_then ?_
    refine J_seq ?_
    refine J_region ?_
    refine JO_read (Value.slice xsA xs.length xsC) rfl trivial (x_load 1 rfl rfl Ty.sc33 rfl) ?_
    refine JO_call (Lown [Ent.row (.slice xsA xs.length xsC) 9 1 xs.length ((srt xs).map vS)]) [Ent.row (.slice xsA xs.length xsC) 9 1 xs.length ((srt xs).map vS)] [Ent.blk b2 33 [Value.slice xsA xs.length xsC], Ent.blk b1 23 (DataSet.enc alt)] rfl trivial (fun _ => x_call Ty.ca46 rfl) (fun _ h => h) lown_mem (fun w hS => compact_ok (srt xs) xsA xsC xs.length w (by first | rfl | exact (srt_length _).symm) (by first | omega | (rw [srt_length]; omega)) (hS.give lown_in)) ?_
    rintro _ _ ⟨rfl, rfl⟩
    refine JO_read (Value.slice xsA ((cmp (srt xs)).length) xsC) rfl trivial (fun _ _ => rfl) ?_
    refine JO_nil ?_
    refine JX_then ?_
    refine J_ret ?_
    refine JX_rets [Value.slice xsA ((cmp (srt xs)).length) xsC] (Value.slice xsA ((cmp (srt xs)).length) xsC) Try.results28 (fun w h => ⟨rfl, trivial⟩) rfl [Ent.row (.slice xsA (cmp (srt xs)).length xsC) 9 1 (cmp (srt xs)).length ((cmp (srt xs)).map vS)] (fun _ h => h.keep [true, false, false] rfl) ⟨xsA, xsC, ?_, ?_⟩
    · have e_x0 : ((cmp (srt xs)).length : Nat) = ((R26.recs alt l).length) := by
        rw [i1_1, show k = l.length by omega, List.take_length]; rfl
      exact congrArg (fun (x0 : Nat) => Value.slice xsA x0 xsC) e_x0
    · have e_y0 : (cmp (srt xs) : List Bytes) = (R26.recs alt l) := by
        rw [i1_1, show k = l.length by omega, List.take_length]; rfl
      have e_all := (congrArg (fun (y0 : List Bytes) => [Ent.row (.slice xsA y0.length xsC) 9 1 y0.length (y0.map vS)]) e_y0)
      exact e_all

set_option maxRecDepth 20000 in
theorem f47_ok (l : List Bytes) (lA : Option Addr) (lC : Nat) (lN : Nat) (s : Bytes) (w : World) (lQ : lN = l.length) (q0 : l.length ≤ 1000) (hg : Give (Lown [Ent.row (.slice lA lN lC) 9 1 lN (l.map vS)]) w [Ent.row (.slice lA lN lC) 9 1 lN (l.map vS)]) : Calls Try.prog 47 #[Value.slice lA lN lC, vS s] w (Gives (Lown [Ent.row (.slice lA lN lC) 9 1 lN (l.map vS)]) w fun v L => ∃ A2 : Option Addr, ∃ c2 : Nat, v = Value.slice A2 ((Ord.ins l s).length) c2 ∧ L = [Ent.row (.slice A2 (Ord.ins l s).length c2) 9 1 (Ord.ins l s).length ((Ord.ins l s).map vS)]) := by
  subst lQ
  refine calls_J (Lown [Ent.row (.slice lA l.length lC) 9 1 l.length (l.map vS)]) 47 Try.func47 rfl Try.ntmps47 [(0, Value.slice lA l.length lC), (1, vS s)] rfl rfl hg ?_
  refine J_seq ?_
  refine J_region ?_
  refine JO_read (Value.slice none 0 0) rfl trivial (fun _ _ => rfl) ?_
  refine JO_nil ?_
  refine JX_then ?_
  refine J_seq ?_
  refine J_region ?_
  refine JO_read (vI 0) rfl trivial (fun _ _ => rfl) ?_
  refine JO_nil ?_
  refine JX_then ?_
  refine J_seq ?_
  refine J_block ?_
  refine J_loop (X := Nat) (fun (k : Nat) => (k ≤ l.length) ∧ (∀ i, i < k → Op.bytesLess (l.getD i []) s = true)) (fun (k : Nat) => [(0, Value.slice lA l.length lC), (1, vS s), (4, Value.slice none 0 0), (5, vI ((k : Nat) : Int))]) (fun (k : Nat) => [Ent.row (.slice lA l.length lC) 9 1 l.length (l.map vS)]) (fun (k : Nat) => l.length - k) (0 : Nat) ?_ ⟨rfl, rfl, rfl, rfl, trivial⟩ (fun _ h => h) ?_
  · show (0 ≤ l.length) ∧ (∀ i, i < 0 → Op.bytesLess (l.getD i []) s = true)
    refine ⟨?_, ?_⟩
    · first | rfl | omega | (simp_all; done) | (simp_all; omega)
    · intro i hi; omega
  intro k hI1
  obtain ⟨i1_0, i1_1⟩ : (k ≤ l.length) ∧ (∀ i, i < k → Op.bytesLess (l.getD i []) s = true) := hI1
  refine J_weaken (E' := [(0, Value.slice lA l.length lC), (1, vS s), (4, Value.slice none 0 0), (5, vI ((k : Nat) : Int))]) (L' := [Ent.row (.slice lA l.length lC) 9 1 l.length (l.map vS)]) ⟨rfl, rfl, rfl, rfl, trivial⟩ (fun _ h => h) ?_
  refine J_seq ?_
  refine J_seq ?_
  refine J_region ?_
  refine JO_read (vI ((k : Nat) : Int)) rfl trivial (fun _ _ => rfl) ?_
  refine JO_read (Value.slice lA l.length lC) rfl trivial (fun _ _ => rfl) ?_
  refine JO_read (vI ((l.length : Nat) : Int)) rfl trivial (fun _ _ => x_len_sl Try.underlying33 rfl) ?_
  refine JO_read (vB (decide (((k : Nat) : Int) < ((l.length : Nat) : Int)))) rfl trivial (fun _ _ => x_lss_i rfl rfl) ?_
  refine JO_read (vB (decide (((k : Nat) : Int) < ((l.length : Nat) : Int)))) rfl trivial (fun _ _ => rfl) ?_
  refine JO_cut (X := Bool) 7 (fun z => z = ((decide (((k : Nat) : Int) < ((l.length : Nat) : Int))) && (Op.bytesLess (l.getD k []) s))) (fun z => [(0, Value.slice lA l.length lC), (1, vS s), (4, Value.slice none 0 0), (5, vI ((k : Nat) : Int)), (18, vB z)]) (fun _ => [Ent.row (.slice lA l.length lC) 9 1 l.length (l.map vS)]) ?_ ?_
  · rcases Bool.eq_false_or_eq_true (decide (((k : Nat) : Int) < ((l.length : Nat) : Int))) with g2 | g2
    · have g2r := g2
      have g2r := of_decide_eq_true g2r
      refine JO_read (Value.slice lA l.length lC) rfl ⟨_, rfl, g2⟩ (fun _ _ => rfl) ?_
      refine JO_read (vI ((k : Nat) : Int)) rfl ⟨_, rfl, g2⟩ (fun _ _ => rfl) ?_
      refine JO_read (Value.pointer (some (adr lA k))) rfl ⟨_, rfl, g2⟩ (x_indexAddr_at (k := k) (off := k) (cells_row 0 rfl) Try.underlying33 Ty.sz9 rfl rfl lt_ (by rw [List.length_map]; first | omega | (simp; omega) | (simp_all; omega) | (simp_all; done)) (Nat.mul_one _)) ?_
      refine JO_read (vS (l.getD k [])) rfl ⟨_, rfl, g2⟩ (x_load_at (cells_row 0 rfl) rfl Ty.sc9 (map_at vS l [] lt_)) ?_
      refine JO_read (vS s) rfl ⟨_, rfl, g2⟩ (fun _ _ => rfl) ?_
      refine JO_read (vB (Op.bytesLess (l.getD k []) s)) rfl ⟨_, rfl, g2⟩ (fun _ _ => x_lss_s rfl rfl) ?_
      refine JO_read (vB (Op.bytesLess (l.getD k []) s)) rfl trivial (fun _ _ => x_pick_t rfl g2 rfl) ?_
      refine JO_nil (JX_cut (Op.bytesLess (l.getD k []) s) (by rw [g2]; simp) ⟨rfl, rfl, rfl, rfl, rfl, trivial⟩ (fun _ h => h))
    · have g2r := g2
      have g2r := of_decide_eq_false g2r
      refine JO_shun rfl ⟨_, rfl, g2⟩ ?_
      refine JO_shun rfl ⟨_, rfl, g2⟩ ?_
      refine JO_shun rfl ⟨_, rfl, g2⟩ ?_
      refine JO_shun rfl ⟨_, rfl, g2⟩ ?_
      refine JO_shun rfl ⟨_, rfl, g2⟩ ?_
      refine JO_shun rfl ⟨_, rfl, g2⟩ ?_
      refine JO_read (vB false) rfl trivial (fun _ _ => x_pick_f rfl g2 rfl) ?_
      refine JO_nil (JX_cut (false) (by rw [g2]; simp) ⟨rfl, rfl, rfl, rfl, rfl, trivial⟩ (fun _ h => h))
  rintro z1 rfl
  refine JO_nil ?_
  refine JX_then ?_
  refine J_cond ((decide (((k : Nat) : Int) < ((l.length : Nat) : Int))) && (Op.bytesLess (l.getD k []) s)) rfl rfl (fun h3 => ?_) (fun h3 => ?_)
  · have h3w := h3
    have ⟨h3, h4⟩ := band_true h3
    have h3 := of_decide_eq_true h3
    refine J_skip ?_
    refine JX_then ?_
    refine J_block ?_
    refine J_region ?_
    refine JO_read (vI ((k : Nat) : Int)) rfl trivial (fun _ _ => rfl) ?_
    refine JO_read (vI ((k + 1 : Nat) : Int)) rfl trivial (fun _ _ => x_add_n (a := k) (b := 1) rfl rfl (by omega)) ?_
    refine JO_read (vI ((k + 1 : Nat) : Int)) rfl trivial (fun _ _ => rfl) ?_
    refine JO_nil ?_
    refine JX_block ?_
    refine JX_round (k + 1 : Nat) ?_ ?_ ⟨rfl, rfl, rfl, rfl, trivial⟩ (fun _ h => h)
    · show ((k + 1) ≤ l.length) ∧ (∀ i, i < (k + 1) → Op.bytesLess (l.getD i []) s = true)
      refine ⟨?_, ?_⟩
      · first | rfl | omega | (simp_all; done) | (simp_all; omega)
      · intro i hi
        by_cases hik : i = k
        · subst hik; exact (R26.ins_go (by assumption)).2
        · exact i1_1 i (by omega)
    · show l.length - (k + 1) < l.length - k
      first | omega | (simp; omega) | (simp_all; omega)
  · have h3w := h3
    simp only [Bool.and_eq_true, Bool.or_eq_true, Bool.and_eq_false_iff, Bool.or_eq_false_iff, Bool.not_eq_true', Bool.not_eq_false', decide_eq_true_eq, decide_eq_false_iff_not] at h3
    refine J_exit ?_
    refine JX_then_exit ?_
    refine JX_round_exit ?_
    refine JX_block_hit ?_
    refine JX_then ?_
    refine J_seq ?_
    refine J_seq ?_
    refine J_region ?_
    refine JO_read (vI ((k : Nat) : Int)) rfl trivial (fun _ _ => rfl) ?_
    refine JO_read (Value.slice lA l.length lC) rfl trivial (fun _ _ => rfl) ?_
    refine JO_read (vI ((l.length : Nat) : Int)) rfl trivial (fun _ _ => x_len_sl Try.underlying33 rfl) ?_
    refine JO_read (vB (decide (((k : Nat) : Int) < ((l.length : Nat) : Int)))) rfl trivial (fun _ _ => x_lss_i rfl rfl) ?_
    refine JO_read (vB (decide (((k : Nat) : Int) < ((l.length : Nat) : Int)))) rfl trivial (fun _ _ => rfl) ?_
    refine JO_cut (X := Bool) 7 (fun z => z = ((decide (((k : Nat) : Int) < ((l.length : Nat) : Int))) && (decide ((l.getD k []) = s)))) (fun z => [(0, Value.slice lA l.length lC), (1, vS s), (4, Value.slice none 0 0), (5, vI ((k : Nat) : Int)), (32, vB z)]) (fun _ => [Ent.row (.slice lA l.length lC) 9 1 l.length (l.map vS)]) ?_ ?_
    · rcases Bool.eq_false_or_eq_true (decide (((k : Nat) : Int) < ((l.length : Nat) : Int))) with g6 | g6
      · have g6r := g6
        have g6r := of_decide_eq_true g6r
        refine JO_read (Value.slice lA l.length lC) rfl ⟨_, rfl, g6⟩ (fun _ _ => rfl) ?_
        refine JO_read (vI ((k : Nat) : Int)) rfl ⟨_, rfl, g6⟩ (fun _ _ => rfl) ?_
        refine JO_read (Value.pointer (some (adr lA k))) rfl ⟨_, rfl, g6⟩ (x_indexAddr_at (k := k) (off := k) (cells_row 0 rfl) Try.underlying33 Ty.sz9 rfl rfl lt_ (by rw [List.length_map]; first | omega | (simp; omega) | (simp_all; omega) | (simp_all; done)) (Nat.mul_one _)) ?_
        refine JO_read (vS (l.getD k [])) rfl ⟨_, rfl, g6⟩ (x_load_at (cells_row 0 rfl) rfl Ty.sc9 (map_at vS l [] lt_)) ?_
        refine JO_read (vS s) rfl ⟨_, rfl, g6⟩ (fun _ _ => rfl) ?_
        refine JO_read (vB (decide ((l.getD k []) = s))) rfl ⟨_, rfl, g6⟩ (fun _ _ => x_eql_s rfl rfl) ?_
        refine JO_read (vB (decide ((l.getD k []) = s))) rfl trivial (fun _ _ => x_pick_t rfl g6 rfl) ?_
        refine JO_nil (JX_cut (decide ((l.getD k []) = s)) (by rw [g6]; simp) ⟨rfl, rfl, rfl, rfl, rfl, trivial⟩ (fun _ h => h))
      · have g6r := g6
        have g6r := of_decide_eq_false g6r
        refine JO_shun rfl ⟨_, rfl, g6⟩ ?_
        refine JO_shun rfl ⟨_, rfl, g6⟩ ?_
        refine JO_shun rfl ⟨_, rfl, g6⟩ ?_
        refine JO_shun rfl ⟨_, rfl, g6⟩ ?_
        refine JO_shun rfl ⟨_, rfl, g6⟩ ?_
        refine JO_shun rfl ⟨_, rfl, g6⟩ ?_
        refine JO_read (vB false) rfl trivial (fun _ _ => x_pick_f rfl g6 rfl) ?_
        refine JO_nil (JX_cut (false) (by rw [g6]; simp) ⟨rfl, rfl, rfl, rfl, rfl, trivial⟩ (fun _ h => h))
    rintro z5 rfl
    refine JO_nil ?_
    refine JX_then ?_
    refine J_cond ((decide (((k : Nat) : Int) < ((l.length : Nat) : Int))) && (decide ((l.getD k []) = s))) rfl rfl (fun h7 => ?_) (fun h7 => ?_)
    · have h7w := h7
      have ⟨h7, h8⟩ := band_true h7
      have h7 := of_decide_eq_true h7
      have h8 := of_decide_eq_true h8
      refine J_seq ?_
      refine J_region ?_
      refine JO_read (Value.slice lA l.length lC) rfl trivial (fun _ _ => rfl) ?_
      refine JO_read (Value.slice lA l.length lC) rfl trivial (fun _ _ => rfl) ?_
      refine JO_nil ?_
      refine JX_then ?_
      refine J_ret ?_
      refine JX_then_ret ?_
      refine JX_rets [Value.slice lA l.length lC] (Value.slice lA l.length lC) Try.results47 (fun w h => ⟨rfl, trivial⟩) rfl [Ent.row (.slice lA l.length lC) 9 1 l.length (l.map vS)] (fun _ h => h) ⟨lA, lC, ?_, ?_⟩
      · have e_x0 : (l.length : Nat) = ((Ord.ins l s).length) := by
          first | exact congrArg List.length (R26.ins_hit i1_0 i1_1 (by assumption) (by assumption)).symm | exact congrArg List.length (R26.ins_new i1_0 i1_1 (by assumption) (by assumption)).symm
        exact congrArg (fun (x0 : Nat) => Value.slice lA x0 lC) e_x0
      · have e_y0 : (l : List Bytes) = (Ord.ins l s) := by
          first | exact (R26.ins_hit i1_0 i1_1 (by assumption) (by assumption)).symm | exact (R26.ins_new i1_0 i1_1 (by assumption) (by assumption)).symm
        have e_all := (congrArg (fun (y0 : List Bytes) => [Ent.row (.slice lA y0.length lC) 9 1 y0.length (y0.map vS)]) e_y0)
        exact e_all
    · have h7w := h7
      simp only [Bool.and_eq_true, Bool.or_eq_true, Bool.and_eq_false_iff, Bool.or_eq_false_iff, Bool.not_eq_true', Bool.not_eq_false', decide_eq_true_eq, decide_eq_false_iff_not] at h7
      refine J_skip ?_
      refine JX_then ?_
      refine J_seq ?_
      refine J_region ?_
      refine JO_op rfl trivial (O_buildSlice0 Try.underlying33 Ty.sz9 fun b9 => ?_)
      refine JO_read (Value.slice lA l.length lC) rfl trivial (fun _ _ => rfl) ?_
      refine JO_read (vI ((k : Nat) : Int)) rfl trivial (fun _ _ => rfl) ?_
      refine JO_read (Value.slice (subA lA lC 0 1) k lC) rfl trivial (x_subrow_row 1 (lo := 0) (hi := k) rfl rfl Try.underlying33 Ty.sz9 (.inr ⟨rfl, rfl⟩) (.inl rfl) lt_ lt_) ?_
      refine JO_weaken (E' := [(0, Value.slice lA l.length lC), (1, vS s), (4, Value.slice none 0 0), (5, vI ((k : Nat) : Int)), (32, vB ((decide (((k : Nat) : Int) < ((l.length : Nat) : Int))) && (decide ((l.getD k []) = s)))), (34, Value.slice (some ⟨b9, 0, none⟩) ((([] : List Bytes)).length) 0), (35, Value.slice lA l.length lC), (36, vI ((k : Nat) : Int)), (37, Value.slice (subA lA lC 0 1) k lC)]) (L' := [Ent.row (.slice (some ⟨b9, 0, none⟩) ([] : List Bytes).length 0) 9 1 ([] : List Bytes).length (([] : List Bytes).map vS), Ent.row (.slice lA l.length lC) 9 1 l.length (l.map vS)]) ⟨rfl, rfl, rfl, rfl, rfl, rfl, rfl, rfl, rfl, trivial⟩ (fun _ h => (St.torow (cs := []) ((h.front 1 _ rfl).front 1 _ rfl) 1 0 rfl (by decide)).keep [true, true] rfl) ?_
      refine JO_op rfl trivial (O_append_m 0 vS ([] : List Bytes) ((l.drop 0).take (k - 0)) Try.underlying33 Ty.sz9 Ty.by9 Ty.ze9 rfl rfl rfl rfl (by simp only [List.length_take, List.length_drop]; omega) (fun _ => rfl) (cells_sub_row 1 vS 0 k rfl lt_ lt_) lt_ lt_ fun A10 c11 => ?_)
      refine JO_read (Value.slice A10 ((([] : List Bytes) ++ ((l.drop 0).take (k - 0))).length) c11) rfl trivial (fun _ _ => rfl) ?_
      refine JO_nil ?_
      refine JX_then ?_
      refine J_seq ?_
      refine J_draw [] [3, 7] [Ent.row (.slice A10 (([] : List Bytes) ++ ((l.drop 0).take (k - 0))).length c11) 9 1 (([] : List Bytes) ++ ((l.drop 0).take (k - 0))).length ((([] : List Bytes) ++ ((l.drop 0).take (k - 0))).map vS), Ent.row (.slice lA l.length lC) 9 1 l.length (l.map vS)] 9 Ty.mixed rfl ?_
      refine JA_take 0 (Value.slice A10 ((([] : List Bytes) ++ ((l.drop 0).take (k - 0))).length) c11) rfl (by kernel_rfl) (by kernel_rfl) (by kernel_rfl) rfl (fun _ _ _ h => h) rfl trivial (fun _ _ => rfl) ?_
      refine JA_take 1 (vS s) rfl (by kernel_rfl) (by kernel_rfl) (by kernel_rfl) rfl (fun _ _ _ h => h) rfl trivial (fun _ _ => rfl) ?_
      refine JA_take 4 (Value.slice lA l.length lC) rfl (by kernel_rfl) (by kernel_rfl) (by kernel_rfl) rfl (fun _ _ _ h => h) rfl trivial (fun _ _ => rfl) ?_
      refine JA_take 5 (vI ((k : Nat) : Int)) rfl (by kernel_rfl) (by kernel_rfl) (by kernel_rfl) rfl (fun _ _ _ h => h) rfl trivial (fun _ _ => rfl) ?_
      refine JA_finX (X := (Option Addr) × Nat) (fun ⟨A17, c18⟩ => [(4, Value.slice A17 ((((([] : List Bytes) ++ ((l.drop 0).take (k - 0))) ++ [s]) ++ ((l.drop k).take (l.length - k))).length) c18)]) (fun ⟨A17, c18⟩ => [Ent.row (.slice A17 (((([] : List Bytes) ++ ((l.drop 0).take (k - 0))) ++ [s]) ++ ((l.drop k).take (l.length - k))).length c18) 9 1 (((([] : List Bytes) ++ ((l.drop 0).take (k - 0))) ++ [s]) ++ ((l.drop k).take (l.length - k))).length ((((([] : List Bytes) ++ ((l.drop 0).take (k - 0))) ++ [s]) ++ ((l.drop k).take (l.length - k))).map vS), Ent.row (.slice lA l.length lC) 9 1 l.length (l.map vS)]) ?_ (fun key12 => ?_)
      · rintro ⟨A17, c18⟩
        show JX _ _ _ _ _ [(4, Value.slice A17 ((((([] : List Bytes) ++ ((l.drop 0).take (k - 0))) ++ [s]) ++ ((l.drop k).take (l.length - k))).length) c18)] [Ent.row (.slice A17 (((([] : List Bytes) ++ ((l.drop 0).take (k - 0))) ++ [s]) ++ ((l.drop k).take (l.length - k))).length c18) 9 1 (((([] : List Bytes) ++ ((l.drop 0).take (k - 0))) ++ [s]) ++ ((l.drop k).take (l.length - k))).length ((((([] : List Bytes) ++ ((l.drop 0).take (k - 0))) ++ [s]) ++ ((l.drop k).take (l.length - k))).map vS), Ent.row (.slice lA l.length lC) 9 1 l.length (l.map vS)]
        refine JX_then ?_
        refine J_ret ?_
        refine JX_rets [Value.slice A17 ((((([] : List Bytes) ++ ((l.drop 0).take (k - 0))) ++ [s]) ++ ((l.drop k).take (l.length - k))).length) c18] (Value.slice A17 ((((([] : List Bytes) ++ ((l.drop 0).take (k - 0))) ++ [s]) ++ ((l.drop k).take (l.length - k))).length) c18) Try.results47 (fun w h => ⟨rfl, trivial⟩) rfl [Ent.row (.slice A17 (((([] : List Bytes) ++ ((l.drop 0).take (k - 0))) ++ [s]) ++ ((l.drop k).take (l.length - k))).length c18) 9 1 (((([] : List Bytes) ++ ((l.drop 0).take (k - 0))) ++ [s]) ++ ((l.drop k).take (l.length - k))).length ((((([] : List Bytes) ++ ((l.drop 0).take (k - 0))) ++ [s]) ++ ((l.drop k).take (l.length - k))).map vS)] (fun _ h => h.keep [true, false] rfl) ⟨A17, c18, ?_, ?_⟩
        · have e_x0 : ((((([] : List Bytes) ++ ((l.drop 0).take (k - 0))) ++ [s]) ++ ((l.drop k).take (l.length - k))).length : Nat) = ((Ord.ins l s).length) := by
            first | exact congrArg List.length (R26.ins_hit i1_0 i1_1 (by assumption) (by assumption)).symm | exact congrArg List.length (R26.ins_new i1_0 i1_1 (by assumption) (by assumption)).symm
          exact congrArg (fun (x0 : Nat) => Value.slice A17 x0 c18) e_x0
        · have e_y0 : (((([] : List Bytes) ++ ((l.drop 0).take (k - 0))) ++ [s]) ++ ((l.drop k).take (l.length - k)) : List Bytes) = (Ord.ins l s) := by
            first | exact (R26.ins_hit i1_0 i1_1 (by assumption) (by assumption)).symm | exact (R26.ins_new i1_0 i1_1 (by assumption) (by assumption)).symm
          have e_all := (congrArg (fun (y0 : List Bytes) => [Ent.row (.slice A17 y0.length c18) 9 1 y0.length (y0.map vS)]) e_y0)
          exact e_all
      · refine JA_ready (rs := [2, 6]) (by kernel_rfl) (by decide) (fun _ h => ⟨h.keep [false, false] rfl, fun _ => h⟩) (List.forall_mem_cons.2 ⟨?_, (List.forall_mem_cons.2 ⟨?_, all_nil⟩)⟩)
        · refine JI_op rfl rfl trivial (O_buildSlice (cs := [vS s]) Try.underlying33 Ty.sz9 Ty.ze9 (by decide) (by decide) (by kernel_rfl) fun b13 => ?_)
          refine JA_ready (rs := [3, 6]) (by kernel_rfl) (by decide) (fun _ h => ⟨h.keep [false, false, false] rfl, fun _ => h.keep [false, true, true] rfl⟩) (List.forall_mem_cons.2 ⟨?_, (List.forall_mem_cons.2 ⟨?_, all_nil⟩)⟩)
          · refine JI_op rfl rfl trivial (O_append_m 1 vS (([] : List Bytes) ++ ((l.drop 0).take (k - 0))) [s] Try.underlying33 Ty.sz9 Ty.by9 Ty.ze9 rfl rfl rfl rfl rfl (fun _ => rfl) (cells_blk 0 (off := 0) (m := 1) rfl rfl) lt_ lt_ fun A14 c15 => ?_)
            refine JA_one 6 (by kernel_rfl) (fun _ h => ⟨h.keep [false, false, false] rfl, fun hh => Bool.noConfusion (show false = true from hh)⟩) ?_
            refine JI_read (Value.slice (subA lA lC k 1) (l.length - k) (lC - k)) rfl rfl trivial (x_subrow_row 2 (lo := k) (hi := l.length) rfl rfl Try.underlying33 Ty.sz9 (.inl rfl) (.inr ⟨rfl, rfl⟩) lt_ lt_) ?_
            refine JA_one 7 (by kernel_rfl) (fun _ h => ⟨h.keep [false, false, false] rfl, fun hh => Bool.noConfusion (show false = true from hh)⟩) ?_
            refine JI_op rfl rfl trivial (O_append_m 1 vS ((([] : List Bytes) ++ ((l.drop 0).take (k - 0))) ++ [s]) ((l.drop k).take (l.length - k)) Try.underlying33 Ty.sz9 Ty.by9 Ty.ze9 rfl rfl rfl rfl (by simp only [List.length_take, List.length_drop]; omega) (fun _ => rfl) (cells_sub_row 2 vS k l.length rfl lt_ lt_) lt_ lt_ fun A18 c19 => ?_)
            refine JA_take 8 (Value.slice A18 ((((([] : List Bytes) ++ ((l.drop 0).take (k - 0))) ++ [s]) ++ ((l.drop k).take (l.length - k))).length) c19) rfl (by kernel_rfl) (by kernel_rfl) (by kernel_rfl) rfl (fun _ _ _ h => h) rfl trivial (fun _ _ => rfl) ?_
            exact JA_done (by kernel_rfl) (fun _ h => ⟨h.keep [false, false, false] rfl, fun hh => Bool.noConfusion (show false = true from hh)⟩) (JX_weaken (E' := [(4, Value.slice A18 ((((([] : List Bytes) ++ ((l.drop 0).take (k - 0))) ++ [s]) ++ ((l.drop k).take (l.length - k))).length) c19)]) (L' := [Ent.row (.slice A18 (((([] : List Bytes) ++ ((l.drop 0).take (k - 0))) ++ [s]) ++ ((l.drop k).take (l.length - k))).length c19) 9 1 (((([] : List Bytes) ++ ((l.drop 0).take (k - 0))) ++ [s]) ++ ((l.drop k).take (l.length - k))).length ((((([] : List Bytes) ++ ((l.drop 0).take (k - 0))) ++ [s]) ++ ((l.drop k).take (l.length - k))).map vS), Ent.row (.slice lA l.length lC) 9 1 l.length (l.map vS)]) ⟨rfl, trivial⟩ (fun _ h => h.keep [false, true, true] rfl) (key12 (A18, c19)))
          · refine JI_read (Value.slice (subA lA lC k 1) (l.length - k) (lC - k)) rfl rfl trivial (x_subrow_row 2 (lo := k) (hi := l.length) rfl rfl Try.underlying33 Ty.sz9 (.inl rfl) (.inr ⟨rfl, rfl⟩) lt_ lt_) ?_
            refine JA_one 3 (by kernel_rfl) (fun _ h => ⟨h.keep [false, false, false] rfl, fun _ => h.keep [false, true, true] rfl⟩) ?_
            refine JI_op rfl rfl trivial (O_append_m 1 vS (([] : List Bytes) ++ ((l.drop 0).take (k - 0))) [s] Try.underlying33 Ty.sz9 Ty.by9 Ty.ze9 rfl rfl rfl rfl rfl (fun _ => rfl) (cells_blk 0 (off := 0) (m := 1) rfl rfl) lt_ lt_ fun A22 c23 => ?_)
            refine JA_one 7 (by kernel_rfl) (fun _ h => ⟨h.keep [false, false, false] rfl, fun hh => Bool.noConfusion (show false = true from hh)⟩) ?_
            refine JI_op rfl rfl trivial (O_append_m 1 vS ((([] : List Bytes) ++ ((l.drop 0).take (k - 0))) ++ [s]) ((l.drop k).take (l.length - k)) Try.underlying33 Ty.sz9 Ty.by9 Ty.ze9 rfl rfl rfl rfl (by simp only [List.length_take, List.length_drop]; omega) (fun _ => rfl) (cells_sub_row 2 vS k l.length rfl lt_ lt_) lt_ lt_ fun A26 c27 => ?_)
            refine JA_take 8 (Value.slice A26 ((((([] : List Bytes) ++ ((l.drop 0).take (k - 0))) ++ [s]) ++ ((l.drop k).take (l.length - k))).length) c27) rfl (by kernel_rfl) (by kernel_rfl) (by kernel_rfl) rfl (fun _ _ _ h => h) rfl trivial (fun _ _ => rfl) ?_
            exact JA_done (by kernel_rfl) (fun _ h => ⟨h.keep [false, false, false] rfl, fun hh => Bool.noConfusion (show false = true from hh)⟩) (JX_weaken (E' := [(4, Value.slice A26 ((((([] : List Bytes) ++ ((l.drop 0).take (k - 0))) ++ [s]) ++ ((l.drop k).take (l.length - k))).length) c27)]) (L' := [Ent.row (.slice A26 (((([] : List Bytes) ++ ((l.drop 0).take (k - 0))) ++ [s]) ++ ((l.drop k).take (l.length - k))).length c27) 9 1 (((([] : List Bytes) ++ ((l.drop 0).take (k - 0))) ++ [s]) ++ ((l.drop k).take (l.length - k))).length ((((([] : List Bytes) ++ ((l.drop 0).take (k - 0))) ++ [s]) ++ ((l.drop k).take (l.length - k))).map vS), Ent.row (.slice lA l.length lC) 9 1 l.length (l.map vS)]) ⟨rfl, trivial⟩ (fun _ h => h.keep [false, true, true] rfl) (key12 (A26, c27)))
        · refine JI_read (Value.slice (subA lA lC k 1) (l.length - k) (lC - k)) rfl rfl trivial (x_subrow_row 1 (lo := k) (hi := l.length) rfl rfl Try.underlying33 Ty.sz9 (.inl rfl) (.inr ⟨rfl, rfl⟩) lt_ lt_) ?_
          refine JA_one 2 (by kernel_rfl) (fun _ h => ⟨h.keep [false, false] rfl, fun _ => h⟩) ?_
          refine JI_op rfl rfl trivial (O_buildSlice (cs := [vS s]) Try.underlying33 Ty.sz9 Ty.ze9 (by decide) (by decide) (by kernel_rfl) fun b29 => ?_)
          refine JA_one 3 (by kernel_rfl) (fun _ h => ⟨h.keep [false, false, false] rfl, fun _ => h.keep [false, true, true] rfl⟩) ?_
          refine JI_op rfl rfl trivial (O_append_m 1 vS (([] : List Bytes) ++ ((l.drop 0).take (k - 0))) [s] Try.underlying33 Ty.sz9 Ty.by9 Ty.ze9 rfl rfl rfl rfl rfl (fun _ => rfl) (cells_blk 0 (off := 0) (m := 1) rfl rfl) lt_ lt_ fun A32 c33 => ?_)
          refine JA_one 7 (by kernel_rfl) (fun _ h => ⟨h.keep [false, false, false] rfl, fun hh => Bool.noConfusion (show false = true from hh)⟩) ?_
          refine JI_op rfl rfl trivial (O_append_m 1 vS ((([] : List Bytes) ++ ((l.drop 0).take (k - 0))) ++ [s]) ((l.drop k).take (l.length - k)) Try.underlying33 Ty.sz9 Ty.by9 Ty.ze9 rfl rfl rfl rfl (by simp only [List.length_take, List.length_drop]; omega) (fun _ => rfl) (cells_sub_row 2 vS k l.length rfl lt_ lt_) lt_ lt_ fun A36 c37 => ?_)
          refine JA_take 8 (Value.slice A36 ((((([] : List Bytes) ++ ((l.drop 0).take (k - 0))) ++ [s]) ++ ((l.drop k).take (l.length - k))).length) c37) rfl (by kernel_rfl) (by kernel_rfl) (by kernel_rfl) rfl (fun _ _ _ h => h) rfl trivial (fun _ _ => rfl) ?_
          exact JA_done (by kernel_rfl) (fun _ h => ⟨h.keep [false, false, false] rfl, fun hh => Bool.noConfusion (show false = true from hh)⟩) (JX_weaken (E' := [(4, Value.slice A36 ((((([] : List Bytes) ++ ((l.drop 0).take (k - 0))) ++ [s]) ++ ((l.drop k).take (l.length - k))).length) c37)]) (L' := [Ent.row (.slice A36 (((([] : List Bytes) ++ ((l.drop 0).take (k - 0))) ++ [s]) ++ ((l.drop k).take (l.length - k))).length c37) 9 1 (((([] : List Bytes) ++ ((l.drop 0).take (k - 0))) ++ [s]) ++ ((l.drop k).take (l.length - k))).length ((((([] : List Bytes) ++ ((l.drop 0).take (k - 0))) ++ [s]) ++ ((l.drop k).take (l.length - k))).map vS), Ent.row (.slice lA l.length lC) 9 1 l.length (l.map vS)]) ⟨rfl, trivial⟩ (fun _ h => h.keep [false, true, true] rfl) (key12 (A36, c37)))

set_option maxRecDepth 20000 in
theorem f29_ok (alt : DataSet) (l : List Pair) (lA : Option Addr) (lC : Nat) (w : World) (lR : RO [] w lA (l.flatMap Pair.enc)) (q0 : l.length ≤ 1000) (q1 : ∀ i, i < l.length → (l.getD i default).key.length ≤ 100 ∧ (l.getD i default).record.length ≤ 300) : Calls Try.prog 29 #[Value.agg ((DataSet.enc alt)).toArray, Value.slice lA l.length lC] w (Gives [] w fun v L => ∃ A : Option Addr, ∃ c : Nat, v = Value.slice A ((R26.recs alt l).length) c ∧ L = [Ent.row (.slice A (R26.recs alt l).length c) 9 1 (R26.recs alt l).length ((R26.recs alt l).map vS)]) := by
  refine calls_J [] 48 Try.func29 rfl Try.ntmps29 [(0, Value.agg ((DataSet.enc alt)).toArray), (1, Value.slice lA l.length lC)] rfl rfl (Give.nil w) ?_
  refine J_seq ?_
  refine J_region ?_
  refine JO_op rfl trivial (O_box rfl rfl fun b1 => ?_)
  refine JO_read (Value.slice none 0 0) rfl trivial (fun _ _ => rfl) ?_
  refine JO_nil ?_
  refine JX_then ?_
  refine J_seq ?_
  refine J_region ?_
  refine JO_op rfl trivial (O_buildSlice0 Try.underlying33 Ty.sz9 fun b2 => ?_)
  refine JO_read (Value.slice (some ⟨b2, 0, none⟩) 0 0) rfl trivial (fun _ _ => rfl) ?_
  refine JO_nil ?_
  refine JX_then ?_
  refine J_seq ?_
  refine J_seq ?_
  refine J_region ?_
  refine JO_read (vI 0) rfl trivial (fun _ _ => rfl) ?_
  refine JO_nil ?_
  refine JX_then ?_
  refine J_block ?_
  refine J_loop (X := Nat × (List Bytes) × (Option Addr) × Nat) (fun (⟨k, xs, xsA, xsC⟩ : Nat × (List Bytes) × (Option Addr) × Nat) => (k ≤ l.length) ∧ (xs = Ord.insl (R26.ents alt (l.take k))) ∧ (xs.length ≤ k)) (fun (⟨k, xs, xsA, xsC⟩ : Nat × (List Bytes) × (Option Addr) × Nat) => [(1, Value.slice lA l.length lC), (2, Value.pointer (some ⟨b1, 0, none⟩)), (4, Value.slice none 0 0), (5, Value.slice xsA xs.length xsC), (6, vI ((k : Nat) : Int))]) (fun (⟨k, xs, xsA, xsC⟩ : Nat × (List Bytes) × (Option Addr) × Nat) => [Ent.blk b1 23 (DataSet.enc alt), Ent.row (.slice xsA xs.length xsC) 9 1 xs.length (xs.map vS)]) (fun (⟨k, xs, xsA, xsC⟩ : Nat × (List Bytes) × (Option Addr) × Nat) => l.length - k) ((0, ([] : List Bytes), (some ⟨b2, 0, none⟩), 0) : Nat × (List Bytes) × (Option Addr) × Nat) ?_ ⟨rfl, rfl, rfl, rfl, rfl, trivial⟩ (fun _ h => ((St.torow (cs := []) h 1 0 rfl (by decide)).front 1 _ rfl).keep [true, true] rfl) ?_
  · show (0 ≤ l.length) ∧ (([] : List Bytes) = Ord.insl (R26.ents alt (l.take 0))) ∧ (([] : List Bytes).length ≤ 0)
    refine ⟨?_, ?_, ?_⟩
    · first | rfl | omega | (simp_all; done) | (simp_all; omega)
    · rfl
    · exact Nat.le_refl _
  rintro ⟨k, xs, xsA, xsC⟩ hI1
  obtain ⟨i1_0, i1_1, i1_2⟩ : (k ≤ l.length) ∧ (xs = Ord.insl (R26.ents alt (l.take k))) ∧ (xs.length ≤ k) := hI1
  have hqk := q1 k
  refine J_weaken (E' := [(1, Value.slice lA l.length lC), (2, Value.pointer (some ⟨b1, 0, none⟩)), (4, Value.slice none 0 0), (5, Value.slice xsA xs.length xsC), (6, vI ((k : Nat) : Int))]) (L' := [Ent.blk b1 23 (DataSet.enc alt), Ent.row (.slice xsA xs.length xsC) 9 1 xs.length (xs.map vS)]) ⟨rfl, rfl, rfl, rfl, rfl, trivial⟩ (fun _ h => h) ?_
  refine J_seq ?_
  refine J_seq ?_
  refine J_region ?_
  refine JO_read (vI ((k : Nat) : Int)) rfl trivial (fun _ _ => rfl) ?_
  refine JO_read (Value.slice lA l.length lC) rfl trivial (fun _ _ => rfl) ?_
  refine JO_read (vI ((l.length : Nat) : Int)) rfl trivial (fun _ _ => x_len_sl Try.underlying47 rfl) ?_
  refine JO_read (vB (decide (((k : Nat) : Int) < ((l.length : Nat) : Int)))) rfl trivial (fun _ _ => x_lss_i rfl rfl) ?_
  refine JO_nil ?_
  refine JX_then ?_
  refine J_cond (decide (((k : Nat) : Int) < ((l.length : Nat) : Int))) rfl rfl (fun h3 => ?_) (fun h3 => ?_)
  · have h3w := h3
    have h3 := of_decide_eq_true h3
    refine J_skip ?_
    refine JX_then ?_
    refine J_seq ?_
    refine J_block ?_
    refine J_seq ?_
    refine J_draw [Ent.blk b1 23 (DataSet.enc alt), Ent.row (.slice xsA xs.length xsC) 9 1 xs.length (xs.map vS)] [] [Ent.blk b1 23 (DataSet.enc alt), Ent.row (.slice xsA xs.length xsC) 9 1 xs.length (xs.map vS)] 12 Ty.mixed rfl ?_
    refine JA_take 0 (Value.agg ((DataSet.enc alt)).toArray) rfl (by kernel_rfl) (by kernel_rfl) (by kernel_rfl) rfl (fun _ _ _ h => h) rfl trivial (x_loadN 0 (DataSet.enc alt) rfl rfl Ty.ag23 Ty.sz23 rfl) ?_
    refine JA_take 1 (Value.slice lA l.length lC) rfl (by kernel_rfl) (by kernel_rfl) (by kernel_rfl) rfl (fun _ _ _ h => h) rfl trivial (fun _ _ => rfl) ?_
    refine JA_take 2 (vI ((k : Nat) : Int)) rfl (by kernel_rfl) (by kernel_rfl) (by kernel_rfl) rfl (fun _ _ _ h => h) rfl trivial (fun _ _ => rfl) ?_
    refine JA_take 3 (Value.pointer (some (adr lA (k * 2)))) rfl (by kernel_rfl) (by kernel_rfl) (by kernel_rfl) rfl (fun _ _ _ h => h) rfl trivial (x_indexAddr_at (k := k) (off := k * 2) (cells_ro lR) Try.underlying47 Ty.sz55 rfl rfl lt_ (by rw [flat_length Pair.enc 2 Pair.enc_len]; first | omega | (simp; omega) | (simp_all; omega) | (simp_all; done)) rfl) ?_
    refine JA_take 4 (Value.pointer (some (adr lA (k * 2 + 1)))) rfl (by kernel_rfl) (by kernel_rfl) (by kernel_rfl) rfl (fun _ _ _ h => h) rfl trivial (fun _ _ => x_fieldAddr Ty.fi55_1 rfl (adr_add _ _ _)) ?_
    refine JA_take 5 (vS ((l.getD k default).record)) rfl (by kernel_rfl) (by kernel_rfl) (by kernel_rfl) rfl (fun _ _ _ h => h) rfl trivial (x_load_at (cells_ro lR) rfl Ty.sc9 (flat_at Pair.enc 2 Pair.enc_len l default k 1 lt_ (by decide))) ?_
    refine JA_one 6 (by kernel_rfl) (fun _ h => ⟨h, fun _ => h⟩) ?_
    refine JI_call [] [] [Ent.blk b1 23 (DataSet.enc alt), Ent.row (.slice xsA xs.length xsC) 9 1 xs.length (xs.map vS)] rfl rfl trivial (fun _ => x_call Ty.ca18 rfl) (fun _ h => h) (fun _ h => by cases h) (fun w hS => f18_ok alt ((l.getD k default).record) w) ?_
    rintro _ _ ⟨rfl, rfl⟩
    refine JA_take 7 (Value.tuple #[vS ((R26.key alt ((l.getD k default).record)).1), vB ((R26.key alt ((l.getD k default).record)).2)]) rfl (by kernel_rfl) (by kernel_rfl) (by kernel_rfl) rfl (fun _ _ _ h => h) rfl trivial (fun _ _ => rfl) ?_
    refine JA_take 8 (vS ((R26.key alt ((l.getD k default).record)).1)) rfl (by kernel_rfl) (by kernel_rfl) (by kernel_rfl) rfl (fun _ _ _ h => h) rfl trivial (fun _ _ => rfl) ?_
    refine JA_take 9 (vB ((R26.key alt ((l.getD k default).record)).2)) rfl (by kernel_rfl) (by kernel_rfl) (by kernel_rfl) rfl (fun _ _ _ h => h) rfl trivial (fun _ _ => rfl) ?_
    refine JA_take 10 (vS ((R26.key alt ((l.getD k default).record)).1)) rfl (by kernel_rfl) (by kernel_rfl) (by kernel_rfl) rfl (fun _ _ _ h => h) rfl trivial (fun _ _ => rfl) ?_
    refine JA_take 11 (vB ((R26.key alt ((l.getD k default).record)).2)) rfl (by kernel_rfl) (by kernel_rfl) (by kernel_rfl) rfl (fun _ _ _ h => h) rfl trivial (fun _ _ => rfl) ?_
    refine JA_done (by kernel_rfl) (fun _ h => ⟨h, fun _ => h⟩) ?_
    refine JX_then ?_
    refine J_seq ?_
    refine J_draw [Ent.blk b1 23 (DataSet.enc alt), Ent.row (.slice xsA xs.length xsC) 9 1 xs.length (xs.map vS)] [] [Ent.blk b1 23 (DataSet.enc alt), Ent.row (.slice xsA xs.length xsC) 9 1 xs.length (xs.map vS)] 13 Ty.mixed rfl ?_
    refine JA_take 0 (Value.agg ((DataSet.enc alt)).toArray) rfl (by kernel_rfl) (by kernel_rfl) (by kernel_rfl) rfl (fun _ _ _ h => h) rfl trivial (x_loadN 0 (DataSet.enc alt) rfl rfl Ty.ag23 Ty.sz23 rfl) ?_
    refine JA_take 1 (vS ((R26.key alt ((l.getD k default).record)).1)) rfl (by kernel_rfl) (by kernel_rfl) (by kernel_rfl) rfl (fun _ _ _ h => h) rfl trivial (fun _ _ => rfl) ?_
    refine JA_take 2 (Value.slice lA l.length lC) rfl (by kernel_rfl) (by kernel_rfl) (by kernel_rfl) rfl (fun _ _ _ h => h) rfl trivial (fun _ _ => rfl) ?_
    refine JA_take 3 (vI ((k : Nat) : Int)) rfl (by kernel_rfl) (by kernel_rfl) (by kernel_rfl) rfl (fun _ _ _ h => h) rfl trivial (fun _ _ => rfl) ?_
    refine JA_take 4 (Value.pointer (some (adr lA (k * 2)))) rfl (by kernel_rfl) (by kernel_rfl) (by kernel_rfl) rfl (fun _ _ _ h => h) rfl trivial (x_indexAddr_at (k := k) (off := k * 2) (cells_ro lR) Try.underlying47 Ty.sz55 rfl rfl lt_ (by rw [flat_length Pair.enc 2 Pair.enc_len]; first | omega | (simp; omega) | (simp_all; omega) | (simp_all; done)) rfl) ?_
    refine JA_take 5 (Value.pointer (some (adr lA (k * 2)))) rfl (by kernel_rfl) (by kernel_rfl) (by kernel_rfl) rfl (fun _ _ _ h => h) rfl trivial (fun _ _ => x_fieldAddr Ty.fi55_0 rfl rfl) ?_
    refine JA_take 6 (vS ((l.getD k default).key)) rfl (by kernel_rfl) (by kernel_rfl) (by kernel_rfl) rfl (fun _ _ _ h => h) rfl trivial (x_load_at (cells_ro lR) rfl Ty.sc9 (flat_at Pair.enc 2 Pair.enc_len l default k 0 lt_ (by decide))) ?_
    refine JA_one 7 (by kernel_rfl) (fun _ h => ⟨h, fun _ => h⟩) ?_
    refine JI_call [] [] [Ent.blk b1 23 (DataSet.enc alt), Ent.row (.slice xsA xs.length xsC) 9 1 xs.length (xs.map vS)] rfl rfl trivial (fun _ => x_call Ty.ca20 rfl) (fun _ h => h) (fun _ h => by cases h) (fun w hS => f20_ok alt ((R26.key alt ((l.getD k default).record)).1) ((l.getD k default).key) w) ?_
    rintro _ _ ⟨rfl, rfl⟩
    refine JA_take 8 (Value.tuple #[vS ((R26.record alt ((R26.key alt ((l.getD k default).record)).1) ((l.getD k default).key)).1), vI ((R26.record alt ((R26.key alt ((l.getD k default).record)).1) ((l.getD k default).key)).2)]) rfl (by kernel_rfl) (by kernel_rfl) (by kernel_rfl) rfl (fun _ _ _ h => h) rfl trivial (fun _ _ => rfl) ?_
    refine JA_take 9 (vS ((R26.record alt ((R26.key alt ((l.getD k default).record)).1) ((l.getD k default).key)).1)) rfl (by kernel_rfl) (by kernel_rfl) (by kernel_rfl) rfl (fun _ _ _ h => h) rfl trivial (fun _ _ => rfl) ?_
    refine JA_take 10 (vI ((R26.record alt ((R26.key alt ((l.getD k default).record)).1) ((l.getD k default).key)).2)) rfl (by kernel_rfl) (by kernel_rfl) (by kernel_rfl) rfl (fun _ _ _ h => h) rfl trivial (fun _ _ => rfl) ?_
    refine JA_take 11 (vS ((R26.record alt ((R26.key alt ((l.getD k default).record)).1) ((l.getD k default).key)).1)) rfl (by kernel_rfl) (by kernel_rfl) (by kernel_rfl) rfl (fun _ _ _ h => h) rfl trivial (fun _ _ => rfl) ?_
    refine JA_take 12 (vI ((R26.record alt ((R26.key alt ((l.getD k default).record)).1) ((l.getD k default).key)).2)) rfl (by kernel_rfl) (by kernel_rfl) (by kernel_rfl) rfl (fun _ _ _ h => h) rfl trivial (fun _ _ => rfl) ?_
    refine JA_done (by kernel_rfl) (fun _ h => ⟨h, fun _ => h⟩) ?_
    refine JX_then ?_
    refine J_seq ?_
    refine J_region ?_
    refine JO_read (vB ((R26.key alt ((l.getD k default).record)).2)) rfl trivial (fun _ _ => rfl) ?_
    refine JO_read (vB ((R26.key alt ((l.getD k default).record)).2)) rfl trivial (fun _ _ => rfl) ?_
    refine JO_cut (X := Bool) 3 (fun z => z = (((R26.key alt ((l.getD k default).record)).2) && (decide ((R26.record alt ((R26.key alt ((l.getD k default).record)).1) ((l.getD k default).key)).2 = 0)))) (fun z => [(1, Value.slice lA l.length lC), (2, Value.pointer (some ⟨b1, 0, none⟩)), (4, Value.slice none 0 0), (5, Value.slice xsA xs.length xsC), (6, vI ((k : Nat) : Int)), (9, vS ((R26.record alt ((R26.key alt ((l.getD k default).record)).1) ((l.getD k default).key)).1)), (43, vB z)]) (fun _ => [Ent.blk b1 23 (DataSet.enc alt), Ent.row (.slice xsA xs.length xsC) 9 1 xs.length (xs.map vS)]) ?_ ?_
    · rcases Bool.eq_false_or_eq_true ((R26.key alt ((l.getD k default).record)).2) with g5 | g5
      · have g5r := g5
        have hi6 := R26.key_facts g5r
        refine JO_read (vI ((R26.record alt ((R26.key alt ((l.getD k default).record)).1) ((l.getD k default).key)).2)) rfl ⟨_, rfl, g5⟩ (fun _ _ => rfl) ?_
        refine JO_read (vB (decide ((R26.record alt ((R26.key alt ((l.getD k default).record)).1) ((l.getD k default).key)).2 = 0))) rfl ⟨_, rfl, g5⟩ (fun _ _ => x_eql_i rfl rfl) ?_
        refine JO_read (vB (decide ((R26.record alt ((R26.key alt ((l.getD k default).record)).1) ((l.getD k default).key)).2 = 0))) rfl trivial (fun _ _ => x_pick_t rfl g5 rfl) ?_
        refine JO_nil (JX_cut (decide ((R26.record alt ((R26.key alt ((l.getD k default).record)).1) ((l.getD k default).key)).2 = 0)) (by rw [g5]; simp) ⟨rfl, rfl, rfl, rfl, rfl, rfl, rfl, trivial⟩ (fun _ h => h))
      · have g5r := g5
        refine JO_shun rfl ⟨_, rfl, g5⟩ ?_
        refine JO_shun rfl ⟨_, rfl, g5⟩ ?_
        refine JO_read (vB false) rfl trivial (fun _ _ => x_pick_f rfl g5 rfl) ?_
        refine JO_nil (JX_cut (false) (by rw [g5]; simp) ⟨rfl, rfl, rfl, rfl, rfl, rfl, rfl, trivial⟩ (fun _ h => h))
    rintro z4 rfl
    refine JO_nil ?_
    refine JX_then ?_
    refine J_cond (((R26.key alt ((l.getD k default).record)).2) && (decide ((R26.record alt ((R26.key alt ((l.getD k default).record)).1) ((l.getD k default).key)).2 = 0))) rfl rfl (fun h7 => ?_) (fun h7 => ?_)
    · have h7w := h7
      have ⟨h7, h8⟩ := band_true h7
      have hi9 := R26.key_facts h7
      have h8 := of_decide_eq_true h8
      refine J_region ?_
      refine JO_read (Value.slice xsA xs.length xsC) rfl trivial (fun _ _ => rfl) ?_
      refine JO_read (vS ((R26.record alt ((R26.key alt ((l.getD k default).record)).1) ((l.getD k default).key)).1)) rfl trivial (fun _ _ => rfl) ?_
      refine JO_call (Lown [Ent.row (.slice xsA xs.length xsC) 9 1 xs.length (xs.map vS)]) [Ent.row (.slice xsA xs.length xsC) 9 1 xs.length (xs.map vS)] [Ent.blk b1 23 (DataSet.enc alt)] rfl trivial (fun _ => x_call Ty.ca47 rfl) (fun _ h => (h.front 1 _ rfl).keep [true, true] rfl) lown_mem (fun w hS => f47_ok xs xsA xsC xs.length ((R26.record alt ((R26.key alt ((l.getD k default).record)).1) ((l.getD k default).key)).1) w hy_ hy_ (hS.give lown_in)) ?_
      rintro _ _ ⟨e10, e11, rfl, rfl⟩
      have ha12 := Ord.ins_len xs ((R26.record alt ((R26.key alt ((l.getD k default).record)).1) ((l.getD k default).key)).1)
      refine JO_read (Value.slice e10 ((Ord.ins xs ((R26.record alt ((R26.key alt ((l.getD k default).record)).1) ((l.getD k default).key)).1)).length) e11) rfl trivial (fun _ _ => rfl) ?_
      refine JO_nil ?_
      refine JX_block ?_
      refine JX_then ?_
      refine J_region ?_
      refine JO_read (vI ((k : Nat) : Int)) rfl trivial (fun _ _ => rfl) ?_
      refine JO_read (vI ((k + 1 : Nat) : Int)) rfl trivial (fun _ _ => x_add_n (a := k) (b := 1) rfl rfl (by omega)) ?_
      refine JO_read (vI ((k + 1 : Nat) : Int)) rfl trivial (fun _ _ => rfl) ?_
      refine JO_nil ?_
      refine JX_round ((k + 1, (Ord.ins xs ((R26.record alt ((R26.key alt ((l.getD k default).record)).1) ((l.getD k default).key)).1)), e10, e11) : Nat × (List Bytes) × (Option Addr) × Nat) ?_ ?_ ⟨rfl, rfl, rfl, rfl, rfl, trivial⟩ (fun _ h => (h.front 1 _ rfl).keep [true, true] rfl)
      · show ((k + 1) ≤ l.length) ∧ ((Ord.ins xs ((R26.record alt ((R26.key alt ((l.getD k default).record)).1) ((l.getD k default).key)).1)) = Ord.insl (R26.ents alt (l.take (k + 1)))) ∧ ((Ord.ins xs ((R26.record alt ((R26.key alt ((l.getD k default).record)).1) ((l.getD k default).key)).1)).length ≤ (k + 1))
        refine ⟨?_, ?_, ?_⟩
        · first | rfl | omega | (simp_all; done) | (simp_all; omega)
        · first | exact R26.ref_yes (by omega) i1_1 (by assumption) | exact R26.ref_no (by omega) i1_1 (by assumption)
        · omega
      · show l.length - (k + 1) < l.length - k
        first | omega | (simp; omega) | (simp_all; omega)
    · have h7w := h7
      simp only [Bool.and_eq_true, Bool.or_eq_true, Bool.and_eq_false_iff, Bool.or_eq_false_iff, Bool.not_eq_true', Bool.not_eq_false', decide_eq_true_eq, decide_eq_false_iff_not] at h7
      refine J_skip ?_
      refine JX_block ?_
      refine JX_then ?_
      refine J_region ?_
      refine JO_read (vI ((k : Nat) : Int)) rfl trivial (fun _ _ => rfl) ?_
      refine JO_read (vI ((k + 1 : Nat) : Int)) rfl trivial (fun _ _ => x_add_n (a := k) (b := 1) rfl rfl (by omega)) ?_
      refine JO_read (vI ((k + 1 : Nat) : Int)) rfl trivial (fun _ _ => rfl) ?_
      refine JO_nil ?_
      refine JX_round ((k + 1, xs, xsA, xsC) : Nat × (List Bytes) × (Option Addr) × Nat) ?_ ?_ ⟨rfl, rfl, rfl, rfl, rfl, trivial⟩ (fun _ h => h)
      · show ((k + 1) ≤ l.length) ∧ (xs = Ord.insl (R26.ents alt (l.take (k + 1)))) ∧ (xs.length ≤ (k + 1))
        refine ⟨?_, ?_, ?_⟩
        · first | rfl | omega | (simp_all; done) | (simp_all; omega)
        · first | exact R26.ref_yes (by omega) i1_1 (by assumption) | exact R26.ref_no (by omega) i1_1 (by assumption)
        · omega
      · show l.length - (k + 1) < l.length - k
        first | omega | (simp; omega) | (simp_all; omega)
  · have h3w := h3
    have h3 := of_decide_eq_false h3
    refine J_exit ?_
    refine JX_then_exit ?_
    refine JX_round_exit ?_
    refine JX_block_hit ?_
    refine JX_then ?_
    refine J_seq ?_
    refine J_region ?_
    refine JO_read (Value.slice xsA xs.length xsC) rfl trivial (fun _ _ => rfl) ?_
    refine JO_read (Value.slice xsA xs.length xsC) rfl trivial (fun _ _ => rfl) ?_
    refine JO_nil ?_
    refine JX_then ?_
    refine J_ret ?_
    refine JX_rets [Value.slice xsA xs.length xsC] (Value.slice xsA xs.length xsC) Try.results29 (fun w h => ⟨rfl, trivial⟩) rfl [Ent.row (.slice xsA xs.length xsC) 9 1 xs.length (xs.map vS)] (fun _ h => h.keep [false, true] rfl) ⟨xsA, xsC, ?_, ?_⟩
    · have e_x0 : (xs.length : Nat) = ((R26.recs alt l).length) := by
        rw [i1_1, show k = l.length by omega, List.take_length, R26.recs_same]
      exact congrArg (fun (x0 : Nat) => Value.slice xsA x0 xsC) e_x0
    · have e_y0 : (xs : List Bytes) = (R26.recs alt l) := by
        rw [i1_1, show k = l.length by omega, List.take_length, R26.recs_same]
      have e_all := (congrArg (fun (y0 : List Bytes) => [Ent.row (.slice xsA y0.length xsC) 9 1 y0.length (y0.map vS)]) e_y0)
      exact e_all

set_option maxRecDepth 20000 in
theorem f27_ok (a : List Bytes) (aA : Option Addr) (aC : Nat) (b : List Bytes) (bA : Option Addr) (bC : Nat) (w : World) (aR : RO [] w aA (a.map vS)) (bR : RO [] w bA (b.map vS)) (q0 : a.length ≤ 9223372036854775807) : Calls Try.prog 27 #[Value.slice aA a.length aC, Value.slice bA b.length bC] w (Gives [] w fun v L => v = vB (decide (a = b)) ∧ L = []) := by
  refine calls_J [] 26 Try.func27 rfl Try.ntmps27 [(0, Value.slice aA a.length aC), (1, Value.slice bA b.length bC)] rfl rfl (Give.nil w) ?_
  refine J_seq ?_
  refine J_region ?_
  refine JO_read (vB false) rfl trivial (fun _ _ => rfl) ?_
  refine JO_nil ?_
  refine JX_then ?_
  refine J_seq ?_
  refine J_seq ?_
  refine J_region ?_
  refine JO_read (Value.slice aA a.length aC) rfl trivial (fun _ _ => rfl) ?_
  refine JO_read (vI ((a.length : Nat) : Int)) rfl trivial (fun _ _ => x_len_sl Try.underlying33 rfl) ?_
  refine JO_read (Value.slice bA b.length bC) rfl trivial (fun _ _ => rfl) ?_
  refine JO_read (vI ((b.length : Nat) : Int)) rfl trivial (fun _ _ => x_len_sl Try.underlying33 rfl) ?_
  refine JO_read (vB (decide (((a.length : Nat) : Int) ≠ ((b.length : Nat) : Int)))) rfl trivial (fun _ _ => x_neq_i rfl rfl) ?_
  refine JO_nil ?_
  refine JX_then ?_
  refine J_cond (decide (((a.length : Nat) : Int) ≠ ((b.length : Nat) : Int))) rfl rfl (fun h1 => ?_) (fun h1 => ?_)
  · have h1 := of_decide_eq_true h1
    refine J_seq ?_
    refine J_region ?_
    refine JO_read (vB false) rfl trivial (fun _ _ => rfl) ?_
    refine JO_nil ?_
    refine JX_then ?_
    refine J_ret ?_
    refine JX_then_ret ?_
    refine JX_rets [vB false] (vB false) Try.results27 (fun w h => ⟨rfl, trivial⟩) rfl [] (fun _ h => h) ⟨?_, ?_⟩
    · have e_x0 : (false : Bool) = (decide (a = b)) := by
        first | exact (R26.same_no (by omega)).symm | exact (R26.same_bad (k := k) (by assumption)).symm | exact (R26.same_all i1_1 (fun i hi => i1_2 i (by omega))).symm
      exact congrArg (fun (x0 : Bool) => vB x0) e_x0
    · rfl
  · have h1 := of_decide_eq_false h1
    refine J_skip ?_
    refine JX_then ?_
    refine J_seq ?_
    refine J_seq ?_
    refine J_region ?_
    refine JO_read (vI 0) rfl trivial (fun _ _ => rfl) ?_
    refine JO_nil ?_
    refine JX_then ?_
    refine J_block ?_
    refine J_loop (X := Nat) (fun (k : Nat) => (k ≤ a.length) ∧ (a.length = b.length) ∧ (∀ i, i < k → a.getD i [] = b.getD i [])) (fun (k : Nat) => [(0, Value.slice aA a.length aC), (1, Value.slice bA b.length bC), (5, vI ((k : Nat) : Int))]) (fun (k : Nat) => []) (fun (k : Nat) => a.length - k) (0 : Nat) ?_ ⟨rfl, rfl, rfl, trivial⟩ (fun _ h => h) ?_
    · show (0 ≤ a.length) ∧ (a.length = b.length) ∧ (∀ i, i < 0 → a.getD i [] = b.getD i [])
      refine ⟨?_, ?_, ?_⟩
      · first | rfl | omega | (simp_all; done) | (simp_all; omega)
      · first | rfl | omega | (simp_all; done) | (simp_all; omega)
      · intro i hi; omega
    intro k hI1
    obtain ⟨i1_0, i1_1, i1_2⟩ : (k ≤ a.length) ∧ (a.length = b.length) ∧ (∀ i, i < k → a.getD i [] = b.getD i []) := hI1
    refine J_weaken (E' := [(0, Value.slice aA a.length aC), (1, Value.slice bA b.length bC), (5, vI ((k : Nat) : Int))]) (L' := []) ⟨rfl, rfl, rfl, trivial⟩ (fun _ h => h) ?_
    refine J_seq ?_
    refine J_seq ?_
    refine J_region ?_
    refine JO_read (vI ((k : Nat) : Int)) rfl trivial (fun _ _ => rfl) ?_
    refine JO_read (Value.slice aA a.length aC) rfl trivial (fun _ _ => rfl) ?_
    refine JO_read (vI ((a.length : Nat) : Int)) rfl trivial (fun _ _ => x_len_sl Try.underlying33 rfl) ?_
    refine JO_read (vB (decide (((k : Nat) : Int) < ((a.length : Nat) : Int)))) rfl trivial (fun _ _ => x_lss_i rfl rfl) ?_
    refine JO_nil ?_
    refine JX_then ?_
    refine J_cond (decide (((k : Nat) : Int) < ((a.length : Nat) : Int))) rfl rfl (fun h2 => ?_) (fun h2 => ?_)
    · have h2 := of_decide_eq_true h2
      refine J_skip ?_
      refine JX_then ?_
      refine J_seq ?_
      refine J_block ?_
      refine J_seq ?_
      refine J_draw [] [] [] 9 Ty.mixed rfl ?_
      refine JA_take 0 (Value.slice aA a.length aC) rfl (by kernel_rfl) (by kernel_rfl) (by kernel_rfl) rfl (fun _ _ _ h => h) rfl trivial (fun _ _ => rfl) ?_
      refine JA_take 1 (vI ((k : Nat) : Int)) rfl (by kernel_rfl) (by kernel_rfl) (by kernel_rfl) rfl (fun _ _ _ h => h) rfl trivial (fun _ _ => rfl) ?_
      refine JA_take 2 (Value.pointer (some (adr aA k))) rfl (by kernel_rfl) (by kernel_rfl) (by kernel_rfl) rfl (fun _ _ _ h => h) rfl trivial (x_indexAddr_at (k := k) (off := k) (cells_ro aR) Try.underlying33 Ty.sz9 rfl rfl lt_ (by rw [List.length_map]; first | omega | (simp; omega) | (simp_all; omega) | (simp_all; done)) (Nat.mul_one _)) ?_
      refine JA_take 3 (vS (a.getD k [])) rfl (by kernel_rfl) (by kernel_rfl) (by kernel_rfl) rfl (fun _ _ _ h => h) rfl trivial (x_load_at (cells_ro aR) rfl Ty.sc9 (map_at vS a [] lt_)) ?_
      refine JA_take 4 (Value.slice bA b.length bC) rfl (by kernel_rfl) (by kernel_rfl) (by kernel_rfl) rfl (fun _ _ _ h => h) rfl trivial (fun _ _ => rfl) ?_
      refine JA_take 5 (vI ((k : Nat) : Int)) rfl (by kernel_rfl) (by kernel_rfl) (by kernel_rfl) rfl (fun _ _ _ h => h) rfl trivial (fun _ _ => rfl) ?_
      refine JA_take 6 (Value.pointer (some (adr bA k))) rfl (by kernel_rfl) (by kernel_rfl) (by kernel_rfl) rfl (fun _ _ _ h => h) rfl trivial (x_indexAddr_at (k := k) (off := k) (cells_ro bR) Try.underlying33 Ty.sz9 rfl rfl lt_ (by rw [List.length_map]; first | omega | (simp; omega) | (simp_all; omega) | (simp_all; done)) (Nat.mul_one _)) ?_
      refine JA_take 7 (vS (b.getD k [])) rfl (by kernel_rfl) (by kernel_rfl) (by kernel_rfl) rfl (fun _ _ _ h => h) rfl trivial (x_load_at (cells_ro bR) rfl Ty.sc9 (map_at vS b [] lt_)) ?_
      refine JA_take 8 (vB (decide ((a.getD k []) ≠ (b.getD k [])))) rfl (by kernel_rfl) (by kernel_rfl) (by kernel_rfl) rfl (fun _ _ _ h => h) rfl trivial (fun _ _ => x_neq_s rfl rfl) ?_
      refine JA_done (by kernel_rfl) (fun _ h => ⟨h, fun _ => h⟩) ?_
      refine JX_then ?_
      refine J_cond (decide ((a.getD k []) ≠ (b.getD k []))) rfl rfl (fun h3 => ?_) (fun h3 => ?_)
      · have h3 := of_decide_eq_true h3
        refine J_seq ?_
        refine J_region ?_
        refine JO_read (vB false) rfl trivial (fun _ _ => rfl) ?_
        refine JO_nil ?_
        refine JX_then ?_
        refine J_ret ?_
        refine JX_block_ret ?_
        refine JX_then_ret ?_
        refine JX_round_ret ?_
        refine JX_block_ret ?_
        refine JX_then_ret ?_
        refine JX_rets [vB false] (vB false) Try.results27 (fun w h => ⟨rfl, trivial⟩) rfl [] (fun _ h => h) ⟨?_, ?_⟩
        · have e_x0 : (false : Bool) = (decide (a = b)) := by
            first | exact (R26.same_no (by omega)).symm | exact (R26.same_bad (k := k) (by assumption)).symm | exact (R26.same_all i1_1 (fun i hi => i1_2 i (by omega))).symm
          exact congrArg (fun (x0 : Bool) => vB x0) e_x0
        · rfl
      · have h3 := of_decide_eq_false h3
        refine J_skip ?_
        refine JX_block ?_
        refine JX_then ?_
        refine J_region ?_
        refine JO_read (vI ((k : Nat) : Int)) rfl trivial (fun _ _ => rfl) ?_
        refine JO_read (vI ((k + 1 : Nat) : Int)) rfl trivial (fun _ _ => x_add_n (a := k) (b := 1) rfl rfl (by omega)) ?_
        refine JO_read (vI ((k + 1 : Nat) : Int)) rfl trivial (fun _ _ => rfl) ?_
        refine JO_nil ?_
        refine JX_round (k + 1 : Nat) ?_ ?_ ⟨rfl, rfl, rfl, trivial⟩ (fun _ h => h)
        · show ((k + 1) ≤ a.length) ∧ (a.length = b.length) ∧ (∀ i, i < (k + 1) → a.getD i [] = b.getD i [])
          refine ⟨?_, ?_, ?_⟩
          · first | rfl | omega | (simp_all; done) | (simp_all; omega)
          · exact i1_1
          · intro i hi
            by_cases hik : i = k
            · subst hik; exact Decidable.not_not.1 (by assumption)
            · exact i1_2 i (by omega)
        · show a.length - (k + 1) < a.length - k
          first | omega | (simp; omega) | (simp_all; omega)
    · have h2 := of_decide_eq_false h2
      refine J_exit ?_
      refine JX_then_exit ?_
      refine JX_round_exit ?_
      refine JX_block_hit ?_
      refine JX_then ?_
      refine J_seq ?_
      refine J_region ?_
      refine JO_read (vB true) rfl trivial (fun _ _ => rfl) ?_
      refine JO_nil ?_
      refine JX_then ?_
      refine J_ret ?_
      refine JX_rets [vB true] (vB true) Try.results27 (fun w h => ⟨rfl, trivial⟩) rfl [] (fun _ h => h) ⟨?_, ?_⟩
      · have e_x0 : (true : Bool) = (decide (a = b)) := by
          first | exact (R26.same_no (by omega)).symm | exact (R26.same_bad (k := k) (by assumption)).symm | exact (R26.same_all i1_1 (fun i hi => i1_2 i (by omega))).symm
        exact congrArg (fun (x0 : Bool) => vB x0) e_x0
      · rfl

set_option maxRecDepth 20000 in
theorem f26_ok (l : List Pair) (lA : Option Addr) (lC : Nat) (m : Int) (w : World) (lR : RO [] w lA (l.flatMap Pair.enc)) (q0 : l.length ≤ 9223372036854775807) : Calls Try.prog 26 #[Value.slice lA l.length lC, vI m] w (Gives [] w fun v L => v = vB (R26.few l m) ∧ L = []) := by
  refine calls_J [] 32 Try.func26 rfl Try.ntmps26 [(0, Value.slice lA l.length lC), (1, vI m)] rfl rfl (Give.nil w) ?_
  refine J_seq ?_
  refine J_region ?_
  refine JO_read (vB false) rfl trivial (fun _ _ => rfl) ?_
  refine JO_nil ?_
  refine JX_then ?_
  refine J_seq ?_
  refine J_seq ?_
  refine J_region ?_
  refine JO_read (vI 0) rfl trivial (fun _ _ => rfl) ?_
  refine JO_nil ?_
  refine JX_then ?_
  refine J_block ?_
  refine J_loop (X := Nat) (fun (k : Nat) => (k ≤ l.length) ∧ (∀ i, i < k → ((l.getD i default).key.length ≤ 100 ∧ (l.getD i default).record.length ≤ 300))) (fun (k : Nat) => [(0, Value.slice lA l.length lC), (1, vI m), (5, vI ((k : Nat) : Int))]) (fun (k : Nat) => []) (fun (k : Nat) => l.length - k) (0 : Nat) ?_ ⟨rfl, rfl, rfl, trivial⟩ (fun _ h => h) ?_
  · show (0 ≤ l.length) ∧ (∀ i, i < 0 → ((l.getD i default).key.length ≤ 100 ∧ (l.getD i default).record.length ≤ 300))
    refine ⟨?_, ?_⟩
    · first | rfl | omega | (simp_all; done) | (simp_all; omega)
    · intro i hi; omega
  intro k hI1
  obtain ⟨i1_0, i1_1⟩ : (k ≤ l.length) ∧ (∀ i, i < k → ((l.getD i default).key.length ≤ 100 ∧ (l.getD i default).record.length ≤ 300)) := hI1
  refine J_weaken (E' := [(0, Value.slice lA l.length lC), (1, vI m), (5, vI ((k : Nat) : Int))]) (L' := []) ⟨rfl, rfl, rfl, trivial⟩ (fun _ h => h) ?_
  refine J_seq ?_
  refine J_seq ?_
  refine J_region ?_
  refine JO_read (vI ((k : Nat) : Int)) rfl trivial (fun _ _ => rfl) ?_
  refine JO_read (Value.slice lA l.length lC) rfl trivial (fun _ _ => rfl) ?_
  refine JO_read (vI ((l.length : Nat) : Int)) rfl trivial (fun _ _ => x_len_sl Try.underlying47 rfl) ?_
  refine JO_read (vB (decide (((k : Nat) : Int) < ((l.length : Nat) : Int)))) rfl trivial (fun _ _ => x_lss_i rfl rfl) ?_
  refine JO_nil ?_
  refine JX_then ?_
  refine J_cond (decide (((k : Nat) : Int) < ((l.length : Nat) : Int))) rfl rfl (fun h1 => ?_) (fun h1 => ?_)
  · have h1 := of_decide_eq_true h1
    refine J_skip ?_
    refine JX_then ?_
    refine J_seq ?_
    refine J_block ?_
    refine J_seq ?_
    refine J_region ?_
    refine JO_read (Value.slice lA l.length lC) rfl trivial (fun _ _ => rfl) ?_
    refine JO_read (vI ((k : Nat) : Int)) rfl trivial (fun _ _ => rfl) ?_
    refine JO_read (Value.pointer (some (adr lA (k * 2)))) rfl trivial (x_indexAddr_at (k := k) (off := k * 2) (cells_ro lR) Try.underlying47 Ty.sz55 rfl rfl lt_ (by rw [flat_length Pair.enc 2 Pair.enc_len]; first | omega | (simp; omega) | (simp_all; omega) | (simp_all; done)) rfl) ?_
    refine JO_read (Value.pointer (some (adr lA (k * 2)))) rfl trivial (fun _ _ => x_fieldAddr Ty.fi55_0 rfl rfl) ?_
    refine JO_read (vS ((l.getD k default).key)) rfl trivial (x_load_at (cells_ro lR) rfl Ty.sc9 (flat_at Pair.enc 2 Pair.enc_len l default k 0 lt_ (by decide))) ?_
    refine JO_read (vI ((((l.getD k default).key).length : Nat) : Int)) rfl trivial (fun _ _ => x_len_s rfl Try.underlying9) ?_
    refine JO_read (vB (decide ((100 : Int) < ((((l.getD k default).key).length : Nat) : Int)))) rfl trivial (fun _ _ => x_gtr_i rfl rfl) ?_
    refine JO_read (vB (decide ((100 : Int) < ((((l.getD k default).key).length : Nat) : Int)))) rfl trivial (fun _ _ => rfl) ?_
    refine JO_cut (X := Bool) 8 (fun z => z = ((decide ((100 : Int) < ((((l.getD k default).key).length : Nat) : Int))) || (decide ((300 : Int) < ((((l.getD k default).record).length : Nat) : Int))))) (fun z => [(0, Value.slice lA l.length lC), (1, vI m), (5, vI ((k : Nat) : Int)), (27, vB z)]) (fun _ => []) ?_ ?_
    · rcases Bool.eq_false_or_eq_true (decide ((100 : Int) < ((((l.getD k default).key).length : Nat) : Int))) with g3 | g3
      · have g3r := g3
        have g3r := of_decide_eq_true g3r
        refine JO_shun rfl ⟨_, rfl, g3⟩ ?_
        refine JO_shun rfl ⟨_, rfl, g3⟩ ?_
        refine JO_shun rfl ⟨_, rfl, g3⟩ ?_
        refine JO_shun rfl ⟨_, rfl, g3⟩ ?_
        refine JO_shun rfl ⟨_, rfl, g3⟩ ?_
        refine JO_shun rfl ⟨_, rfl, g3⟩ ?_
        refine JO_shun rfl ⟨_, rfl, g3⟩ ?_
        refine JO_read (vB true) rfl trivial (fun _ _ => x_pick_t rfl g3 rfl) ?_
        refine JO_nil (JX_cut (true) (by rw [g3]; simp) ⟨rfl, rfl, rfl, rfl, trivial⟩ (fun _ h => h))
      · have g3r := g3
        have g3r := of_decide_eq_false g3r
        refine JO_read (Value.slice lA l.length lC) rfl ⟨_, rfl, g3⟩ (fun _ _ => rfl) ?_
        refine JO_read (vI ((k : Nat) : Int)) rfl ⟨_, rfl, g3⟩ (fun _ _ => rfl) ?_
        refine JO_read (Value.pointer (some (adr lA (k * 2)))) rfl ⟨_, rfl, g3⟩ (x_indexAddr_at (k := k) (off := k * 2) (cells_ro lR) Try.underlying47 Ty.sz55 rfl rfl lt_ (by rw [flat_length Pair.enc 2 Pair.enc_len]; first | omega | (simp; omega) | (simp_all; omega) | (simp_all; done)) rfl) ?_
        refine JO_read (Value.pointer (some (adr lA (k * 2 + 1)))) rfl ⟨_, rfl, g3⟩ (fun _ _ => x_fieldAddr Ty.fi55_1 rfl (adr_add _ _ _)) ?_
        refine JO_read (vS ((l.getD k default).record)) rfl ⟨_, rfl, g3⟩ (x_load_at (cells_ro lR) rfl Ty.sc9 (flat_at Pair.enc 2 Pair.enc_len l default k 1 lt_ (by decide))) ?_
        refine JO_read (vI ((((l.getD k default).record).length : Nat) : Int)) rfl ⟨_, rfl, g3⟩ (fun _ _ => x_len_s rfl Try.underlying9) ?_
        refine JO_read (vB (decide ((300 : Int) < ((((l.getD k default).record).length : Nat) : Int)))) rfl ⟨_, rfl, g3⟩ (fun _ _ => x_gtr_i rfl rfl) ?_
        refine JO_read (vB (decide ((300 : Int) < ((((l.getD k default).record).length : Nat) : Int)))) rfl trivial (fun _ _ => x_pick_f rfl g3 rfl) ?_
        refine JO_nil (JX_cut (decide ((300 : Int) < ((((l.getD k default).record).length : Nat) : Int))) (by rw [g3]; simp) ⟨rfl, rfl, rfl, rfl, trivial⟩ (fun _ h => h))
    rintro z2 rfl
    refine JO_nil ?_
    refine JX_then ?_
    refine J_cond ((decide ((100 : Int) < ((((l.getD k default).key).length : Nat) : Int))) || (decide ((300 : Int) < ((((l.getD k default).record).length : Nat) : Int)))) rfl rfl (fun h4 => ?_) (fun h4 => ?_)
    · simp only [Bool.and_eq_true, Bool.or_eq_true, Bool.and_eq_false_iff, Bool.or_eq_false_iff, Bool.not_eq_true', Bool.not_eq_false', decide_eq_true_eq, decide_eq_false_iff_not] at h4
      refine J_seq ?_
      refine J_region ?_
      refine JO_read (vB false) rfl trivial (fun _ _ => rfl) ?_
      refine JO_nil ?_
      refine JX_then ?_
      refine J_ret ?_
      refine JX_block_ret ?_
      refine JX_then_ret ?_
      refine JX_round_ret ?_
      refine JX_block_ret ?_
      refine JX_then_ret ?_
      refine JX_rets [vB false] (vB false) Try.results26 (fun w h => ⟨rfl, trivial⟩) rfl [] (fun _ h => h) ⟨?_, ?_⟩
      · have e_x0 : (false : Bool) = (R26.few l m) := by
          first | exact (R26.few_bad (k := k) (by omega) (by omega)).symm | exact (R26.few_end (fun i hi => i1_1 i (by omega)))
        exact congrArg (fun (x0 : Bool) => vB x0) e_x0
      · rfl
    · have ⟨h4, h5⟩ := bor_false h4
      have h4 := of_decide_eq_false h4
      have h5 := of_decide_eq_false h5
      refine J_skip ?_
      refine JX_block ?_
      refine JX_then ?_
      refine J_region ?_
      refine JO_read (vI ((k : Nat) : Int)) rfl trivial (fun _ _ => rfl) ?_
      refine JO_read (vI ((k + 1 : Nat) : Int)) rfl trivial (fun _ _ => x_add_n (a := k) (b := 1) rfl rfl (by omega)) ?_
      refine JO_read (vI ((k + 1 : Nat) : Int)) rfl trivial (fun _ _ => rfl) ?_
      refine JO_nil ?_
      refine JX_round (k + 1 : Nat) ?_ ?_ ⟨rfl, rfl, rfl, trivial⟩ (fun _ h => h)
      · show ((k + 1) ≤ l.length) ∧ (∀ i, i < (k + 1) → ((l.getD i default).key.length ≤ 100 ∧ (l.getD i default).record.length ≤ 300))
        refine ⟨?_, ?_⟩
        · first | rfl | omega | (simp_all; done) | (simp_all; omega)
        · intro i hi
          by_cases hik : i = k
          · subst hik; omega
          · exact i1_1 i (by omega)
      · show l.length - (k + 1) < l.length - k
        first | omega | (simp; omega) | (simp_all; omega)
  · have h1 := of_decide_eq_false h1
    refine J_exit ?_
    refine JX_then_exit ?_
    refine JX_round_exit ?_
    refine JX_block_hit ?_
    refine JX_then ?_
    refine J_seq ?_
    refine J_region ?_
    refine JO_read (Value.slice lA l.length lC) rfl trivial (fun _ _ => rfl) ?_
    refine JO_read (vI ((l.length : Nat) : Int)) rfl trivial (fun _ _ => x_len_sl Try.underlying47 rfl) ?_
    refine JO_read (vI m) rfl trivial (fun _ _ => rfl) ?_
    refine JO_read (vB (decide (((l.length : Nat) : Int) ≤ m))) rfl trivial (fun _ _ => x_leq_i rfl rfl) ?_
    refine JO_read (vB (decide (((l.length : Nat) : Int) ≤ m))) rfl trivial (fun _ _ => rfl) ?_
    refine JO_nil ?_
    refine JX_then ?_
    refine J_ret ?_
    refine JX_rets [vB (decide (((l.length : Nat) : Int) ≤ m))] (vB (decide (((l.length : Nat) : Int) ≤ m))) Try.results26 (fun w h => ⟨rfl, trivial⟩) rfl [] (fun _ h => h) ⟨?_, ?_⟩
    · have e_x0 : (decide (((l.length : Nat) : Int) ≤ m) : Bool) = (R26.few l m) := by
        first | exact (R26.few_bad (k := k) (by omega) (by omega)).symm | exact (R26.few_end (fun i hi => i1_1 i (by omega)))
      exact congrArg (fun (x0 : Bool) => vB x0) e_x0
    · rfl

end Go.Proofs.Ytimjfpioenkbjaa
