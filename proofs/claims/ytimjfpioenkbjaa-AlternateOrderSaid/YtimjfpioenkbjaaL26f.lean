/- contracts L26f -/
import Derived.Test.YtimjfpioenkbjaaC26f
import Derived.Test.YtimjfpioenkbjaaPl26d
namespace Go.Proofs.Ytimjfpioenkbjaa
open Go.GV
set_option linter.unusedVariables false
set_option linter.unusedSimpArgs false

set_option maxRecDepth 20000 in
theorem f9_ok (alt : DataSet) (base : List Pair) (baseA : Option Addr) (baseC : Nat) (w : World) (baseR : RO [] w baseA (base.flatMap Pair.enc)) (q0 : base.length ≤ 9223372036854775807) : Calls Try.prog 9 #[Value.agg ((DataSet.enc alt)).toArray, Value.slice baseA base.length baseC] w (Gives [] w fun v L => v = vB true ∧ L = []) := by
  refine calls_J [] 129 Try.func9 rfl Try.ntmps9 [(0, Value.agg ((DataSet.enc alt)).toArray), (1, Value.slice baseA base.length baseC)] rfl rfl (Give.nil w) ?_
  refine J_seq ?_
  refine J_region ?_
  refine JO_op rfl trivial (O_box rfl rfl fun b1 => ?_)
  refine JO_read (vB false) rfl trivial (fun _ _ => rfl) ?_
  refine JO_nil ?_
  refine JX_then ?_
  refine J_seq ?_
  refine J_seq ?_
  refine J_region ?_
  refine JO_call [] [] [Ent.blk b1 23 (DataSet.enc alt)] rfl trivial (fun _ => x_call Ty.ca10 rfl) (fun _ h => h) (fun _ h => by cases h) (fun w hS => f10_ok w) ?_
  rintro _ _ ⟨rfl, rfl⟩
  refine JO_read (vB false) rfl trivial (fun _ _ => rfl) ?_
  refine JO_nil ?_
  refine JX_then ?_
  refine J_cond false rfl rfl (fun h => by cases h) (fun h => ?_)
  refine J_skip ?_
  refine JX_then ?_
  refine J_seq ?_
  refine J_seq ?_
  refine J_region ?_
  refine JO_read (Value.slice baseA base.length baseC) rfl trivial (fun _ _ => rfl) ?_
  refine JO_call [] [] [Ent.blk b1 23 (DataSet.enc alt)] rfl trivial (fun _ => x_call Ty.ca26 rfl) (fun _ h => h) (fun _ h => by cases h) (fun w hS => f26_ok base baseA baseC 40 w (baseR.on hS (fun _ h => by cases h)) hy_) ?_
  rintro _ _ ⟨rfl, rfl⟩
  refine JO_read (vB (!(R26.few base 40))) rfl trivial (fun _ _ => x_not rfl) ?_
  refine JO_nil ?_
  refine JX_then ?_
  refine J_cond (!(R26.few base 40)) rfl rfl (fun h2 => ?_) (fun h2 => ?_)
  · have h2w := h2
    have h2 : (R26.few base 40) = false := bnot_true h2
    refine J_seq ?_
    refine J_region ?_
    refine JO_read (vB true) rfl trivial (fun _ _ => rfl) ?_
    refine JO_nil ?_
    refine JX_then ?_
    refine J_ret ?_
    refine JX_then_ret ?_
    refine JX_rets [vB true] (vB true) Try.results9 (fun w h => ⟨rfl, trivial⟩) rfl [] (fun _ h => h.keep [false] rfl) ⟨?_, ?_⟩
    · rfl
    · rfl
  · have h2w := h2
    have h2 : (R26.few base 40) = true := bnot_false h2
    have hi3 := R26.few_facts h2
    refine J_skip ?_
    refine JX_then ?_
    refine J_seq ?_
    refine J_region ?_
    refine JO_read (Value.agg ((DataSet.enc alt)).toArray) rfl trivial (x_loadN 0 (DataSet.enc alt) rfl rfl Ty.ag23 Ty.sz23 rfl) ?_
    refine JO_read (Value.slice baseA base.length baseC) rfl trivial (fun _ _ => rfl) ?_
    refine JO_call [] [] [Ent.blk b1 23 (DataSet.enc alt)] rfl trivial (fun _ => x_call Ty.ca28 rfl) (fun _ h => h) (fun _ h => by cases h) (fun w hS => f28_ok alt base baseA baseC w (baseR.on hS (fun _ h => by cases h)) hy_ hy_) ?_
    rintro _ _ ⟨A4, c5, rfl, rfl⟩
    have ha6 := R26.recs_len alt base
    refine JO_read (Value.slice A4 ((R26.recs alt base).length) c5) rfl trivial (fun _ _ => rfl) ?_
    refine JO_nil ?_
    refine JX_then ?_
    refine J_seq ?_
    refine J_region ?_
    refine JO_op rfl trivial (O_makeMap vS fun b7 => ?_)
    refine JO_read (Value.map (some b7)) rfl trivial (fun _ _ => rfl) ?_
    refine JO_nil ?_
    refine JX_then ?_
    refine J_seq ?_
    refine J_seq ?_
    refine J_region ?_
    refine JO_read (Value.slice A4 ((R26.recs alt base).length) c5) rfl trivial (fun _ _ => rfl) ?_
    refine JO_read (vI (((R26.recs alt base).length : Nat) : Int)) rfl trivial (fun _ _ => x_len_sl Try.underlying33 rfl) ?_
    refine JO_read (vI 0) rfl trivial (fun _ _ => rfl) ?_
    refine JO_nil ?_
    refine JX_then ?_
    refine J_block ?_
    refine J_loop (X := Nat × (List Bytes)) (fun (⟨k, found⟩ : Nat × (List Bytes)) => (k ≤ (R26.recs alt base).length) ∧ (found = (R26.recs alt base).take k)) (fun (⟨k, found⟩ : Nat × (List Bytes)) => [(1, Value.slice baseA base.length baseC), (2, Value.pointer (some ⟨b1, 0, none⟩)), (5, Value.slice A4 ((R26.recs alt base).length) c5), (6, Value.map (some b7)), (30, Value.slice A4 ((R26.recs alt base).length) c5), (31, vI (((R26.recs alt base).length : Nat) : Int)), (32, vI ((k : Nat) : Int))]) (fun (⟨k, found⟩ : Nat × (List Bytes)) => [Ent.mp vS b7 (found.map kT), Ent.row (.slice A4 (R26.recs alt base).length c5) 9 1 (R26.recs alt base).length ((R26.recs alt base).map vS), Ent.blk b1 23 (DataSet.enc alt)]) (fun (⟨k, found⟩ : Nat × (List Bytes)) => (R26.recs alt base).length - k) ((0, ([] : List Bytes)) : Nat × (List Bytes)) ?_ ⟨rfl, rfl, rfl, rfl, rfl, rfl, rfl, trivial⟩ (fun _ h => h) ?_
    · show (0 ≤ (R26.recs alt base).length) ∧ (([] : List Bytes) = (R26.recs alt base).take 0)
      refine ⟨?_, ?_⟩
      · first | rfl | omega | (simp_all; done) | (simp_all; omega)
      · rfl
    rintro ⟨k, found⟩ hI1
    obtain ⟨i1_0, i1_1⟩ : (k ≤ (R26.recs alt base).length) ∧ (found = (R26.recs alt base).take k) := hI1
    have hok := fun (h : k < (R26.recs alt base).length) => R26.order_ok h
    refine J_weaken (E' := [(1, Value.slice baseA base.length baseC), (2, Value.pointer (some ⟨b1, 0, none⟩)), (5, Value.slice A4 ((R26.recs alt base).length) c5), (6, Value.map (some b7)), (30, Value.slice A4 ((R26.recs alt base).length) c5), (31, vI (((R26.recs alt base).length : Nat) : Int)), (32, vI ((k : Nat) : Int))]) (L' := [Ent.mp vS b7 (found.map kT), Ent.row (.slice A4 (R26.recs alt base).length c5) 9 1 (R26.recs alt base).length ((R26.recs alt base).map vS), Ent.blk b1 23 (DataSet.enc alt)]) ⟨rfl, rfl, rfl, rfl, rfl, rfl, rfl, trivial⟩ (fun _ h => h) ?_
    refine J_seq ?_
    refine J_region ?_
    refine JO_read (vB (decide (((k : Nat) : Int) < (((R26.recs alt base).length : Nat) : Int)))) rfl trivial (fun _ _ => x_lss_i rfl rfl) ?_
    refine JO_nil ?_
    refine JX_then ?_
    refine J_seq ?_
    refine J_cond (decide (((k : Nat) : Int) < (((R26.recs alt base).length : Nat) : Int))) rfl rfl (fun h8 => ?_) (fun h8 => ?_)
    · have h8w := h8
      have h8 := of_decide_eq_true h8
      refine J_skip ?_
      refine JX_then ?_
      refine J_seq ?_
      refine J_block ?_
      refine J_seq ?_
      refine J_region ?_
      refine JO_read (vI ((k : Nat) : Int)) rfl trivial (fun _ _ => rfl) ?_
      refine JO_read (Value.pointer (some (adr A4 k))) rfl trivial (x_indexAddr_at (k := k) (off := k) (cells_row 1 rfl) Try.underlying33 Ty.sz9 rfl rfl lt_ (by rw [List.length_map]; first | omega | (simp; omega) | (simp_all; omega) | (simp_all; done)) (Nat.mul_one _)) ?_
      refine JO_read (vS ((R26.recs alt base).getD k [])) rfl trivial (x_load_at (cells_row 1 rfl) rfl Ty.sc9 (map_at vS (R26.recs alt base) [] lt_)) ?_
      refine JO_read (vI ((k : Nat) : Int)) rfl trivial (fun _ _ => rfl) ?_
      refine JO_read (vS ((R26.recs alt base).getD k [])) rfl trivial (fun _ _ => rfl) ?_
      refine JO_nil ?_
      refine JX_then ?_
      refine J_seq ?_
      refine J_region ?_
      refine JO_read (Value.agg ((DataSet.enc alt)).toArray) rfl trivial (x_loadN 2 (DataSet.enc alt) rfl rfl Ty.ag23 Ty.sz23 rfl) ?_
      refine JO_read (vS ((R26.recs alt base).getD k [])) rfl trivial (fun _ _ => rfl) ?_
      refine JO_call [] [] [Ent.mp vS b7 (found.map kT), Ent.row (.slice A4 (R26.recs alt base).length c5) 9 1 (R26.recs alt base).length ((R26.recs alt base).map vS), Ent.blk b1 23 (DataSet.enc alt)] rfl trivial (fun _ => x_call Ty.ca21 rfl) (fun _ h => h) (fun _ h => by cases h) (fun w hS => f21_ok alt ((R26.recs alt base).getD k []) w) ?_
      rintro _ _ ⟨rfl, rfl⟩
      refine JO_read (Value.tuple #[vS ((R26.parts alt ((R26.recs alt base).getD k [])).1), vS ((R26.parts alt ((R26.recs alt base).getD k [])).2.1), vI ((R26.parts alt ((R26.recs alt base).getD k [])).2.2)]) rfl trivial (fun _ _ => rfl) ?_
      refine JO_read (vS ((R26.parts alt ((R26.recs alt base).getD k [])).1)) rfl trivial (fun _ _ => rfl) ?_
      refine JO_read (vS ((R26.parts alt ((R26.recs alt base).getD k [])).2.1)) rfl trivial (fun _ _ => rfl) ?_
      refine JO_read (vI ((R26.parts alt ((R26.recs alt base).getD k [])).2.2)) rfl trivial (fun _ _ => rfl) ?_
      refine JO_read (vS ((R26.parts alt ((R26.recs alt base).getD k [])).1)) rfl trivial (fun _ _ => rfl) ?_
      refine JO_read (vS ((R26.parts alt ((R26.recs alt base).getD k [])).2.1)) rfl trivial (fun _ _ => rfl) ?_
      refine JO_read (vI ((R26.parts alt ((R26.recs alt base).getD k [])).2.2)) rfl trivial (fun _ _ => rfl) ?_
      refine JO_nil ?_
      refine JX_then ?_
      refine J_seq ?_
      refine J_seq ?_
      refine J_region ?_
      refine JO_read (vI ((R26.parts alt ((R26.recs alt base).getD k [])).2.2)) rfl trivial (fun _ _ => rfl) ?_
      refine JO_read (vB (decide ((R26.parts alt ((R26.recs alt base).getD k [])).2.2 ≠ 0))) rfl trivial (fun _ _ => x_neq_i rfl rfl) ?_
      refine JO_nil ?_
      refine JX_then ?_
      refine J_cond (decide ((R26.parts alt ((R26.recs alt base).getD k [])).2.2 ≠ 0)) rfl rfl (fun h9 => ?_) (fun h9 => ?_)
      · have h9w := h9
        have h9 := of_decide_eq_true h9
        refine J_seq ?_
        refine J_region ?_
        refine JO_read (vB false) rfl trivial (fun _ _ => rfl) ?_
        refine JO_nil ?_
        refine JX_then ?_
        refine J_ret ?_
        refine JX_then_ret ?_
        refine JX_block_ret ?_
        refine JX_then_ret ?_
        refine JX_round_ret ?_
        refine JX_block_ret ?_
        refine JX_then_ret ?_
        refine JX_rets [vB false] (vB false) Try.results9 (fun w h => ⟨rfl, trivial⟩) rfl [] (fun _ h => h.keep [false, false, false] rfl) ⟨?_, ?_⟩
        · have e_x0 : (false : Bool) = true := by
            first | rfl | exact absurd (hok (by omega)) (by assumption) | exact (R26.order_bad (a := alt) (l := base) (k := k) (by omega) (by omega) (by assumption)).elim | exact (R26.lens_bad i1_1 (by omega) (by omega) i2_1 (by assumption)).elim | exact (R26.want_bad i1_1 (by omega) (by omega) i2_1 (i3_0 _ leftm) (by assumption)).elim
          exact congrArg (fun (x0 : Bool) => vB x0) e_x0
        · rfl
      · have h9w := h9
        have h9 := of_decide_eq_false h9
        refine J_skip ?_
        refine JX_then ?_
        refine J_seq ?_
        refine J_seq ?_
        refine J_region ?_
        refine JO_read (vI ((k : Nat) : Int)) rfl trivial (fun _ _ => rfl) ?_
        refine JO_read (vB (decide ((0 : Int) < ((k : Nat) : Int)))) rfl trivial (fun _ _ => x_gtr_i rfl rfl) ?_
        refine JO_nil ?_
        refine JX_then ?_
        refine J_cond (decide ((0 : Int) < ((k : Nat) : Int))) rfl rfl (fun h10 => ?_) (fun h10 => ?_)
        · have h10w := h10
          have h10 := of_decide_eq_true h10
          refine J_seq ?_
          refine J_draw [Ent.mp vS b7 (found.map kT), Ent.row (.slice A4 (R26.recs alt base).length c5) 9 1 (R26.recs alt base).length ((R26.recs alt base).map vS), Ent.blk b1 23 (DataSet.enc alt)] [] [Ent.mp vS b7 (found.map kT), Ent.row (.slice A4 (R26.recs alt base).length c5) 9 1 (R26.recs alt base).length ((R26.recs alt base).map vS), Ent.blk b1 23 (DataSet.enc alt)] 14 Ty.mixed rfl ?_
          refine JA_take 0 (Value.agg ((DataSet.enc alt)).toArray) rfl (by kernel_rfl) (by kernel_rfl) (by kernel_rfl) rfl (fun _ _ _ h => h) rfl trivial (x_loadN 2 (DataSet.enc alt) rfl rfl Ty.ag23 Ty.sz23 rfl) ?_
          refine JA_take 1 (Value.slice A4 ((R26.recs alt base).length) c5) rfl (by kernel_rfl) (by kernel_rfl) (by kernel_rfl) rfl (fun _ _ _ h => h) rfl trivial (fun _ _ => rfl) ?_
          refine JA_take 2 (vI ((k : Nat) : Int)) rfl (by kernel_rfl) (by kernel_rfl) (by kernel_rfl) rfl (fun _ _ _ h => h) rfl trivial (fun _ _ => rfl) ?_
          refine JA_take 3 (vI (((k : Nat) : Int) - 1)) rfl (by kernel_rfl) (by kernel_rfl) (by kernel_rfl) rfl (fun _ _ _ h => h) rfl trivial (fun _ _ => x_sub_i (a := ((k : Nat) : Int)) (b := 1) rfl rfl (by omega) (by omega)) ?_
          refine JA_take 4 (Value.pointer (some (adr A4 (k - 1)))) rfl (by kernel_rfl) (by kernel_rfl) (by kernel_rfl) rfl (fun _ _ _ h => h) rfl trivial (x_indexAddr_at (k := (k - 1)) (off := (k - 1)) (cells_row 1 rfl) Try.underlying33 Ty.sz9 rfl (ix_nat rfl (by omega)) lt_ (by rw [List.length_map]; first | omega | (simp; omega) | (simp_all; omega) | (simp_all; done)) (Nat.mul_one _)) ?_
          refine JA_take 5 (vS ((R26.recs alt base).getD (k - 1) [])) rfl (by kernel_rfl) (by kernel_rfl) (by kernel_rfl) rfl (fun _ _ _ h => h) rfl trivial (x_load_at (cells_row 1 rfl) rfl Ty.sc9 (map_at vS (R26.recs alt base) [] lt_)) ?_
          refine JA_one 6 (by kernel_rfl) (fun _ h => ⟨h, fun _ => h⟩) ?_
          refine JI_call [] [] [Ent.mp vS b7 (found.map kT), Ent.row (.slice A4 (R26.recs alt base).length c5) 9 1 (R26.recs alt base).length ((R26.recs alt base).map vS), Ent.blk b1 23 (DataSet.enc alt)] rfl rfl trivial (fun _ => x_call Ty.ca21 rfl) (fun _ h => h) (fun _ h => by cases h) (fun w hS => f21_ok alt ((R26.recs alt base).getD (k - 1) []) w) ?_
          rintro _ _ ⟨rfl, rfl⟩
          refine JA_take 7 (Value.tuple #[vS ((R26.parts alt ((R26.recs alt base).getD (k - 1) [])).1), vS ((R26.parts alt ((R26.recs alt base).getD (k - 1) [])).2.1), vI ((R26.parts alt ((R26.recs alt base).getD (k - 1) [])).2.2)]) rfl (by kernel_rfl) (by kernel_rfl) (by kernel_rfl) rfl (fun _ _ _ h => h) rfl trivial (fun _ _ => rfl) ?_
          refine JA_take 8 (vS ((R26.parts alt ((R26.recs alt base).getD (k - 1) [])).1)) rfl (by kernel_rfl) (by kernel_rfl) (by kernel_rfl) rfl (fun _ _ _ h => h) rfl trivial (fun _ _ => rfl) ?_
          refine JA_take 9 (vS ((R26.parts alt ((R26.recs alt base).getD (k - 1) [])).2.1)) rfl (by kernel_rfl) (by kernel_rfl) (by kernel_rfl) rfl (fun _ _ _ h => h) rfl trivial (fun _ _ => rfl) ?_
          refine JA_take 10 (vI ((R26.parts alt ((R26.recs alt base).getD (k - 1) [])).2.2)) rfl (by kernel_rfl) (by kernel_rfl) (by kernel_rfl) rfl (fun _ _ _ h => h) rfl trivial (fun _ _ => rfl) ?_
          refine JA_take 11 (vS ((R26.parts alt ((R26.recs alt base).getD (k - 1) [])).1)) rfl (by kernel_rfl) (by kernel_rfl) (by kernel_rfl) rfl (fun _ _ _ h => h) rfl trivial (fun _ _ => rfl) ?_
          refine JA_take 12 (vS ((R26.parts alt ((R26.recs alt base).getD (k - 1) [])).2.1)) rfl (by kernel_rfl) (by kernel_rfl) (by kernel_rfl) rfl (fun _ _ _ h => h) rfl trivial (fun _ _ => rfl) ?_
          refine JA_take 13 (vI ((R26.parts alt ((R26.recs alt base).getD (k - 1) [])).2.2)) rfl (by kernel_rfl) (by kernel_rfl) (by kernel_rfl) rfl (fun _ _ _ h => h) rfl trivial (fun _ _ => rfl) ?_
          refine JA_done (by kernel_rfl) (fun _ h => ⟨h, fun _ => h⟩) ?_
          refine JX_then ?_
          refine J_seq ?_
          refine J_region ?_
          refine JO_read (vS ((R26.parts alt ((R26.recs alt base).getD (k - 1) [])).1)) rfl trivial (fun _ _ => rfl) ?_
          refine JO_read (vS ((R26.parts alt ((R26.recs alt base).getD k [])).1)) rfl trivial (fun _ _ => rfl) ?_
          refine JO_read (vB (!((Op.bytesLess ((R26.parts alt ((R26.recs alt base).getD (k - 1) [])).1) ((R26.parts alt ((R26.recs alt base).getD k [])).1)) || (decide ((R26.parts alt ((R26.recs alt base).getD (k - 1) [])).1 = (R26.parts alt ((R26.recs alt base).getD k [])).1))))) rfl trivial (fun _ _ => x_gtr_s rfl rfl) ?_
          refine JO_read (vB (!((Op.bytesLess ((R26.parts alt ((R26.recs alt base).getD (k - 1) [])).1) ((R26.parts alt ((R26.recs alt base).getD k [])).1)) || (decide ((R26.parts alt ((R26.recs alt base).getD (k - 1) [])).1 = (R26.parts alt ((R26.recs alt base).getD k [])).1))))) rfl trivial (fun _ _ => rfl) ?_
          refine JO_cut (X := Bool) 9 (fun z => z = ((!((Op.bytesLess ((R26.parts alt ((R26.recs alt base).getD (k - 1) [])).1) ((R26.parts alt ((R26.recs alt base).getD k [])).1)) || (decide ((R26.parts alt ((R26.recs alt base).getD (k - 1) [])).1 = (R26.parts alt ((R26.recs alt base).getD k [])).1)))) || ((decide ((R26.parts alt ((R26.recs alt base).getD (k - 1) [])).1 = (R26.parts alt ((R26.recs alt base).getD k [])).1)) && (!(Op.bytesLess ((R26.parts alt ((R26.recs alt base).getD (k - 1) [])).2.1) ((R26.parts alt ((R26.recs alt base).getD k [])).2.1)))))) (fun z => [(1, Value.slice baseA base.length baseC), (2, Value.pointer (some ⟨b1, 0, none⟩)), (5, Value.slice A4 ((R26.recs alt base).length) c5), (6, Value.map (some b7)), (30, Value.slice A4 ((R26.recs alt base).length) c5), (31, vI (((R26.recs alt base).length : Nat) : Int)), (32, vI ((k : Nat) : Int)), (8, vS ((R26.recs alt base).getD k [])), (71, vB z)]) (fun _ => [Ent.mp vS b7 (found.map kT), Ent.row (.slice A4 (R26.recs alt base).length c5) 9 1 (R26.recs alt base).length ((R26.recs alt base).map vS), Ent.blk b1 23 (DataSet.enc alt)]) ?_ ?_
          · rcases Bool.eq_false_or_eq_true (!((Op.bytesLess ((R26.parts alt ((R26.recs alt base).getD (k - 1) [])).1) ((R26.parts alt ((R26.recs alt base).getD k [])).1)) || (decide ((R26.parts alt ((R26.recs alt base).getD (k - 1) [])).1 = (R26.parts alt ((R26.recs alt base).getD k [])).1)))) with g12 | g12
            · have g12r := g12
              have g12r : ((Op.bytesLess ((R26.parts alt ((R26.recs alt base).getD (k - 1) [])).1) ((R26.parts alt ((R26.recs alt base).getD k [])).1)) || (decide ((R26.parts alt ((R26.recs alt base).getD (k - 1) [])).1 = (R26.parts alt ((R26.recs alt base).getD k [])).1))) = false := bnot_true g12r
              have ⟨g12r, h13⟩ := bor_false g12r
              have h13 := of_decide_eq_false h13
              refine JO_shun rfl ⟨_, rfl, g12⟩ ?_
              refine JO_shun rfl ⟨_, rfl, g12⟩ ?_
              refine JO_shun rfl ⟨_, rfl, g12⟩ ?_
              refine JO_shun rfl ⟨_, rfl, g12⟩ ?_
              refine JO_shunU rfl ⟨_, rfl, rfl⟩ ?_
              refine JO_shunU rfl ⟨_, rfl, rfl⟩ ?_
              refine JO_shunU rfl ⟨_, rfl, rfl⟩ ?_
              refine JO_shun rfl ⟨_, rfl, g12⟩ ?_
              refine JO_read (vB true) rfl trivial (fun _ _ => x_pick_t rfl g12 rfl) ?_
              refine JO_nil (JX_cut (true) (by rw [g12]; simp) ⟨rfl, rfl, rfl, rfl, rfl, rfl, rfl, rfl, rfl, trivial⟩ (fun _ h => h))
            · have g12r := g12
              have g12r : ((Op.bytesLess ((R26.parts alt ((R26.recs alt base).getD (k - 1) [])).1) ((R26.parts alt ((R26.recs alt base).getD k [])).1)) || (decide ((R26.parts alt ((R26.recs alt base).getD (k - 1) [])).1 = (R26.parts alt ((R26.recs alt base).getD k [])).1))) = true := bnot_false g12r
              simp only [Bool.and_eq_true, Bool.or_eq_true, Bool.and_eq_false_iff, Bool.or_eq_false_iff, Bool.not_eq_true', Bool.not_eq_false', decide_eq_true_eq, decide_eq_false_iff_not] at g12r
              refine JO_read (vS ((R26.parts alt ((R26.recs alt base).getD (k - 1) [])).1)) rfl ⟨_, rfl, g12⟩ (fun _ _ => rfl) ?_
              refine JO_read (vS ((R26.parts alt ((R26.recs alt base).getD k [])).1)) rfl ⟨_, rfl, g12⟩ (fun _ _ => rfl) ?_
              refine JO_read (vB (decide ((R26.parts alt ((R26.recs alt base).getD (k - 1) [])).1 = (R26.parts alt ((R26.recs alt base).getD k [])).1))) rfl ⟨_, rfl, g12⟩ (fun _ _ => x_eql_s rfl rfl) ?_
              refine JO_read (vB (decide ((R26.parts alt ((R26.recs alt base).getD (k - 1) [])).1 = (R26.parts alt ((R26.recs alt base).getD k [])).1))) rfl ⟨_, rfl, g12⟩ (fun _ _ => rfl) ?_
              refine JO_cut (X := Bool) 4 (fun z => z = ((decide ((R26.parts alt ((R26.recs alt base).getD (k - 1) [])).1 = (R26.parts alt ((R26.recs alt base).getD k [])).1)) && (!(Op.bytesLess ((R26.parts alt ((R26.recs alt base).getD (k - 1) [])).2.1) ((R26.parts alt ((R26.recs alt base).getD k [])).2.1))))) (fun z => [(1, Value.slice baseA base.length baseC), (2, Value.pointer (some ⟨b1, 0, none⟩)), (5, Value.slice A4 ((R26.recs alt base).length) c5), (6, Value.map (some b7)), (30, Value.slice A4 ((R26.recs alt base).length) c5), (31, vI (((R26.recs alt base).length : Nat) : Int)), (32, vI ((k : Nat) : Int)), (8, vS ((R26.recs alt base).getD k [])), (62, vB (!((Op.bytesLess ((R26.parts alt ((R26.recs alt base).getD (k - 1) [])).1) ((R26.parts alt ((R26.recs alt base).getD k [])).1)) || (decide ((R26.parts alt ((R26.recs alt base).getD (k - 1) [])).1 = (R26.parts alt ((R26.recs alt base).getD k [])).1))))), (70, vB z)]) (fun _ => [Ent.mp vS b7 (found.map kT), Ent.row (.slice A4 (R26.recs alt base).length c5) 9 1 (R26.recs alt base).length ((R26.recs alt base).map vS), Ent.blk b1 23 (DataSet.enc alt)]) ?_ ?_
              · rcases Bool.eq_false_or_eq_true (decide ((R26.parts alt ((R26.recs alt base).getD (k - 1) [])).1 = (R26.parts alt ((R26.recs alt base).getD k [])).1)) with g15 | g15
                · have g15r := g15
                  have g15r := of_decide_eq_true g15r
                  refine JO_read (vS ((R26.parts alt ((R26.recs alt base).getD (k - 1) [])).2.1)) rfl ⟨_, rfl, g15⟩ (fun _ _ => rfl) ?_
                  refine JO_read (vS ((R26.parts alt ((R26.recs alt base).getD k [])).2.1)) rfl ⟨_, rfl, g15⟩ (fun _ _ => rfl) ?_
                  refine JO_read (vB (!(Op.bytesLess ((R26.parts alt ((R26.recs alt base).getD (k - 1) [])).2.1) ((R26.parts alt ((R26.recs alt base).getD k [])).2.1)))) rfl ⟨_, rfl, g15⟩ (fun _ _ => x_geq_s rfl rfl) ?_
                  refine JO_read (vB (!(Op.bytesLess ((R26.parts alt ((R26.recs alt base).getD (k - 1) [])).2.1) ((R26.parts alt ((R26.recs alt base).getD k [])).2.1)))) rfl ⟨_, rfl, g12⟩ (fun _ _ => x_pick_t rfl g15 rfl) ?_
                  refine JO_nil (JX_cut (!(Op.bytesLess ((R26.parts alt ((R26.recs alt base).getD (k - 1) [])).2.1) ((R26.parts alt ((R26.recs alt base).getD k [])).2.1))) (by rw [g15]; simp) ⟨rfl, rfl, rfl, rfl, rfl, rfl, rfl, rfl, rfl, rfl, trivial⟩ (fun _ h => h))
                · have g15r := g15
                  have g15r := of_decide_eq_false g15r
                  refine JO_shun rfl ⟨_, rfl, g15⟩ ?_
                  refine JO_shun rfl ⟨_, rfl, g15⟩ ?_
                  refine JO_shun rfl ⟨_, rfl, g15⟩ ?_
                  refine JO_read (vB false) rfl ⟨_, rfl, g12⟩ (fun _ _ => x_pick_f rfl g15 rfl) ?_
                  refine JO_nil (JX_cut (false) (by rw [g15]; simp) ⟨rfl, rfl, rfl, rfl, rfl, rfl, rfl, rfl, rfl, rfl, trivial⟩ (fun _ h => h))
              rintro z14 rfl
              refine JO_read (vB ((decide ((R26.parts alt ((R26.recs alt base).getD (k - 1) [])).1 = (R26.parts alt ((R26.recs alt base).getD k [])).1)) && (!(Op.bytesLess ((R26.parts alt ((R26.recs alt base).getD (k - 1) [])).2.1) ((R26.parts alt ((R26.recs alt base).getD k [])).2.1))))) rfl trivial (fun _ _ => x_pick_f rfl g12 rfl) ?_
              refine JO_nil (JX_cut ((decide ((R26.parts alt ((R26.recs alt base).getD (k - 1) [])).1 = (R26.parts alt ((R26.recs alt base).getD k [])).1)) && (!(Op.bytesLess ((R26.parts alt ((R26.recs alt base).getD (k - 1) [])).2.1) ((R26.parts alt ((R26.recs alt base).getD k [])).2.1)))) (by rw [g12]; simp) ⟨rfl, rfl, rfl, rfl, rfl, rfl, rfl, rfl, rfl, trivial⟩ (fun _ h => h))
          rintro z11 rfl
          refine JO_nil ?_
          refine JX_then ?_
          refine J_cond ((!((Op.bytesLess ((R26.parts alt ((R26.recs alt base).getD (k - 1) [])).1) ((R26.parts alt ((R26.recs alt base).getD k [])).1)) || (decide ((R26.parts alt ((R26.recs alt base).getD (k - 1) [])).1 = (R26.parts alt ((R26.recs alt base).getD k [])).1)))) || ((decide ((R26.parts alt ((R26.recs alt base).getD (k - 1) [])).1 = (R26.parts alt ((R26.recs alt base).getD k [])).1)) && (!(Op.bytesLess ((R26.parts alt ((R26.recs alt base).getD (k - 1) [])).2.1) ((R26.parts alt ((R26.recs alt base).getD k [])).2.1))))) rfl rfl (fun h16 => ?_) (fun h16 => ?_)
          · have h16w := h16
            simp only [Bool.and_eq_true, Bool.or_eq_true, Bool.and_eq_false_iff, Bool.or_eq_false_iff, Bool.not_eq_true', Bool.not_eq_false', decide_eq_true_eq, decide_eq_false_iff_not] at h16
            refine J_seq ?_
            refine J_region ?_
            refine JO_read (vB false) rfl trivial (fun _ _ => rfl) ?_
            refine JO_nil ?_
            refine JX_then ?_
            refine J_ret ?_
            refine JX_then_ret ?_
            refine JX_block_ret ?_
            refine JX_then_ret ?_
            refine JX_round_ret ?_
            refine JX_block_ret ?_
            refine JX_then_ret ?_
            refine JX_rets [vB false] (vB false) Try.results9 (fun w h => ⟨rfl, trivial⟩) rfl [] (fun _ h => h.keep [false, false, false] rfl) ⟨?_, ?_⟩
            · have e_x0 : (false : Bool) = true := by
                first | rfl | exact absurd (hok (by omega)) (by assumption) | exact (R26.order_bad (a := alt) (l := base) (k := k) (by omega) (by omega) (by assumption)).elim | exact (R26.lens_bad i1_1 (by omega) (by omega) i2_1 (by assumption)).elim | exact (R26.want_bad i1_1 (by omega) (by omega) i2_1 (i3_0 _ leftm) (by assumption)).elim
              exact congrArg (fun (x0 : Bool) => vB x0) e_x0
            · rfl
          · have h16w := h16
            have ⟨h16, h17⟩ := bor_false h16
            have h16 : ((Op.bytesLess ((R26.parts alt ((R26.recs alt base).getD (k - 1) [])).1) ((R26.parts alt ((R26.recs alt base).getD k [])).1)) || (decide ((R26.parts alt ((R26.recs alt base).getD (k - 1) [])).1 = (R26.parts alt ((R26.recs alt base).getD k [])).1))) = true := bnot_false h16
            simp only [Bool.and_eq_true, Bool.or_eq_true, Bool.and_eq_false_iff, Bool.or_eq_false_iff, Bool.not_eq_true', Bool.not_eq_false', decide_eq_true_eq, decide_eq_false_iff_not] at h16
            simp only [Bool.and_eq_true, Bool.or_eq_true, Bool.and_eq_false_iff, Bool.or_eq_false_iff, Bool.not_eq_true', Bool.not_eq_false', decide_eq_true_eq, decide_eq_false_iff_not] at h17
            refine J_skip ?_
            refine JX_then ?_
            refine J_region ?_
            refine JO_read (Value.map (some b7)) rfl trivial (fun _ _ => rfl) ?_
            refine JO_read (vS ((R26.recs alt base).getD k [])) rfl trivial (fun _ _ => rfl) ?_
            refine JO_op rfl trivial (O_mapUpdate 0 (f := vS) (k := ((R26.recs alt base).getD k [])) ((addK found ((R26.recs alt base).getD k [])).map kT) [Ent.mp vS b7 ((addK found ((R26.recs alt base).getD k [])).map kT), Ent.row (.slice A4 (R26.recs alt base).length c5) 9 1 (R26.recs alt base).length ((R26.recs alt base).map vS), Ent.blk b1 23 (DataSet.enc alt)] rfl rfl rfl rfl Try.underlying53 (mapK_s Try.underlying9) (upd_kT found ((R26.recs alt base).getD k [])) rfl ?_)
            refine JO_nil ?_
            refine JX_block ?_
            refine JX_then ?_
            refine J_region ?_
            refine JO_read (vI ((k + 1 : Nat) : Int)) rfl trivial (fun _ _ => x_add_n (a := k) (b := 1) rfl rfl (by omega)) ?_
            refine JO_read (vI ((k + 1 : Nat) : Int)) rfl trivial (fun _ _ => rfl) ?_
            refine JO_nil ?_
            refine JX_round ((k + 1, (addK found ((R26.recs alt base).getD k []))) : Nat × (List Bytes)) ?_ ?_ ⟨rfl, rfl, rfl, rfl, rfl, rfl, rfl, trivial⟩ (fun _ h => h)
            · show ((k + 1) ≤ (R26.recs alt base).length) ∧ ((addK found ((R26.recs alt base).getD k [])) = (R26.recs alt base).take (k + 1))
              refine ⟨?_, ?_⟩
              · first | rfl | omega | (simp_all; done) | (simp_all; omega)
              · exact R26.found_step (by omega) i1_1
            · show (R26.recs alt base).length - (k + 1) < (R26.recs alt base).length - k
              first | omega | (simp; omega) | (simp_all; omega)
        · have h10w := h10
          have h10 := of_decide_eq_false h10
          refine J_skip ?_
          refine JX_then ?_
          refine J_region ?_
          refine JO_read (Value.map (some b7)) rfl trivial (fun _ _ => rfl) ?_
          refine JO_read (vS ((R26.recs alt base).getD k [])) rfl trivial (fun _ _ => rfl) ?_
          refine JO_op rfl trivial (O_mapUpdate 0 (f := vS) (k := ((R26.recs alt base).getD k [])) ((addK found ((R26.recs alt base).getD k [])).map kT) [Ent.mp vS b7 ((addK found ((R26.recs alt base).getD k [])).map kT), Ent.row (.slice A4 (R26.recs alt base).length c5) 9 1 (R26.recs alt base).length ((R26.recs alt base).map vS), Ent.blk b1 23 (DataSet.enc alt)] rfl rfl rfl rfl Try.underlying53 (mapK_s Try.underlying9) (upd_kT found ((R26.recs alt base).getD k [])) rfl ?_)
          refine JO_nil ?_
          refine JX_block ?_
          refine JX_then ?_
          refine J_region ?_
          refine JO_read (vI ((k + 1 : Nat) : Int)) rfl trivial (fun _ _ => x_add_n (a := k) (b := 1) rfl rfl (by omega)) ?_
          refine JO_read (vI ((k + 1 : Nat) : Int)) rfl trivial (fun _ _ => rfl) ?_
          refine JO_nil ?_
          refine JX_round ((k + 1, (addK found ((R26.recs alt base).getD k []))) : Nat × (List Bytes)) ?_ ?_ ⟨rfl, rfl, rfl, rfl, rfl, rfl, rfl, trivial⟩ (fun _ h => h)
          · show ((k + 1) ≤ (R26.recs alt base).length) ∧ ((addK found ((R26.recs alt base).getD k [])) = (R26.recs alt base).take (k + 1))
            refine ⟨?_, ?_⟩
            · first | rfl | omega | (simp_all; done) | (simp_all; omega)
            · exact R26.found_step (by omega) i1_1
          · show (R26.recs alt base).length - (k + 1) < (R26.recs alt base).length - k
            first | omega | (simp; omega) | (simp_all; omega)
    · have h8w := h8
      have h8 := of_decide_eq_false h8
      refine J_exit ?_
      refine JX_then_exit ?_
      refine JX_round_exit ?_
      refine JX_block_hit ?_
      refine JX_then ?_
      refine J_seq ?_
      refine J_region ?_
      refine JO_op rfl trivial (O_makeMap vS fun b18 => ?_)
      refine JO_read (Value.map (some b18)) rfl trivial (fun _ _ => rfl) ?_
      refine JO_nil ?_
      refine JX_then ?_
      refine J_seq ?_
      refine J_seq ?_
      refine J_region ?_
      refine JO_read (Value.slice baseA base.length baseC) rfl trivial (fun _ _ => rfl) ?_
      refine JO_read (vI ((base.length : Nat) : Int)) rfl trivial (fun _ _ => x_len_sl Try.underlying47 rfl) ?_
      refine JO_read (vI 0) rfl trivial (fun _ _ => rfl) ?_
      refine JO_nil ?_
      refine JX_then ?_
      refine J_block ?_
      refine J_loop (X := Nat × (List Bytes)) (fun (⟨n, want⟩ : Nat × (List Bytes)) => (n ≤ base.length) ∧ (R26.Wants alt (base.take n) want) ∧ (want.length ≤ n)) (fun (⟨n, want⟩ : Nat × (List Bytes)) => [(2, Value.pointer (some ⟨b1, 0, none⟩)), (5, Value.slice A4 ((R26.recs alt base).length) c5), (6, Value.map (some b7)), (15, Value.map (some b18)), (76, Value.slice baseA base.length baseC), (77, vI ((base.length : Nat) : Int)), (78, vI ((n : Nat) : Int))]) (fun (⟨n, want⟩ : Nat × (List Bytes)) => [Ent.mp vS b18 (want.map kT), Ent.mp vS b7 (found.map kT), Ent.row (.slice A4 (R26.recs alt base).length c5) 9 1 (R26.recs alt base).length ((R26.recs alt base).map vS), Ent.blk b1 23 (DataSet.enc alt)]) (fun (⟨n, want⟩ : Nat × (List Bytes)) => base.length - n) ((0, ([] : List Bytes)) : Nat × (List Bytes)) ?_ ⟨rfl, rfl, rfl, rfl, rfl, rfl, rfl, trivial⟩ (fun _ h => h) ?_
      · show (0 ≤ base.length) ∧ (R26.Wants alt (base.take 0) ([] : List Bytes)) ∧ (([] : List Bytes).length ≤ 0)
        refine ⟨?_, ?_, ?_⟩
        · first | rfl | omega | (simp_all; done) | (simp_all; omega)
        · exact R26.wants_nil
        · exact Nat.le_refl _
      rintro ⟨n, want⟩ hI2
      obtain ⟨i2_0, i2_1, i2_2⟩ : (n ≤ base.length) ∧ (R26.Wants alt (base.take n) want) ∧ (want.length ≤ n) := hI2
      have hqn := (R26.few_facts (l := base) (m := 40) (by assumption)).2 n
      refine J_weaken (E' := [(2, Value.pointer (some ⟨b1, 0, none⟩)), (5, Value.slice A4 ((R26.recs alt base).length) c5), (6, Value.map (some b7)), (15, Value.map (some b18)), (76, Value.slice baseA base.length baseC), (77, vI ((base.length : Nat) : Int)), (78, vI ((n : Nat) : Int))]) (L' := [Ent.mp vS b18 (want.map kT), Ent.mp vS b7 (found.map kT), Ent.row (.slice A4 (R26.recs alt base).length c5) 9 1 (R26.recs alt base).length ((R26.recs alt base).map vS), Ent.blk b1 23 (DataSet.enc alt)]) ⟨rfl, rfl, rfl, rfl, rfl, rfl, rfl, trivial⟩ (fun _ h => h) ?_
      refine J_seq ?_
      refine J_region ?_
      refine JO_read (vB (decide (((n : Nat) : Int) < ((base.length : Nat) : Int)))) rfl trivial (fun _ _ => x_lss_i rfl rfl) ?_
      refine JO_nil ?_
      refine JX_then ?_
      refine J_seq ?_
      refine J_cond (decide (((n : Nat) : Int) < ((base.length : Nat) : Int))) rfl rfl (fun h19 => ?_) (fun h19 => ?_)
      · have h19w := h19
        have h19 := of_decide_eq_true h19
        refine J_skip ?_
        refine JX_then ?_
        refine J_seq ?_
        refine J_block ?_
        refine J_seq ?_
        refine J_region ?_
        refine JO_read (Value.pointer (some (adr baseA (n * 2)))) rfl trivial (x_indexAddr_at (k := n) (off := n * 2) (cells_ro baseR) Try.underlying47 Ty.sz55 rfl rfl lt_ (by rw [flat_length Pair.enc 2 Pair.enc_len]; first | omega | (simp; omega) | (simp_all; omega) | (simp_all; done)) rfl) ?_
        refine JO_read (Value.agg #[vS ((base.getD n default).key), vS ((base.getD n default).record)]) rfl trivial (x_loadN_at [vS ((base.getD n default).key), vS ((base.getD n default).record)] (cells_ro baseR) rfl Ty.ag55 Ty.sz55 (flat_drop Pair.enc 2 Pair.enc_len base default n lt_)) ?_
        refine JO_op rfl trivial (O_alloc Ty.ze55 rfl fun b20 => ?_)
        refine JO_op rfl trivial (O_store 0 [vS ((base.getD n default).key), vS ((base.getD n default).record)] [Ent.blk b20 55 [vS ((base.getD n default).key), vS ((base.getD n default).record)], Ent.mp vS b18 (want.map kT), Ent.mp vS b7 (found.map kT), Ent.row (.slice A4 (R26.recs alt base).length c5) 9 1 (R26.recs alt base).length ((R26.recs alt base).map vS), Ent.blk b1 23 (DataSet.enc alt)] rfl rfl rfl Ty.sz55 rfl (Nat.le_of_ble_eq_true rfl) rfl rfl rfl ?_)
        refine JO_nil ?_
        refine JX_then ?_
        refine J_seq ?_
        refine J_region ?_
        refine JO_read (Value.agg ((DataSet.enc alt)).toArray) rfl trivial (x_loadN 4 (DataSet.enc alt) rfl rfl Ty.ag23 Ty.sz23 rfl) ?_
        refine JO_read (Value.pointer (some ⟨b20, 1, none⟩)) rfl trivial (fun _ _ => x_fieldAddr Ty.fi55_1 rfl rfl) ?_
        refine JO_read (vS ((base.getD n default).record)) rfl trivial (x_load 0 rfl rfl Ty.sc9 rfl) ?_
        refine JO_call [] [] [Ent.blk b20 55 [vS ((base.getD n default).key), vS ((base.getD n default).record)], Ent.mp vS b18 (want.map kT), Ent.mp vS b7 (found.map kT), Ent.row (.slice A4 (R26.recs alt base).length c5) 9 1 (R26.recs alt base).length ((R26.recs alt base).map vS), Ent.blk b1 23 (DataSet.enc alt)] rfl trivial (fun _ => x_call Ty.ca17 rfl) (fun _ h => h) (fun _ h => by cases h) (fun w hS => f17_ok alt ((base.getD n default).record) w) ?_
        rintro _ _ ⟨rfl, rfl⟩
        refine JO_read (Value.tuple #[vS ((R26.key alt ((base.getD n default).record)).1), vB ((R26.key alt ((base.getD n default).record)).2)]) rfl trivial (fun _ _ => rfl) ?_
        refine JO_read (vS ((R26.key alt ((base.getD n default).record)).1)) rfl trivial (fun _ _ => rfl) ?_
        refine JO_read (vB ((R26.key alt ((base.getD n default).record)).2)) rfl trivial (fun _ _ => rfl) ?_
        refine JO_read (vS ((R26.key alt ((base.getD n default).record)).1)) rfl trivial (fun _ _ => rfl) ?_
        refine JO_read (vB ((R26.key alt ((base.getD n default).record)).2)) rfl trivial (fun _ _ => rfl) ?_
        refine JO_nil ?_
        refine JX_then ?_
        refine J_seq ?_
        refine J_region ?_
        refine JO_read (vB ((R26.key alt ((base.getD n default).record)).2)) rfl trivial (fun _ _ => rfl) ?_
        refine JO_read (vB ((R26.key alt ((base.getD n default).record)).2)) rfl trivial (fun _ _ => rfl) ?_
        refine JO_cut (X := Bool) 10 (fun z => z = (((R26.key alt ((base.getD n default).record)).2) && (decide ((((((base.getD n default).key).length) + (((R26.key alt ((base.getD n default).record)).1).length) : Nat) : Int) = alt.KeyLength)))) (fun z => [(2, Value.pointer (some ⟨b1, 0, none⟩)), (5, Value.slice A4 ((R26.recs alt base).length) c5), (6, Value.map (some b7)), (15, Value.map (some b18)), (76, Value.slice baseA base.length baseC), (77, vI ((base.length : Nat) : Int)), (78, vI ((n : Nat) : Int)), (17, Value.pointer (some ⟨b20, 0, none⟩)), (18, vS ((R26.key alt ((base.getD n default).record)).1)), (100, vB z)]) (fun _ => [Ent.blk b20 55 [vS ((base.getD n default).key), vS ((base.getD n default).record)], Ent.mp vS b18 (want.map kT), Ent.mp vS b7 (found.map kT), Ent.row (.slice A4 (R26.recs alt base).length c5) 9 1 (R26.recs alt base).length ((R26.recs alt base).map vS), Ent.blk b1 23 (DataSet.enc alt)]) ?_ ?_
        · rcases Bool.eq_false_or_eq_true ((R26.key alt ((base.getD n default).record)).2) with g22 | g22
          · have g22r := g22
            have hi23 := R26.key_facts g22r
            refine JO_read (Value.pointer (some ⟨b20, 0, none⟩)) rfl ⟨_, rfl, g22⟩ (fun _ _ => x_fieldAddr Ty.fi55_0 rfl rfl) ?_
            refine JO_read (vS ((base.getD n default).key)) rfl ⟨_, rfl, g22⟩ (x_load 0 rfl rfl Ty.sc9 rfl) ?_
            refine JO_read (vI ((((base.getD n default).key).length : Nat) : Int)) rfl ⟨_, rfl, g22⟩ (fun _ _ => x_len_s rfl Try.underlying9) ?_
            refine JO_read (vS ((R26.key alt ((base.getD n default).record)).1)) rfl ⟨_, rfl, g22⟩ (fun _ _ => rfl) ?_
            refine JO_read (vI ((((R26.key alt ((base.getD n default).record)).1).length : Nat) : Int)) rfl ⟨_, rfl, g22⟩ (fun _ _ => x_len_s rfl Try.underlying9) ?_
            refine JO_read (vI (((((base.getD n default).key).length) + (((R26.key alt ((base.getD n default).record)).1).length) : Nat) : Int)) rfl ⟨_, rfl, g22⟩ (fun _ _ => x_add_n (a := ((base.getD n default).key).length) (b := ((R26.key alt ((base.getD n default).record)).1).length) rfl rfl (by omega)) ?_
            refine JO_read (Value.pointer (some ⟨b1, 6, none⟩)) rfl ⟨_, rfl, g22⟩ (fun _ _ => x_fieldAddr Ty.fi23_6 rfl rfl) ?_
            refine JO_read (vI alt.KeyLength) rfl ⟨_, rfl, g22⟩ (x_load 4 rfl rfl Ty.sc3 rfl) ?_
            refine JO_read (vB (decide ((((((base.getD n default).key).length) + (((R26.key alt ((base.getD n default).record)).1).length) : Nat) : Int) = alt.KeyLength))) rfl ⟨_, rfl, g22⟩ (fun _ _ => x_eql_i rfl rfl) ?_
            refine JO_read (vB (decide ((((((base.getD n default).key).length) + (((R26.key alt ((base.getD n default).record)).1).length) : Nat) : Int) = alt.KeyLength))) rfl trivial (fun _ _ => x_pick_t rfl g22 rfl) ?_
            refine JO_nil (JX_cut (decide ((((((base.getD n default).key).length) + (((R26.key alt ((base.getD n default).record)).1).length) : Nat) : Int) = alt.KeyLength)) (by rw [g22]; simp) ⟨rfl, rfl, rfl, rfl, rfl, rfl, rfl, rfl, rfl, rfl, trivial⟩ (fun _ h => h))
          · have g22r := g22
            refine JO_shun rfl ⟨_, rfl, g22⟩ ?_
            refine JO_shun rfl ⟨_, rfl, g22⟩ ?_
            refine JO_shun rfl ⟨_, rfl, g22⟩ ?_
            refine JO_shun rfl ⟨_, rfl, g22⟩ ?_
            refine JO_shun rfl ⟨_, rfl, g22⟩ ?_
            refine JO_shun rfl ⟨_, rfl, g22⟩ ?_
            refine JO_shun rfl ⟨_, rfl, g22⟩ ?_
            refine JO_shun rfl ⟨_, rfl, g22⟩ ?_
            refine JO_shun rfl ⟨_, rfl, g22⟩ ?_
            refine JO_read (vB false) rfl trivial (fun _ _ => x_pick_f rfl g22 rfl) ?_
            refine JO_nil (JX_cut (false) (by rw [g22]; simp) ⟨rfl, rfl, rfl, rfl, rfl, rfl, rfl, rfl, rfl, rfl, trivial⟩ (fun _ h => h))
        rintro z21 rfl
        refine JO_nil ?_
        refine JX_then ?_
        refine J_cond (((R26.key alt ((base.getD n default).record)).2) && (decide ((((((base.getD n default).key).length) + (((R26.key alt ((base.getD n default).record)).1).length) : Nat) : Int) = alt.KeyLength))) rfl rfl (fun h24 => ?_) (fun h24 => ?_)
        · have h24w := h24
          have ⟨h24, h25⟩ := band_true h24
          have hi26 := R26.key_facts h24
          have h25 := of_decide_eq_true h25
          refine J_region ?_
          refine JO_read (Value.map (some b18)) rfl trivial (fun _ _ => rfl) ?_
          refine JO_read (vS ((R26.key alt ((base.getD n default).record)).1)) rfl trivial (fun _ _ => rfl) ?_
          refine JO_read (Value.pointer (some ⟨b20, 0, none⟩)) rfl trivial (fun _ _ => x_fieldAddr Ty.fi55_0 rfl rfl) ?_
          refine JO_read (vS ((base.getD n default).key)) rfl trivial (x_load 0 rfl rfl Ty.sc9 rfl) ?_
          refine JO_read (vS (((R26.key alt ((base.getD n default).record)).1) ++ ((base.getD n default).key))) rfl trivial (fun _ _ => x_cat_s rfl rfl (by first | omega | (simp only [List.length_append, List.length_cons, List.length_nil]; omega) | (simp; omega) | (simp_all; omega))) ?_
          refine JO_op rfl trivial (O_mapUpdate 1 (f := vS) (k := ((R26.key alt ((base.getD n default).record)).1) ++ ((base.getD n default).key)) ((addK want (((R26.key alt ((base.getD n default).record)).1) ++ ((base.getD n default).key))).map kT) [Ent.blk b20 55 [vS ((base.getD n default).key), vS ((base.getD n default).record)], Ent.mp vS b18 ((addK want (((R26.key alt ((base.getD n default).record)).1) ++ ((base.getD n default).key))).map kT), Ent.mp vS b7 (found.map kT), Ent.row (.slice A4 (R26.recs alt base).length c5) 9 1 (R26.recs alt base).length ((R26.recs alt base).map vS), Ent.blk b1 23 (DataSet.enc alt)] rfl rfl rfl rfl Try.underlying53 (mapK_s Try.underlying9) (upd_kT want (((R26.key alt ((base.getD n default).record)).1) ++ ((base.getD n default).key))) rfl ?_)
          refine JO_nil ?_
          refine JX_block ?_
          refine JX_then ?_
          refine J_region ?_
          refine JO_read (vI ((n + 1 : Nat) : Int)) rfl trivial (fun _ _ => x_add_n (a := n) (b := 1) rfl rfl (by omega)) ?_
          refine JO_read (vI ((n + 1 : Nat) : Int)) rfl trivial (fun _ _ => rfl) ?_
          refine JO_nil ?_
          refine JX_round ((n + 1, (addK want (((R26.key alt ((base.getD n default).record)).1) ++ ((base.getD n default).key)))) : Nat × (List Bytes)) ?_ ?_ ⟨rfl, rfl, rfl, rfl, rfl, rfl, rfl, trivial⟩ (fun _ h => h.keep [false, true, true, true, true] rfl)
          · show ((n + 1) ≤ base.length) ∧ (R26.Wants alt (base.take (n + 1)) (addK want (((R26.key alt ((base.getD n default).record)).1) ++ ((base.getD n default).key)))) ∧ ((addK want (((R26.key alt ((base.getD n default).record)).1) ++ ((base.getD n default).key))).length ≤ (n + 1))
            refine ⟨?_, ?_, ?_⟩
            · first | rfl | omega | (simp_all; done) | (simp_all; omega)
            · first | exact R26.wants_yes (by omega) i2_1 (by assumption) (by omega) | exact R26.wants_no (by omega) i2_1 (by simp_all)
            · first | omega | exact Nat.le_trans (addK_len _ _) (by omega)
          · show base.length - (n + 1) < base.length - n
            first | omega | (simp; omega) | (simp_all; omega)
        · have h24w := h24
          simp only [Bool.and_eq_true, Bool.or_eq_true, Bool.and_eq_false_iff, Bool.or_eq_false_iff, Bool.not_eq_true', Bool.not_eq_false', decide_eq_true_eq, decide_eq_false_iff_not] at h24
          refine J_skip ?_
          refine JX_block ?_
          refine JX_then ?_
          refine J_region ?_
          refine JO_read (vI ((n + 1 : Nat) : Int)) rfl trivial (fun _ _ => x_add_n (a := n) (b := 1) rfl rfl (by omega)) ?_
          refine JO_read (vI ((n + 1 : Nat) : Int)) rfl trivial (fun _ _ => rfl) ?_
          refine JO_nil ?_
          refine JX_round ((n + 1, want) : Nat × (List Bytes)) ?_ ?_ ⟨rfl, rfl, rfl, rfl, rfl, rfl, rfl, trivial⟩ (fun _ h => h.keep [false, true, true, true, true] rfl)
          · show ((n + 1) ≤ base.length) ∧ (R26.Wants alt (base.take (n + 1)) want) ∧ (want.length ≤ (n + 1))
            refine ⟨?_, ?_, ?_⟩
            · first | rfl | omega | (simp_all; done) | (simp_all; omega)
            · first | exact R26.wants_yes (by omega) i2_1 (by assumption) (by omega) | exact R26.wants_no (by omega) i2_1 (by simp_all)
            · first | omega | exact Nat.le_trans (addK_len _ _) (by omega)
          · show base.length - (n + 1) < base.length - n
            first | omega | (simp; omega) | (simp_all; omega)
      · have h19w := h19
        have h19 := of_decide_eq_false h19
        refine J_exit ?_
        refine JX_then_exit ?_
        refine JX_round_exit ?_
        refine JX_block_hit ?_
        refine JX_then ?_
        refine J_seq ?_
        refine J_seq ?_
        refine J_region ?_
        refine JO_read (Value.map (some b7)) rfl trivial (fun _ _ => rfl) ?_
        refine JO_read (vI ((found.length : Nat) : Int)) rfl trivial (x_len_mp 1 (n := found.length) rfl rfl Try.underlying53 (List.length_map _)) ?_
        refine JO_read (Value.map (some b18)) rfl trivial (fun _ _ => rfl) ?_
        refine JO_read (vI ((want.length : Nat) : Int)) rfl trivial (x_len_mp 0 (n := want.length) rfl rfl Try.underlying53 (List.length_map _)) ?_
        refine JO_read (vB (decide (((found.length : Nat) : Int) ≠ ((want.length : Nat) : Int)))) rfl trivial (fun _ _ => x_neq_i rfl rfl) ?_
        refine JO_read (vB (decide (((found.length : Nat) : Int) ≠ ((want.length : Nat) : Int)))) rfl trivial (fun _ _ => rfl) ?_
        refine JO_cut (X := Bool) 6 (fun z => z = ((decide (((found.length : Nat) : Int) ≠ ((want.length : Nat) : Int))) || (decide ((((R26.recs alt base).length : Nat) : Int) ≠ ((want.length : Nat) : Int))))) (fun z => [(6, Value.map (some b7)), (15, Value.map (some b18)), (118, vB z)]) (fun _ => [Ent.mp vS b18 (want.map kT), Ent.mp vS b7 (found.map kT), Ent.row (.slice A4 (R26.recs alt base).length c5) 9 1 (R26.recs alt base).length ((R26.recs alt base).map vS), Ent.blk b1 23 (DataSet.enc alt)]) ?_ ?_
        · rcases Bool.eq_false_or_eq_true (decide (((found.length : Nat) : Int) ≠ ((want.length : Nat) : Int))) with g28 | g28
          · have g28r := g28
            have g28r := of_decide_eq_true g28r
            refine JO_shun rfl ⟨_, rfl, g28⟩ ?_
            refine JO_shun rfl ⟨_, rfl, g28⟩ ?_
            refine JO_shun rfl ⟨_, rfl, g28⟩ ?_
            refine JO_shun rfl ⟨_, rfl, g28⟩ ?_
            refine JO_shun rfl ⟨_, rfl, g28⟩ ?_
            refine JO_read (vB true) rfl trivial (fun _ _ => x_pick_t rfl g28 rfl) ?_
            refine JO_nil (JX_cut (true) (by rw [g28]; simp) ⟨rfl, rfl, rfl, trivial⟩ (fun _ h => h))
          · have g28r := g28
            have g28r := of_decide_eq_false g28r
            refine JO_read (Value.slice A4 ((R26.recs alt base).length) c5) rfl ⟨_, rfl, g28⟩ (fun _ _ => rfl) ?_
            refine JO_read (vI (((R26.recs alt base).length : Nat) : Int)) rfl ⟨_, rfl, g28⟩ (fun _ _ => x_len_sl Try.underlying33 rfl) ?_
            refine JO_read (Value.map (some b18)) rfl ⟨_, rfl, g28⟩ (fun _ _ => rfl) ?_
            refine JO_read (vI ((want.length : Nat) : Int)) rfl ⟨_, rfl, g28⟩ (x_len_mp 0 (n := want.length) rfl rfl Try.underlying53 (List.length_map _)) ?_
            refine JO_read (vB (decide ((((R26.recs alt base).length : Nat) : Int) ≠ ((want.length : Nat) : Int)))) rfl ⟨_, rfl, g28⟩ (fun _ _ => x_neq_i rfl rfl) ?_
            refine JO_read (vB (decide ((((R26.recs alt base).length : Nat) : Int) ≠ ((want.length : Nat) : Int)))) rfl trivial (fun _ _ => x_pick_f rfl g28 rfl) ?_
            refine JO_nil (JX_cut (decide ((((R26.recs alt base).length : Nat) : Int) ≠ ((want.length : Nat) : Int))) (by rw [g28]; simp) ⟨rfl, rfl, rfl, trivial⟩ (fun _ h => h))
        rintro z27 rfl
        refine JO_nil ?_
        refine JX_then ?_
        refine J_cond ((decide (((found.length : Nat) : Int) ≠ ((want.length : Nat) : Int))) || (decide ((((R26.recs alt base).length : Nat) : Int) ≠ ((want.length : Nat) : Int)))) rfl rfl (fun h29 => ?_) (fun h29 => ?_)
        · have h29w := h29
          simp only [Bool.and_eq_true, Bool.or_eq_true, Bool.and_eq_false_iff, Bool.or_eq_false_iff, Bool.not_eq_true', Bool.not_eq_false', decide_eq_true_eq, decide_eq_false_iff_not] at h29
          refine J_seq ?_
          refine J_region ?_
          refine JO_read (vB false) rfl trivial (fun _ _ => rfl) ?_
          refine JO_nil ?_
          refine JX_then ?_
          refine J_ret ?_
          refine JX_then_ret ?_
          refine JX_rets [vB false] (vB false) Try.results9 (fun w h => ⟨rfl, trivial⟩) rfl [] (fun _ h => h.keep [false, false, false, false] rfl) ⟨?_, ?_⟩
          · have e_x0 : (false : Bool) = true := by
              first | rfl | exact absurd (hok (by omega)) (by assumption) | exact (R26.order_bad (a := alt) (l := base) (k := k) (by omega) (by omega) (by assumption)).elim | exact (R26.lens_bad i1_1 (by omega) (by omega) i2_1 (by assumption)).elim | exact (R26.want_bad i1_1 (by omega) (by omega) i2_1 (i3_0 _ leftm) (by assumption)).elim
            exact congrArg (fun (x0 : Bool) => vB x0) e_x0
          · rfl
        · have h29w := h29
          have ⟨h29, h30⟩ := bor_false h29
          have h29 := of_decide_eq_false h29
          have h30 := of_decide_eq_false h30
          refine J_skip ?_
          refine JX_then ?_
          refine J_seq ?_
          refine J_seq ?_
          refine J_region ?_
          refine JO_read (Value.map (some b18)) rfl trivial (fun _ _ => rfl) ?_
          refine JO_op rfl trivial (O_range 0 (f := vS) rfl rfl Try.underlying53 fun es31 ck32 it33 hes34 hborn35 => ?_)
          refine JO_nil ?_
          refine JX_then ?_
          refine J_block ?_
          refine J_loop (X := (List Bytes) × (Option (Bytes × Value))) (fun (⟨left, leftC⟩ : (List Bytes) × (Option (Bytes × Value))) => (∀ s, s ∈ left → s ∈ want)) (fun (⟨left, leftC⟩ : (List Bytes) × (Option (Bytes × Value))) => [(6, Value.map (some b7)), (120, Value.pointer (some ⟨it33, 0, none⟩))]) (fun (⟨left, leftC⟩ : (List Bytes) × (Option (Bytes × Value))) => [Ent.rng vS it33 b18 es31 ck32 (left.map kT) leftC, Ent.mx b18 es31 ck32, Ent.mp vS b7 (found.map kT)]) (fun (⟨left, leftC⟩ : (List Bytes) × (Option (Bytes × Value))) => left.length) ((want, (none : Option (Bytes × Value))) : (List Bytes) × (Option (Bytes × Value))) ?_ ⟨rfl, rfl, trivial⟩ (fun _ h => h.keep [true, true, true, false, false] rfl) ?_
          · show (∀ s, s ∈ want → s ∈ want)
            exact fun _ h => h
          rintro ⟨left, leftC⟩ hI3
          have i3_0 : (∀ s, s ∈ left → s ∈ want) := hI3
          refine J_weaken (E' := [(6, Value.map (some b7)), (120, Value.pointer (some ⟨it33, 0, none⟩))]) (L' := [Ent.rng vS it33 b18 es31 ck32 (left.map kT) leftC, Ent.mx b18 es31 ck32, Ent.mp vS b7 (found.map kT)]) ⟨rfl, rfl, trivial⟩ (fun _ h => h) ?_
          refine J_seq ?_
          refine J_region ?_
          refine JO_op rfl trivial (O_next 0 1 (f := vS) kT rfl rfl rfl hborn35 (fun left0 => ?_) (fun lefta leftn lefth => ?_))
          · refine JO_read (vB false) rfl trivial (fun _ _ => rfl) ?_
            refine JO_nil ?_
            refine JX_then ?_
            refine J_seq ?_
            refine J_cond false rfl rfl (fun h => by cases h) (fun h => ?_)
            refine J_exit ?_
            refine JX_then_exit ?_
            refine JX_round_exit ?_
            refine JX_block_hit ?_
            refine JX_then ?_
            refine J_seq ?_
            refine J_region ?_
            refine JO_read (vB true) rfl trivial (fun _ _ => rfl) ?_
            refine JO_nil ?_
            refine JX_then ?_
            refine J_ret ?_
            refine JX_rets [vB true] (vB true) Try.results9 (fun w h => ⟨rfl, trivial⟩) rfl [] (fun _ h => h.keep [false, false, false] rfl) ⟨?_, ?_⟩
            · rfl
            · rfl
          · have leftl := (List.getElem?_eq_some_iff.1 lefth).1
            have lefte := List.length_eraseIdx_of_lt leftl
            have leftm := List.mem_of_getElem? lefth
            refine JO_read (vB true) rfl trivial (fun _ _ => rfl) ?_
            refine JO_nil ?_
            refine JX_then ?_
            refine J_seq ?_
            refine J_cond true rfl rfl (fun h => ?_) (fun h => by cases h)
            refine J_skip ?_
            refine JX_then ?_
            refine J_block ?_
            refine J_seq ?_
            refine J_region ?_
            refine JO_read (Value.tuple #[vS lefta, vB true]) rfl trivial (O_entry 0 1 (f := vS) (p := kT lefta) rfl rfl rfl hborn35) ?_
            refine JO_read (vS lefta) rfl trivial (fun _ _ => rfl) ?_
            refine JO_read (vS lefta) rfl trivial (fun _ _ => rfl) ?_
            refine JO_nil ?_
            refine JX_then ?_
            refine J_seq ?_
            refine J_region ?_
            refine JO_read (Value.map (some b7)) rfl trivial (fun _ _ => rfl) ?_
            refine JO_read (vS lefta) rfl trivial (fun _ _ => rfl) ?_
            refine JO_read (vB (hasK found lefta)) rfl trivial (x_lookup_v 2 (f := vS) (k := lefta) rfl rfl rfl Try.underlying53 (mapK_s Try.underlying9) Ty.ze4 rfl (lk_kT_v found lefta)) ?_
            refine JO_read (vB (!((hasK found lefta)))) rfl trivial (fun _ _ => x_not rfl) ?_
            refine JO_nil ?_
            refine JX_then ?_
            refine J_cond (!((hasK found lefta))) rfl rfl (fun h36 => ?_) (fun h36 => ?_)
            · have h36w := h36
              have h36 : ((hasK found lefta)) = false := bnot_true h36
              refine J_seq ?_
              refine J_region ?_
              refine JO_read (vB false) rfl trivial (fun _ _ => rfl) ?_
              refine JO_nil ?_
              refine JX_then ?_
              refine J_ret ?_
              refine JX_block_ret ?_
              refine JX_round_ret ?_
              refine JX_block_ret ?_
              refine JX_then_ret ?_
              refine JX_rets [vB false] (vB false) Try.results9 (fun w h => ⟨rfl, trivial⟩) rfl [] (fun _ h => h.keep [false, false, false] rfl) ⟨?_, ?_⟩
              · have e_x0 : (false : Bool) = true := by
                  first | rfl | exact absurd (hok (by omega)) (by assumption) | exact (R26.order_bad (a := alt) (l := base) (k := k) (by omega) (by omega) (by assumption)).elim | exact (R26.lens_bad i1_1 (by omega) (by omega) i2_1 (by assumption)).elim | exact (R26.want_bad i1_1 (by omega) (by omega) i2_1 (i3_0 _ leftm) (by assumption)).elim
                exact congrArg (fun (x0 : Bool) => vB x0) e_x0
              · rfl
            · have h36w := h36
              have h36 : ((hasK found lefta)) = true := bnot_false h36
              refine J_skip ?_
              refine JX_block ?_
              refine JX_round (((left.eraseIdx leftn), (some (kT lefta))) : (List Bytes) × (Option (Bytes × Value))) ?_ ?_ ⟨rfl, rfl, trivial⟩ (fun _ h => h)
              · show (∀ s, s ∈ (left.eraseIdx leftn) → s ∈ want)
                exact fun s hs => i3_0 s (List.mem_of_mem_eraseIdx hs)
              · show (left.eraseIdx leftn).length < left.length
                omega

end Go.Proofs.Ytimjfpioenkbjaa
