/- contracts L26e -/
import Derived.Test.YtimjfpioenkbjaaC26f
namespace Go.Proofs.Ytimjfpioenkbjaa
open Go.GV
set_option linter.unusedVariables false
set_option linter.unusedSimpArgs false

set_option maxRecDepth 20000 in
theorem f8_ok (alt : DataSet) (l : List Pair) (lA : Option Addr) (lC : Nat) (w : World) (lR : RO [] w lA (l.flatMap Pair.enc)) (q0 : l.length ≤ 9223372036854775807) : Calls Try.prog 8 #[Value.agg ((DataSet.enc alt)).toArray, Value.slice lA l.length lC] w (Gives [] w fun v L => v = vB true ∧ L = []) := by
  refine calls_J [] 17 Try.func8 rfl Try.ntmps8 [(0, Value.agg ((DataSet.enc alt)).toArray), (1, Value.slice lA l.length lC)] rfl rfl (Give.nil w) ?_
  refine J_seq ?_
  refine J_region ?_
  refine JO_op rfl trivial (O_box rfl rfl fun b1 => ?_)
  refine JO_read (vB false) rfl trivial (fun _ _ => rfl) ?_
  refine JO_nil ?_
  refine JX_then ?_
  refine J_seq ?_
  refine J_seq ?_
  refine J_region ?_
  refine JO_call [] [] [Ent.blk b1 23 (DataSet.enc alt)] rfl trivial (fun _ => x_call Ty.ca10 rfl) (fun _ h => h) (fun _ h => by cases h) (fun w hS => f10_ok w) ?_
  rintro _ _ ⟨rfl, rfl⟩
  refine JO_read (vB false) rfl trivial (fun _ _ => rfl) ?_
  refine JO_nil ?_
  refine JX_then ?_
  refine J_cond false rfl rfl (fun h => by cases h) (fun h => ?_)
  refine J_skip ?_
  refine JX_then ?_
  refine J_seq ?_
  refine J_seq ?_
  refine J_region ?_
  refine JO_read (Value.slice lA l.length lC) rfl trivial (fun _ _ => rfl) ?_
  refine JO_call [] [] [Ent.blk b1 23 (DataSet.enc alt)] rfl trivial (fun _ => x_call Ty.ca26 rfl) (fun _ h => h) (fun _ h => by cases h) (fun w hS => f26_ok l lA lC 40 w (lR.on hS (fun _ h => by cases h)) (by first | omega | assumption | (simp only [List.length_append, List.length_cons, List.length_nil]; omega) | (simp only [sub, List.length_drop, List.length_take]; omega) | (simp; omega) | (simp_all; done) | (simp_all; omega) | decide)) ?_
  rintro _ _ ⟨rfl, rfl⟩
  refine JO_read (vB (!(R26.few l 40))) rfl trivial (fun _ _ => x_not rfl) ?_
  refine JO_nil ?_
  refine JX_then ?_
  refine J_cond (!(R26.few l 40)) rfl rfl (fun h2 => ?_) (fun h2 => ?_)
  · have h2 : (R26.few l 40) = false := bnot_true h2
    refine J_seq ?_
    refine J_region ?_
    refine JO_read (vB true) rfl trivial (fun _ _ => rfl) ?_
    refine JO_nil ?_
    refine JX_then ?_
    refine J_ret ?_
    refine JX_then_ret ?_
    refine JX_rets [vB true] (vB true) Try.results8 (fun w h => ⟨rfl, trivial⟩) rfl [] (fun _ h => h.keep [false] rfl) ⟨?_, ?_⟩
    · rfl
    · rfl
  · have h2 : (R26.few l 40) = true := bnot_false h2
    have hi3 := R26.few_facts h2
    refine J_skip ?_
    refine JX_then ?_
    refine J_seq ?_
    refine J_draw [Ent.blk b1 23 (DataSet.enc alt)] [] [Ent.blk b1 23 (DataSet.enc alt)] 8 Ty.mixed rfl ?_
    refine JA_take 0 (Value.agg ((DataSet.enc alt)).toArray) rfl (by kernel_rfl) (by kernel_rfl) (by kernel_rfl) rfl (fun _ _ _ h => h) rfl trivial (x_loadN 0 (DataSet.enc alt) rfl rfl Ty.ag23 Ty.sz23 rfl) ?_
    refine JA_take 1 (Value.slice lA l.length lC) rfl (by kernel_rfl) (by kernel_rfl) (by kernel_rfl) rfl (fun _ _ _ h => h) rfl trivial (fun _ _ => rfl) ?_
    refine JA_take 3 (Value.agg ((DataSet.enc alt)).toArray) rfl (by kernel_rfl) (by kernel_rfl) (by kernel_rfl) rfl (fun _ _ _ h => h) rfl trivial (x_loadN 0 (DataSet.enc alt) rfl rfl Ty.ag23 Ty.sz23 rfl) ?_
    refine JA_take 4 (Value.slice lA l.length lC) rfl (by kernel_rfl) (by kernel_rfl) (by kernel_rfl) rfl (fun _ _ _ h => h) rfl trivial (fun _ _ => rfl) ?_
    refine JA_one 2 (by kernel_rfl) (fun _ h => ⟨h, fun _ => h⟩) ?_
    refine JI_call [] [] [Ent.blk b1 23 (DataSet.enc alt)] rfl rfl trivial (fun _ => x_call Ty.ca28 rfl) (fun _ h => h) (fun _ h => by cases h) (fun w hS => f28_ok alt l lA lC w (lR.on hS (fun _ h => by cases h)) (by first | omega | assumption | (simp only [List.length_append, List.length_cons, List.length_nil]; omega) | (simp only [sub, List.length_drop, List.length_take]; omega) | (simp; omega) | (simp_all; done) | (simp_all; omega) | decide) (by first | omega | assumption | (simp only [List.length_append, List.length_cons, List.length_nil]; omega) | (simp only [sub, List.length_drop, List.length_take]; omega) | (simp; omega) | (simp_all; done) | (simp_all; omega) | decide)) ?_
    rintro _ _ ⟨A4, c5, rfl, rfl⟩
    have ha6 := R26.recs_len alt l
    refine JA_one 5 (by kernel_rfl) (fun _ h => ⟨h.keep [false, true] rfl, fun _ => h.keep [false, true] rfl⟩) ?_
    refine JI_call [] [] [Ent.row (.slice A4 (R26.recs alt l).length c5) 9 1 (R26.recs alt l).length ((R26.recs alt l).map vS), Ent.blk b1 23 (DataSet.enc alt)] rfl rfl trivial (fun _ => x_call Ty.ca29 rfl) (fun _ h => h) (fun _ h => by cases h) (fun w hS => f29_ok alt l lA lC w (lR.on hS (fun _ h => by cases h)) (by first | omega | assumption | (simp only [List.length_append, List.length_cons, List.length_nil]; omega) | (simp only [sub, List.length_drop, List.length_take]; omega) | (simp; omega) | (simp_all; done) | (simp_all; omega) | decide) (by first | omega | assumption | (simp only [List.length_append, List.length_cons, List.length_nil]; omega) | (simp only [sub, List.length_drop, List.length_take]; omega) | (simp; omega) | (simp_all; done) | (simp_all; omega) | decide)) ?_
    rintro _ _ ⟨A7, c8, rfl, rfl⟩
    have ha9 := R26.recs_len alt l
    refine JA_one 6 (by kernel_rfl) (fun _ h => ⟨h.keep [false, false, true] rfl, fun _ => h.keep [false, false, true] rfl⟩) ?_
    refine JI_call [] [] [Ent.row (.slice A7 (R26.recs alt l).length c8) 9 1 (R26.recs alt l).length ((R26.recs alt l).map vS), Ent.row (.slice A4 (R26.recs alt l).length c5) 9 1 (R26.recs alt l).length ((R26.recs alt l).map vS), Ent.blk b1 23 (DataSet.enc alt)] rfl rfl trivial (fun _ => x_call Ty.ca27 rfl) (fun _ h => h) (fun _ h => by cases h) (fun w hS => f27_ok (R26.recs alt l) A4 c5 (R26.recs alt l) A7 c8 w (RO.of_row hS 1 rfl) (RO.of_row hS 0 rfl) (by first | omega | assumption | (simp only [List.length_append, List.length_cons, List.length_nil]; omega) | (simp only [sub, List.length_drop, List.length_take]; omega) | (simp; omega) | (simp_all; done) | (simp_all; omega) | decide)) ?_
    rintro _ _ ⟨rfl, rfl⟩
    refine JA_take 7 (vB (decide ((R26.recs alt l) = (R26.recs alt l)))) rfl (by kernel_rfl) (by kernel_rfl) (by kernel_rfl) rfl (fun _ _ _ h => h) rfl trivial (fun _ _ => rfl) ?_
    refine JA_done (by kernel_rfl) (fun _ h => ⟨h.keep [false, false, true] rfl, fun _ => h.keep [false, false, true] rfl⟩) ?_
    refine JX_then ?_
    refine J_ret ?_
    refine JX_rets [vB (decide ((R26.recs alt l) = (R26.recs alt l)))] (vB (decide ((R26.recs alt l) = (R26.recs alt l)))) Try.results8 (fun w h => ⟨rfl, trivial⟩) rfl [] (fun _ h => h.keep [false, false, false] rfl) ⟨?_, ?_⟩
    · have e_x0 : (decide ((R26.recs alt l) = (R26.recs alt l)) : Bool) = true := by
        first | rfl | exact decide_eq_true rfl
      exact congrArg (fun (x0 : Bool) => vB x0) e_x0
    · rfl

end Go.Proofs.Ytimjfpioenkbjaa
