/- contracts L40p -/
import Derived.Test.YtngjdmhpljmkpaaDoorAll16
set_option linter.unusedVariables false
set_option linter.unusedSimpArgs false
namespace Go.Proofs.YtngjdmhpljmkpaaDoor
open Go.GV
set_option linter.unusedVariables false
set_option linter.unusedSimpArgs false
set_option maxRecDepth 20000 in
theorem f9_ok (l : List Test) (lA : Option Addr) (lC : Nat) (kind : Int) (w : World) (lR : RO [] w lA (l.flatMap Test.enc)) (q0 : l.length ≤ 1000000) : Calls Tryd.prog 9 #[vL lA l.length lC, vI kind] w (Gives [] w fun v L => ∃ A2 : Option Addr, ∃ c2 : Nat, v = vL A2 ((l ++ [Test.mk kind [] 0 0]).length) c2 ∧ L = [Ent.row (.slice A2 (l ++ [Test.mk kind [] 0 0]).length c2) 30 4 (l ++ [Test.mk kind [] 0 0]).length ((l ++ [Test.mk kind [] 0 0]).flatMap Test.enc)]) := by
 refine calls_J [] 12 Tryd.func9 rfl Tryd.ntmps9 [(0, _), (1, _)] rfl rfl (Give.nil w) ?_
 refine q_ (g_ (s_ av_ (z_ (n_ (q_ (g_ (o_ (O_buildSlice0 Tryd.underlying22 Ty.sz30 fun b1 => ?_))))))))
 refine s_ mv_ ?_
 refine JO_weaken (E' := [(0, vL lA l.length lC), (1, vI kind), (4, vL none 0 0), (5, vL (some ⟨b1, 0, none⟩) ((([] : List Test)).length) 0), (6, vL lA l.length lC)]) (L' := [Ent.row (.slice (some ⟨b1, 0, none⟩) ([] : List Test).length 0) 30 4 ([] : List Test).length (([] : List Test).flatMap Test.enc)]) ⟨rfl, rfl, rfl, rfl, rfl, trivial⟩ (fun _ h => (St.torow (cs := []) h 4 0 rfl (by decide)).keep [true] rfl) ?_
 refine o_ (O_append_f 0 Test.enc 4 ([] : List Test) l Tryd.underlying22 Ty.sz30 Ty.by30 Ty.ze30 rfl (by decide) rfl rfl rfl rfl Test.enc_len Test.enc_one (cells_ro lR) lt_ lt_ fun A2 c3 => ?_)
 refine s_ mv_ (js_ (vG [vI kind, vS [], vI 0, vI 0]) (x_build (by kernel_rfl)) (o_ (O_buildSlice (cs := [vI kind, vS [], vI 0, vI 0]) Tryd.underlying22 Ty.sz30 Ty.ze30 (by decide) (by decide) (by kernel_rfl) fun b4 => ?_)))
 refine o_ (O_append_f 1 Test.enc 4 (([] : List Test) ++ l) [(Test.mk kind [] 0 0)] Tryd.underlying22 Ty.sz30 Ty.by30 Ty.ze30 rfl (by decide) rfl rfl rfl rfl Test.enc_len Test.enc_one (cells_blk 0 (off := 0) (m := 4) rfl rfl) lt_ lt_ fun A5 c6 => ?_)
 refine s_ av_ (z_ (n_ (rt_ ?_)))
 refine JX_rets [_] _ Tryd.results9 (fun w h => ⟨rfl, trivial⟩) rfl _ (fun _ h => h.keep [false, true] rfl) ⟨A5, c6, ?_, ?_⟩
 ·have e_x0 : (((([] : List Test) ++ l) ++ [(Test.mk kind [] 0 0)]).length : Nat) = ((l ++ [Test.mk kind [] 0 0]).length) := by first | rfl | omega | (simp_all; done) | (simp_all; omega)
  exact congrArg (fun (x0 : Nat) => vL A5 x0 c6) e_x0
 ·have e_y0 : ((([] : List Test) ++ l) ++ [(Test.mk kind [] 0 0)] : List Test) = (l ++ [Test.mk kind [] 0 0]) := by
   first | rfl | omega | (simp_all; done) | (simp_all; omega)
  have e_all := (congrArg (fun (y0 : List Test) => [Ent.row (.slice A5 y0.length c6) 30 4 y0.length (y0.flatMap Test.enc)]) e_y0)
  exact e_all
set_option maxRecDepth 20000 in
theorem f3_ok (a : List Test) (aA : Option Addr) (aC : Nat) (b : List Test) (bA : Option Addr) (bC : Nat) (steps : List Bytes) (stepsA : Option Addr) (stepsC : Nat) (ends : List StepEnd) (endsA : Option Addr) (endsC : Nat) (w : World) (aR : RO [] w aA (a.flatMap Test.enc)) (bR : RO [] w bA (b.flatMap Test.enc)) (stepsR : RO [] w stepsA (steps.map vS)) (endsR : RO [] w endsA (ends.flatMap StepEnd.enc)) (hT : Tab [] w) (q0 : a.length ≤ 9223372036854775807) (q1 : b.length ≤ 9223372036854775807) (q2 : steps.length ≤ 9223372036854775807) (q3 : ends.length ≤ endsC ∧ ends.length ≤ 9223372036854775807) : Calls Tryd.prog 3 #[vL aA a.length aC, vL bA b.length bC, vL stepsA steps.length stepsC, vL endsA ends.length endsC] w (Gives [] w fun v L => v = vB true ∧ L = []) := by
 refine calls_J [] 152 Tryd.func3 rfl Tryd.ntmps3 [(0, _), (1, _), (2, _), (3, _)] rfl rfl (Give.nil w) ?_
 refine q_ (g_ (s_ av_ (z_ (n_ (q_ (q_ (g_ (c0 (cl_ Ty.ca5) (fun w hS => f5_ok w (hT.on hS (fun _ h => by cases h))) (jr_ (vB false) (z_ (n_ (iff_ (sk_ (n_ (q_ (q_ (g_ (s_ mv_ (s_ mv_ (s_ mv_ ?_))))))))))))))))))))
 refine c0 (cl_ Ty.ca6) (fun w hS => f6_ok a aA aC _ _ _ ends _ _ w (rno aR hS) (rno stepsR hS) (rno endsR hS) hy_ hy_ hy_) (s_ (x_not rfl) (s_ mv_ ?_))
 refine or_ 5 (!(R40.fewV b steps ends.length)) (fun g1 => ?_) ?_
 ·have g1r := g1
  have g1r : (R40.fewV a steps ends.length) = true := bnot_false g1r
  have hi2 := R40.few_yes g1r
  refine sg_ g1 mv_ (sg_ g1 mv_ (sg_ g1 mv_ (c0g g1 (cl_ Ty.ca6) (fun w hS => f6_ok b bA bC _ _ _ ends _ _ w (rno bR hS) (rno stepsR hS) (rno endsR hS) hy_ hy_ hy_) (sg_ g1 (x_not rfl) ?_))))
  exact cr_
 refine s_ mv_ ?_
 refine or_ 3 (decide ((12 : Int) < ((a.length : Nat) : Int))) (fun g3 => ?_) ?_
 ·have g3r := g3
  have ⟨g3r, h4⟩ := bor_false g3r
  have g3r : (R40.fewV a steps ends.length) = true := bnot_false g3r
  have hi5 := R40.few_yes g3r
  have h4 : (R40.fewV b steps ends.length) = true := bnot_false h4
  have hi6 := R40.few_yes h4
  refine sg_ g3 mv_ (sg_ g3 (lnS Tryd.underlying22) (sg_ g3 (x_gtr_i rfl rfl) ?_))
  exact cr_
 refine s_ mv_ ?_
 refine or_ 3 (decide ((12 : Int) < ((b.length : Nat) : Int))) (fun g7 => ?_) ?_
 ·have g7r := g7
  have ⟨g7r, h8⟩ := bor_false g7r
  have ⟨g7r, h9⟩ := bor_false g7r
  have g7r : (R40.fewV a steps ends.length) = true := bnot_false g7r
  have hi10 := R40.few_yes g7r
  have h9 : (R40.fewV b steps ends.length) = true := bnot_false h9
  have hi11 := R40.few_yes h9
  have h8 := of_decide_eq_false h8
  refine sg_ g7 mv_ (sg_ g7 (lnS Tryd.underlying22) (sg_ g7 (x_gtr_i rfl rfl) ?_))
  exact cr_
 refine z_ (n_ ?_)
 refine if_ (fun h12 => ?_) (fun h12 => ?_)
 ·have h12w := h12
  simp only [Bool.and_eq_true, Bool.or_eq_true, Bool.and_eq_false_iff, Bool.or_eq_false_iff, Bool.not_eq_true', Bool.not_eq_false', decide_eq_true_eq, decide_eq_false_iff_not] at h12
  refine q_ (g_ (s_ av_ (z_ (n_ (rt_ (nr_ ?_))))))
  exact p1 Tryd.results3 rfl ⟨rfl, rfl⟩
 ·have h12w := h12
  have ⟨h12, h13⟩ := bor_false h12
  have ⟨h12, h14⟩ := bor_false h12
  have ⟨h12, h15⟩ := bor_false h12
  have h12 : (R40.fewV a steps ends.length) = true := bnot_false h12
  have hi16 := R40.few_yes h12
  have h15 : (R40.fewV b steps ends.length) = true := bnot_false h15
  have hi17 := R40.few_yes h15
  have h14 := of_decide_eq_false h14
  have h13 := of_decide_eq_false h13
  refine sk_ (n_ (q_ (g_ (s_ av_ (z_ (n_ (q_ (q_ (g_ (s_ mv_ (s_ (lnS Tryd.underlying24) (s_ mv_ (z_ (xk_ [0, 1, 2, 3, 8, 9, 40, 41, 42] ?_))))))))))))))
  refine n_ (k_ ?_)
  refine J_loop (X := Nat × Bool) (fun (⟨k, f⟩ : Nat × Bool) => (k ≤ ends.length) ∧ (f = R40.anyK steps ends k)) (fun (⟨k, f⟩ : Nat × Bool) => [(0, vL aA a.length aC), (1, vL bA b.length bC), (2, vL stepsA steps.length stepsC), (3, vL endsA ends.length endsC), (8, vB false), (9, vB f), (40, vL endsA ends.length endsC), (41, vI ((ends.length : Nat) : Int)), (42, vI ((k : Nat) : Int))]) (fun (⟨k, f⟩ : Nat × Bool) => []) (fun (⟨k, f⟩ : Nat × Bool) => ends.length - k) ((0, false) : Nat × Bool) ?_ ⟨rfl, rfl, rfl, rfl, rfl, rfl, rfl, rfl, rfl, trivial⟩ (fun _ h => h) ?_
  ·try dsimp only
   refine ⟨?_, ?_⟩
   ·first | rfl | omega | (simp_all; done) | (simp_all; omega)
   ·exact R40.any_0
  rintro ⟨k, f⟩ hI1
  obtain ⟨i1_0, i1_1⟩ := hI1
  try dsimp only at i1_0
  try dsimp only at i1_1
  try dsimp only
  refine q_ (g_ (s_ (x_lss_i rfl rfl) (z_ (n_ (q_ ?_)))))
  refine ifd (fun h18w h18 => ?_) (fun h18w h18 => ?_)
  ·refine sk_ (n_ (q_ (k_ (q_ (g_ (s_ mv_ (r_ (ixF StepEnd.enc_len (cells_ro endsR) Tryd.underlying24 Ty.sz28) (r_ (ldFN StepEnd.enc_len (cells_ro endsR) Ty.ag28 Ty.sz28) (o_ (al_ Ty.ze28 fun b19 => ?_))))))))))
   refine s_ av_ (o_ (stG 0 Ty.sz28 ?_))
   refine z_ (n_ (g_ (s_ mv_ (s_ mv_ ?_))))
   refine or_ 12 (((decide (((k : Nat) : Int) < ((steps.length : Nat) : Int))) && ((ends.getD k default).Ran)) && ((ends.getD k default).Failed)) (fun g20 => ?_) ?_
   ·have g20r := g20
    refine sg_ g20 mv_ (sg_ g20 mv_ (sg_ g20 (lnS Tryd.underlying23) (sg_ g20 (x_lss_i rfl rfl) (sg_ g20 mv_ ?_))))
    refine and_ 2 ((ends.getD k default).Ran) (fun g21 => ?_) ?_ (hw := by exact ⟨_, rfl, g20⟩)
    ·have g21r := g21
     have g21r := of_decide_eq_true g21r
     refine sg_ g21 (fA 0 Ty.fi28_0) (rg_ g21 (ld_ 0 Ty.sc4) ?_)
     exact cr_
    refine sg_ g20 mv_ ?_
    refine and_ 2 ((ends.getD k default).Failed) (fun g22 => ?_) ?_ (hw := by exact ⟨_, rfl, g20⟩)
    ·have g22r := g22
     have ⟨g22r, h23⟩ := band_true g22r
     have g22r := of_decide_eq_true g22r
     refine sg_ g22 (fA 1 Ty.fi28_1) (rg_ g22 (ld_ 0 Ty.sc4) ?_)
     exact cr_
    exact cr_
   refine s_ av_ (z_ (kx_ (n_ (g_ (s_ (x_add_n (a := k) (b := 1) rfl rfl (by omega)) (s_ mv_ (z_ ?_)))))))
   refine JX_round ((k + 1, f || (((decide (((k : Nat) : Int) < ((steps.length : Nat) : Int))) && ((ends.getD k default).Ran)) && ((ends.getD k default).Failed))) : Nat × Bool) ?_ ?_ ⟨rfl, rfl, rfl, rfl, rfl, rfl, rfl, rfl, rfl, trivial⟩ (fun _ h => h.keep [false] rfl)
   ·try dsimp only
    refine ⟨?_, ?_⟩
    ·first | rfl | omega | (simp_all; done) | (simp_all; omega)
    ·first | (rw [i1_1]; exact R40.any_step (by omega))
   ·try dsimp only
    first | omega | (simp; omega) | (simp_all; omega)
  ·refine J_exit (ne_ (re_ ?_))
   have hfe9 := i1_1.trans (R40.any_end (by omega))
   refine kh_ (n_ (q_ (q_ (g_ (s_ mv_ (s_ mv_ (c0 (cl_ Ty.ca7) (fun w hS => f7_ok ([] : List Test) none 0 _ _ _ ends _ _ w RO.nil (rno stepsR hS) (rno endsR hS) hy_ hy_ hy_) (s_ mv_ (s_ (x_not rfl) (s_ (x_neq_b Tryd.underlying4 rfl rfl) (s_ mv_ ?_)))))))))))
   refine or_ 7 (decide ((R40.evalV [(Test.mk 3 [] 0 0)] steps ends) ≠ (f))) (fun g24 => ?_) ?_
   ·have g24r := g24
    have g24r := of_decide_eq_false g24r
    refine jg_ g24 (vG [vI 3, vS [], vI 0, vI 0]) (x_build (by kernel_rfl)) (og_ g24 (O_buildSlice (cs := [vI 3, vS [], vI 0, vI 0]) Tryd.underlying22 Ty.sz30 Ty.ze30 (by decide) (by decide) (by kernel_rfl) fun b25 => ?_))
    refine sg_ g24 mv_ (sg_ g24 mv_ (c0g g24 (cl_ Ty.ca7) (fun w hS => f7_ok [(Test.mk 3 [] 0 0)] _ 1 _ _ _ ends _ _ w (RO.of_blk hS 0 (off := 0) (m := 4) rfl rfl) (rno stepsR hS) (rno endsR hS) hy_ hy_ hy_) (sg_ g24 mv_ (sg_ g24 (x_neq_b Tryd.underlying4 rfl rfl) ?_))))
    exact cr_ (fun _ h => h.keep [false] rfl)
   refine z_ (n_ ?_)
   refine if_ (fun h26 => ?_) (fun h26 => ?_)
   ·have h26w := h26
    simp only [Bool.and_eq_true, Bool.or_eq_true, Bool.and_eq_false_iff, Bool.or_eq_false_iff, Bool.not_eq_true', Bool.not_eq_false', decide_eq_true_eq, decide_eq_false_iff_not] at h26
    exact (R40.par_1 hfe9 (by assumption)).elim
   ·have h26w := h26
    have ⟨h26, h27⟩ := bor_false h26
    have h26 := of_decide_eq_false h26
    have h27 := of_decide_eq_false h27
    refine sk_ (n_ (q_ (q_ (g_ (s_ mv_ (s_ (lnS Tryd.underlying22) (s_ (x_eql_i rfl rfl) (s_ mv_ ?_))))))))
    refine or_ 3 (decide (((b.length : Nat) : Int) = 0)) (fun g28 => ?_) ?_
    ·have g28r := g28
     have g28r := of_decide_eq_false g28r
     refine sg_ g28 mv_ (sg_ g28 (lnS Tryd.underlying22) (sg_ g28 (x_eql_i rfl rfl) ?_))
     exact cr_
    refine s_ mv_ ?_
    refine or_ 4 (!((R40.onV a steps).isSome)) (fun g29 => ?_) ?_
    ·have g29r := g29
     have ⟨g29r, h30⟩ := bor_false g29r
     have g29r := of_decide_eq_false g29r
     have h30 := of_decide_eq_false h30
     refine sg_ g29 mv_ (sg_ g29 mv_ (c0g g29 (cl_ Ty.ca8) (fun w hS => f8_ok a aA aC _ _ _ w (rno aR hS) (rno stepsR hS) hy_ hy_) (sg_ g29 (x_not rfl) ?_)))
     exact cr_
    refine s_ mv_ ?_
    refine or_ 4 (!((R40.onV b steps).isSome)) (fun g31 => ?_) ?_
    ·have g31r := g31
     have ⟨g31r, h32⟩ := bor_false g31r
     have ⟨g31r, h33⟩ := bor_false g31r
     have g31r := of_decide_eq_false g31r
     have h33 := of_decide_eq_false h33
     have h32 : ((R40.onV a steps).isSome) = true := bnot_false h32
     refine sg_ g31 mv_ (sg_ g31 mv_ (c0g g31 (cl_ Ty.ca8) (fun w hS => f8_ok b bA bC _ _ _ w (rno bR hS) (rno stepsR hS) hy_ hy_) (sg_ g31 (x_not rfl) ?_)))
     exact cr_
    refine z_ (xk_ [0, 1, 2, 3, 8, 97] ?_)
    refine n_ ?_
    refine if_ (fun h34 => ?_) (fun h34 => ?_)
    ·have h34w := h34
     simp only [Bool.and_eq_true, Bool.or_eq_true, Bool.and_eq_false_iff, Bool.or_eq_false_iff, Bool.not_eq_true', Bool.not_eq_false', decide_eq_true_eq, decide_eq_false_iff_not] at h34
     refine q_ (g_ (s_ av_ (z_ (n_ (rt_ (nr_ ?_))))))
     exact p1 Tryd.results3 rfl ⟨rfl, rfl⟩
    ·have h34w := h34
     have ⟨h34, h35⟩ := bor_false h34
     have ⟨h34, h36⟩ := bor_false h34
     have ⟨h34, h37⟩ := bor_false h34
     have h34 := of_decide_eq_false h34
     have h37 := of_decide_eq_false h37
     have h36 : ((R40.onV a steps).isSome) = true := bnot_false h36
     have h35 : ((R40.onV b steps).isSome) = true := bnot_false h35
     have hlp := R40.law_parts (ends := ends) (steps := steps) (a := a) (b := b) (fun e => absurd (congrArg List.length e) (by simp only [List.length_nil]; omega)) (fun e => absurd (congrArg List.length e) (by simp only [List.length_nil]; omega)) (by omega) (by omega) (by assumption) (by assumption)
     refine sk_ (n_ (q_ (g_ (s_ mv_ (s_ mv_ (s_ mv_ (c0 (cl_ Ty.ca7) (fun w hS => f7_ok a aA aC _ _ _ ends _ _ w (rno aR hS) (rno stepsR hS) (rno endsR hS) hy_ hy_ hy_) (s_ mv_ (s_ mv_ (s_ mv_ (c0 (cl_ Ty.ca7) (fun w hS => f7_ok b bA bC _ _ _ ends _ _ w (rno bR hS) (rno stepsR hS) (rno endsR hS) hy_ hy_ hy_) (s_ av_ ?_))))))))))))
     refine s_ av_ (z_ (n_ (q_ (g_ (o_ (O_buildSlice0 Tryd.underlying22 Ty.sz30 fun b38 => ?_))))))
     refine s_ mv_ ?_
     refine JO_weaken (E' := [(0, vL aA a.length aC), (1, vL bA b.length bC), (2, vL stepsA steps.length stepsC), (3, vL endsA ends.length endsC), (8, vB false), (97, vB ((((decide (((a.length : Nat) : Int) = 0)) || (decide (((b.length : Nat) : Int) = 0))) || (!((R40.onV a steps).isSome))) || (!((R40.onV b steps).isSome)))), (98, vL aA a.length aC), (99, vL stepsA steps.length stepsC), (100, vL endsA ends.length endsC), (101, vB (R40.evalV a steps ends)), (102, vL bA b.length bC), (103, vL stepsA steps.length stepsC), (104, vL endsA ends.length endsC), (105, vB (R40.evalV b steps ends)), (12, vB (R40.evalV a steps ends)), (13, vB (R40.evalV b steps ends)), (106, vL (some ⟨b38, 0, none⟩) ((([] : List Test)).length) 0), (107, vL aA a.length aC)]) (L' := [Ent.row (.slice (some ⟨b38, 0, none⟩) ([] : List Test).length 0) 30 4 ([] : List Test).length (([] : List Test).flatMap Test.enc)]) ⟨rfl, rfl, rfl, rfl, rfl, rfl, rfl, rfl, rfl, rfl, rfl, rfl, rfl, rfl, rfl, rfl, rfl, rfl, trivial⟩ (fun _ h => (St.torow (cs := []) h 4 0 rfl (by decide)).keep [true] rfl) ?_
     refine o_ (O_append_f 0 Test.enc 4 ([] : List Test) a Tryd.underlying22 Ty.sz30 Ty.by30 Ty.ze30 rfl (by decide) rfl rfl rfl rfl Test.enc_len Test.enc_one (cells_ro aR) lt_ lt_ fun A39 c40 => ?_)
     refine s_ mv_ (o_ (O_append_f 0 Test.enc 4 (([] : List Test) ++ a) b Tryd.underlying22 Ty.sz30 Ty.by30 Ty.ze30 rfl (by decide) rfl rfl rfl rfl Test.enc_len Test.enc_one (cells_ro bR) lt_ lt_ fun A41 c42 => ?_))
     refine s_ av_ (z_ (xk_ [0, 2, 3, 8, 12, 13, 14] ?_))
     refine n_ (q_ (g_ (s_ av_ (z_ (n_ (q_ (g_ (s_ mv_ (s_ mv_ ?_)))))))))
     refine c1 (x_callv (first := []) (caps := []) rfl Ty.ca9 rfl) (fun w hS => f9_ok _ A41 c42 5 w (RO.of_row hS 0 rfl) hy_) ?_
     rintro _ _ ⟨e43, e44, rfl, rfl⟩
     refine s_ mv_ (s_ mv_ (c0 (cl_ Ty.ca7) (fun w hS => f7_ok (((([] : List Test) ++ a) ++ b) ++ [Test.mk 5 [] 0 0]) e43 e44 _ _ _ ends _ _ w (RO.of_row hS 0 rfl) (rno stepsR hS) (rno endsR hS) hy_ hy_ hy_) (s_ mv_ (s_ mv_ ?_))))
     refine and_ 1 (R40.evalV b steps ends) (fun g45 => ?_) ?_
     ·have g45r := g45
      refine sg_ g45 mv_ ?_
      exact cr_
     refine s_ (x_eql_b Tryd.underlying4 rfl rfl) (s_ mv_ ?_)
     refine and_ 11 (decide ((R40.evalV (((([] : List Test) ++ a) ++ b) ++ [Test.mk 6 [] 0 0]) steps ends) = ((R40.evalV a steps ends) || (R40.evalV b steps ends)))) (fun g46 => ?_) ?_
     ·have g46r := g46
      have g46r := of_decide_eq_true g46r
      refine sg_ g46 mv_ (sg_ g46 mv_ ?_)
      refine c1g g46 (x_callv (first := []) (caps := []) rfl Ty.ca9 rfl) (fun w hS => f9_ok _ A41 c42 6 w (RO.of_row hS 1 rfl) hy_) ?_
      rintro _ _ ⟨e47, e48, rfl, rfl⟩
      refine sg_ g46 mv_ (sg_ g46 mv_ (c0g g46 (cl_ Ty.ca7) (fun w hS => f7_ok (((([] : List Test) ++ a) ++ b) ++ [Test.mk 6 [] 0 0]) e47 e48 _ _ _ ends _ _ w (RO.of_row hS 0 rfl) (rno stepsR hS) (rno endsR hS) hy_ hy_ hy_) (sg_ g46 mv_ (sg_ g46 mv_ ?_))))
      refine or_ 1 (R40.evalV b steps ends) (fun g49 => ?_) ?_ (hw := by exact ⟨_, rfl, g46⟩)
      ·have g49r := g49
       refine sg_ g49 mv_ ?_
       exact cr_
      refine sg_ g46 (x_eql_b Tryd.underlying4 rfl rfl) ?_
      exact cr_ (fun _ h => h.keep [false, true, true] rfl)
     refine s_ mv_ ?_
     refine and_ 9 (decide ((R40.evalV (a ++ [Test.mk 4 [] 0 0]) steps ends) = (!(R40.evalV a steps ends)))) (fun g50 => ?_) ?_
     ·have g50r := g50
      have ⟨g50r, h51⟩ := band_true g50r
      have g50r := of_decide_eq_true g50r
      have h51 := of_decide_eq_true h51
      refine sg_ g50 mv_ (sg_ g50 mv_ ?_)
      refine c1g g50 (x_callv (first := []) (caps := []) rfl Ty.ca9 rfl) (fun w hS => f9_ok a aA aC 4 w (rno aR hS) hy_) ?_
      rintro _ _ ⟨e52, e53, rfl, rfl⟩
      refine sg_ g50 mv_ (sg_ g50 mv_ (c0g g50 (cl_ Ty.ca7) (fun w hS => f7_ok (a ++ [Test.mk 4 [] 0 0]) e52 e53 _ _ _ ends _ _ w (RO.of_row hS 0 rfl) (rno stepsR hS) (rno endsR hS) hy_ hy_ hy_) (sg_ g50 mv_ (sg_ g50 (x_not rfl) (sg_ g50 (x_eql_b Tryd.underlying4 rfl rfl) ?_)))))
      exact cr_ (fun _ h => h.keep [false, true, true] rfl)
     refine s_ mv_ ?_
     refine and_ 4 (!((R40.onV ((([] : List Test) ++ a) ++ b) steps).isSome)) (fun g54 => ?_) ?_
     ·have g54r := g54
      have ⟨g54r, h55⟩ := band_true g54r
      have ⟨g54r, h56⟩ := band_true g54r
      have g54r := of_decide_eq_true g54r
      have h56 := of_decide_eq_true h56
      have h55 := of_decide_eq_true h55
      refine sg_ g54 mv_ (sg_ g54 mv_ (c0g g54 (cl_ Ty.ca8) (fun w hS => f8_ok _ A41 c42 _ _ _ w (RO.of_row hS 1 rfl) (rno stepsR hS) hy_ hy_) (sg_ g54 (x_not rfl) ?_)))
      exact cr_
     refine s_ av_ (z_ (xk_ [8] ?_))
     refine n_ (rt_ ?_)
     exact p1 Tryd.results3 rfl ⟨(eB (by first | rfl | exact R40.par_2 hlp)), rfl⟩
end Go.Proofs.YtngjdmhpljmkpaaDoor
