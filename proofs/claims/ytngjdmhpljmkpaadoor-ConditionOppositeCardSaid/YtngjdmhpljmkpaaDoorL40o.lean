/- contracts L40o -/
import Derived.Test.YtngjdmhpljmkpaaDoorAll16
import Derived.Test.YtngjdmhpljmkpaaDoorC40m
import Derived.Test.YtngjdmhpljmkpaaDoorC40q
set_option linter.unusedVariables false
set_option linter.unusedSimpArgs false
namespace Go.Proofs.YtngjdmhpljmkpaaDoor
open Go.GV
set_option linter.unusedVariables false
set_option linter.unusedSimpArgs false
theorem l40o0_ {p : Prop} (h : p := by first | exact R40.not_short _ | exact R40.few_sh hfe) : p := h
set_option maxRecDepth 20000 in
theorem f4_ok (ts : List Test) (tsA : Option Addr) (tsC : Nat) (steps : List Bytes) (stepsA : Option Addr) (stepsC : Nat) (ends : List StepEnd) (endsA : Option Addr) (endsC : Nat) (w : World) (tsR : RO [] w tsA (ts.flatMap Test.enc)) (stepsR : RO [] w stepsA (steps.map vS)) (endsR : RO [] w endsA (ends.flatMap StepEnd.enc)) (hT : Tab [] w) (q0 : ts.length ≤ 9223372036854775807) (q1 : steps.length ≤ 9223372036854775807) (q2 : ends.length ≤ endsC ∧ ends.length ≤ 9223372036854775807) : Calls Tryd.prog 4 #[vL tsA ts.length tsC, vL stepsA steps.length stepsC, vL endsA ends.length endsC] w (Gives [] w fun v L => v = vB true ∧ L = []) := by
 refine calls_J [] 134 Tryd.func4 rfl Tryd.ntmps4 [(0, _), (1, _), (2, _)] rfl rfl (Give.nil w) ?_
 refine q_ (g_ (s_ av_ (z_ (n_ (q_ (q_ (g_ (c0 (cl_ Ty.ca5) (fun w hS => f5_ok w (hT.on hS (fun _ h => by cases h))) (jr_ (vB false) (z_ (n_ (iff_ (sk_ (n_ (q_ (q_ (g_ (s_ mv_ (s_ mv_ (s_ mv_ ?_))))))))))))))))))))
 refine c0 (cl_ Ty.ca6) (fun w hS => f6_ok ts tsA tsC _ _ _ ends _ _ w (rno tsR hS) (rno stepsR hS) (rno endsR hS) hy_ hy_ hy_) (s_ (x_not rfl) (s_ mv_ ?_))
 refine or_ 3 (decide ((16 : Int) < ((ts.length : Nat) : Int))) (fun g1 => ?_) ?_
 ·have g1r := g1
  have g1r : (R40.fewV ts steps ends.length) = true := bnot_false g1r
  have hi2 := R40.few_yes g1r
  refine sg_ g1 mv_ (sg_ g1 (lnS Tryd.underlying22) (sg_ g1 (x_gtr_i rfl rfl) ?_))
  exact cr_
 refine s_ mv_ ?_
 refine or_ 4 (!((R40.onV ts steps).isSome)) (fun g3 => ?_) ?_
 ·have g3r := g3
  have ⟨g3r, h4⟩ := bor_false g3r
  have g3r : (R40.fewV ts steps ends.length) = true := bnot_false g3r
  have hi5 := R40.few_yes g3r
  have h4 := of_decide_eq_false h4
  refine sg_ g3 mv_ (sg_ g3 mv_ (c0g g3 (cl_ Ty.ca8) (fun w hS => f8_ok ts tsA tsC _ _ _ w (rno tsR hS) (rno stepsR hS) hy_ hy_) (sg_ g3 (x_not rfl) ?_)))
  exact cr_
 refine z_ (n_ ?_)
 refine if_ (fun h6 => ?_) (fun h6 => ?_)
 ·have h6w := h6
  simp only [Bool.and_eq_true, Bool.or_eq_true, Bool.and_eq_false_iff, Bool.or_eq_false_iff, Bool.not_eq_true', Bool.not_eq_false', decide_eq_true_eq, decide_eq_false_iff_not] at h6
  refine q_ (g_ (s_ av_ (z_ (n_ (rt_ (nr_ ?_))))))
  exact p1 Tryd.results4 rfl ⟨rfl, rfl⟩
 ·have h6w := h6
  have ⟨h6, h7⟩ := bor_false h6
  have ⟨h6, h8⟩ := bor_false h6
  have h6 : (R40.fewV ts steps ends.length) = true := bnot_false h6
  have hi9 := R40.few_yes h6
  have h8 := of_decide_eq_false h8
  have h7 : ((R40.onV ts steps).isSome) = true := bnot_false h7
  have hfe := R40.few_yes (ts := ts) (steps := steps) (m := ends.length) (by assumption)
  refine sk_ (n_ (q_ (q_ (g_ (s_ mv_ (s_ (lnS Tryd.underlying23) (s_ mv_ (z_ (n_ (k_ ?_))))))))))
  refine J_loop (X := Nat) (fun (k : Nat) => (k ≤ steps.length) ∧ (∀ i, i < k → R40.stepV (steps.getD i []) = true)) (fun (k : Nat) => [(0, vL tsA ts.length tsC), (1, vL stepsA steps.length stepsC), (2, vL endsA ends.length endsC), (32, vL stepsA steps.length stepsC), (33, vI ((steps.length : Nat) : Int)), (34, vI ((k : Nat) : Int))]) (fun (k : Nat) => []) (fun (k : Nat) => steps.length - k) (0 : Nat) ?_ ⟨rfl, rfl, rfl, rfl, rfl, rfl, trivial⟩ (fun _ h => h) ?_
  ·try dsimp only
   refine ⟨?_, ?_⟩
   ·first | rfl | omega | (simp_all; done) | (simp_all; omega)
   ·intro i hi; omega
  intro k hI1
  obtain ⟨i1_0, i1_1⟩ := hI1
  try dsimp only at i1_0
  try dsimp only at i1_1
  have hsq := hfe.2.1 k
  try dsimp only
  refine q_ (g_ (s_ (x_lss_i rfl rfl) (z_ (n_ (q_ ?_)))))
  refine ifd (fun h10w h10 => ?_) (fun h10w h10 => ?_)
  ·refine sk_ (n_ (q_ (k_ (q_ (g_ (r_ (ixM (cells_ro stepsR) Tryd.underlying23 Ty.sz9) (r_ (ldM vS [] (cells_ro stepsR) Ty.sc9) (s_ av_ (z_ (n_ (q_ (g_ (s_ mv_ (c0 (cl_ Ty.ca10) (fun w hS => f10_ok _ w hy_) (s_ (x_not rfl) (z_ (n_ ?_)))))))))))))))))
   refine if_ (fun h11 => ?_) (fun h11 => ?_)
   ·have h11w := h11
    have h11 : (R40.stepV (steps.getD k [])) = false := bnot_true h11
    refine q_ (g_ (s_ av_ (z_ (n_ (rt_ (kq_ (nr_ (rr_ (kq_ (nr_ ?_))))))))))
    exact p1 Tryd.results4 rfl ⟨rfl, rfl⟩
   ·have h11w := h11
    have h11 : (R40.stepV (steps.getD k [])) = true := bnot_false h11
    refine sk_ (kx_ (n_ (g_ (s_ (x_add_n (a := k) (b := 1) rfl rfl (by omega)) (s_ mv_ (z_ ?_))))))
    refine JX_round (k + 1 : Nat) ?_ ?_ ⟨rfl, rfl, rfl, rfl, rfl, rfl, trivial⟩ (fun _ h => h)
    ·try dsimp only
     refine ⟨?_, ?_⟩
     ·first | rfl | omega | (simp_all; done) | (simp_all; omega)
     ·intro i hi
      by_cases hik : i = k
      ·subst hik; assumption
      ·exact i1_1 i (by omega)
    ·try dsimp only
     first | omega | (simp; omega) | (simp_all; omega)
  ·refine J_exit (ne_ (re_ ?_))
   have hs9 := R40.names_of i1_1 (by omega)
   have hlo := R40.law_opposite (ends := ends) (ts := ts) (steps := steps) (by omega) (by assumption) hs9
   refine kh_ (n_ (q_ (q_ (g_ (s_ mv_ (s_ (lnS Tryd.underlying22) (s_ (x_leq_i rfl rfl) (s_ mv_ ?_))))))))
   refine and_ 4 (decide ((((R40.notV ts).length : Nat) : Int) = 0)) (fun g12 => ?_) ?_
   ·have g12r := g12
    have g12r := of_decide_eq_true g12r
    refine sg_ g12 mv_ ?_
    refine c1g g12 (cl_ Ty.ca11) (fun w hS => f11_ok ts tsA tsC w (rno tsR hS) (hT.on hS (fun _ h => by cases h)) hy_ l40o0_) ?_
    rintro _ _ ⟨e13, e14, rfl, rfl⟩
    have ha15 := R40.not_len ts
    refine sg_ g12 (lnS Tryd.underlying22) (sg_ g12 (x_eql_i rfl rfl) ?_)
    exact cr_ (fun _ h => h.keep [false] rfl)
   refine z_ (n_ ?_)
   refine if_ (fun h16 => ?_) (fun h16 => ?_)
   ·have h16w := h16
    have ⟨h16, h17⟩ := band_true h16
    have h16 := of_decide_eq_true h16
    have h17 := of_decide_eq_true h17
    exact (R40.opp_1 hlo.1 (by assumption)).elim
   ·have h16w := h16
    simp only [Bool.and_eq_true, Bool.or_eq_true, Bool.and_eq_false_iff, Bool.or_eq_false_iff, Bool.not_eq_true', Bool.not_eq_false', decide_eq_true_eq, decide_eq_false_iff_not] at h16
    refine sk_ (n_ (q_ (g_ (s_ mv_ ?_))))
    refine c1 (cl_ Ty.ca11) (fun w hS => f11_ok ts tsA tsC w (rno tsR hS) (hT.on hS (fun _ h => by cases h)) hy_ l40o0_) ?_
    rintro _ _ ⟨e18, e19, rfl, rfl⟩
    have ha20 := R40.not_len ts
    refine s_ av_ (z_ (n_ (q_ (q_ (g_ (s_ mv_ (s_ (lnS Tryd.underlying22) (s_ (x_eql_i rfl rfl) (z_ (n_ ?_))))))))))
    refine ifd (fun h21w h21 => ?_) (fun h21w h21 => ?_)
    ·refine q_ (g_ (s_ av_ (z_ (n_ (rt_ (nr_ ?_))))))
     exact p1 Tryd.results4 rfl ⟨rfl, rfl⟩
    ·have hno := hlo.2 (fun e => absurd (congrArg List.length e) (by simp only [List.length_nil]; omega))
     refine sk_ (n_ (q_ (q_ (g_ (s_ mv_ (s_ (lnS Tryd.underlying22) (s_ mv_ (z_ (xk_ [0, 1, 2, 9, 56, 57, 58] ?_)))))))))
     refine n_ (k_ ?_)
     refine J_loop (X := Nat) (fun (k2 : Nat) => (k2 ≤ (R40.notV ts).length)) (fun (k2 : Nat) => [(0, vL tsA ts.length tsC), (1, vL stepsA steps.length stepsC), (2, vL endsA ends.length endsC), (9, vL e18 ((R40.notV ts).length) e19), (56, vL e18 ((R40.notV ts).length) e19), (57, vI (((R40.notV ts).length : Nat) : Int)), (58, vI ((k2 : Nat) : Int))]) (fun (k2 : Nat) => [Ent.row (.slice e18 (R40.notV ts).length e19) 30 4 (R40.notV ts).length ((R40.notV ts).flatMap Test.enc)]) (fun (k2 : Nat) => (R40.notV ts).length - k2) (0 : Nat) ?_ ⟨rfl, rfl, rfl, rfl, rfl, rfl, rfl, trivial⟩ (fun _ h => h) ?_
     ·try dsimp only
      first | rfl | omega | (simp_all; done) | (simp_all; omega)
     intro k2 hI2
     have i2_0 := hI2
     try dsimp only at i2_0
     have hnk := hno.1 k2
     try dsimp only
     refine q_ (g_ (s_ (x_lss_i rfl rfl) (z_ (n_ (q_ ?_)))))
     refine ifd (fun h22w h22 => ?_) (fun h22w h22 => ?_)
     ·refine sk_ (n_ (q_ (k_ (q_ (g_ (s_ mv_ (r_ (ixF Test.enc_len (cells_row 0 rfl) Tryd.underlying22 Ty.sz30) (r_ (ldFN Test.enc_len (cells_row 0 rfl) Ty.ag30 Ty.sz30) (o_ (al_ Ty.ze30 fun b23 => ?_))))))))))
      refine s_ av_ (o_ (stG 0 Ty.sz30 ?_))
      refine z_ (n_ (q_ (g_ (s_ (fA 0 Ty.fi30_0) (r_ (ld_ 0 Ty.sc3) (s_ (x_eql_i rfl rfl) (s_ mv_ ?_)))))))
      refine and_ 29 ((decide (((k2 : Nat) : Int) = 0)) || (((decide (((R40.notV ts).getD (k2 - 1) default).Kind ≠ 1)) && (decide (((R40.notV ts).getD (k2 - 1) default).Kind ≠ 2))) && (decide (((R40.notV ts).getD (k2 - 1) default).Kind ≠ 3)))) (fun g24 => ?_) ?_
      ·have g24r := g24
       have g24r := of_decide_eq_true g24r
       refine sg_ g24 mv_ (sg_ g24 (x_eql_i rfl rfl) (sg_ g24 mv_ ?_))
       refine or_ 25 (((decide (((R40.notV ts).getD (k2 - 1) default).Kind ≠ 1)) && (decide (((R40.notV ts).getD (k2 - 1) default).Kind ≠ 2))) && (decide (((R40.notV ts).getD (k2 - 1) default).Kind ≠ 3))) (fun g25 => ?_) ?_ (hw := by exact ⟨_, rfl, g24⟩)
       ·have g25r := g25
        have g25r := of_decide_eq_false g25r
        refine sg_ g25 mv_ (sg_ g25 mv_ (sg_ g25 (x_sub_i (a := ((k2 : Nat) : Int)) (b := 1) rfl rfl (by omega) (by omega)) (rg_ g25 (ixF (k := (k2 - 1)) (hy := (ix_nat rfl (by omega))) Test.enc_len (cells_row 1 rfl) Tryd.underlying22 Ty.sz30) (sg_ g25 (fB0 Ty.fi30_0) (rg_ g25 (ldF0 Test.enc_len (cells_row 1 rfl) Ty.sc3) (sg_ g25 (x_neq_i rfl rfl) (sg_ g25 mv_ ?_)))))))
        refine and_ 7 (decide (((R40.notV ts).getD (k2 - 1) default).Kind ≠ 2)) (fun g26 => ?_) ?_ (hw := by exact ⟨_, rfl, g25⟩)
        ·have g26r := g26
         have g26r := of_decide_eq_true g26r
         refine sg_ g26 mv_ (sg_ g26 mv_ (sg_ g26 (x_sub_i (a := ((k2 : Nat) : Int)) (b := 1) rfl rfl (by omega) (by omega)) (rg_ g26 (ixF (k := (k2 - 1)) (hy := (ix_nat rfl (by omega))) Test.enc_len (cells_row 1 rfl) Tryd.underlying22 Ty.sz30) (sg_ g26 (fB0 Ty.fi30_0) (rg_ g26 (ldF0 Test.enc_len (cells_row 1 rfl) Ty.sc3) (sg_ g26 (x_neq_i rfl rfl) ?_))))))
         exact cr_
        refine sg_ g25 mv_ ?_
        refine and_ 7 (decide (((R40.notV ts).getD (k2 - 1) default).Kind ≠ 3)) (fun g27 => ?_) ?_ (hw := by exact ⟨_, rfl, g25⟩)
        ·have g27r := g27
         have ⟨g27r, h28⟩ := band_true g27r
         have g27r := of_decide_eq_true g27r
         have h28 := of_decide_eq_true h28
         refine sg_ g27 mv_ (sg_ g27 mv_ (sg_ g27 (x_sub_i (a := ((k2 : Nat) : Int)) (b := 1) rfl rfl (by omega) (by omega)) (rg_ g27 (ixF (k := (k2 - 1)) (hy := (ix_nat rfl (by omega))) Test.enc_len (cells_row 1 rfl) Tryd.underlying22 Ty.sz30) (sg_ g27 (fB0 Ty.fi30_0) (rg_ g27 (ldF0 Test.enc_len (cells_row 1 rfl) Ty.sc3) (sg_ g27 (x_neq_i rfl rfl) ?_))))))
         exact cr_
        exact cr_
       exact cr_
      refine z_ (n_ ?_)
      refine if_ (fun h29 => ?_) (fun h29 => ?_)
      ·have h29w := h29
       have ⟨h29, h30⟩ := band_true h29
       have h29 := of_decide_eq_true h29
       simp only [Bool.and_eq_true, Bool.or_eq_true, Bool.and_eq_false_iff, Bool.or_eq_false_iff, Bool.not_eq_true', Bool.not_eq_false', decide_eq_true_eq, decide_eq_false_iff_not] at h30
       exact (R40.opp_2 hno.1 (by omega) (by assumption)).elim
      ·have h29w := h29
       simp only [Bool.and_eq_true, Bool.or_eq_true, Bool.and_eq_false_iff, Bool.or_eq_false_iff, Bool.not_eq_true', Bool.not_eq_false', decide_eq_true_eq, decide_eq_false_iff_not] at h29
       refine sk_ (kx_ (n_ (g_ (s_ (x_add_n (a := k2) (b := 1) rfl rfl (by omega)) (s_ mv_ (z_ ?_))))))
       refine JX_round (k2 + 1 : Nat) ?_ ?_ ⟨rfl, rfl, rfl, rfl, rfl, rfl, rfl, trivial⟩ (fun _ h => h.keep [false, true] rfl)
       ·try dsimp only
        first | rfl | omega | (simp_all; done) | (simp_all; omega)
       ·try dsimp only
        first | omega | (simp; omega) | (simp_all; omega)
     ·refine J_exit (ne_ (re_ (kh_ (n_ (q_ ?_)))))
      refine g_ (s_ mv_ (s_ mv_ (s_ mv_ (c0 (cl_ Ty.ca7) (fun w hS => f7_ok ts tsA tsC _ _ _ ends _ _ w (rno tsR hS) (rno stepsR hS) (rno endsR hS) hy_ hy_ hy_) (s_ av_ (z_ (n_ (q_ (g_ (s_ mv_ ?_))))))))))
      refine c1 (cl_ Ty.ca11) (fun w hS => f11_ok _ e18 e19 w (RO.of_row hS 0 rfl) (hT.on hS (fun _ h => by cases h)) hy_ l40o0_) ?_
      rintro _ _ ⟨e31, e32, rfl, rfl⟩
      have ha33 := R40.not_len (R40.notV ts)
      refine s_ av_ (z_ (n_ (q_ (g_ (s_ mv_ (s_ (lnS Tryd.underlying22) (s_ (x_leq_i rfl rfl) (s_ mv_ ?_))))))))
      refine and_ 3 ((R40.onV (R40.notV ts) steps).isSome) (fun g34 => ?_) ?_
      ·have g34r := g34
       have g34r := of_decide_eq_true g34r
       refine sg_ g34 mv_ (sg_ g34 mv_ (c0g g34 (cl_ Ty.ca8) (fun w hS => f8_ok _ e18 e19 _ _ _ w (RO.of_row hS 1 rfl) (rno stepsR hS) hy_ hy_) ?_))
       exact cr_
      refine s_ mv_ ?_
      refine and_ 7 (decide ((R40.evalV (R40.notV ts) steps ends) = (!(R40.evalV ts steps ends)))) (fun g35 => ?_) ?_
      ·have g35r := g35
       have ⟨g35r, h36⟩ := band_true g35r
       have g35r := of_decide_eq_true g35r
       refine sg_ g35 mv_ (sg_ g35 mv_ (sg_ g35 mv_ (c0g g35 (cl_ Ty.ca7) (fun w hS => f7_ok _ e18 e19 _ _ _ ends _ _ w (RO.of_row hS 1 rfl) (rno stepsR hS) (rno endsR hS) hy_ hy_ hy_) (sg_ g35 mv_ (sg_ g35 (x_not rfl) (sg_ g35 (x_eql_b Tryd.underlying4 rfl rfl) ?_))))))
       exact cr_
      refine s_ mv_ ?_
      refine and_ 11 ((decide ((((R40.notV (R40.notV ts)).length : Nat) : Int) = 0)) || (decide ((R40.evalV (R40.notV (R40.notV ts)) steps ends) = (R40.evalV ts steps ends)))) (fun g37 => ?_) ?_
      ·have g37r := g37
       have ⟨g37r, h38⟩ := band_true g37r
       have ⟨g37r, h39⟩ := band_true g37r
       have g37r := of_decide_eq_true g37r
       have h38 := of_decide_eq_true h38
       refine sg_ g37 mv_ (sg_ g37 (lnS Tryd.underlying22) (sg_ g37 (x_eql_i rfl rfl) (sg_ g37 mv_ ?_)))
       refine or_ 6 (decide ((R40.evalV (R40.notV (R40.notV ts)) steps ends) = (R40.evalV ts steps ends))) (fun g40 => ?_) ?_ (hw := by exact ⟨_, rfl, g37⟩)
       ·have g40r := g40
        have g40r := of_decide_eq_false g40r
        refine sg_ g40 mv_ (sg_ g40 mv_ (sg_ g40 mv_ (c0g g40 (cl_ Ty.ca7) (fun w hS => f7_ok _ e31 e32 _ _ _ ends _ _ w (RO.of_row hS 0 rfl) (rno stepsR hS) (rno endsR hS) hy_ hy_ hy_) (sg_ g40 mv_ (sg_ g40 (x_eql_b Tryd.underlying4 rfl rfl) ?_)))))
        exact cr_
       exact cr_
      refine s_ av_ (z_ (xk_ [6] ?_))
      refine n_ (rt_ ?_)
      exact p1 Tryd.results4 rfl ⟨(eB (by first | rfl | exact R40.opp_3 hno)), rfl⟩
end Go.Proofs.YtngjdmhpljmkpaaDoor
