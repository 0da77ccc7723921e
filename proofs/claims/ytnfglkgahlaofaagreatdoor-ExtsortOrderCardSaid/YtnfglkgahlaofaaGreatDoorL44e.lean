/- contracts L44e -/
import Derived.Test.YtnfglkgahlaofaaGreatDoorAll21
import Derived.Test.YtnfglkgahlaofaaGreatDoorAll14
import Derived.Test.YtnfglkgahlaofaaGreatDoorAll25
namespace Go.Proofs.YtnfglkgahlaofaaGreatDoor
open Go.GV
set_option linter.unusedVariables false
set_option linter.unusedSimpArgs false
set_option maxRecDepth 20000 in
theorem f6_ok (l : List SortField) (lA : Option Addr) (lC : Nat) (a : Bytes) (b : Bytes) (c : Bytes) (w : World) (lR : RO [] w lA (l.flatMap SortField.enc)) (hT : Tab [] w) (q0 : l.length ≤ 9223372036854775807) (q1 : a.length ≤ 9223372036854775807) (q2 : b.length ≤ 9223372036854775807) (q3 : c.length ≤ 9223372036854775807) : Calls Tryz.prog 6 #[vL lA l.length lC, vS a, vS b, vS c] w (Gives [] w fun v L => v = vB true ∧ L = []) := by
 refine calls_J [] 114 Tryz.func6 rfl Tryz.ntmps6 [(0, _), (1, _), (2, _), (3, _)] rfl rfl (Give.nil w) ?_
 refine q_ (g_ (s_ av_ (z_ (n_ (q_ (q_ (g_ (c0 (cl_ Ty.ca11) (fun w hS => f11_ok w (hT.on hS (fun _ h => by cases h))) (jr_ (vB false) (z_ (n_ (iff_ (sk_ (n_ (q_ (q_ (g_ (s_ mv_ (c0 (cl_ Ty.ca21) (fun w hS => f21_ok l lA lC w (rno lR hS) hy_) (s_ (x_not rfl) ?_))))))))))))))))))))
 refine s_ mv_ ?_
 refine or_ 3 (decide ((60 : Int) < ((a.length : Nat) : Int))) (fun g1 => ?_) ?_
 ·have g1r := g1
  have g1r : (R44.valid l) = true := bnot_false g1r
  have hi2 := R44.valid_facts g1r
  refine sg_ g1 mv_ (sg_ g1 (x_len_s rfl Tryz.underlying9) (sg_ g1 (x_gtr_i rfl rfl) ?_))
  exact cr_
 refine s_ mv_ ?_
 refine or_ 3 (decide ((60 : Int) < ((b.length : Nat) : Int))) (fun g3 => ?_) ?_
 ·have g3r := g3
  have ⟨g3r, h4⟩ := bor_false g3r
  have g3r : (R44.valid l) = true := bnot_false g3r
  have hi5 := R44.valid_facts g3r
  have h4 := of_decide_eq_false h4
  refine sg_ g3 mv_ (sg_ g3 (x_len_s rfl Tryz.underlying9) (sg_ g3 (x_gtr_i rfl rfl) ?_))
  exact cr_
 refine s_ mv_ ?_
 refine or_ 3 (decide ((60 : Int) < ((c.length : Nat) : Int))) (fun g6 => ?_) ?_
 ·have g6r := g6
  have ⟨g6r, h7⟩ := bor_false g6r
  have ⟨g6r, h8⟩ := bor_false g6r
  have g6r : (R44.valid l) = true := bnot_false g6r
  have hi9 := R44.valid_facts g6r
  have h8 := of_decide_eq_false h8
  have h7 := of_decide_eq_false h7
  refine sg_ g6 mv_ (sg_ g6 (x_len_s rfl Tryz.underlying9) (sg_ g6 (x_gtr_i rfl rfl) ?_))
  exact cr_
 refine z_ (n_ ?_)
 refine if_ (fun h10 => ?_) (fun h10 => ?_)
 ·have h10w := h10
  simp only [Bool.and_eq_true, Bool.or_eq_true, Bool.and_eq_false_iff, Bool.or_eq_false_iff, Bool.not_eq_true', Bool.not_eq_false', decide_eq_true_eq, decide_eq_false_iff_not] at h10
  refine q_ (g_ (s_ av_ (z_ (n_ (rt_ (nr_ ?_))))))
  exact p1 Tryz.results6 rfl ⟨rfl, rfl⟩
 ·have h10w := h10
  have ⟨h10, h11⟩ := bor_false h10
  have ⟨h10, h12⟩ := bor_false h10
  have ⟨h10, h13⟩ := bor_false h10
  have h10 : (R44.valid l) = true := bnot_false h10
  have hi14 := R44.valid_facts h10
  have h13 := of_decide_eq_false h13
  have h12 := of_decide_eq_false h12
  have h11 := of_decide_eq_false h11
  refine sk_ (n_ (q_ (g_ (s_ mv_ (s_ mv_ (s_ mv_ (c0 (cl_ Ty.ca22) (fun w hS => f22_ok a b l lA lC w (rno lR hS) hy_ hy_ hy_) ?_)))))))
  have ha15 := R44.cmpV_bd l a b
  refine s_ mv_ (s_ mv_ (s_ mv_ (c0 (cl_ Ty.ca22) (fun w hS => f22_ok b c l lA lC w (rno lR hS) hy_ hy_ hy_) ?_)))
  have ha16 := R44.cmpV_bd l b c
  refine s_ mv_ (s_ mv_ (s_ mv_ (c0 (cl_ Ty.ca22) (fun w hS => f22_ok a c l lA lC w (rno lR hS) hy_ hy_ hy_) ?_)))
  have ha17 := R44.cmpV_bd l a c
  refine s_ av_ (s_ av_ (s_ av_ (z_ (xk_ [0, 1, 2, 8, 9, 10, 11] ?_))))
  refine n_ (q_ (g_ (o_ (O_buildSlice0 Tryz.underlying24 Ty.sz50 fun b18 => ?_))))
  refine s_ mv_ ?_
  refine JO_weaken (E' := [(0, vL lA l.length lC), (1, vS a), (2, vS b), (8, vB false), (9, vI (R44.cmpV l a b)), (10, vI (R44.cmpV l b c)), (11, vI (R44.cmpV l a c)), (46, vL (some ⟨b18, 0, none⟩) ((([] : List SortField)).length) 0), (47, vL lA l.length lC)]) (L' := [Ent.row (.slice (some ⟨b18, 0, none⟩) ([] : List SortField).length 0) 50 4 ([] : List SortField).length (([] : List SortField).flatMap SortField.enc)]) ⟨rfl, rfl, rfl, rfl, rfl, rfl, rfl, rfl, rfl, trivial⟩ (fun _ h => (St.torow (cs := []) h 4 0 rfl (by decide)).keep [true] rfl) ?_
  refine o_ (O_append_f 0 SortField.enc 4 ([] : List SortField) l Tryz.underlying24 Ty.sz50 Ty.by50 Ty.ze50 rfl (by decide) rfl rfl rfl rfl SortField.enc_len SortField.enc_one (cells_ro lR) lt_ lt_ fun A19 c20 => ?_)
  refine s_ av_ (z_ (n_ (q_ (q_ (g_ (s_ mv_ (s_ (lnS Tryz.underlying24) (s_ mv_ (z_ (n_ (k_ ?_)))))))))))
  refine J_loop (X := (List SortField) × (Option Addr) × Nat × Nat) (fun (⟨ts, tsA, tsC, k⟩ : (List SortField) × (Option Addr) × Nat × Nat) => (ts = (l.take k).map R44.turn ++ l.drop k) ∧ (ts.length = l.length) ∧ (k ≤ l.length)) (fun (⟨ts, tsA, tsC, k⟩ : (List SortField) × (Option Addr) × Nat × Nat) => [(0, vL lA l.length lC), (1, vS a), (2, vS b), (8, vB false), (9, vI (R44.cmpV l a b)), (10, vI (R44.cmpV l b c)), (11, vI (R44.cmpV l a c)), (12, vL tsA ts.length tsC), (50, vI (((([] : List SortField) ++ l).length : Nat) : Int)), (51, vI ((k : Nat) : Int))]) (fun (⟨ts, tsA, tsC, k⟩ : (List SortField) × (Option Addr) × Nat × Nat) => [Ent.row (.slice tsA ts.length tsC) 50 4 ts.length (ts.flatMap SortField.enc)]) (fun (⟨ts, tsA, tsC, k⟩ : (List SortField) × (Option Addr) × Nat × Nat) => l.length - k) ((([] : List SortField) ++ l, A19, c20, 0) : (List SortField) × (Option Addr) × Nat × Nat) ?_ ⟨rfl, rfl, rfl, rfl, rfl, rfl, rfl, rfl, rfl, rfl, trivial⟩ (fun _ h => h) ?_
  ·try dsimp only
   refine ⟨?_, ?_, ?_⟩
   ·rfl
   ·rfl
   ·first | rfl | omega | (simp_all; done) | (simp_all; omega)
  rintro ⟨ts, tsA, tsC, k⟩ hI1
  obtain ⟨i1_0, i1_1, i1_2⟩ := hI1
  try dsimp only at i1_0
  try dsimp only at i1_1
  try dsimp only at i1_2
  have hnl : ([] ++ l : List SortField).length = l.length := rfl
  try dsimp only
  refine q_ (g_ (s_ (x_lss_i rfl rfl) (z_ (n_ (q_ ?_)))))
  refine ifd (fun h21w h21 => ?_) (fun h21w h21 => ?_)
  ·refine sk_ (n_ (q_ (k_ (q_ (g_ (s_ mv_ (s_ av_ (z_ (n_ (g_ (s_ mv_ (s_ mv_ (s_ mv_ (s_ mv_ (r_ (ixF SortField.enc_len (cells_row 0 rfl) Tryz.underlying24 Ty.sz50) (s_ (fB Ty.fi50_3) ?_))))))))))))))))
   refine r_ (ldF 3 SortField.enc_len (cells_row 0 rfl) Ty.sc4) (s_ (x_not rfl) (r_ (ixF SortField.enc_len (cells_row 0 rfl) Tryz.underlying24 Ty.sz50) (s_ (fB Ty.fi50_3) ?_)))
   refine o_ (O_store_row_c (a := (SortField.mk (ts.getD k default).At (ts.getD k default).Length (ts.getD k default).Kind (!((ts.getD k default).Descending)))) (d := default) (xs := ts) (k := k) (o := 3) 0 SortField.enc [Ent.row (.slice tsA (ts.set k (SortField.mk (ts.getD k default).At (ts.getD k default).Length (ts.getD k default).Kind (!((ts.getD k default).Descending)))).length tsC) 50 4 (ts.set k (SortField.mk (ts.getD k default).At (ts.getD k default).Length (ts.getD k default).Kind (!((ts.getD k default).Descending)))).length ((ts.set k (SortField.mk (ts.getD k default).At (ts.getD k default).Length (ts.getD k default).Kind (!((ts.getD k default).Descending)))).flatMap SortField.enc)] rfl rfl rfl rfl rfl Ty.sz4 SortField.enc_len lt_ (by decide) rfl rfl ?_)
   refine JO_weaken (E' := [(0, vL lA l.length lC), (1, vS a), (2, vS b), (8, vB false), (9, vI (R44.cmpV l a b)), (10, vI (R44.cmpV l b c)), (11, vI (R44.cmpV l a c)), (12, vL tsA ((ts.set k (SortField.mk (ts.getD k default).At (ts.getD k default).Length (ts.getD k default).Kind (!((ts.getD k default).Descending)))).length) tsC), (50, vI (((([] : List SortField) ++ l).length : Nat) : Int)), (51, vI ((k : Nat) : Int)), (52, vB (decide (((k : Nat) : Int) < (((([] : List SortField) ++ l).length : Nat) : Int)))), (53, vI ((k : Nat) : Int)), (13, vI ((k : Nat) : Int)), (54, vL tsA ((ts.set k (SortField.mk (ts.getD k default).At (ts.getD k default).Length (ts.getD k default).Kind (!((ts.getD k default).Descending)))).length) tsC), (55, vI ((k : Nat) : Int)), (56, vL tsA ((ts.set k (SortField.mk (ts.getD k default).At (ts.getD k default).Length (ts.getD k default).Kind (!((ts.getD k default).Descending)))).length) tsC), (57, vI ((k : Nat) : Int)), (58, pA tsA (k * 4)), (59, pA tsA (k * 4 + 3)), (60, vB ((ts.getD k default).Descending)), (61, vB (!((ts.getD k default).Descending))), (62, pA tsA (k * 4)), (63, pA tsA (k * 4 + 3))]) (L' := [Ent.row (.slice tsA (ts.set k (SortField.mk (ts.getD k default).At (ts.getD k default).Length (ts.getD k default).Kind (!((ts.getD k default).Descending)))).length tsC) 50 4 (ts.set k (SortField.mk (ts.getD k default).At (ts.getD k default).Length (ts.getD k default).Kind (!((ts.getD k default).Descending)))).length ((ts.set k (SortField.mk (ts.getD k default).At (ts.getD k default).Length (ts.getD k default).Kind (!((ts.getD k default).Descending)))).flatMap SortField.enc)]) ⟨rfl, rfl, rfl, rfl, rfl, rfl, rfl, (congrArg (fun n : Nat => some (Value.slice tsA n tsC)) (set_len ts k (SortField.mk (ts.getD k default).At (ts.getD k default).Length (ts.getD k default).Kind (!((ts.getD k default).Descending)))).symm), rfl, rfl, rfl, rfl, rfl, (congrArg (fun n : Nat => some (Value.slice tsA n tsC)) (set_len ts k (SortField.mk (ts.getD k default).At (ts.getD k default).Length (ts.getD k default).Kind (!((ts.getD k default).Descending)))).symm), rfl, (congrArg (fun n : Nat => some (Value.slice tsA n tsC)) (set_len ts k (SortField.mk (ts.getD k default).At (ts.getD k default).Length (ts.getD k default).Kind (!((ts.getD k default).Descending)))).symm), rfl, rfl, rfl, rfl, rfl, rfl, rfl, trivial⟩ (fun _ h => h) ?_
   refine z_ (kx_ (n_ (g_ (s_ (x_add_n (a := k) (b := 1) rfl rfl (by omega)) (s_ mv_ (z_ ?_))))))
   refine JX_round (((ts.set k (SortField.mk (ts.getD k default).At (ts.getD k default).Length (ts.getD k default).Kind (!((ts.getD k default).Descending)))), tsA, tsC, k + 1) : (List SortField) × (Option Addr) × Nat × Nat) ?_ ?_ ⟨rfl, rfl, rfl, rfl, rfl, rfl, rfl, rfl, rfl, rfl, trivial⟩ (fun _ h => h)
   ·try dsimp only
    refine ⟨?_, ?_, ?_⟩
    ·exact R44.turn_step i1_0 (by omega)
    ·rw [List.length_set]; exact i1_1
    ·first | rfl | omega | (simp_all; done) | (simp_all; omega)
   ·try dsimp only
    first | omega | (simp; omega) | (simp_all; omega)
  ·refine J_exit (ne_ (re_ (kh_ (n_ (q_ ?_)))))
   refine g_ (s_ mv_ (s_ mv_ (s_ mv_ (s_ mv_ (c0 (cl_ Ty.ca22) (fun w hS => f22_ok b a l lA lC w (rno lR hS) hy_ hy_ hy_) ?_)))))
   have ha22 := R44.cmpV_bd l b a
   refine s_ (x_neg_i (a := R44.cmpV l b a) rfl (by omega) (by omega)) (s_ (x_eql_i rfl rfl) (s_ mv_ ?_))
   refine and_ 5 (decide (R44.cmpV l a a = 0)) (fun g23 => ?_) ?_
   ·have g23r := g23
    have g23r := of_decide_eq_true g23r
    refine sg_ g23 mv_ (sg_ g23 mv_ (sg_ g23 mv_ (c0g g23 (cl_ Ty.ca22) (fun w hS => f22_ok a a l lA lC w (rno lR hS) hy_ hy_ hy_) ?_)))
    have ha24 := R44.cmpV_bd l a a
    refine sg_ g23 (x_eql_i rfl rfl) ?_
    exact cr_
   refine s_ mv_ ?_
   refine and_ 11 (!(((decide (R44.cmpV l a b ≤ 0)) && (decide (R44.cmpV l b c ≤ 0))) && (decide ((0 : Int) < R44.cmpV l a c)))) (fun g25 => ?_) ?_
   ·have g25r := g25
    have ⟨g25r, h26⟩ := band_true g25r
    have g25r := of_decide_eq_true g25r
    have h26 := of_decide_eq_true h26
    refine sg_ g25 mv_ (sg_ g25 (x_leq_i rfl rfl) (sg_ g25 mv_ ?_))
    refine and_ 2 (decide (R44.cmpV l b c ≤ 0)) (fun g27 => ?_) ?_ (hw := by exact ⟨_, rfl, g25⟩)
    ·have g27r := g27
     have g27r := of_decide_eq_true g27r
     refine sg_ g27 mv_ (sg_ g27 (x_leq_i rfl rfl) ?_)
     exact cr_
    refine sg_ g25 mv_ ?_
    refine and_ 2 (decide ((0 : Int) < R44.cmpV l a c)) (fun g28 => ?_) ?_ (hw := by exact ⟨_, rfl, g25⟩)
    ·have g28r := g28
     have ⟨g28r, h29⟩ := band_true g28r
     have g28r := of_decide_eq_true g28r
     have h29 := of_decide_eq_true h29
     refine sg_ g28 mv_ (sg_ g28 (x_gtr_i rfl rfl) ?_)
     exact cr_
    refine sg_ g25 (x_not rfl) ?_
    exact cr_
   refine s_ mv_ ?_
   refine and_ 11 (!(((decide (R44.cmpV l a b = 0)) && (decide (R44.cmpV l b c = 0))) && (decide (R44.cmpV l a c ≠ 0)))) (fun g30 => ?_) ?_
   ·have g30r := g30
    have ⟨g30r, h31⟩ := band_true g30r
    have ⟨g30r, h32⟩ := band_true g30r
    have g30r := of_decide_eq_true g30r
    have h32 := of_decide_eq_true h32
    have h31 : (((decide (R44.cmpV l a b ≤ 0)) && (decide (R44.cmpV l b c ≤ 0))) && (decide ((0 : Int) < R44.cmpV l a c))) = false := bnot_true h31
    simp only [Bool.and_eq_true, Bool.or_eq_true, Bool.and_eq_false_iff, Bool.or_eq_false_iff, Bool.not_eq_true', Bool.not_eq_false', decide_eq_true_eq, decide_eq_false_iff_not] at h31
    refine sg_ g30 mv_ (sg_ g30 (x_eql_i rfl rfl) (sg_ g30 mv_ ?_))
    refine and_ 2 (decide (R44.cmpV l b c = 0)) (fun g33 => ?_) ?_ (hw := by exact ⟨_, rfl, g30⟩)
    ·have g33r := g33
     have g33r := of_decide_eq_true g33r
     refine sg_ g33 mv_ (sg_ g33 (x_eql_i rfl rfl) ?_)
     exact cr_
    refine sg_ g30 mv_ ?_
    refine and_ 2 (decide (R44.cmpV l a c ≠ 0)) (fun g34 => ?_) ?_ (hw := by exact ⟨_, rfl, g30⟩)
    ·have g34r := g34
     have ⟨g34r, h35⟩ := band_true g34r
     have g34r := of_decide_eq_true g34r
     have h35 := of_decide_eq_true h35
     refine sg_ g34 mv_ (sg_ g34 (x_neq_i rfl rfl) ?_)
     exact cr_
    refine sg_ g30 (x_not rfl) ?_
    exact cr_
   refine s_ mv_ ?_
   refine and_ 7 (decide (R44.cmpV ts a b = -(R44.cmpV l a b))) (fun g36 => ?_) ?_
   ·have g36r := g36
    have ⟨g36r, h37⟩ := band_true g36r
    have ⟨g36r, h38⟩ := band_true g36r
    have ⟨g36r, h39⟩ := band_true g36r
    have g36r := of_decide_eq_true g36r
    have h39 := of_decide_eq_true h39
    have h38 : (((decide (R44.cmpV l a b ≤ 0)) && (decide (R44.cmpV l b c ≤ 0))) && (decide ((0 : Int) < R44.cmpV l a c))) = false := bnot_true h38
    simp only [Bool.and_eq_true, Bool.or_eq_true, Bool.and_eq_false_iff, Bool.or_eq_false_iff, Bool.not_eq_true', Bool.not_eq_false', decide_eq_true_eq, decide_eq_false_iff_not] at h38
    have h37 : (((decide (R44.cmpV l a b = 0)) && (decide (R44.cmpV l b c = 0))) && (decide (R44.cmpV l a c ≠ 0))) = false := bnot_true h37
    simp only [Bool.and_eq_true, Bool.or_eq_true, Bool.and_eq_false_iff, Bool.or_eq_false_iff, Bool.not_eq_true', Bool.not_eq_false', decide_eq_true_eq, decide_eq_false_iff_not] at h37
    refine sg_ g36 mv_ (sg_ g36 mv_ (sg_ g36 mv_ (c0g g36 (cl_ Ty.ca22) (fun w hS => f22_ok a b ts tsA tsC w (RO.of_row hS 0 rfl) hy_ hy_ hy_) ?_)))
    have ha40 := R44.cmpV_bd ts a b
    refine sg_ g36 mv_ (sg_ g36 (x_neg_i (a := R44.cmpV l a b) rfl (by omega) (by omega)) (sg_ g36 (x_eql_i rfl rfl) ?_))
    exact cr_
   refine s_ av_ (z_ (xk_ [8] ?_))
   refine n_ (rt_ ?_)
   exact p1 Tryz.results6 rfl ⟨(eB (R44.law_order i1_0 (by omega))), rfl⟩
end Go.Proofs.YtnfglkgahlaofaaGreatDoor
