/- C26b, C26c, Pl26b in one text. -/
import Derived.Test.YtmbinhhlfbgiaaaGreatC26a
import Derived.Test.YtmbinhhlfbgiaaaGreatUpgradeUnique5
namespace Go.Proofs.YtmbinhhlfbgiaaaGreat
open Go.GV
set_option linter.unusedVariables false
set_option linter.unusedSimpArgs false
theorem c26b0_ {p : Prop} (h : p := by first | rfl | omega | (simp_all; done) | (simp_all; omega)) : p := h
theorem c26b1_ {p : Prop} (h : p := by first | rfl | exact (if_pos (by omega)).symm | exact (if_neg (by omega)).symm) : p := h
theorem c26b2_ {p : Prop} (h : p := by first | rfl | (simp only [R26.valid, *]; done) | (simp [R26.valid, *]; done)) : p := h
set_option maxRecDepth 20000 in
theorem f63_ok (n : Int) (w : World) : Calls Tryz.prog 63 #[vI n] w (Gives [] w fun v L => v = vB (R26.isId n) ∧ L = []) := by
 refine calls_J [] 9 Tryz.func63 rfl Tryz.ntmps63 [(0, _)] rfl rfl (Give.nil w) ?_
 refine q_ (g_ (s_ av_ (z_ (n_ (q_ (g_ (s_ mv_ (s_ (x_geq_i rfl rfl) (s_ mv_ ?_)))))))))
 refine and_ 2 (decide (n ≤ 1099511627776)) (fun g1 => ?_) ?_
 ·have g1r := g1
  have g1r := of_decide_eq_true g1r
  refine sg_ g1 mv_ (sg_ g1 (x_leq_i rfl rfl) ?_)
  exact cr_
 refine s_ av_ (z_ (n_ (rt_ ?_)))
 exact p1 Tryz.results63 rfl ⟨(eB c26b0_), rfl⟩
set_option maxRecDepth 20000 in
theorem f62_ok (d : DataSet) (w : World) : Calls Tryz.prog 62 #[vG (DataSet.enc d)] w (Gives [] w fun v L => v = vB (R26.isBase d) ∧ L = []) := by
 refine calls_J [] 25 Tryz.func62 rfl Tryz.ntmps62 [(0, _)] rfl rfl (Give.nil w) ?_
 refine q_ (g_ (o_ (bxG fun b1 => ?_)))
 refine s_ av_ (z_ (n_ (q_ (g_ (r_ (ldN 0 (DataSet.enc d) Ty.ag23 Ty.sz23) (c0 (cl_ Ty.ca65) (fun w hS => f65_ok d w) (s_ mv_ ?_)))))))
 refine and_ 3 (R26.isId d.Id) (fun g2 => ?_) ?_
 ·have g2r := g2
  have hi3 := R16.valid_facts g2r
  refine sg_ g2 (fA 0 Ty.fi23_0) (rg_ g2 (ld_ 0 Ty.sc3) (c0g g2 (cl_ Ty.ca63) (fun w hS => f63_ok d.Id w) ?_))
  exact cr_
 refine s_ mv_ ?_
 refine and_ 3 (decide (d.Base = 0)) (fun g4 => ?_) ?_
 ·have g4r := g4
  have ⟨g4r, h5⟩ := band_true g4r
  have hi6 := R16.valid_facts g4r
  have hi7 := R26.isId_facts h5
  refine sg_ g4 (fA 11 Ty.fi23_11) (rg_ g4 (ld_ 0 Ty.sc3) (sg_ g4 (x_eql_i rfl rfl) ?_))
  exact cr_
 refine s_ mv_ ?_
 refine and_ 8 ((decide (d.Org = 3)) || (decide (d.Org = 1))) (fun g8 => ?_) ?_
 ·have g8r := g8
  have ⟨g8r, h9⟩ := band_true g8r
  have ⟨g8r, h10⟩ := band_true g8r
  have hi11 := R16.valid_facts g8r
  have hi12 := R26.isId_facts h10
  have h9 := of_decide_eq_true h9
  refine sg_ g8 (fA 1 Ty.fi23_1) (rg_ g8 (ld_ 0 Ty.sc3) (sg_ g8 (x_eql_i rfl rfl) (sg_ g8 mv_ ?_)))
  refine or_ 3 (decide (d.Org = 1)) (fun g13 => ?_) ?_ (hw := by exact ⟨_, rfl, g8⟩)
  ·have g13r := g13
   have g13r := of_decide_eq_false g13r
   refine sg_ g13 (fA 1 Ty.fi23_1) (rg_ g13 (ld_ 0 Ty.sc3) (sg_ g13 (x_eql_i rfl rfl) ?_))
   exact cr_
  exact cr_
 refine s_ av_ (z_ (n_ (rt_ ?_)))
 exact p1 Tryz.results62 rfl ⟨(eB c26b0_), rfl⟩
set_option maxRecDepth 20000 in
theorem f69_ok (d : DataSet) (w : World) : Calls Tryz.prog 69 #[vG (DataSet.enc d)] w (Gives [] w fun v L => v = vB (R26.isBase d) ∧ L = []) := by
 refine calls_J [] 20 Tryz.func69 rfl Tryz.ntmps69 [(0, _)] rfl rfl (Give.nil w) ?_
 refine q_ (g_ (o_ (bxG fun b1 => ?_)))
 refine s_ av_ (z_ (n_ (q_ (g_ (r_ (ldN 0 (DataSet.enc d) Ty.ag23 Ty.sz23) (c0 (cl_ Ty.ca48) (fun w hS => f48_ok d w) (s_ mv_ ?_)))))))
 refine and_ 3 ((decide (1 ≤ d.Id)) && (decide (d.Id ≤ 1099511627776))) (fun g2 => ?_) ?_
 ·have g2r := g2
  have hi3 := R16.valid_facts g2r
  refine sg_ g2 (fA 0 Ty.fi23_0) (rg_ g2 (ld_ 0 Ty.sc3) (c0g g2 (cl_ Ty.ca80) (fun w hS => f80_ok d.Id 1 1099511627776 w) ?_))
  exact cr_
 refine s_ mv_ ?_
 refine and_ 3 (decide (d.Base = 0)) (fun g4 => ?_) ?_
 ·have g4r := g4
  have ⟨g4r, h5⟩ := band_true g4r
  have hi6 := R16.valid_facts g4r
  have ⟨h5, h7⟩ := band_true h5
  have h5 := of_decide_eq_true h5
  have h7 := of_decide_eq_true h7
  refine sg_ g4 (fA 11 Ty.fi23_11) (rg_ g4 (ld_ 0 Ty.sc3) (sg_ g4 (x_eql_i rfl rfl) ?_))
  exact cr_
 refine s_ mv_ ?_
 refine and_ 3 (decide (d.Org ≠ 2)) (fun g8 => ?_) ?_
 ·have g8r := g8
  have ⟨g8r, h9⟩ := band_true g8r
  have ⟨g8r, h10⟩ := band_true g8r
  have hi11 := R16.valid_facts g8r
  have ⟨h10, h12⟩ := band_true h10
  have h10 := of_decide_eq_true h10
  have h12 := of_decide_eq_true h12
  have h9 := of_decide_eq_true h9
  refine sg_ g8 (fA 1 Ty.fi23_1) (rg_ g8 (ld_ 0 Ty.sc3) (sg_ g8 (x_neq_i rfl rfl) ?_))
  exact cr_
 refine s_ av_ (z_ (n_ (rt_ ?_)))
 refine p1 Tryz.results69 rfl ⟨?_, rfl⟩
 have e_x0 : ((((R16.valid d) && ((decide (1 ≤ d.Id)) && (decide (d.Id ≤ 1099511627776)))) && (decide (d.Base = 0))) && (decide (d.Org ≠ 2)) : Bool) = (R26.isBase d) := by
  unfold R26.isBase R26.isId
  cases hv : R16.valid d with
  | false => simp
  | true =>
   have hf := R16.valid_facts hv
   rw [Bool.eq_iff_iff]
   simp only [Bool.and_eq_true, Bool.or_eq_true, decide_eq_true_eq, Bool.true_and, Bool.false_and, Bool.false_eq_true, false_iff, iff_false, true_iff, iff_true, true_and, and_true, false_and, and_false]
   omega
 exact congrArg (fun (x0 : Bool) => vB x0) e_x0
set_option maxRecDepth 20000 in
theorem f64_ok (d : DataSet) (w : World) : Calls Tryz.prog 64 #[vG (DataSet.enc d)] w (Gives [] w fun v L => v = vI (R26.keys d) ∧ L = []) := by
 refine calls_J [] 8 Tryz.func64 rfl Tryz.ntmps64 [(0, _)] rfl rfl (Give.nil w) ?_
 refine q_ (g_ (o_ (bxG fun b1 => ?_)))
 refine s_ av_ (z_ (n_ (q_ (q_ (g_ (s_ (fA 1 Ty.fi23_1) (r_ (ld_ 0 Ty.sc3) (s_ (x_eql_i rfl rfl) (z_ (n_ ?_))))))))))
 refine ifd (fun h2w h2 => ?_) (fun h2w h2 => ?_)
 ·refine q_ (g_ (s_ (fA 6 Ty.fi23_6) (r_ (ld_ 0 Ty.sc3) (s_ av_ (z_ (n_ (rt_ (nr_ ?_))))))))
  exact p1 Tryz.results64 rfl ⟨(eI c26b1_), rfl⟩
 ·refine sk_ (n_ (q_ (g_ (s_ av_ (z_ (n_ (rt_ ?_)))))))
  exact p1 Tryz.results64 rfl ⟨(eI c26b1_), rfl⟩
set_option maxRecDepth 20000 in
theorem f70_ok (d : DataSet) (w : World) : Calls Tryz.prog 70 #[vG (DataSet.enc d)] w (Gives [] w fun v L => v = vI (R26.keys d) ∧ L = []) := by
 refine calls_J [] 8 Tryz.func70 rfl Tryz.ntmps70 [(0, _)] rfl rfl (Give.nil w) ?_
 refine q_ (g_ (o_ (bxG fun b1 => ?_)))
 refine s_ av_ (z_ (n_ (q_ (q_ (g_ (s_ (fA 1 Ty.fi23_1) (r_ (ld_ 0 Ty.sc3) (s_ (x_eql_i rfl rfl) (z_ (n_ ?_))))))))))
 refine ifd (fun h2w h2 => ?_) (fun h2w h2 => ?_)
 ·refine q_ (g_ (s_ (fA 6 Ty.fi23_6) (r_ (ld_ 0 Ty.sc3) (s_ av_ (z_ (n_ (rt_ (nr_ ?_))))))))
  exact p1 Tryz.results70 rfl ⟨(eI c26b1_), rfl⟩
 ·refine sk_ (n_ (q_ (g_ (s_ av_ (z_ (n_ (rt_ ?_)))))))
  exact p1 Tryz.results70 rfl ⟨(eI c26b1_), rfl⟩
set_option maxRecDepth 20000 in
theorem f71_ok (a : DataSet) (n : Int) (w : World) (q0 : n ≤ 9223372036854775807) : Calls Tryz.prog 71 #[vG (DataSet.enc a), vI n] w (Gives [] w fun v L => v = vB (R26.shaped a n) ∧ L = []) := by
 refine calls_J [] 68 Tryz.func71 rfl Tryz.ntmps71 [(0, _), (1, _)] rfl rfl (Give.nil w) ?_
 refine q_ (g_ (o_ (bxG fun b1 => ?_)))
 refine s_ av_ (z_ (n_ (q_ (g_ (s_ (fA 13 Ty.fi23_13) (r_ (ld_ 0 Ty.sc3) (s_ (x_geq_i rfl rfl) (s_ mv_ ?_))))))))
 refine and_ 3 (decide ((0 : Int) ≤ a.AltAt)) (fun g2 => ?_) ?_
 ·have g2r := g2
  have g2r := of_decide_eq_true g2r
  refine sg_ g2 (fA 12 Ty.fi23_12) (rg_ g2 (ld_ 0 Ty.sc3) (sg_ g2 (x_geq_i rfl rfl) ?_))
  exact cr_
 refine s_ mv_ ?_
 refine and_ 4 (decide (a.AltLength ≤ n)) (fun g3 => ?_) ?_
 ·have g3r := g3
  have ⟨g3r, h4⟩ := band_true g3r
  have g3r := of_decide_eq_true g3r
  have h4 := of_decide_eq_true h4
  refine sg_ g3 (fA 13 Ty.fi23_13) (rg_ g3 (ld_ 0 Ty.sc3) (sg_ g3 mv_ (sg_ g3 (x_leq_i rfl rfl) ?_)))
  exact cr_
 refine s_ mv_ ?_
 refine and_ 7 (decide (a.AltAt ≤ n - a.AltLength)) (fun g5 => ?_) ?_
 ·have g5r := g5
  have ⟨g5r, h6⟩ := band_true g5r
  have ⟨g5r, h7⟩ := band_true g5r
  have g5r := of_decide_eq_true g5r
  have h7 := of_decide_eq_true h7
  have h6 := of_decide_eq_true h6
  refine sg_ g5 (fA 12 Ty.fi23_12) (rg_ g5 (ld_ 0 Ty.sc3) (sg_ g5 mv_ (sg_ g5 (fA 13 Ty.fi23_13) (rg_ g5 (ld_ 0 Ty.sc3) (sg_ g5 (x_sub_i (a := n) (b := a.AltLength) rfl rfl (by omega) (by omega)) (sg_ g5 (x_leq_i rfl rfl) ?_))))))
  exact cr_
 refine s_ av_ (z_ (n_ (q_ (g_ (r_ (ldN 0 (DataSet.enc a) Ty.ag23 Ty.sz23) (c0 (cl_ Ty.ca65) (fun w hS => f65_ok a w) (s_ mv_ ?_)))))))
 refine and_ 3 (decide (a.Org = 3)) (fun g8 => ?_) ?_
 ·have g8r := g8
  have hi9 := R16.valid_facts g8r
  refine sg_ g8 (fA 1 Ty.fi23_1) (rg_ g8 (ld_ 0 Ty.sc3) (sg_ g8 (x_eql_i rfl rfl) ?_))
  exact cr_
 refine s_ mv_ ?_
 refine and_ 3 (R26.isId a.Id) (fun g10 => ?_) ?_
 ·have g10r := g10
  have ⟨g10r, h11⟩ := band_true g10r
  have hi12 := R16.valid_facts g10r
  have h11 := of_decide_eq_true h11
  refine sg_ g10 (fA 0 Ty.fi23_0) (rg_ g10 (ld_ 0 Ty.sc3) (c0g g10 (cl_ Ty.ca63) (fun w hS => f63_ok a.Id w) ?_))
  exact cr_
 refine s_ mv_ ?_
 refine and_ 3 (R26.isId a.Base) (fun g13 => ?_) ?_
 ·have g13r := g13
  have ⟨g13r, h14⟩ := band_true g13r
  have ⟨g13r, h15⟩ := band_true g13r
  have hi16 := R16.valid_facts g13r
  have h15 := of_decide_eq_true h15
  have hi17 := R26.isId_facts h14
  refine sg_ g13 (fA 11 Ty.fi23_11) (rg_ g13 (ld_ 0 Ty.sc3) (c0g g13 (cl_ Ty.ca63) (fun w hS => f63_ok _ w) ?_))
  exact cr_
 refine s_ mv_ ?_
 refine and_ 5 (decide (a.Base ≠ a.Id)) (fun g18 => ?_) ?_
 ·have g18r := g18
  have ⟨g18r, h19⟩ := band_true g18r
  have ⟨g18r, h20⟩ := band_true g18r
  have ⟨g18r, h21⟩ := band_true g18r
  have hi22 := R16.valid_facts g18r
  have h21 := of_decide_eq_true h21
  have hi23 := R26.isId_facts h20
  have hi24 := R26.isId_facts h19
  refine sg_ g18 (fA 11 Ty.fi23_11) (rg_ g18 (ld_ 0 Ty.sc3) (sg_ g18 (fA 0 Ty.fi23_0) (rg_ g18 (ld_ 0 Ty.sc3) (sg_ g18 (x_neq_i rfl rfl) ?_))))
  exact cr_
 refine s_ mv_ ?_
 refine and_ 1 ((((decide ((1 : Int) ≤ a.AltLength)) && (decide ((0 : Int) ≤ a.AltAt))) && (decide (a.AltLength ≤ n))) && (decide (a.AltAt ≤ n - a.AltLength))) (fun g25 => ?_) ?_
 ·have g25r := g25
  have ⟨g25r, h26⟩ := band_true g25r
  have ⟨g25r, h27⟩ := band_true g25r
  have ⟨g25r, h28⟩ := band_true g25r
  have ⟨g25r, h29⟩ := band_true g25r
  have hi30 := R16.valid_facts g25r
  have h29 := of_decide_eq_true h29
  have hi31 := R26.isId_facts h28
  have hi32 := R26.isId_facts h27
  have h26 := of_decide_eq_true h26
  refine sg_ g25 mv_ ?_
  exact cr_
 refine s_ mv_ ?_
 refine and_ 3 (decide (a.KeyAt = 0)) (fun g33 => ?_) ?_
 ·have g33r := g33
  have ⟨g33r, h34⟩ := band_true g33r
  have ⟨g33r, h35⟩ := band_true g33r
  have ⟨g33r, h36⟩ := band_true g33r
  have ⟨g33r, h37⟩ := band_true g33r
  have ⟨g33r, h38⟩ := band_true g33r
  have hi39 := R16.valid_facts g33r
  have h38 := of_decide_eq_true h38
  have hi40 := R26.isId_facts h37
  have hi41 := R26.isId_facts h36
  have h35 := of_decide_eq_true h35
  have ⟨h34, h42⟩ := band_true h34
  have ⟨h34, h43⟩ := band_true h34
  have ⟨h34, h44⟩ := band_true h34
  have h34 := of_decide_eq_true h34
  have h44 := of_decide_eq_true h44
  have h43 := of_decide_eq_true h43
  have h42 := of_decide_eq_true h42
  refine sg_ g33 (fA 5 Ty.fi23_5) (rg_ g33 (ld_ 0 Ty.sc3) (sg_ g33 (x_eql_i rfl rfl) ?_))
  exact cr_
 refine s_ mv_ ?_
 refine and_ 5 (decide (a.Length = a.KeyLength)) (fun g45 => ?_) ?_
 ·have g45r := g45
  have ⟨g45r, h46⟩ := band_true g45r
  have ⟨g45r, h47⟩ := band_true g45r
  have ⟨g45r, h48⟩ := band_true g45r
  have ⟨g45r, h49⟩ := band_true g45r
  have ⟨g45r, h50⟩ := band_true g45r
  have ⟨g45r, h51⟩ := band_true g45r
  have hi52 := R16.valid_facts g45r
  have h51 := of_decide_eq_true h51
  have hi53 := R26.isId_facts h50
  have hi54 := R26.isId_facts h49
  have h48 := of_decide_eq_true h48
  have ⟨h47, h55⟩ := band_true h47
  have ⟨h47, h56⟩ := band_true h47
  have ⟨h47, h57⟩ := band_true h47
  have h47 := of_decide_eq_true h47
  have h57 := of_decide_eq_true h57
  have h56 := of_decide_eq_true h56
  have h55 := of_decide_eq_true h55
  have h46 := of_decide_eq_true h46
  refine sg_ g45 (fA 3 Ty.fi23_3) (rg_ g45 (ld_ 0 Ty.sc3) (sg_ g45 (fA 6 Ty.fi23_6) (rg_ g45 (ld_ 0 Ty.sc3) (sg_ g45 (x_eql_i rfl rfl) ?_))))
  exact cr_
 refine s_ av_ (z_ (xk_ [4] ?_))
 refine n_ (rt_ ?_)
 exact p1 Tryz.results71 rfl ⟨(eB c26b0_), rfl⟩
set_option maxRecDepth 20000 in
theorem f58_ok (a : DataSet) (w : World) : Calls Tryz.prog 58 #[vG (DataSet.enc a)] w (Gives [] w fun v L => v = vB (R26.isAlt a) ∧ L = []) := by
 refine calls_J [] 12 Tryz.func58 rfl Tryz.ntmps58 [(0, _)] rfl rfl (Give.nil w) ?_
 refine q_ (g_ (o_ (bxG fun b1 => ?_)))
 refine s_ av_ (z_ (n_ (q_ (g_ (r_ (ldN 0 (DataSet.enc a) Ty.ag23 Ty.sz23) (c0 (cl_ Ty.ca71) (fun w hS => f71_ok a 200 w hy_) (s_ mv_ ?_)))))))
 refine and_ 5 (decide (a.AltLength < a.KeyLength)) (fun g2 => ?_) ?_
 ·have g2r := g2
  have hi3 := R26.shaped_facts g2r
  refine sg_ g2 (fA 6 Ty.fi23_6) (rg_ g2 (ld_ 0 Ty.sc3) (sg_ g2 (fA 13 Ty.fi23_13) (rg_ g2 (ld_ 0 Ty.sc3) (sg_ g2 (x_gtr_i rfl rfl) ?_))))
  exact cr_
 refine s_ av_ (z_ (n_ (rt_ ?_)))
 exact p1 Tryz.results58 rfl ⟨(eB c26b0_), rfl⟩
set_option maxRecDepth 20000 in
theorem f59_ok (a : DataSet) (w : World) : Calls Tryz.prog 59 #[vG (DataSet.enc a)] w (Gives [] w fun v L => v = vB (R26.isAlt a) ∧ L = []) := by
 refine calls_J [] 64 Tryz.func59 rfl Tryz.ntmps59 [(0, _)] rfl rfl (Give.nil w) ?_
 refine q_ (g_ (o_ (bxG fun b1 => ?_)))
 refine s_ av_ (z_ (n_ (q_ (g_ (r_ (ldN 0 (DataSet.enc a) Ty.ag23 Ty.sz23) (c0 (cl_ Ty.ca48) (fun w hS => f48_ok a w) (s_ mv_ ?_)))))))
 refine and_ 3 (decide (a.Org = 3)) (fun g2 => ?_) ?_
 ·have g2r := g2
  have hi3 := R16.valid_facts g2r
  refine sg_ g2 (fA 1 Ty.fi23_1) (rg_ g2 (ld_ 0 Ty.sc3) (sg_ g2 (x_eql_i rfl rfl) ?_))
  exact cr_
 refine s_ mv_ ?_
 refine and_ 3 ((decide (1 ≤ a.Id)) && (decide (a.Id ≤ 1099511627776))) (fun g4 => ?_) ?_
 ·have g4r := g4
  have ⟨g4r, h5⟩ := band_true g4r
  have hi6 := R16.valid_facts g4r
  have h5 := of_decide_eq_true h5
  refine sg_ g4 (fA 0 Ty.fi23_0) (rg_ g4 (ld_ 0 Ty.sc3) (c0g g4 (cl_ Ty.ca80) (fun w hS => f80_ok a.Id 1 1099511627776 w) ?_))
  exact cr_
 refine s_ mv_ ?_
 refine and_ 3 ((decide (1 ≤ a.Base)) && (decide (a.Base ≤ 1099511627776))) (fun g7 => ?_) ?_
 ·have g7r := g7
  have ⟨g7r, h8⟩ := band_true g7r
  have ⟨g7r, h9⟩ := band_true g7r
  have hi10 := R16.valid_facts g7r
  have h9 := of_decide_eq_true h9
  have ⟨h8, h11⟩ := band_true h8
  have h8 := of_decide_eq_true h8
  have h11 := of_decide_eq_true h11
  refine sg_ g7 (fA 11 Ty.fi23_11) (rg_ g7 (ld_ 0 Ty.sc3) (c0g g7 (cl_ Ty.ca80) (fun w hS => f80_ok _ 1 1099511627776 w) ?_))
  exact cr_
 refine s_ mv_ ?_
 refine and_ 5 (decide (a.Base ≠ a.Id)) (fun g12 => ?_) ?_
 ·have g12r := g12
  have ⟨g12r, h13⟩ := band_true g12r
  have ⟨g12r, h14⟩ := band_true g12r
  have ⟨g12r, h15⟩ := band_true g12r
  have hi16 := R16.valid_facts g12r
  have h15 := of_decide_eq_true h15
  have ⟨h14, h17⟩ := band_true h14
  have h14 := of_decide_eq_true h14
  have h17 := of_decide_eq_true h17
  have ⟨h13, h18⟩ := band_true h13
  have h13 := of_decide_eq_true h13
  have h18 := of_decide_eq_true h18
  refine sg_ g12 (fA 11 Ty.fi23_11) (rg_ g12 (ld_ 0 Ty.sc3) (sg_ g12 (fA 0 Ty.fi23_0) (rg_ g12 (ld_ 0 Ty.sc3) (sg_ g12 (x_neq_i rfl rfl) ?_))))
  exact cr_
 refine s_ mv_ ?_
 refine and_ 3 ((decide (0 ≤ a.AltAt)) && (decide (a.AltAt ≤ 200))) (fun g19 => ?_) ?_
 ·have g19r := g19
  have ⟨g19r, h20⟩ := band_true g19r
  have ⟨g19r, h21⟩ := band_true g19r
  have ⟨g19r, h22⟩ := band_true g19r
  have ⟨g19r, h23⟩ := band_true g19r
  have hi24 := R16.valid_facts g19r
  have h23 := of_decide_eq_true h23
  have ⟨h22, h25⟩ := band_true h22
  have h22 := of_decide_eq_true h22
  have h25 := of_decide_eq_true h25
  have ⟨h21, h26⟩ := band_true h21
  have h21 := of_decide_eq_true h21
  have h26 := of_decide_eq_true h26
  have h20 := of_decide_eq_true h20
  refine sg_ g19 (fA 12 Ty.fi23_12) (rg_ g19 (ld_ 0 Ty.sc3) (c0g g19 (cl_ Ty.ca80) (fun w hS => f80_ok _ 0 200 w) ?_))
  exact cr_
 refine s_ mv_ ?_
 refine and_ 3 ((decide (1 ≤ a.AltLength)) && (decide (a.AltLength ≤ 32))) (fun g27 => ?_) ?_
 ·have g27r := g27
  have ⟨g27r, h28⟩ := band_true g27r
  have ⟨g27r, h29⟩ := band_true g27r
  have ⟨g27r, h30⟩ := band_true g27r
  have ⟨g27r, h31⟩ := band_true g27r
  have ⟨g27r, h32⟩ := band_true g27r
  have hi33 := R16.valid_facts g27r
  have h32 := of_decide_eq_true h32
  have ⟨h31, h34⟩ := band_true h31
  have h31 := of_decide_eq_true h31
  have h34 := of_decide_eq_true h34
  have ⟨h30, h35⟩ := band_true h30
  have h30 := of_decide_eq_true h30
  have h35 := of_decide_eq_true h35
  have h29 := of_decide_eq_true h29
  have ⟨h28, h36⟩ := band_true h28
  have h28 := of_decide_eq_true h28
  have h36 := of_decide_eq_true h36
  refine sg_ g27 (fA 13 Ty.fi23_13) (rg_ g27 (ld_ 0 Ty.sc3) (c0g g27 (cl_ Ty.ca80) (fun w hS => f80_ok _ 1 32 w) ?_))
  exact cr_
 refine s_ mv_ ?_
 refine and_ 6 (decide (a.AltAt + a.AltLength ≤ 200)) (fun g37 => ?_) ?_
 ·have g37r := g37
  have ⟨g37r, h38⟩ := band_true g37r
  have ⟨g37r, h39⟩ := band_true g37r
  have ⟨g37r, h40⟩ := band_true g37r
  have ⟨g37r, h41⟩ := band_true g37r
  have ⟨g37r, h42⟩ := band_true g37r
  have ⟨g37r, h43⟩ := band_true g37r
  have hi44 := R16.valid_facts g37r
  have h43 := of_decide_eq_true h43
  have ⟨h42, h45⟩ := band_true h42
  have h42 := of_decide_eq_true h42
  have h45 := of_decide_eq_true h45
  have ⟨h41, h46⟩ := band_true h41
  have h41 := of_decide_eq_true h41
  have h46 := of_decide_eq_true h46
  have h40 := of_decide_eq_true h40
  have ⟨h39, h47⟩ := band_true h39
  have h39 := of_decide_eq_true h39
  have h47 := of_decide_eq_true h47
  have ⟨h38, h48⟩ := band_true h38
  have h38 := of_decide_eq_true h38
  have h48 := of_decide_eq_true h48
  refine sg_ g37 (fA 12 Ty.fi23_12) (rg_ g37 (ld_ 0 Ty.sc3) (sg_ g37 (fA 13 Ty.fi23_13) (rg_ g37 (ld_ 0 Ty.sc3) (sg_ g37 (x_add_i (a := a.AltAt) (b := a.AltLength) rfl rfl (by omega) (by omega)) (sg_ g37 (x_leq_i rfl rfl) ?_)))))
  exact cr_
 refine s_ mv_ ?_
 refine and_ 3 (decide (a.KeyAt = 0)) (fun g49 => ?_) ?_
 ·have g49r := g49
  have ⟨g49r, h50⟩ := band_true g49r
  have ⟨g49r, h51⟩ := band_true g49r
  have ⟨g49r, h52⟩ := band_true g49r
  have ⟨g49r, h53⟩ := band_true g49r
  have ⟨g49r, h54⟩ := band_true g49r
  have ⟨g49r, h55⟩ := band_true g49r
  have ⟨g49r, h56⟩ := band_true g49r
  have hi57 := R16.valid_facts g49r
  have h56 := of_decide_eq_true h56
  have ⟨h55, h58⟩ := band_true h55
  have h55 := of_decide_eq_true h55
  have h58 := of_decide_eq_true h58
  have ⟨h54, h59⟩ := band_true h54
  have h54 := of_decide_eq_true h54
  have h59 := of_decide_eq_true h59
  have h53 := of_decide_eq_true h53
  have ⟨h52, h60⟩ := band_true h52
  have h52 := of_decide_eq_true h52
  have h60 := of_decide_eq_true h60
  have ⟨h51, h61⟩ := band_true h51
  have h51 := of_decide_eq_true h51
  have h61 := of_decide_eq_true h61
  have h50 := of_decide_eq_true h50
  refine sg_ g49 (fA 5 Ty.fi23_5) (rg_ g49 (ld_ 0 Ty.sc3) (sg_ g49 (x_eql_i rfl rfl) ?_))
  exact cr_
 refine s_ mv_ ?_
 refine and_ 5 (decide (a.Length = a.KeyLength)) (fun g62 => ?_) ?_
 ·have g62r := g62
  have ⟨g62r, h63⟩ := band_true g62r
  have ⟨g62r, h64⟩ := band_true g62r
  have ⟨g62r, h65⟩ := band_true g62r
  have ⟨g62r, h66⟩ := band_true g62r
  have ⟨g62r, h67⟩ := band_true g62r
  have ⟨g62r, h68⟩ := band_true g62r
  have ⟨g62r, h69⟩ := band_true g62r
  have ⟨g62r, h70⟩ := band_true g62r
  have hi71 := R16.valid_facts g62r
  have h70 := of_decide_eq_true h70
  have ⟨h69, h72⟩ := band_true h69
  have h69 := of_decide_eq_true h69
  have h72 := of_decide_eq_true h72
  have ⟨h68, h73⟩ := band_true h68
  have h68 := of_decide_eq_true h68
  have h73 := of_decide_eq_true h73
  have h67 := of_decide_eq_true h67
  have ⟨h66, h74⟩ := band_true h66
  have h66 := of_decide_eq_true h66
  have h74 := of_decide_eq_true h74
  have ⟨h65, h75⟩ := band_true h65
  have h65 := of_decide_eq_true h65
  have h75 := of_decide_eq_true h75
  have h64 := of_decide_eq_true h64
  have h63 := of_decide_eq_true h63
  refine sg_ g62 (fA 3 Ty.fi23_3) (rg_ g62 (ld_ 0 Ty.sc3) (sg_ g62 (fA 6 Ty.fi23_6) (rg_ g62 (ld_ 0 Ty.sc3) (sg_ g62 (x_eql_i rfl rfl) ?_))))
  exact cr_
 refine s_ mv_ ?_
 refine and_ 5 (decide (a.AltLength < a.KeyLength)) (fun g76 => ?_) ?_
 ·have g76r := g76
  have ⟨g76r, h77⟩ := band_true g76r
  have ⟨g76r, h78⟩ := band_true g76r
  have ⟨g76r, h79⟩ := band_true g76r
  have ⟨g76r, h80⟩ := band_true g76r
  have ⟨g76r, h81⟩ := band_true g76r
  have ⟨g76r, h82⟩ := band_true g76r
  have ⟨g76r, h83⟩ := band_true g76r
  have ⟨g76r, h84⟩ := band_true g76r
  have ⟨g76r, h85⟩ := band_true g76r
  have hi86 := R16.valid_facts g76r
  have h85 := of_decide_eq_true h85
  have ⟨h84, h87⟩ := band_true h84
  have h84 := of_decide_eq_true h84
  have h87 := of_decide_eq_true h87
  have ⟨h83, h88⟩ := band_true h83
  have h83 := of_decide_eq_true h83
  have h88 := of_decide_eq_true h88
  have h82 := of_decide_eq_true h82
  have ⟨h81, h89⟩ := band_true h81
  have h81 := of_decide_eq_true h81
  have h89 := of_decide_eq_true h89
  have ⟨h80, h90⟩ := band_true h80
  have h80 := of_decide_eq_true h80
  have h90 := of_decide_eq_true h90
  have h79 := of_decide_eq_true h79
  have h78 := of_decide_eq_true h78
  have h77 := of_decide_eq_true h77
  refine sg_ g76 (fA 6 Ty.fi23_6) (rg_ g76 (ld_ 0 Ty.sc3) (sg_ g76 (fA 13 Ty.fi23_13) (rg_ g76 (ld_ 0 Ty.sc3) (sg_ g76 (x_gtr_i rfl rfl) ?_))))
  exact cr_
 refine s_ av_ (z_ (xk_ [2] ?_))
 refine n_ (rt_ ?_)
 refine p1 Tryz.results59 rfl ⟨?_, rfl⟩
 have e_x0 : (((((((((((R16.valid a) && (decide (a.Org = 3))) && ((decide (1 ≤ a.Id)) && (decide (a.Id ≤ 1099511627776)))) && ((decide (1 ≤ a.Base)) && (decide (a.Base ≤ 1099511627776)))) && (decide (a.Base ≠ a.Id))) && ((decide (0 ≤ a.AltAt)) && (decide (a.AltAt ≤ 200)))) && ((decide (1 ≤ a.AltLength)) && (decide (a.AltLength ≤ 32)))) && (decide (a.AltAt + a.AltLength ≤ 200))) && (decide (a.KeyAt = 0))) && (decide (a.Length = a.KeyLength))) && (decide (a.AltLength < a.KeyLength)) : Bool) = (R26.isAlt a) := by
  unfold R26.isAlt R26.shaped R26.isId
  cases hv : R16.valid a with
  | false => simp
  | true =>
   have hf := R16.valid_facts hv
   rw [Bool.eq_iff_iff]
   simp only [Bool.and_eq_true, Bool.or_eq_true, decide_eq_true_eq, Bool.true_and, Bool.false_and, Bool.false_eq_true, false_iff, iff_false, true_iff, iff_true, true_and, and_true, false_and, and_false]
   omega
 exact congrArg (fun (x0 : Bool) => vB x0) e_x0
set_option maxRecDepth 20000 in
theorem f50_ok (b : DataSet) (a : DataSet) (w : World) : Calls Tryz.prog 50 #[vG (DataSet.enc b), vG (DataSet.enc a)] w (Gives [] w fun v L => v = vB (R26.valid b a) ∧ L = []) := by
 refine calls_J [] 30 Tryz.func50 rfl Tryz.ntmps50 [(0, _), (1, _)] rfl rfl (Give.nil w) ?_
 refine q_ (g_ (o_ (bxG fun b1 => ?_)))
 refine o_ (bxG fun b2 => ?_)
 refine s_ av_ (z_ (n_ (q_ ?_)))
 refine drB [] 26 Ty.mixed ?_
 refine jq_ 0 rfl (ldN 1 (DataSet.enc b) Ty.ag23 Ty.sz23) (j1_ 1 (jc0_ rfl (cl_ Ty.ca62) (fun w hS => f62_ok b w) (jp_ 2 rfl mv_ ?_)) gm_)
 refine jb_ 7 (fun h3 => ?_) (fun h3 => ?_)
 ·have hi4 := R26.isBase_facts h3
  refine jp_ 3 rfl (fA 11 Ty.fi23_11) (jq_ 4 rfl (ld_ 0 Ty.sc3) (jp_ 5 rfl (fA 0 Ty.fi23_0) (jq_ 6 rfl (ld_ 1 Ty.sc3) (jp_ 7 rfl (x_eql_i rfl rfl) ?_ (hw := ⟨_, rfl, rfl⟩)) (hw := ⟨_, rfl, rfl⟩)) (hw := ⟨_, rfl, rfl⟩)) (hw := ⟨_, rfl, rfl⟩)) (hw := ⟨_, rfl, rfl⟩)
  refine jt_ 8 (vB (decide (a.Base = b.Id))) rfl (fun _ _ => rfl) ?_
  refine jp_ 9 rfl mv_ ?_
  refine jb_ 14 (fun h5 => ?_) (fun h5 => ?_)
  ·have h5 := of_decide_eq_true h5
   refine jq_ 10 rfl (ldN 0 (DataSet.enc a) Ty.ag23 Ty.sz23) (jp_ 11 rfl (fA 3 Ty.fi23_3) (jq_ 12 rfl (ld_ 1 Ty.sc3) (j1_ 13 (jc0_ rfl (cl_ Ty.ca71) (fun w hS => f71_ok a _ w hy_) ?_ (hw := ⟨_, rfl, rfl⟩)) gm_) (hw := ⟨_, rfl, rfl⟩)) (hw := ⟨_, rfl, rfl⟩)) (hw := ⟨_, rfl, rfl⟩)
   refine jt_ 14 (vB (R26.shaped a b.Length)) rfl (fun _ _ => rfl) ?_
   refine jp_ 15 rfl mv_ ?_
   refine jb_ 20 (fun h6 => ?_) (fun h6 => ?_)
   ·have hi7 := R26.shaped_facts h6
    refine jp_ 16 rfl (fA 6 Ty.fi23_6) (jq_ 17 rfl (ld_ 0 Ty.sc3) (jp_ 18 rfl (fA 13 Ty.fi23_13) (jq_ 19 rfl (ld_ 0 Ty.sc3) (jq_ 20 rfl (ldN 1 (DataSet.enc b) Ty.ag23 Ty.sz23) (j1_ 21 (jc0_ rfl (cl_ Ty.ca64) (fun w hS => f64_ok b w) (jp_ 22 rfl (x_add_i (a := a.AltLength) (b := R26.keys b) rfl rfl (by omega) (by omega)) (jp_ 23 rfl (x_eql_i rfl rfl) ?_ (hw := ⟨_, rfl, rfl⟩)) (hw := ⟨_, rfl, rfl⟩)) (hw := ⟨_, rfl, rfl⟩)) gm_) (hw := ⟨_, rfl, rfl⟩)) (hw := ⟨_, rfl, rfl⟩)) (hw := ⟨_, rfl, rfl⟩)) (hw := ⟨_, rfl, rfl⟩)) (hw := ⟨_, rfl, rfl⟩)
    refine jt_ 24 (vB (decide (a.KeyLength = a.AltLength + (R26.keys b)))) rfl (fun _ _ => rfl) ?_
    refine jp_ 25 rfl av_ ?_
    refine JA_done (by kernel_rfl) gm_ ?_
    refine n_ (rt_ ?_)
    exact p1 Tryz.results50 rfl ⟨(eB c26b2_), rfl⟩
   ·refine js2_ 16 rfl (js2_ 17 rfl (js2_ 18 rfl (js2_ 19 rfl (js2_ 20 rfl (js2_ 21 rfl (js2_ 22 rfl (js2_ 23 rfl ?_)))))))
    refine jt_ 24 (vB false) rfl (fun _ _ => rfl) ?_
    refine jp_ 25 rfl av_ ?_
    refine JA_done (by kernel_rfl) gm_ ?_
    refine n_ (rt_ ?_)
    exact p1 Tryz.results50 rfl ⟨(eB c26b2_), rfl⟩
  ·have h5 := of_decide_eq_false h5
   refine js2_ 10 rfl (js2_ 11 rfl (js2_ 12 rfl (js2_ 13 rfl ?_)))
   refine jt_ 14 (vB false) rfl (fun _ _ => rfl) ?_
   refine jp_ 15 rfl mv_ (js2_ 16 rfl (js2_ 17 rfl (js2_ 18 rfl (js2_ 19 rfl (js2_ 20 rfl (js2_ 21 rfl (js2_ 22 rfl (js2_ 23 rfl ?_))))))))
   refine jt_ 24 (vB false) rfl (fun _ _ => rfl) ?_
   refine jp_ 25 rfl av_ ?_
   refine JA_done (by kernel_rfl) gm_ ?_
   refine n_ (rt_ ?_)
   exact p1 Tryz.results50 rfl ⟨(eB c26b2_), rfl⟩
 ·refine js2_ 3 rfl (js2_ 4 rfl (js2_ 5 rfl (js2_ 6 rfl (js2_ 7 rfl ?_))))
  refine jt_ 8 (vB false) rfl (fun _ _ => rfl) ?_
  refine jp_ 9 rfl mv_ (js2_ 10 rfl (js2_ 11 rfl (js2_ 12 rfl (js2_ 13 rfl ?_))))
  refine jt_ 14 (vB false) rfl (fun _ _ => rfl) ?_
  refine jp_ 15 rfl mv_ (js2_ 16 rfl (js2_ 17 rfl (js2_ 18 rfl (js2_ 19 rfl (js2_ 20 rfl (js2_ 21 rfl (js2_ 22 rfl (js2_ 23 rfl ?_))))))))
  refine jt_ 24 (vB false) rfl (fun _ _ => rfl) ?_
  refine jp_ 25 rfl av_ ?_
  refine JA_done (by kernel_rfl) gm_ ?_
  refine n_ (rt_ ?_)
  exact p1 Tryz.results50 rfl ⟨(eB c26b2_), rfl⟩
set_option maxRecDepth 20000 in
theorem f49_ok (b : DataSet) (a : DataSet) (w : World) : Calls Tryz.prog 49 #[vG (DataSet.enc b), vG (DataSet.enc a)] w (Gives [] w fun v L => v = vB (R26.valid b a) ∧ L = []) := by
 refine calls_J [] 38 Tryz.func49 rfl Tryz.ntmps49 [(0, _), (1, _)] rfl rfl (Give.nil w) ?_
 refine q_ (g_ (o_ (bxG fun b1 => ?_)))
 refine o_ (bxG fun b2 => ?_)
 refine s_ av_ (z_ (n_ (q_ ?_)))
 refine drB [] 34 Ty.mixed ?_
 refine jq_ 0 rfl (ldN 1 (DataSet.enc b) Ty.ag23 Ty.sz23) (j1_ 1 (jc0_ rfl (cl_ Ty.ca69) (fun w hS => f69_ok b w) (jp_ 2 rfl mv_ ?_)) gm_)
 refine jb_ 7 (fun h3 => ?_) (fun h3 => ?_)
 ·have hi4 := R26.isBase_facts h3
  refine jq_ 3 rfl (ldN 0 (DataSet.enc a) Ty.ag23 Ty.sz23) (j1_ 4 (jc0_ rfl (cl_ Ty.ca59) (fun w hS => f59_ok a w) ?_ (hw := ⟨_, rfl, rfl⟩)) gm_) (hw := ⟨_, rfl, rfl⟩)
  refine jt_ 5 (vB (R26.isAlt a)) rfl (fun _ _ => rfl) ?_
  refine jp_ 6 rfl mv_ ?_
  refine jb_ 11 (fun h5 => ?_) (fun h5 => ?_)
  ·have hi6 := R26.isAlt_facts h5
   refine jp_ 7 rfl (fA 11 Ty.fi23_11) (jq_ 8 rfl (ld_ 0 Ty.sc3) (jp_ 9 rfl (fA 0 Ty.fi23_0) (jq_ 10 rfl (ld_ 1 Ty.sc3) (jp_ 11 rfl (x_eql_i rfl rfl) ?_ (hw := ⟨_, rfl, rfl⟩)) (hw := ⟨_, rfl, rfl⟩)) (hw := ⟨_, rfl, rfl⟩)) (hw := ⟨_, rfl, rfl⟩)) (hw := ⟨_, rfl, rfl⟩)
   refine jt_ 12 (vB (decide (a.Base = b.Id))) rfl (fun _ _ => rfl) ?_
   refine jp_ 13 rfl mv_ ?_
   refine jb_ 18 (fun h7 => ?_) (fun h7 => ?_)
   ·have h7 := of_decide_eq_true h7
    refine jp_ 14 rfl (fA 12 Ty.fi23_12) (jq_ 15 rfl (ld_ 0 Ty.sc3) (jp_ 16 rfl (fA 13 Ty.fi23_13) (jq_ 17 rfl (ld_ 0 Ty.sc3) (jp_ 18 rfl (x_add_i (a := a.AltAt) (b := a.AltLength) rfl rfl (by omega) (by omega)) (jp_ 19 rfl (fA 3 Ty.fi23_3) (jq_ 20 rfl (ld_ 1 Ty.sc3) (jp_ 21 rfl (x_leq_i rfl rfl) ?_ (hw := ⟨_, rfl, rfl⟩)) (hw := ⟨_, rfl, rfl⟩)) (hw := ⟨_, rfl, rfl⟩)) (hw := ⟨_, rfl, rfl⟩)) (hw := ⟨_, rfl, rfl⟩)) (hw := ⟨_, rfl, rfl⟩)) (hw := ⟨_, rfl, rfl⟩)) (hw := ⟨_, rfl, rfl⟩)
    refine jt_ 22 (vB (decide (a.AltAt + a.AltLength ≤ b.Length))) rfl (fun _ _ => rfl) ?_
    refine jp_ 23 rfl mv_ ?_
    refine jb_ 28 (fun h8 => ?_) (fun h8 => ?_)
    ·have h8 := of_decide_eq_true h8
     refine jp_ 24 rfl (fA 6 Ty.fi23_6) (jq_ 25 rfl (ld_ 0 Ty.sc3) (jp_ 26 rfl (fA 13 Ty.fi23_13) (jq_ 27 rfl (ld_ 0 Ty.sc3) (jq_ 28 rfl (ldN 1 (DataSet.enc b) Ty.ag23 Ty.sz23) (j1_ 29 (jc0_ rfl (cl_ Ty.ca70) (fun w hS => f70_ok b w) (jp_ 30 rfl (x_add_i (a := a.AltLength) (b := R26.keys b) rfl rfl (by omega) (by omega)) (jp_ 31 rfl (x_eql_i rfl rfl) ?_ (hw := ⟨_, rfl, rfl⟩)) (hw := ⟨_, rfl, rfl⟩)) (hw := ⟨_, rfl, rfl⟩)) gm_) (hw := ⟨_, rfl, rfl⟩)) (hw := ⟨_, rfl, rfl⟩)) (hw := ⟨_, rfl, rfl⟩)) (hw := ⟨_, rfl, rfl⟩)) (hw := ⟨_, rfl, rfl⟩)
     refine jt_ 32 (vB (decide (a.KeyLength = a.AltLength + (R26.keys b)))) rfl (fun _ _ => rfl) ?_
     refine jp_ 33 rfl av_ ?_
     refine JA_done (by kernel_rfl) gm_ ?_
     refine n_ (rt_ ?_)
     refine p1 Tryz.results49 rfl ⟨?_, rfl⟩
     have e_x0 : (decide (a.KeyLength = a.AltLength + (R26.keys b)) : Bool) = (R26.valid b a) := by
      rw [R26.valid_iff]
      first | rfl | (simp only [*]; done) | (simp [*]; done)
     exact congrArg (fun (x0 : Bool) => vB x0) e_x0
    ·have h8 := of_decide_eq_false h8
     refine js2_ 24 rfl (js2_ 25 rfl (js2_ 26 rfl (js2_ 27 rfl (js2_ 28 rfl (js2_ 29 rfl (js2_ 30 rfl (js2_ 31 rfl ?_)))))))
     refine jt_ 32 (vB false) rfl (fun _ _ => rfl) ?_
     refine jp_ 33 rfl av_ ?_
     refine JA_done (by kernel_rfl) gm_ ?_
     refine n_ (rt_ ?_)
     refine p1 Tryz.results49 rfl ⟨?_, rfl⟩
     have e_x0 : (false : Bool) = (R26.valid b a) := by
      rw [R26.valid_iff]
      first | rfl | (simp only [*]; done) | (simp [*]; done)
     exact congrArg (fun (x0 : Bool) => vB x0) e_x0
   ·have h7 := of_decide_eq_false h7
    refine js2_ 14 rfl (js2_ 15 rfl (js2_ 16 rfl (js2_ 17 rfl (js2_ 18 rfl (js2_ 19 rfl (js2_ 20 rfl (js2_ 21 rfl ?_)))))))
    refine jt_ 22 (vB false) rfl (fun _ _ => rfl) ?_
    refine jp_ 23 rfl mv_ (js2_ 24 rfl (js2_ 25 rfl (js2_ 26 rfl (js2_ 27 rfl (js2_ 28 rfl (js2_ 29 rfl (js2_ 30 rfl (js2_ 31 rfl ?_))))))))
    refine jt_ 32 (vB false) rfl (fun _ _ => rfl) ?_
    refine jp_ 33 rfl av_ ?_
    refine JA_done (by kernel_rfl) gm_ ?_
    refine n_ (rt_ ?_)
    refine p1 Tryz.results49 rfl ⟨?_, rfl⟩
    have e_x0 : (false : Bool) = (R26.valid b a) := by
     rw [R26.valid_iff]
     first | rfl | (simp only [*]; done) | (simp [*]; done)
    exact congrArg (fun (x0 : Bool) => vB x0) e_x0
  ·refine js2_ 7 rfl (js2_ 8 rfl (js2_ 9 rfl (js2_ 10 rfl (js2_ 11 rfl ?_))))
   refine jt_ 12 (vB false) rfl (fun _ _ => rfl) ?_
   refine jp_ 13 rfl mv_ (js2_ 14 rfl (js2_ 15 rfl (js2_ 16 rfl (js2_ 17 rfl (js2_ 18 rfl (js2_ 19 rfl (js2_ 20 rfl (js2_ 21 rfl ?_))))))))
   refine jt_ 22 (vB false) rfl (fun _ _ => rfl) ?_
   refine jp_ 23 rfl mv_ (js2_ 24 rfl (js2_ 25 rfl (js2_ 26 rfl (js2_ 27 rfl (js2_ 28 rfl (js2_ 29 rfl (js2_ 30 rfl (js2_ 31 rfl ?_))))))))
   refine jt_ 32 (vB false) rfl (fun _ _ => rfl) ?_
   refine jp_ 33 rfl av_ ?_
   refine JA_done (by kernel_rfl) gm_ ?_
   refine n_ (rt_ ?_)
   refine p1 Tryz.results49 rfl ⟨?_, rfl⟩
   have e_x0 : (false : Bool) = (R26.valid b a) := by
    rw [R26.valid_iff]
    first | rfl | (simp only [*]; done) | (simp [*]; done)
   exact congrArg (fun (x0 : Bool) => vB x0) e_x0
 ·refine js2_ 3 rfl (js2_ 4 rfl ?_)
  refine jt_ 5 (vB false) rfl (fun _ _ => rfl) ?_
  refine jp_ 6 rfl mv_ (js2_ 7 rfl (js2_ 8 rfl (js2_ 9 rfl (js2_ 10 rfl (js2_ 11 rfl ?_)))))
  refine jt_ 12 (vB false) rfl (fun _ _ => rfl) ?_
  refine jp_ 13 rfl mv_ (js2_ 14 rfl (js2_ 15 rfl (js2_ 16 rfl (js2_ 17 rfl (js2_ 18 rfl (js2_ 19 rfl (js2_ 20 rfl (js2_ 21 rfl ?_))))))))
  refine jt_ 22 (vB false) rfl (fun _ _ => rfl) ?_
  refine jp_ 23 rfl mv_ (js2_ 24 rfl (js2_ 25 rfl (js2_ 26 rfl (js2_ 27 rfl (js2_ 28 rfl (js2_ 29 rfl (js2_ 30 rfl (js2_ 31 rfl ?_))))))))
  refine jt_ 32 (vB false) rfl (fun _ _ => rfl) ?_
  refine jp_ 33 rfl av_ ?_
  refine JA_done (by kernel_rfl) gm_ ?_
  refine n_ (rt_ ?_)
  refine p1 Tryz.results49 rfl ⟨?_, rfl⟩
  have e_x0 : (false : Bool) = (R26.valid b a) := by
   rw [R26.valid_iff]
   first | rfl | (simp only [*]; done) | (simp [*]; done)
  exact congrArg (fun (x0 : Bool) => vB x0) e_x0
end Go.Proofs.YtmbinhhlfbgiaaaGreat

namespace Go.Proofs.YtmbinhhlfbgiaaaGreat
open Go.GV
set_option linter.unusedVariables false
set_option linter.unusedSimpArgs false
theorem c26c0_ {p : Prop} (h : p := by show R16.valid (R26.mk base id pos len u iv) = false; unfold R26.mk; first | assumption | (rw [← hA]; assumption)) : p := h
theorem Tf45_ok_ {p : Prop} (h : p := by first | (have hd := R26.describe_none (base := base) (id := id) (pos := pos) (len := len) (u := u) i1_0 (by rw [← i1_3]; first | exact R26.pick_end (by omega) | exact R26.pick_last (by omega) c26c0_); first | (rw [hd]; done) | (rw [hd]; rfl) | (rw [hd]; unfold R26.mk; rw [← hA])) | (have hd := R26.describe_some (base := base) (id := id) (pos := pos) (len := len) (u := u) (iv := iv) i1_0 (by rw [← i1_3]; exact R26.pick_hit (by omega) (by show R16.valid (R26.mk base id pos len u iv) = true; unfold R26.mk; first | assumption | (rw [← hA]; assumption))); first | (rw [hd]; done) | (rw [hd]; rfl) | (rw [hd]; unfold R26.mk; rw [← hA])) | (have hd := R26.describe_bad (base := base) (id := id) (pos := pos) (len := len) (u := u) (by rw [Bool.eq_false_iff]; intro hg; obtain ⟨ga, gb, gc, gd, ge, gf⟩ := R26.good_facts hg; have gg := R26.isId_facts gb; have gh := R26.isBase_facts ga; simp only [ga, gb, Bool.true_eq_false, false_or] at *; omega); first | (rw [hd]; done) | (rw [hd]; rfl) | (rw [hd]; unfold R26.mk; rw [← hA]))) : p := h
set_option maxRecDepth 20000 in
theorem f45_ok (base : DataSet) (id : Int) (pos : Int) (len : Int) (u : Bool) (w : World) : Calls Tryz.prog 45 #[vG (DataSet.enc base), vI id, vI pos, vI len, vB u] w (Gives [] w fun v L => v = Value.tuple #[vG (DataSet.enc ((R26.describe base id pos len u).1)), vI ((R26.describe base id pos len u).2)] ∧ L = []) := by
 refine calls_J [] 98 Tryz.func45 rfl Tryz.ntmps45 [(0, _), (1, _), (2, _), (3, _), (4, _)] rfl rfl (Give.nil w) ?_
 refine q_ (g_ (o_ (bxG fun b1 => ?_)))
 refine o_ (al_ Ty.ze23 fun b2 => ?_)
 refine s_ av_ (z_ (n_ (q_ (q_ (g_ (r_ (ldN 1 (DataSet.enc base) Ty.ag23 Ty.sz23) (c0 (cl_ Ty.ca62) (fun w hS => f62_ok base w) (s_ (x_not rfl) (s_ mv_ ?_)))))))))
 refine or_ 3 (!(R26.isId id)) (fun g3 => ?_) ?_
 ·have g3r := g3
  have g3r : (R26.isBase base) = true := bnot_false g3r
  have hi4 := R26.isBase_facts g3r
  refine sg_ g3 mv_ (c0g g3 (cl_ Ty.ca63) (fun w hS => f63_ok id w) (sg_ g3 (x_not rfl) ?_))
  exact cr_
 refine s_ mv_ ?_
 refine or_ 4 (decide (id = base.Id)) (fun g5 => ?_) ?_
 ·have g5r := g5
  have ⟨g5r, h6⟩ := bor_false g5r
  have g5r : (R26.isBase base) = true := bnot_false g5r
  have hi7 := R26.isBase_facts g5r
  have h6 : (R26.isId id) = true := bnot_false h6
  have hi8 := R26.isId_facts h6
  refine sg_ g5 mv_ (sg_ g5 (fA 0 Ty.fi23_0) (rg_ g5 (ld_ 1 Ty.sc3) (sg_ g5 (x_eql_i rfl rfl) ?_)))
  exact cr_
 refine s_ mv_ ?_
 refine or_ 2 (decide (pos < 0)) (fun g9 => ?_) ?_
 ·have g9r := g9
  have ⟨g9r, h10⟩ := bor_false g9r
  have ⟨g9r, h11⟩ := bor_false g9r
  have g9r : (R26.isBase base) = true := bnot_false g9r
  have hi12 := R26.isBase_facts g9r
  have h11 : (R26.isId id) = true := bnot_false h11
  have hi13 := R26.isId_facts h11
  have h10 := of_decide_eq_false h10
  refine sg_ g9 mv_ (sg_ g9 (x_lss_i rfl rfl) ?_)
  exact cr_
 refine s_ mv_ ?_
 refine or_ 2 (decide (len < 1)) (fun g14 => ?_) ?_
 ·have g14r := g14
  have ⟨g14r, h15⟩ := bor_false g14r
  have ⟨g14r, h16⟩ := bor_false g14r
  have ⟨g14r, h17⟩ := bor_false g14r
  have g14r : (R26.isBase base) = true := bnot_false g14r
  have hi18 := R26.isBase_facts g14r
  have h17 : (R26.isId id) = true := bnot_false h17
  have hi19 := R26.isId_facts h17
  have h16 := of_decide_eq_false h16
  have h15 := of_decide_eq_false h15
  refine sg_ g14 mv_ (sg_ g14 (x_lss_i rfl rfl) ?_)
  exact cr_
 refine s_ mv_ ?_
 refine or_ 4 (decide (base.Length < len)) (fun g20 => ?_) ?_
 ·have g20r := g20
  have ⟨g20r, h21⟩ := bor_false g20r
  have ⟨g20r, h22⟩ := bor_false g20r
  have ⟨g20r, h23⟩ := bor_false g20r
  have ⟨g20r, h24⟩ := bor_false g20r
  have g20r : (R26.isBase base) = true := bnot_false g20r
  have hi25 := R26.isBase_facts g20r
  have h24 : (R26.isId id) = true := bnot_false h24
  have hi26 := R26.isId_facts h24
  have h23 := of_decide_eq_false h23
  have h22 := of_decide_eq_false h22
  have h21 := of_decide_eq_false h21
  refine sg_ g20 mv_ (sg_ g20 (fA 3 Ty.fi23_3) (rg_ g20 (ld_ 1 Ty.sc3) (sg_ g20 (x_gtr_i rfl rfl) ?_)))
  exact cr_
 refine s_ mv_ ?_
 refine or_ 6 (decide (base.Length - len < pos)) (fun g27 => ?_) ?_
 ·have g27r := g27
  have ⟨g27r, h28⟩ := bor_false g27r
  have ⟨g27r, h29⟩ := bor_false g27r
  have ⟨g27r, h30⟩ := bor_false g27r
  have ⟨g27r, h31⟩ := bor_false g27r
  have ⟨g27r, h32⟩ := bor_false g27r
  have g27r : (R26.isBase base) = true := bnot_false g27r
  have hi33 := R26.isBase_facts g27r
  have h32 : (R26.isId id) = true := bnot_false h32
  have hi34 := R26.isId_facts h32
  have h31 := of_decide_eq_false h31
  have h30 := of_decide_eq_false h30
  have h29 := of_decide_eq_false h29
  have h28 := of_decide_eq_false h28
  refine sg_ g27 mv_ (sg_ g27 (fA 3 Ty.fi23_3) (rg_ g27 (ld_ 1 Ty.sc3) (sg_ g27 mv_ (sg_ g27 (x_sub_i (a := base.Length) (b := len) rfl rfl (by omega) (by omega)) (sg_ g27 (x_gtr_i rfl rfl) ?_)))))
  exact cr_
 refine z_ (xk_ [1, 2, 3, 4, 5, 10, 11, 49] ?_)
 refine n_ ?_
 refine if_ (fun h35 => ?_) (fun h35 => ?_)
 ·simp only [Bool.and_eq_true, Bool.or_eq_true, Bool.and_eq_false_iff, Bool.or_eq_false_iff, Bool.not_eq_true', Bool.not_eq_false', decide_eq_true_eq, decide_eq_false_iff_not] at h35
  refine q_ (g_ (js_ (vG [vI 0, vI 0, vI 0, vI 0, vI 0, vI 0, vI 0, vI 0, vI 0, vI 0, vI 0, vI 0, vI 0, vI 0, vB false, vI 0, vS [], vS [], vI 0, vI 0, vB false]) (x_build (by kernel_rfl)) (o_ (stG 0 Ty.sz23 ?_))))
  refine s_ av_ (z_ (n_ (rt_ (nr_ ?_))))
  refine JX_rets [_, _] (Value.tuple #[_, _]) Tryz.results45 (fun w h => ⟨⟨_, rfl, load_blkN 0 [vI 0, vI 0, vI 0, vI 0, vI 0, vI 0, vI 0, vI 0, vI 0, vI 0, vI 0, vI 0, vI 0, vI 0, vB false, vI 0, vS [], vS [], vI 0, vI 0, vB false] h rfl Ty.ag23 Ty.sz23 rfl⟩, rfl, trivial⟩) rfl _ (fun _ h => h.keep [false, false] rfl) ⟨?_, ?_⟩
  ·have e_x0 : ((DataSet.mk 0 0 0 0 0 0 0 0 0 0 0 0 0 0 false 0 [] [] 0 0 false) : DataSet) = ((R26.describe base id pos len u).1) := Tf45_ok_
   have e_x1 : (1 : Int) = ((R26.describe base id pos len u).2) := Tf45_ok_
   have e_all := (congr (congrArg (fun (x0 : DataSet) (x1 : Int) => Value.tuple #[vG (DataSet.enc x0), vI x1]) e_x0) e_x1)
   exact e_all
  ·rfl
 ·have ⟨h35, h36⟩ := bor_false h35
  have ⟨h35, h37⟩ := bor_false h35
  have ⟨h35, h38⟩ := bor_false h35
  have ⟨h35, h39⟩ := bor_false h35
  have ⟨h35, h40⟩ := bor_false h35
  have ⟨h35, h41⟩ := bor_false h35
  have h35 : (R26.isBase base) = true := bnot_false h35
  have hi42 := R26.isBase_facts h35
  have h41 : (R26.isId id) = true := bnot_false h41
  have hi43 := R26.isId_facts h41
  have h40 := of_decide_eq_false h40
  have h39 := of_decide_eq_false h39
  have h38 := of_decide_eq_false h38
  have h37 := of_decide_eq_false h37
  have h36 := of_decide_eq_false h36
  refine sk_ (n_ (q_ (g_ (s_ mv_ (r_ (ldN 1 (DataSet.enc base) Ty.ag23 Ty.sz23) (c0 (cl_ Ty.ca64) (fun w hS => f64_ok base w) (s_ (x_add_i (a := len) (b := R26.keys base) rfl rfl (by omega) (by omega)) (s_ av_ (z_ (n_ (q_ (g_ (s_ mv_ (s_ (fA 0 Ty.fi23_0) (r_ (ld_ 1 Ty.sc3) ?_)))))))))))))))
  refine s_ mv_ (s_ mv_ (s_ mv_ (s_ mv_ (s_ mv_ (s_ (fA 8 Ty.fi23_8) (r_ (ld_ 1 Ty.sc3) (s_ (fA 9 Ty.fi23_9) (r_ (ld_ 1 Ty.sc3) (s_ (fA 10 Ty.fi23_10) ?_)))))))))
  refine r_ (ld_ 1 Ty.sc3) (s_ (fA 15 Ty.fi23_15) (r_ (ld_ 1 Ty.sc3) (s_ (fA 16 Ty.fi23_16) (r_ (ld_ 1 Ty.sc9) (s_ (fA 17 Ty.fi23_17) (r_ (ld_ 1 Ty.sc9) (s_ (fA 18 Ty.fi23_18) (r_ (ld_ 1 Ty.sc3) (s_ (fA 19 Ty.fi23_19) ?_)))))))))
  refine r_ (ld_ 1 Ty.sc3) (js_ (vG [vI id, vI 3, vI 0, vI (len + (R26.keys base)), vI 0, vI 0, vI (len + (R26.keys base)), vI 0, vI base.Area, vI base.FreeInterval, vI base.FreeArea, vI base.Id, vI pos, vI len, vB u, vI base.Class, vS base.Volume, vS base.Owner, vI base.Created, vI base.Expires, vB false]) (x_build (by kernel_rfl)) (o_ (al_ Ty.ze23 fun b44 => ?_)))
  refine o_ (stG 0 Ty.sz23 ?_)
  refine z_ (xk_ [5, 10, 11, 13] ?_)
  refine n_ (q_ (q_ (g_ (s_ (fA 1 Ty.fi23_1) (r_ (ld_ 2 Ty.sc3) (s_ (x_eql_i rfl rfl) (z_ (n_ ?_))))))))
  refine J_cutK (X := Int) (fun (m45 : Int) => m45 = (if base.Org = 1 then (4 : Int) else base.Area)) (fun (m45 : Int) => [(5, pB b1 0), (10, pB b2 0), (11, vI 0), (13, pB b44 0)]) (fun (m45 : Int) => [Ent.blk b44 23 [vI id, vI 3, vI 0, vI (len + (R26.keys base)), vI 0, vI 0, vI (len + (R26.keys base)), vI 0, vI m45, vI base.FreeInterval, vI base.FreeArea, vI base.Id, vI pos, vI len, vB u, vI base.Class, vS base.Volume, vS base.Owner, vI base.Created, vI base.Expires, vB false], Ent.blk b2 23 [vI 0, vI 0, vI 0, vI 0, vI 0, vI 0, vI 0, vI 0, vI 0, vI 0, vI 0, vI 0, vI 0, vI 0, vB false, vI 0, vS [], vS [], vI 0, vI 0, vB false], Ent.blk b1 23 (DataSet.enc base)]) ?_ ?_
  ·refine if_ (fun h46 => ?_) (fun h46 => ?_)
   ·have h46r := h46
    have h46r := of_decide_eq_true h46r
    have h46 : (base.Org = 1) := by exact h46r
    refine g_ (s_ (fA 8 Ty.fi23_8) (o_ (st1 0 Ty.sz3 ?_)))
    refine z_ ?_
    exact JX_cut ((4 : Int)) (if_pos h46).symm ⟨rfl, rfl, rfl, rfl, trivial⟩ (fun _ h => h)
   ·have h46r := h46
    have h46r := of_decide_eq_false h46r
    have h46 : ¬ (base.Org = 1) := by exact h46r
    refine sk_ ?_
    exact JX_cut (base.Area) (if_neg h46).symm ⟨rfl, rfl, rfl, rfl, trivial⟩ (fun _ h => h)
  rintro m45 rfl
  refine n_ (q_ (q_ (g_ (s_ (fA 7 Ty.fi23_7) (r_ (ld_ 2 Ty.sc3) (s_ (fA 7 Ty.fi23_7) (o_ (st1 0 Ty.sz3 ?_))))))))
  refine z_ (n_ (k_ ?_))
  refine J_loop (X := Int) (fun (iv : Int) => (R26.good base id pos len = true) ∧ (128 ≤ iv) ∧ (iv = 128 ∨ iv = 256 ∨ iv = 512 ∨ iv = 1024) ∧ (R26.pick (fun x => R16.valid (R26.mk base id pos len u x)) iv = R26.pick (fun x => R16.valid (R26.mk base id pos len u x)) base.Interval)) (fun (iv : Int) => [(10, pB b2 0), (13, pB b44 0)]) (fun (iv : Int) => [Ent.blk b44 23 [vI id, vI 3, vI 0, vI (len + (R26.keys base)), vI 0, vI 0, vI (len + (R26.keys base)), vI iv, vI (if base.Org = 1 then (4 : Int) else base.Area), vI base.FreeInterval, vI base.FreeArea, vI base.Id, vI pos, vI len, vB u, vI base.Class, vS base.Volume, vS base.Owner, vI base.Created, vI base.Expires, vB false], Ent.blk b2 23 [vI 0, vI 0, vI 0, vI 0, vI 0, vI 0, vI 0, vI 0, vI 0, vI 0, vI 0, vI 0, vI 0, vI 0, vB false, vI 0, vS [], vS [], vI 0, vI 0, vB false]]) (fun (iv : Int) => (1024 - iv).toNat) (base.Interval : Int) ?_ ⟨rfl, rfl, trivial⟩ (fun _ h => h.keep [true, true, false] rfl) ?_
  ·try dsimp only
   refine ⟨?_, ?_, ?_, ?_⟩
   ·unfold R26.good
    simp only [Bool.and_eq_true, decide_eq_true_eq]
    refine ⟨⟨⟨⟨⟨by assumption, ?_⟩, ?_⟩, ?_⟩, ?_⟩, ?_⟩
    ·first | assumption | (unfold R26.isId; simp only [Bool.and_eq_true, decide_eq_true_eq]; omega)
    ·omega
    ·omega
    ·omega
    ·omega
   ·first | rfl | omega | (simp_all; done) | (simp_all; omega)
   ·first | rfl | omega | (simp_all; done) | (simp_all; omega)
   ·rfl
  intro iv hI1
  obtain ⟨i1_0, i1_1, i1_2, i1_3⟩ := hI1
  try dsimp only at i1_0
  try dsimp only at i1_1
  try dsimp only at i1_2
  try dsimp only at i1_3
  have hA : (if base.Org ≠ 3 then (4 : Int) else base.Area) = if base.Org = 1 then 4 else base.Area := R26.area_eq i1_0
  try dsimp only
  refine q_ (q_ (g_ (s_ (fA 7 Ty.fi23_7) (r_ (ld_ 0 Ty.sc3) (s_ (x_leq_i rfl rfl) (z_ (n_ ?_)))))))
  refine ifd (fun h47w h47 => ?_) (fun h47w h47 => ?_)
  ·refine sk_ (n_ (q_ (k_ (q_ (g_ (r_ (ldN 0 [vI id, vI 3, vI 0, vI (len + (R26.keys base)), vI 0, vI 0, vI (len + (R26.keys base)), vI iv, vI (if base.Org = 1 then (4 : Int) else base.Area), vI base.FreeInterval, vI base.FreeArea, vI base.Id, vI pos, vI len, vB u, vI base.Class, vS base.Volume, vS base.Owner, vI base.Created, vI base.Expires, vB false] Ty.ag23 Ty.sz23) (c0 (cl_ Ty.ca65) (fun w hS => f65_ok (DataSet.mk id 3 0 (len + (R26.keys base)) 0 0 (len + (R26.keys base)) iv (if base.Org = 1 then (4 : Int) else base.Area) base.FreeInterval base.FreeArea base.Id pos len u base.Class base.Volume base.Owner base.Created base.Expires false) w) (z_ (n_ ?_)))))))))
   refine if_ (fun h48 => ?_) (fun h48 => ?_)
   ·have hi49 := R16.valid_facts h48
    refine q_ (g_ (r_ (ldN 0 [vI id, vI 3, vI 0, vI (len + (R26.keys base)), vI 0, vI 0, vI (len + (R26.keys base)), vI iv, vI (if base.Org = 1 then (4 : Int) else base.Area), vI base.FreeInterval, vI base.FreeArea, vI base.Id, vI pos, vI len, vB u, vI base.Class, vS base.Volume, vS base.Owner, vI base.Created, vI base.Expires, vB false] Ty.ag23 Ty.sz23) (o_ (stG 1 Ty.sz23 ?_))))
    refine s_ av_ (z_ (n_ (rt_ (kq_ (nr_ (rr_ (kq_ (nr_ ?_))))))))
    refine JX_rets [_, _] (Value.tuple #[_, _]) Tryz.results45 (fun w h => ⟨⟨_, rfl, load_blkN 1 [vI id, vI 3, vI 0, vI (len + (R26.keys base)), vI 0, vI 0, vI (len + (R26.keys base)), vI iv, vI (if base.Org = 1 then (4 : Int) else base.Area), vI base.FreeInterval, vI base.FreeArea, vI base.Id, vI pos, vI len, vB u, vI base.Class, vS base.Volume, vS base.Owner, vI base.Created, vI base.Expires, vB false] h rfl Ty.ag23 Ty.sz23 rfl⟩, rfl, trivial⟩) rfl _ (fun _ h => h.keep [false, false] rfl) ⟨?_, ?_⟩
    ·have e_x0 : ((DataSet.mk id 3 0 (len + (R26.keys base)) 0 0 (len + (R26.keys base)) iv (if base.Org = 1 then (4 : Int) else base.Area) base.FreeInterval base.FreeArea base.Id pos len u base.Class base.Volume base.Owner base.Created base.Expires false) : DataSet) = ((R26.describe base id pos len u).1) := Tf45_ok_
     have e_x1 : (0 : Int) = ((R26.describe base id pos len u).2) := Tf45_ok_
     have e_all := (congr (congrArg (fun (x0 : DataSet) (x1 : Int) => Value.tuple #[vG (DataSet.enc x0), vI x1]) e_x0) e_x1)
     exact e_all
    ·rfl
   ·refine sk_ (kx_ (n_ (g_ (s_ (fA 7 Ty.fi23_7) (r_ (ld_ 0 Ty.sc3) (s_ (x_mul_i (a := iv) (b := 2) rfl rfl (by omega) (by omega)) (s_ (fA 7 Ty.fi23_7) (o_ (st1 0 Ty.sz3 ?_)))))))))
    refine z_ ?_
    refine JX_round (iv * 2 : Int) ?_ ?_ ⟨rfl, rfl, trivial⟩ (fun _ h => h)
    ·try dsimp only
     refine ⟨?_, ?_, ?_, ?_⟩
     ·exact i1_0
     ·first | rfl | omega | (simp_all; done) | (simp_all; omega)
     ·first | rfl | omega | (simp_all; done) | (simp_all; omega)
     ·rw [← i1_3]
      first | exact (R26.pick_step (by omega) c26c0_).symm | (rw [show (2 * iv : Int) = iv * 2 by omega]; exact (R26.pick_step (by omega) c26c0_).symm)
    ·try dsimp only
     first | omega | (simp; omega) | (simp_all; omega)
  ·refine J_exit (ne_ (re_ (kh_ (n_ (q_ ?_)))))
   refine g_ (js_ (vG [vI 0, vI 0, vI 0, vI 0, vI 0, vI 0, vI 0, vI 0, vI 0, vI 0, vI 0, vI 0, vI 0, vI 0, vB false, vI 0, vS [], vS [], vI 0, vI 0, vB false]) (x_build (by kernel_rfl)) (o_ (stG 1 Ty.sz23 ?_)))
   refine s_ av_ (z_ (n_ (rt_ ?_)))
   refine JX_rets [_, _] (Value.tuple #[_, _]) Tryz.results45 (fun w h => ⟨⟨_, rfl, load_blkN 1 [vI 0, vI 0, vI 0, vI 0, vI 0, vI 0, vI 0, vI 0, vI 0, vI 0, vI 0, vI 0, vI 0, vI 0, vB false, vI 0, vS [], vS [], vI 0, vI 0, vB false] h rfl Ty.ag23 Ty.sz23 rfl⟩, rfl, trivial⟩) rfl _ (fun _ h => h.keep [false, false] rfl) ⟨?_, ?_⟩
   ·have e_x0 : ((DataSet.mk 0 0 0 0 0 0 0 0 0 0 0 0 0 0 false 0 [] [] 0 0 false) : DataSet) = ((R26.describe base id pos len u).1) := Tf45_ok_
    have e_x1 : (8 : Int) = ((R26.describe base id pos len u).2) := Tf45_ok_
    have e_all := (congr (congrArg (fun (x0 : DataSet) (x1 : Int) => Value.tuple #[vG (DataSet.enc x0), vI x1]) e_x0) e_x1)
    exact e_all
   ·rfl
end Go.Proofs.YtmbinhhlfbgiaaaGreat

namespace Go.Proofs.YtmbinhhlfbgiaaaGreat
open Go.GV
namespace R16
def short (l : List Bytes) (m n : Int) : Bool := decide ((l.length : Int) ≤ m) && l.all fun s => decide ((s.length : Int) ≤ n)
theorem short_bad {l : List Bytes} {m n : Int} {k : Nat} (hk : k < l.length) (h : n < (l.getD k []).length) : short l m n = false := by
  rw [Bool.eq_false_iff]
  intro h2
  unfold short at h2
  rw [Bool.and_eq_true, List.all_eq_true] at h2
  have := h2.2 (l.getD k []) (by rw [List.getD_eq_getElem?_getD, List.getElem?_eq_getElem hk]; exact List.getElem_mem _)
  have := of_decide_eq_true this
  omega
theorem short_end {l : List Bytes} {m n : Int} {k : Nat} (hk2 : l.length ≤ k) (h0 : (l.length : Int) ≤ m) (h : ∀ i, i < k → ((l.getD i []).length : Int) ≤ n) : short l m n = true := by
  unfold short
  rw [Bool.and_eq_true, List.all_eq_true]
  refine ⟨decide_eq_true h0, fun x hx => ?_⟩
  obtain ⟨i, hi, rfl⟩ := List.getElem_of_mem hx
  have := h i (by omega)
  rw [List.getD_eq_getElem?_getD, List.getElem?_eq_getElem hi] at this
  exact decide_eq_true this
end R16
namespace R26
theorem sub_sub2 {r : Bytes} {a b : Int} (h0 : 0 ≤ a) (h1 : 0 ≤ b) (h : a + b ≤ r.length) : sub (sub r a.toNat r.length) 0 b.toNat = sub r a.toNat (a + b).toNat := by
  rw [sub_sub (by omega)]; congr 1; omega
theorem key_no {a : DataSet} {r : Bytes} (h : ¬ (isAlt a = true ∧ a.AltAt + a.AltLength ≤ r.length)) : key a r = ([], false) := if_neg h
theorem key_yes {a : DataSet} {r : Bytes} (h : isAlt a = true) (h2 : a.AltAt + a.AltLength ≤ r.length) : key a r = (sub r a.AltAt.toNat (a.AltAt + a.AltLength).toNat, true) := if_pos ⟨h, h2⟩
theorem parts_no {a : DataSet} {r : Bytes} (h : isAlt a = false) : parts a r = ([], [], 1) := if_neg (by simp [h])
theorem parts_bad {a : DataSet} {r : Bytes} (h : isAlt a = true) (h2 : ¬ (r.length : Int) = a.KeyLength) : parts a r = ([], [], 2) := ite1 h h2
theorem parts_ok {a : DataSet} {r : Bytes} (h : isAlt a = true) (h2 : (r.length : Int) = a.KeyLength) : parts a r = (sub r 0 a.AltLength.toNat, sub r a.AltLength.toNat r.length, 0) := ite2 h h2
theorem span_no {a : DataSet} {k : Bytes} (h : isAlt a = false) : span a k = (⟨[], [], false⟩, 1) := if_neg (by simp [h])
theorem span_bad {a : DataSet} {k : Bytes} (h : isAlt a = true) (h2 : ¬ (k.length : Int) = a.AltLength) : span a k = (⟨[], [], false⟩, 2) := ite1 h h2
theorem span_ok {a : DataSet} {k : Bytes} (h : isAlt a = true) (h2 : (k.length : Int) = a.AltLength) : span a k = (⟨k, k ++ rep [255] (a.KeyLength - a.AltLength).toNat, false⟩, 0) := ite2 h h2
def inr (r : Range) (s : Bytes) : Bool := (!Op.bytesLess s r.Low) && (r.End || (Op.bytesLess s r.High || decide (s = r.High)))
def exBase : DataSet := { Id := 3, Org := 3, Format := 0, Length := 20, Block := 0, KeyAt := 0, KeyLength := 3, Interval := 128, Area := 2, FreeInterval := 0, FreeArea := 0, Base := 0, AltAt := 0, AltLength := 0, Unique := false, Class := 0, Volume := [], Owner := [], Created := 0, Expires := 0, Archived := false }
def exAlt : DataSet := (describe exBase 4 5 2 false).1
theorem less_self : ∀ (s : Bytes), Op.bytesLess s s = false
  | [] => rfl
  | x :: s => by unfold Op.bytesLess; simp [less_self s]
theorem key_facts {a : DataSet} {r : Bytes} (h : (key a r).2 = true) : isAlt a = true ∧ 1 ≤ a.AltLength ∧ a.AltLength < a.KeyLength ∧ a.KeyLength ≤ 32 ∧ ((key a r).1.length : Int) = a.AltLength := by
  by_cases h1 : isAlt a = true ∧ a.AltAt + a.AltLength ≤ r.length
  · have hf := isAlt_facts h1.1
    refine ⟨h1.1, by omega, by omega, by omega, ?_⟩
    rw [key_yes h1.1 h1.2]
    show ((sub r a.AltAt.toNat (a.AltAt + a.AltLength).toNat).length : Int) = _
    rw [sub_length _ _ _ (by omega)]
    omega
  · rw [key_no h1] at h; cases h
end R26
end Go.Proofs.YtmbinhhlfbgiaaaGreat
