/- contracts L44h -/
import Derived.Test.YtnfglkgahlaofaaGreatDoorAll21
import Derived.Test.YtnfglkgahlaofaaGreatDoorAll14
import Derived.Test.YtnfglkgahlaofaaGreatDoorC44e
import Derived.Test.YtnfglkgahlaofaaGreatDoorPl44t
namespace Go.Proofs.YtnfglkgahlaofaaGreatDoor
open Go.GV
set_option linter.unusedVariables false
set_option linter.unusedSimpArgs false
theorem l44h0_ {p : Prop} (h : p := by first | exact i2_1.hit i1_1 hsx.1 (by omega) (by assumption) (by omega) (by assumption) (by assumption) | exact i2_1.skip i1_1 hsx.1 (by omega) (by assumption) (by omega) (by assumption)) : p := h
set_option maxRecDepth 20000 in
theorem f5_ok (rs : List Bytes) (rsA : Option Addr) (rsC : Nat) (pa : SortPlan) (pb : SortPlan) (l : List SortField) (lA : Option Addr) (lC : Nat) (w : World) (rsR : RO [] w rsA (rs.map vS)) (lR : RO [] w lA (l.flatMap SortField.enc)) (hT : Tab [] w) (q0 : rs.length ≤ rsC ∧ rs.length ≤ 9223372036854775807) (q1 : l.length ≤ 9223372036854775807) : Calls Tryz.prog 5 #[vL rsA rs.length rsC, vG [vI pa.Memory, vI pa.Fan], vG [vI pb.Memory, vI pb.Fan], vL lA l.length lC] w (Gives [] w fun v L => v = vB true ∧ L = []) := by
 refine calls_J [] 184 Tryz.func5 rfl Tryz.ntmps5 [(0, _), (1, _), (2, _), (3, _)] rfl rfl (Give.nil w) ?_
 refine q_ (g_ (o_ (bxG fun b1 => ?_)))
 refine o_ (bxG fun b2 => ?_)
 refine s_ av_ (z_ (n_ (q_ (q_ (g_ (c0 (cl_ Ty.ca11) (fun w hS => f11_ok w (hT.on hS (fun _ h => by cases h))) (jr_ (vB false) (z_ (n_ (iff_ (sk_ (n_ (q_ (q_ (g_ (s_ mv_ (c0 (cl_ Ty.ca12) (fun w hS => f12_ok rs rsA rsC 40 w (rno rsR hS) hy_) (s_ (x_not rfl) (s_ mv_ ?_)))))))))))))))))))
 refine or_ 3 (!(R44.valid l)) (fun g3 => ?_) ?_
 ·have g3r := g3
  have g3r : (R44.few rs 40) = true := bnot_false g3r
  have hi4 := R44.few_facts g3r
  refine sg_ g3 mv_ (c0g g3 (cl_ Ty.ca21) (fun w hS => f21_ok l lA lC w (rno lR hS) hy_) (sg_ g3 (x_not rfl) ?_))
  exact cr_
 refine s_ mv_ ?_
 refine or_ 3 (decide (pa.Memory < 1)) (fun g5 => ?_) ?_
 ·have g5r := g5
  have ⟨g5r, h6⟩ := bor_false g5r
  have g5r : (R44.few rs 40) = true := bnot_false g5r
  have hi7 := R44.few_facts g5r
  have h6 : (R44.valid l) = true := bnot_false h6
  have hi8 := R44.valid_facts h6
  refine sg_ g5 (fA 0 Ty.fi32_0) (rg_ g5 (ld_ 1 Ty.sc3) (sg_ g5 (x_lss_i rfl rfl) ?_))
  exact cr_
 refine s_ mv_ ?_
 refine or_ 3 (decide ((60 : Int) < pa.Memory)) (fun g9 => ?_) ?_
 ·have g9r := g9
  have ⟨g9r, h10⟩ := bor_false g9r
  have ⟨g9r, h11⟩ := bor_false g9r
  have g9r : (R44.few rs 40) = true := bnot_false g9r
  have hi12 := R44.few_facts g9r
  have h11 : (R44.valid l) = true := bnot_false h11
  have hi13 := R44.valid_facts h11
  have h10 := of_decide_eq_false h10
  refine sg_ g9 (fA 0 Ty.fi32_0) (rg_ g9 (ld_ 1 Ty.sc3) (sg_ g9 (x_gtr_i rfl rfl) ?_))
  exact cr_
 refine s_ mv_ ?_
 refine or_ 3 (decide (pb.Memory < 1)) (fun g14 => ?_) ?_
 ·have g14r := g14
  have ⟨g14r, h15⟩ := bor_false g14r
  have ⟨g14r, h16⟩ := bor_false g14r
  have ⟨g14r, h17⟩ := bor_false g14r
  have g14r : (R44.few rs 40) = true := bnot_false g14r
  have hi18 := R44.few_facts g14r
  have h17 : (R44.valid l) = true := bnot_false h17
  have hi19 := R44.valid_facts h17
  have h16 := of_decide_eq_false h16
  have h15 := of_decide_eq_false h15
  refine sg_ g14 (fA 0 Ty.fi32_0) (rg_ g14 (ld_ 0 Ty.sc3) (sg_ g14 (x_lss_i rfl rfl) ?_))
  exact cr_
 refine s_ mv_ ?_
 refine or_ 3 (decide ((60 : Int) < pb.Memory)) (fun g20 => ?_) ?_
 ·have g20r := g20
  have ⟨g20r, h21⟩ := bor_false g20r
  have ⟨g20r, h22⟩ := bor_false g20r
  have ⟨g20r, h23⟩ := bor_false g20r
  have ⟨g20r, h24⟩ := bor_false g20r
  have g20r : (R44.few rs 40) = true := bnot_false g20r
  have hi25 := R44.few_facts g20r
  have h24 : (R44.valid l) = true := bnot_false h24
  have hi26 := R44.valid_facts h24
  have h23 := of_decide_eq_false h23
  have h22 := of_decide_eq_false h22
  have h21 := of_decide_eq_false h21
  refine sg_ g20 (fA 0 Ty.fi32_0) (rg_ g20 (ld_ 0 Ty.sc3) (sg_ g20 (x_gtr_i rfl rfl) ?_))
  exact cr_
 refine s_ mv_ ?_
 refine or_ 3 (decide (pa.Fan < 2)) (fun g27 => ?_) ?_
 ·have g27r := g27
  have ⟨g27r, h28⟩ := bor_false g27r
  have ⟨g27r, h29⟩ := bor_false g27r
  have ⟨g27r, h30⟩ := bor_false g27r
  have ⟨g27r, h31⟩ := bor_false g27r
  have ⟨g27r, h32⟩ := bor_false g27r
  have g27r : (R44.few rs 40) = true := bnot_false g27r
  have hi33 := R44.few_facts g27r
  have h32 : (R44.valid l) = true := bnot_false h32
  have hi34 := R44.valid_facts h32
  have h31 := of_decide_eq_false h31
  have h30 := of_decide_eq_false h30
  have h29 := of_decide_eq_false h29
  have h28 := of_decide_eq_false h28
  refine sg_ g27 (fA 1 Ty.fi32_1) (rg_ g27 (ld_ 1 Ty.sc3) (sg_ g27 (x_lss_i rfl rfl) ?_))
  exact cr_
 refine s_ mv_ ?_
 refine or_ 3 (decide ((16 : Int) < pa.Fan)) (fun g35 => ?_) ?_
 ·have g35r := g35
  have ⟨g35r, h36⟩ := bor_false g35r
  have ⟨g35r, h37⟩ := bor_false g35r
  have ⟨g35r, h38⟩ := bor_false g35r
  have ⟨g35r, h39⟩ := bor_false g35r
  have ⟨g35r, h40⟩ := bor_false g35r
  have ⟨g35r, h41⟩ := bor_false g35r
  have g35r : (R44.few rs 40) = true := bnot_false g35r
  have hi42 := R44.few_facts g35r
  have h41 : (R44.valid l) = true := bnot_false h41
  have hi43 := R44.valid_facts h41
  have h40 := of_decide_eq_false h40
  have h39 := of_decide_eq_false h39
  have h38 := of_decide_eq_false h38
  have h37 := of_decide_eq_false h37
  have h36 := of_decide_eq_false h36
  refine sg_ g35 (fA 1 Ty.fi32_1) (rg_ g35 (ld_ 1 Ty.sc3) (sg_ g35 (x_gtr_i rfl rfl) ?_))
  exact cr_
 refine s_ mv_ ?_
 refine or_ 3 (decide (pb.Fan < 2)) (fun g44 => ?_) ?_
 ·have g44r := g44
  have ⟨g44r, h45⟩ := bor_false g44r
  have ⟨g44r, h46⟩ := bor_false g44r
  have ⟨g44r, h47⟩ := bor_false g44r
  have ⟨g44r, h48⟩ := bor_false g44r
  have ⟨g44r, h49⟩ := bor_false g44r
  have ⟨g44r, h50⟩ := bor_false g44r
  have ⟨g44r, h51⟩ := bor_false g44r
  have g44r : (R44.few rs 40) = true := bnot_false g44r
  have hi52 := R44.few_facts g44r
  have h51 : (R44.valid l) = true := bnot_false h51
  have hi53 := R44.valid_facts h51
  have h50 := of_decide_eq_false h50
  have h49 := of_decide_eq_false h49
  have h48 := of_decide_eq_false h48
  have h47 := of_decide_eq_false h47
  have h46 := of_decide_eq_false h46
  have h45 := of_decide_eq_false h45
  refine sg_ g44 (fA 1 Ty.fi32_1) (rg_ g44 (ld_ 0 Ty.sc3) (sg_ g44 (x_lss_i rfl rfl) ?_))
  exact cr_
 refine s_ mv_ ?_
 refine or_ 3 (decide ((16 : Int) < pb.Fan)) (fun g54 => ?_) ?_
 ·have g54r := g54
  have ⟨g54r, h55⟩ := bor_false g54r
  have ⟨g54r, h56⟩ := bor_false g54r
  have ⟨g54r, h57⟩ := bor_false g54r
  have ⟨g54r, h58⟩ := bor_false g54r
  have ⟨g54r, h59⟩ := bor_false g54r
  have ⟨g54r, h60⟩ := bor_false g54r
  have ⟨g54r, h61⟩ := bor_false g54r
  have ⟨g54r, h62⟩ := bor_false g54r
  have g54r : (R44.few rs 40) = true := bnot_false g54r
  have hi63 := R44.few_facts g54r
  have h62 : (R44.valid l) = true := bnot_false h62
  have hi64 := R44.valid_facts h62
  have h61 := of_decide_eq_false h61
  have h60 := of_decide_eq_false h60
  have h59 := of_decide_eq_false h59
  have h58 := of_decide_eq_false h58
  have h57 := of_decide_eq_false h57
  have h56 := of_decide_eq_false h56
  have h55 := of_decide_eq_false h55
  refine sg_ g54 (fA 1 Ty.fi32_1) (rg_ g54 (ld_ 0 Ty.sc3) (sg_ g54 (x_gtr_i rfl rfl) ?_))
  exact cr_
 refine z_ (xk_ [0, 3, 5, 6, 8, 70] ?_)
 refine n_ ?_
 refine if_ (fun h65 => ?_) (fun h65 => ?_)
 ·have h65w := h65
  simp only [Bool.and_eq_true, Bool.or_eq_true, Bool.and_eq_false_iff, Bool.or_eq_false_iff, Bool.not_eq_true', Bool.not_eq_false', decide_eq_true_eq, decide_eq_false_iff_not] at h65
  refine q_ (g_ (s_ av_ (z_ (n_ (rt_ (nr_ ?_))))))
  exact p1 Tryz.results5 rfl ⟨rfl, rfl⟩
 ·have h65w := h65
  have ⟨h65, h66⟩ := bor_false h65
  have ⟨h65, h67⟩ := bor_false h65
  have ⟨h65, h68⟩ := bor_false h65
  have ⟨h65, h69⟩ := bor_false h65
  have ⟨h65, h70⟩ := bor_false h65
  have ⟨h65, h71⟩ := bor_false h65
  have ⟨h65, h72⟩ := bor_false h65
  have ⟨h65, h73⟩ := bor_false h65
  have ⟨h65, h74⟩ := bor_false h65
  have h65 : (R44.few rs 40) = true := bnot_false h65
  have hi75 := R44.few_facts h65
  have h74 : (R44.valid l) = true := bnot_false h74
  have hi76 := R44.valid_facts h74
  have h73 := of_decide_eq_false h73
  have h72 := of_decide_eq_false h72
  have h71 := of_decide_eq_false h71
  have h70 := of_decide_eq_false h70
  have h69 := of_decide_eq_false h69
  have h68 := of_decide_eq_false h68
  have h67 := of_decide_eq_false h67
  have h66 := of_decide_eq_false h66
  refine sk_ (n_ (q_ (g_ (s_ mv_ (r_ (ldN 1 [vI pa.Memory, vI pa.Fan] Ty.ag32 Ty.sz32) (s_ mv_ (js_ (vG [Value.nilFunc, Value.nilFunc]) (x_build (by kernel_rfl)) ?_)))))))
  refine JO_callB [] [] [Ent.blk b2 32 [vI pb.Memory, vI pb.Fan], Ent.blk b1 32 [vI pa.Memory, vI pa.Fan]] rfl trivial (fun _ => x_call Ty.ca18 rfl) (fun _ h => h) (fun _ h => by cases h) (fun w hS => f18_ok rs rsA rsC pa.Memory pa.Fan l lA lC w (rsR.on hS (fun _ h => by cases h)) (lR.on hS (fun _ h => by cases h)) hy_ (by exact R44.few_q1 (by assumption)) (by exact q0.1) hy_) ?_
  rintro wc _ _ wbhB82 ⟨rout, routA, routC, e77, e78, e79, e80, rfl, rfl, routR, routL, hf81⟩ hc0 hB82
  have rsR := rsR.again hB82
  have lR := lR.again hB82
  have hT := hT.again hB82
  have routR := routR.mono (lown_range hc0)
  have ha83 := R44.sv_few pa.Memory pa.Fan (by assumption) (by assumption) (by omega) (by omega) (by omega) (by omega) (by assumption)
  refine s_ mv_ (s_ (ex_ 0) (s_ (ex_ 1) (s_ (ex_ 2) (o_ (al_ Ty.ze34 fun b84 => ?_)))))
  refine s_ av_ (o_ (stG 0 Ty.sz34 ?_))
  refine s_ av_ (z_ (n_ (q_ (g_ (s_ mv_ (r_ (ldN 1 [vI pb.Memory, vI pb.Fan] Ty.ag32 Ty.sz32) (s_ mv_ (js_ (vG [Value.nilFunc, Value.nilFunc]) (x_build (by kernel_rfl)) ?_))))))))
  refine JO_callB [] [] [Ent.blk b84 34 [vI e77, vI e78, vI e79], Ent.blk b2 32 [vI pb.Memory, vI pb.Fan], Ent.blk b1 32 [vI pa.Memory, vI pa.Fan]] rfl trivial (fun _ => x_call Ty.ca18 rfl) (fun _ h => h) (fun _ h => by cases h) (fun w hS => f18_ok rs rsA rsC pb.Memory pb.Fan l lA lC w (rsR.on hS (fun _ h => by cases h)) (lR.on hS (fun _ h => by cases h)) hy_ (by exact R44.few_q1 (by assumption)) (by exact q0.1) hy_) ?_
  rintro wc _ _ wbhB91 ⟨rout85, rout85A, rout85C, e86, e87, e88, e89, rfl, rfl, rout85R, rout85L, hf90⟩ hc0 hB91
  have rsR := rsR.again hB91
  have lR := lR.again hB91
  have routR := routR.again hB91
  have hT := hT.again hB91
  have rout85R := rout85R.mono (lown_range hc0)
  have ha92 := R44.sv_few pb.Memory pb.Fan (by assumption) (by assumption) (by omega) (by omega) (by omega) (by omega) (by assumption)
  refine s_ mv_ (s_ (ex_ 0) (s_ (ex_ 1) (s_ (ex_ 2) (o_ (al_ Ty.ze34 fun b93 => ?_)))))
  refine s_ av_ (o_ (stG 0 Ty.sz34 ?_))
  refine s_ av_ (z_ (xk_ [0, 3, 8, 10, 9, 11, 13, 12, 14] ?_))
  refine n_ (q_ (q_ (g_ (s_ mv_ (s_ (x_neq_i rfl rfl) (s_ mv_ ?_))))))
  refine or_ 2 (decide (e89 ≠ 0)) (fun g94 => ?_) ?_
  ·have g94r := g94
   have g94r := of_decide_eq_false g94r
   refine sg_ g94 mv_ (sg_ g94 (x_neq_i rfl rfl) ?_)
   exact cr_
  refine s_ mv_ ?_
  refine or_ 4 (!(decide (rout = rout85))) (fun g95 => ?_) ?_
  ·have g95r := g95
   have ⟨g95r, h96⟩ := bor_false g95r
   have g95r := of_decide_eq_false g95r
   have h96 := of_decide_eq_false h96
   refine sg_ g95 mv_ (sg_ g95 mv_ (c0g g95 (cl_ Ty.ca15) (fun w hS => f15_ok rout _ _ _ _ _ w (rno routR hS) (rno rout85R hS) hy_ hy_) (sg_ g95 (x_not rfl) ?_)))
   exact cr_
  refine s_ mv_ ?_
  refine or_ 5 (decide (((rout.length : Nat) : Int) ≠ ((rs.length : Nat) : Int))) (fun g97 => ?_) ?_
  ·have g97r := g97
   have ⟨g97r, h98⟩ := bor_false g97r
   have ⟨g97r, h99⟩ := bor_false g97r
   have g97r := of_decide_eq_false g97r
   have h99 := of_decide_eq_false h99
   have h98 : (decide (rout = rout85)) = true := bnot_false h98
   have h98 := of_decide_eq_true h98
   refine sg_ g97 mv_ (sg_ g97 (lnS Tryz.underlying22) (sg_ g97 mv_ (sg_ g97 (lnS Tryz.underlying22) (sg_ g97 (x_neq_i rfl rfl) ?_))))
   exact cr_
  refine s_ mv_ ?_
  refine or_ 6 (decide (e79 + e88 ≠ 0)) (fun g100 => ?_) ?_
  ·have g100r := g100
   have ⟨g100r, h101⟩ := bor_false g100r
   have ⟨g100r, h102⟩ := bor_false g100r
   have ⟨g100r, h103⟩ := bor_false g100r
   have g100r := of_decide_eq_false g100r
   have h103 := of_decide_eq_false h103
   have h102 : (decide (rout = rout85)) = true := bnot_false h102
   have h102 := of_decide_eq_true h102
   have h101 := of_decide_eq_false h101
   refine sg_ g100 (fA 2 Ty.fi34_2) (rg_ g100 (ld_ 1 Ty.sc3) (sg_ g100 (fA 2 Ty.fi34_2) (rg_ g100 (ld_ 0 Ty.sc3) (sg_ g100 (x_add_i (a := e79) (b := e88) rfl rfl (by omega) (by omega)) (sg_ g100 (x_neq_i rfl rfl) ?_)))))
   exact cr_
  refine z_ (n_ ?_)
  refine if_ (fun h104 => ?_) (fun h104 => ?_)
  ·have h104w := h104
   simp only [Bool.and_eq_true, Bool.or_eq_true, Bool.and_eq_false_iff, Bool.or_eq_false_iff, Bool.not_eq_true', Bool.not_eq_false', decide_eq_true_eq, decide_eq_false_iff_not] at h104
   refine q_ (g_ (s_ av_ (z_ (n_ (rt_ (nr_ ?_))))))
   refine JX_retsC [_] _ Tryz.results5 (fun w h => ⟨rfl, trivial⟩) rfl _ (fun _ h => h.keep [false, false, false, false] rfl) (fun _ _ h => (hB82.back _ _ (hB91.back _ _ h))) ⟨?_, ?_⟩
   ·have e_x0 : (false : Bool) = true := by first | exact (R44.plans_0 (by assumption) (by assumption) (by assumption)).elim | exact absurd (R44.plans_ord (i := i) (by assumption) hsx.1 (by omega) (by omega)) (by omega) | exact (i2_1.bad (by omega) (by assumption) (by simp_all)).elim
    exact congrArg (fun (x0 : Bool) => vB x0) e_x0
   ·rfl
  ·have h104w := h104
   have ⟨h104, h105⟩ := bor_false h104
   have ⟨h104, h106⟩ := bor_false h104
   have ⟨h104, h107⟩ := bor_false h104
   have ⟨h104, h108⟩ := bor_false h104
   have h104 := of_decide_eq_false h104
   have h108 := of_decide_eq_false h108
   have h107 : (decide (rout = rout85)) = true := bnot_false h107
   have h107 := of_decide_eq_true h107
   have h106 := of_decide_eq_false h106
   have h105 := of_decide_eq_false h105
   refine sk_ (n_ (q_ (g_ (s_ mv_ (s_ (lnS Tryz.underlying22) (o_ (O_make (n := rs.length) vB false Tryz.underlying46 Ty.sz4 Ty.ze4 Ty.by4 rfl rfl rfl lt_ lt_ fun b109 => ?_)))))))
   refine s_ av_ (z_ (xk_ [0, 3, 8, 9, 15] ?_))
   refine n_ (q_ (g_ (s_ av_ (z_ (n_ (q_ (q_ (g_ (s_ mv_ (s_ (lnS Tryz.underlying22) (s_ mv_ (z_ (n_ (k_ ?_))))))))))))))
   refine J_loop (X := Nat × (List Bool) × Int) (fun (⟨i, used, last⟩ : Nat × (List Bool) × Int) => (i ≤ rout.length) ∧ (R44.PlJ l rs i used last)) (fun (⟨i, used, last⟩ : Nat × (List Bool) × Int) => [(0, vL rsA rs.length rsC), (3, vL lA l.length lC), (9, vL routA rout.length routC), (15, vL (some ⟨b109, 0, none⟩) rs.length rs.length), (16, vI last), (119, vL routA rout.length routC), (120, vI ((rout.length : Nat) : Int)), (121, vI ((i : Nat) : Int))]) (fun (⟨i, used, last⟩ : Nat × (List Bool) × Int) => [Ent.blk b109 4 (used.map vB)]) (fun (⟨i, used, last⟩ : Nat × (List Bool) × Int) => rout.length - i) ((0, List.replicate rs.length (false : Bool), (-1)) : Nat × (List Bool) × Int) ?_ ⟨rfl, rfl, rfl, rfl, rfl, rfl, rfl, rfl, trivial⟩ (fun _ h => h.keep [true, false, false, false, false] rfl) ?_
   ·try dsimp only
    refine ⟨?_, ?_⟩
    ·first | rfl | omega | (simp_all; done) | (simp_all; omega)
    ·exact R44.PlJ.start
   rintro ⟨i, used, last⟩ hI1
   obtain ⟨i1_0, i1_1⟩ := hI1
   try dsimp only at i1_0
   try dsimp only at i1_1
   have hsx := R44.sv_few pa.Memory pa.Fan (out := rout) (by assumption) (by assumption) (by omega) (by omega) (by omega) (by omega) (by assumption)
   have hxl := hsx.2.2.2
   have hul := i1_1.ul
   have hlast := i1_1.lo
   have hle := i1_1.lend ((decide ((0 : Int) < ((i : Nat) : Int))) && (decide (R44.cmpV l (rout.getD (i - 1) []) (rout.getD i []) < 0)))
   have hs1 := R44.sorted_short (by assumption) hsx.1 (i - 1)
   have hs2 := R44.sorted_short (by assumption) hsx.1 i
   try dsimp only
   refine q_ (g_ (s_ (x_lss_i rfl rfl) (z_ (n_ (q_ ?_)))))
   refine ifd (fun h110w h110 => ?_) (fun h110w h110 => ?_)
   ·refine sk_ (n_ (q_ (k_ (q_ (g_ (s_ mv_ (r_ (ixM (cells_ro routR) Tryz.underlying22 Ty.sz9) (r_ (ldM vS [] (cells_ro routR) Ty.sc9) (s_ av_ (s_ av_ (z_ (n_ (q_ (q_ (g_ (s_ mv_ (s_ (x_gtr_i rfl rfl) (s_ mv_ ?_))))))))))))))))))
    refine and_ 9 (decide ((0 : Int) < R44.cmpV l (rout.getD (i - 1) []) (rout.getD i []))) (fun g111 => ?_) ?_
    ·have g111r := g111
     have g111r := of_decide_eq_true g111r
     refine sg_ g111 mv_ (sg_ g111 mv_ (sg_ g111 (x_sub_i (a := ((i : Nat) : Int)) (b := 1) rfl rfl (by omega) (by omega)) (rg_ g111 (ixM (k := (i - 1)) (hy := (ix_nat rfl (by omega))) (cells_ro routR) Tryz.underlying22 Ty.sz9) (rg_ g111 (ldM vS [] (cells_ro routR) Ty.sc9) (sg_ g111 mv_ (sg_ g111 mv_ (c0g g111 (cl_ Ty.ca22) (fun w hS => f22_ok _ _ l lA lC w (rno lR hS) hy_ hy_ hy_) ?_)))))))
     have ha112 := R44.cmpV_bd l (rout.getD (i - 1) []) (rout.getD i [])
     try simp only [List.length_cons, List.length_nil, Nat.zero_add, Nat.reduceAdd, Nat.reduceMul] at ha112
     refine sg_ g111 (x_gtr_i rfl rfl) ?_
     exact cr_
    refine z_ (n_ ?_)
    refine if_ (fun h113 => ?_) (fun h113 => ?_)
    ·have h113w := h113
     have ⟨h113, h114⟩ := band_true h113
     have h113 := of_decide_eq_true h113
     have h114 := of_decide_eq_true h114
     refine q_ (g_ (s_ av_ (z_ (n_ (rt_ (nr_ (kq_ (nr_ (rr_ (kq_ (nr_ ?_)))))))))))
     refine JX_retsC [_] _ Tryz.results5 (fun w h => ⟨rfl, trivial⟩) rfl _ (fun _ h => h.keep [false] rfl) (fun _ _ h => (hB82.back _ _ (hB91.back _ _ h))) ⟨?_, ?_⟩
     ·have e_x0 : (false : Bool) = true := by first | exact (R44.plans_0 (by assumption) (by assumption) (by assumption)).elim | exact absurd (R44.plans_ord (i := i) (by assumption) hsx.1 (by omega) (by omega)) (by omega) | exact (i2_1.bad (by omega) (by assumption) (by simp_all)).elim
      exact congrArg (fun (x0 : Bool) => vB x0) e_x0
     ·rfl
    ·have h113w := h113
     simp only [Bool.and_eq_true, Bool.or_eq_true, Bool.and_eq_false_iff, Bool.or_eq_false_iff, Bool.not_eq_true', Bool.not_eq_false', decide_eq_true_eq, decide_eq_false_iff_not] at h113
     refine sk_ (n_ (q_ (q_ (g_ (s_ mv_ (s_ (x_gtr_i rfl rfl) (s_ mv_ ?_)))))))
     refine and_ 9 (decide (R44.cmpV l (rout.getD (i - 1) []) (rout.getD i []) < 0)) (fun g115 => ?_) ?_
     ·have g115r := g115
      have g115r := of_decide_eq_true g115r
      refine sg_ g115 mv_ (sg_ g115 mv_ (sg_ g115 (x_sub_i (a := ((i : Nat) : Int)) (b := 1) rfl rfl (by omega) (by omega)) (rg_ g115 (ixM (k := (i - 1)) (hy := (ix_nat rfl (by omega))) (cells_ro routR) Tryz.underlying22 Ty.sz9) (rg_ g115 (ldM vS [] (cells_ro routR) Ty.sc9) (sg_ g115 mv_ (sg_ g115 mv_ (c0g g115 (cl_ Ty.ca22) (fun w hS => f22_ok _ _ l lA lC w (rno lR hS) hy_ hy_ hy_) ?_)))))))
      have ha116 := R44.cmpV_bd l (rout.getD (i - 1) []) (rout.getD i [])
      try simp only [List.length_cons, List.length_nil, Nat.zero_add, Nat.reduceAdd, Nat.reduceMul] at ha116
      refine sg_ g115 (x_lss_i rfl rfl) ?_
      exact cr_
     refine z_ (xk_ [0, 3, 9, 15, 16, 119, 120, 121, 18, 151] ?_)
     refine n_ ?_
     refine J_cutK (X := Int) (fun (m117 : Int) => m117 = (if ((decide ((0 : Int) < ((i : Nat) : Int))) && (decide (R44.cmpV l (rout.getD (i - 1) []) (rout.getD i []) < 0))) = true then (-1) else last)) (fun (m117 : Int) => [(0, vL rsA rs.length rsC), (3, vL lA l.length lC), (9, vL routA rout.length routC), (15, vL (some ⟨b109, 0, none⟩) rs.length rs.length), (119, vL routA rout.length routC), (120, vI ((rout.length : Nat) : Int)), (121, vI ((i : Nat) : Int)), (18, vS (rout.getD i [])), (16, vI m117)]) (fun (m117 : Int) => [Ent.blk b109 4 (used.map vB)]) ?_ ?_
     ·refine if_ (fun h118 => ?_) (fun h118 => ?_)
      ·have h118r := h118
       have ⟨h118r, h119⟩ := band_true h118r
       have h118r := of_decide_eq_true h118r
       have h119 := of_decide_eq_true h119
       have h118 : (((decide ((0 : Int) < ((i : Nat) : Int))) && (decide (R44.cmpV l (rout.getD (i - 1) []) (rout.getD i []) < 0))) = true) := by exact h118
       refine g_ (s_ av_ (z_ ?_))
       exact JX_cut ((-1)) (if_pos h118).symm ⟨rfl, rfl, rfl, rfl, rfl, rfl, rfl, rfl, rfl, trivial⟩ (fun _ h => h)
      ·have h118r := h118
       simp only [Bool.and_eq_true, Bool.or_eq_true, Bool.and_eq_false_iff, Bool.or_eq_false_iff, Bool.not_eq_true', Bool.not_eq_false', decide_eq_true_eq, decide_eq_false_iff_not] at h118r
       have h118 : ¬ (((decide ((0 : Int) < ((i : Nat) : Int))) && (decide (R44.cmpV l (rout.getD (i - 1) []) (rout.getD i []) < 0))) = true) := by simp only [h118]; decide
       refine sk_ ?_
       exact JX_cut (last) (if_neg h118).symm ⟨rfl, rfl, rfl, rfl, rfl, rfl, rfl, rfl, rfl, trivial⟩ (fun _ h => h)
     rintro m117 rfl
     refine n_ (q_ (g_ (s_ av_ (z_ (n_ (q_ (q_ (g_ (s_ mv_ (s_ (x_add_i (a := (if ((decide ((0 : Int) < ((i : Nat) : Int))) && (decide (R44.cmpV l (rout.getD (i - 1) []) (rout.getD i []) < 0))) = true then (-1) else last)) (b := 1) rfl rfl lt_ lt_) (s_ av_ (z_ (n_ (k_ ?_))))))))))))))
     refine J_loop (X := Nat × Bool × (List Bool) × Int) (fun (⟨kk, found, us, la⟩ : Nat × Bool × (List Bool) × Int) => (kk ≤ rs.length) ∧ (R44.PlK l rs i used kk found us la)) (fun (⟨kk, found, us, la⟩ : Nat × Bool × (List Bool) × Int) => [(0, vL rsA rs.length rsC), (3, vL lA l.length lC), (9, vL routA rout.length routC), (15, vL (some ⟨b109, 0, none⟩) rs.length rs.length), (119, vL routA rout.length routC), (120, vI ((rout.length : Nat) : Int)), (121, vI ((i : Nat) : Int)), (18, vS (rout.getD i [])), (16, vI la), (19, vB found), (20, vI ((kk : Nat) : Int))]) (fun (⟨kk, found, us, la⟩ : Nat × Bool × (List Bool) × Int) => [Ent.blk b109 4 (us.map vB)]) (fun (⟨kk, found, us, la⟩ : Nat × Bool × (List Bool) × Int) => rs.length - kk) ((((if ((decide ((0 : Int) < ((i : Nat) : Int))) && (decide (R44.cmpV l (rout.getD (i - 1) []) (rout.getD i []) < 0))) = true then (-1) else last) + 1).toNat, false, used, (if ((decide ((0 : Int) < ((i : Nat) : Int))) && (decide (R44.cmpV l (rout.getD (i - 1) []) (rout.getD i []) < 0))) = true then (-1) else last)) : Nat × Bool × (List Bool) × Int) ?_ ⟨rfl, rfl, rfl, rfl, rfl, rfl, rfl, rfl, rfl, rfl, (sE_ (by omega)), trivial⟩ (fun _ h => h) ?_
     ·try dsimp only
      refine ⟨?_, ?_⟩
      ·omega
      ·exact R44.PlK.start i1_1 hsx.1 (by assumption) (by omega) rfl
     rintro ⟨kk, found, us, la⟩ hI2
     obtain ⟨i2_0, i2_1⟩ := hI2
     try dsimp only at i2_0
     try dsimp only at i2_1
     have hvl := i2_1.ul
     try dsimp only
     refine q_ (q_ (g_ (s_ mv_ (s_ mv_ (s_ (lnS Tryz.underlying22) (s_ (x_lss_i rfl rfl) (s_ mv_ ?_)))))))
     refine and_ 2 (!found) (fun g120 => ?_) ?_
     ·have g120r := g120
      have g120r := of_decide_eq_true g120r
      refine sg_ g120 mv_ (sg_ g120 (x_not rfl) ?_)
      exact cr_
     refine z_ (n_ ?_)
     refine if_ (fun h121 => ?_) (fun h121 => ?_)
     ·have h121w := h121
      have ⟨h121, h122⟩ := band_true h121
      have h121 := of_decide_eq_true h121
      have h122 : (found) = false := bnot_true h122
      refine sk_ (n_ (q_ (k_ (q_ (g_ (s_ mv_ (s_ mv_ (r_ (ixM (cells_ro rsR) Tryz.underlying22 Ty.sz9) (r_ (ldM vS [] (cells_ro rsR) Ty.sc9) (s_ mv_ (s_ (x_eql_s rfl rfl) (s_ mv_ ?_))))))))))))
      refine and_ 5 (!((us.getD kk false))) (fun g123 => ?_) ?_
      ·have g123r := g123
       have g123r := of_decide_eq_true g123r
       refine sg_ g123 mv_ (sg_ g123 mv_ (sg_ g123 (x_indexAddr_sl (k := kk) Tryz.underlying46 Ty.sz4 rfl rfl lt_ (add_0k1 _ _)) (rg_ g123 (x_load_arr 0 vB false rfl rfl Ty.sc4 lt_) (sg_ g123 (x_not rfl) ?_))))
       exact cr_
      refine z_ (xk_ [0, 3, 9, 15, 119, 120, 121, 18, 16, 19, 20, 176] ?_)
      refine n_ ?_
      refine if_ (fun h124 => ?_) (fun h124 => ?_)
      ·have h124w := h124
       have ⟨h124, h125⟩ := band_true h124
       have h124 := of_decide_eq_true h124
       have h125 : ((us.getD kk false)) = false := bnot_true h125
       refine g_ (s_ mv_ (s_ mv_ (s_ mv_ (s_ (x_indexAddr_sl (k := kk) Tryz.underlying46 Ty.sz4 rfl rfl lt_ (add_0k1 _ _)) (o_ (O_store_arr (a := true) 0 vB [Ent.blk b109 4 ((us.set kk true).map vB)] rfl rfl rfl Ty.sz4 rfl lt_ rfl ?_))))))
       refine s_ av_ (s_ av_ (z_ (kx_ (n_ (g_ (s_ mv_ (s_ (x_add_n (a := kk) (b := 1) rfl rfl (by omega)) (s_ av_ (z_ ?_)))))))))
       refine JX_round ((kk + 1, true, us.set kk true, ((kk : Nat) : Int)) : Nat × Bool × (List Bool) × Int) ?_ ?_ ⟨rfl, rfl, rfl, rfl, rfl, rfl, rfl, rfl, rfl, rfl, rfl, trivial⟩ (fun _ h => h)
       ·try dsimp only
        refine ⟨?_, ?_⟩
        ·first | rfl | omega | (simp_all; done) | (simp_all; omega)
        ·exact l44h0_
       ·try dsimp only
        first | omega | (simp; omega) | (simp_all; omega)
      ·have h124w := h124
       simp only [Bool.and_eq_true, Bool.or_eq_true, Bool.and_eq_false_iff, Bool.or_eq_false_iff, Bool.not_eq_true', Bool.not_eq_false', decide_eq_true_eq, decide_eq_false_iff_not] at h124
       refine sk_ (kx_ (n_ (g_ (s_ mv_ (s_ (x_add_n (a := kk) (b := 1) rfl rfl (by omega)) (s_ av_ (z_ ?_)))))))
       refine JX_round ((kk + 1, found, us, la) : Nat × Bool × (List Bool) × Int) ?_ ?_ ⟨rfl, rfl, rfl, rfl, rfl, rfl, rfl, rfl, rfl, rfl, rfl, trivial⟩ (fun _ h => h)
       ·try dsimp only
        refine ⟨?_, ?_⟩
        ·first | rfl | omega | (simp_all; done) | (simp_all; omega)
        ·exact l44h0_
       ·try dsimp only
        first | omega | (simp; omega) | (simp_all; omega)
     ·have h121w := h121
      simp only [Bool.and_eq_true, Bool.or_eq_true, Bool.and_eq_false_iff, Bool.or_eq_false_iff, Bool.not_eq_true', Bool.not_eq_false', decide_eq_true_eq, decide_eq_false_iff_not] at h121
      refine J_exit (ne_ (re_ (kh_ (n_ (q_ ?_)))))
      refine g_ (s_ mv_ (s_ (x_not rfl) (z_ (n_ ?_))))
      refine if_ (fun h126 => ?_) (fun h126 => ?_)
      ·have h126w := h126
       have h126 : (found) = false := bnot_true h126
       refine q_ (g_ (s_ av_ (z_ (n_ (rt_ (kq_ (nr_ (rr_ (kq_ (nr_ ?_))))))))))
       refine JX_retsC [_] _ Tryz.results5 (fun w h => ⟨rfl, trivial⟩) rfl _ (fun _ h => h.keep [false] rfl) (fun _ _ h => (hB82.back _ _ (hB91.back _ _ h))) ⟨?_, ?_⟩
       ·have e_x0 : (false : Bool) = true := by first | exact (R44.plans_0 (by assumption) (by assumption) (by assumption)).elim | exact absurd (R44.plans_ord (i := i) (by assumption) hsx.1 (by omega) (by omega)) (by omega) | exact (i2_1.bad (by omega) (by assumption) (by simp_all)).elim
        exact congrArg (fun (x0 : Bool) => vB x0) e_x0
       ·rfl
      ·have h126w := h126
       have h126 : (found) = true := bnot_false h126
       refine sk_ (kx_ (n_ (g_ (s_ (x_add_n (a := i) (b := 1) rfl rfl (by omega)) (s_ mv_ (z_ ?_))))))
       refine JX_round ((i + 1, us, la) : Nat × (List Bool) × Int) ?_ ?_ ⟨rfl, rfl, rfl, rfl, rfl, rfl, rfl, rfl, trivial⟩ (fun _ h => h)
       ·try dsimp only
        refine ⟨?_, ?_⟩
        ·first | rfl | omega | (simp_all; done) | (simp_all; omega)
        ·exact i2_1.done i1_1 (by omega) (by assumption)
       ·try dsimp only
        first | omega | (simp; omega) | (simp_all; omega)
   ·refine J_exit (ne_ (re_ (kh_ (n_ (q_ ?_)))))
    refine g_ (s_ av_ (z_ (n_ (rt_ ?_))))
    refine JX_retsC [_] _ Tryz.results5 (fun w h => ⟨rfl, trivial⟩) rfl _ (fun _ h => h.keep [false] rfl) (fun _ _ h => (hB82.back _ _ (hB91.back _ _ h))) ⟨?_, ?_⟩
    ·rfl
    ·rfl
end Go.Proofs.YtnfglkgahlaofaaGreatDoor
