/- contracts L44g -/
import Derived.Test.YtnfglkgahlaofaaGreatDoorAll21
import Derived.Test.YtnfglkgahlaofaaGreatDoorAll14
import Derived.Test.YtnfglkgahlaofaaGreatDoorC44e
import Derived.Test.YtnfglkgahlaofaaGreatDoorPl44s
namespace Go.Proofs.YtnfglkgahlaofaaGreatDoor
open Go.GV
set_option linter.unusedVariables false
set_option linter.unusedSimpArgs false
theorem l44g0_ {p : Prop} (h : p := by rw [List.length_map]; first | omega | (simp only [List.length_append, List.length_cons, List.length_nil]; omega) | (simp; omega) | (simp_all; omega) | (simp_all; done)) : p := h
theorem l44g1_ {p : Prop} (h : p := by first | exact R44.few_q1 (by assumption) | exact R44.lf_q1 (R44.longF (m := p.Memory) (fan := p.Fan) (by assumption) (by omega) (by omega) (by omega) (by omega) (by assumption) (by assumption) (by assumption)) (by assumption)) : p := h
set_option maxRecDepth 20000 in
theorem f7_ok (rs : List Bytes) (rsA : Option Addr) (rsC : Nat) (p : SortPlan) (l : List SortField) (lA : Option Addr) (lC : Nat) (w : World) (rsR : RO [] w rsA (rs.map vS)) (lR : RO [] w lA (l.flatMap SortField.enc)) (hT : Tab [] w) (q0 : rs.length ≤ rsC ∧ rs.length ≤ 9223372036854775807) (q1 : l.length ≤ 9223372036854775807) : Calls Tryz.prog 7 #[vL rsA rs.length rsC, vG [vI p.Memory, vI p.Fan], vL lA l.length lC] w (Gives [] w fun v L => v = vB true ∧ L = []) := by
 refine calls_J [] 188 Tryz.func7 rfl Tryz.ntmps7 [(0, _), (1, _), (2, _)] rfl rfl (Give.nil w) ?_
 refine q_ (g_ (o_ (bxG fun b1 => ?_)))
 refine s_ av_ (z_ (n_ (q_ (q_ (g_ (c0 (cl_ Ty.ca11) (fun w hS => f11_ok w (hT.on hS (fun _ h => by cases h))) (jr_ (vB false) (z_ (n_ (iff_ (sk_ (n_ (q_ (q_ (g_ (s_ mv_ (c0 (cl_ Ty.ca12) (fun w hS => f12_ok rs rsA rsC 40 w (rno rsR hS) hy_) (s_ (x_not rfl) (s_ mv_ ?_)))))))))))))))))))
 refine or_ 3 (!(R44.valid l)) (fun g2 => ?_) ?_
 ·have g2r := g2
  have g2r : (R44.few rs 40) = true := bnot_false g2r
  have hi3 := R44.few_facts g2r
  refine sg_ g2 mv_ (c0g g2 (cl_ Ty.ca21) (fun w hS => f21_ok l lA lC w (rno lR hS) hy_) (sg_ g2 (x_not rfl) ?_))
  exact cr_
 refine s_ mv_ ?_
 refine or_ 3 (decide (p.Memory < 1)) (fun g4 => ?_) ?_
 ·have g4r := g4
  have ⟨g4r, h5⟩ := bor_false g4r
  have g4r : (R44.few rs 40) = true := bnot_false g4r
  have hi6 := R44.few_facts g4r
  have h5 : (R44.valid l) = true := bnot_false h5
  have hi7 := R44.valid_facts h5
  refine sg_ g4 (fA 0 Ty.fi32_0) (rg_ g4 (ld_ 0 Ty.sc3) (sg_ g4 (x_lss_i rfl rfl) ?_))
  exact cr_
 refine s_ mv_ ?_
 refine or_ 3 (decide ((60 : Int) < p.Memory)) (fun g8 => ?_) ?_
 ·have g8r := g8
  have ⟨g8r, h9⟩ := bor_false g8r
  have ⟨g8r, h10⟩ := bor_false g8r
  have g8r : (R44.few rs 40) = true := bnot_false g8r
  have hi11 := R44.few_facts g8r
  have h10 : (R44.valid l) = true := bnot_false h10
  have hi12 := R44.valid_facts h10
  have h9 := of_decide_eq_false h9
  refine sg_ g8 (fA 0 Ty.fi32_0) (rg_ g8 (ld_ 0 Ty.sc3) (sg_ g8 (x_gtr_i rfl rfl) ?_))
  exact cr_
 refine s_ mv_ ?_
 refine or_ 3 (decide (p.Fan < 2)) (fun g13 => ?_) ?_
 ·have g13r := g13
  have ⟨g13r, h14⟩ := bor_false g13r
  have ⟨g13r, h15⟩ := bor_false g13r
  have ⟨g13r, h16⟩ := bor_false g13r
  have g13r : (R44.few rs 40) = true := bnot_false g13r
  have hi17 := R44.few_facts g13r
  have h16 : (R44.valid l) = true := bnot_false h16
  have hi18 := R44.valid_facts h16
  have h15 := of_decide_eq_false h15
  have h14 := of_decide_eq_false h14
  refine sg_ g13 (fA 1 Ty.fi32_1) (rg_ g13 (ld_ 0 Ty.sc3) (sg_ g13 (x_lss_i rfl rfl) ?_))
  exact cr_
 refine s_ mv_ ?_
 refine or_ 3 (decide ((16 : Int) < p.Fan)) (fun g19 => ?_) ?_
 ·have g19r := g19
  have ⟨g19r, h20⟩ := bor_false g19r
  have ⟨g19r, h21⟩ := bor_false g19r
  have ⟨g19r, h22⟩ := bor_false g19r
  have ⟨g19r, h23⟩ := bor_false g19r
  have g19r : (R44.few rs 40) = true := bnot_false g19r
  have hi24 := R44.few_facts g19r
  have h23 : (R44.valid l) = true := bnot_false h23
  have hi25 := R44.valid_facts h23
  have h22 := of_decide_eq_false h22
  have h21 := of_decide_eq_false h21
  have h20 := of_decide_eq_false h20
  refine sg_ g19 (fA 1 Ty.fi32_1) (rg_ g19 (ld_ 0 Ty.sc3) (sg_ g19 (x_gtr_i rfl rfl) ?_))
  exact cr_
 refine z_ (n_ ?_)
 refine if_ (fun h26 => ?_) (fun h26 => ?_)
 ·have h26w := h26
  simp only [Bool.and_eq_true, Bool.or_eq_true, Bool.and_eq_false_iff, Bool.or_eq_false_iff, Bool.not_eq_true', Bool.not_eq_false', decide_eq_true_eq, decide_eq_false_iff_not] at h26
  refine q_ (g_ (s_ av_ (z_ (n_ (rt_ (nr_ ?_))))))
  exact p1 Tryz.results7 rfl ⟨rfl, rfl⟩
 ·have h26w := h26
  have ⟨h26, h27⟩ := bor_false h26
  have ⟨h26, h28⟩ := bor_false h26
  have ⟨h26, h29⟩ := bor_false h26
  have ⟨h26, h30⟩ := bor_false h26
  have ⟨h26, h31⟩ := bor_false h26
  have h26 : (R44.few rs 40) = true := bnot_false h26
  have hi32 := R44.few_facts h26
  have h31 : (R44.valid l) = true := bnot_false h31
  have hi33 := R44.valid_facts h31
  have h30 := of_decide_eq_false h30
  have h29 := of_decide_eq_false h29
  have h28 := of_decide_eq_false h28
  have h27 := of_decide_eq_false h27
  refine sk_ (n_ (q_ (g_ (s_ mv_ (s_ (fA 0 Ty.fi32_0) (r_ (ld_ 0 Ty.sc3) (s_ mv_ ?_)))))))
  refine JO_callB [] [] [Ent.blk b1 32 [vI p.Memory, vI p.Fan]] rfl trivial (fun _ => x_call Ty.ca13 rfl) (fun _ h => h) (fun _ h => by cases h) (fun w hS => f13_ok rs rsA rsC p.Memory l lA lC w (rsR.on hS (fun _ h => by cases h)) (lR.on hS (fun _ h => by cases h)) hy_ (by exact R44.few_q1 (by assumption)) (by first | omega | assumption | exact row_le (hS.mem (j := 0) rfl) | exact row_le (hS.mem (j := 1) rfl) | exact row_le (hS.mem (j := 2) rfl) | exact row_le (hS.mem (j := 3) rfl) | exact row_le (hS.mem (j := 4) rfl) | exact row_le (hS.mem (j := 5) rfl)) hy_) ?_
  rintro wc _ _ wbhB35 ⟨rout, routA, routC, rfl, rfl, routR, routL, routN, routK, hf34⟩ hc0 hB35
  have rsR := rsR.again hB35
  have lR := lR.again hB35
  have hT := hT.again hB35
  have routR := routR.mono (lown_range hc0)
  have routN := fun i => (routN i).mono (lown_range hc0)
  refine s_ av_ (z_ (xk_ [0, 2, 4, 6, 7] ?_))
  refine n_ (q_ (g_ (s_ av_ (z_ (n_ (q_ (q_ (g_ (s_ mv_ (s_ (lnS Tryz.underlying23) (s_ mv_ (z_ (n_ (k_ ?_))))))))))))))
  refine J_loop (X := Nat × Nat) (fun (⟨k, n⟩ : Nat × Nat) => (k ≤ rout.length) ∧ (n = ((rout.map Rw.s).take k).flatten.length)) (fun (⟨k, n⟩ : Nat × Nat) => [(0, vL rsA rs.length rsC), (2, vL lA l.length lC), (4, pB b1 0), (7, vL routA rout.length routC), (8, vI ((n : Nat) : Int)), (54, vL routA rout.length routC), (55, vI ((rout.length : Nat) : Int)), (56, vI ((k : Nat) : Int))]) (fun (⟨k, n⟩ : Nat × Nat) => [Ent.blk b1 32 [vI p.Memory, vI p.Fan]]) (fun (⟨k, n⟩ : Nat × Nat) => rout.length - k) ((0, 0) : Nat × Nat) ?_ ⟨rfl, rfl, rfl, rfl, rfl, rfl, rfl, rfl, trivial⟩ (fun _ h => h) ?_
  ·try dsimp only
   refine ⟨?_, ?_⟩
   ·first | rfl | omega | (simp_all; done) | (simp_all; omega)
   ·rfl
  rintro ⟨k, n⟩ hI1
  obtain ⟨i1_0, i1_1⟩ := hI1
  try dsimp only at i1_0
  try dsimp only at i1_1
  have hRF := R44.runsF (r := rout) (m := p.Memory) (by assumption) (by omega) (by assumption) (by assumption)
  have hne := hRF.ne k
  have hlo := hRF.long k
  have hsu := hRF.sum k
  have hec := hRF.each.2 k
  have hrl := hRF.each.1
  have hsk := R44.sum_next (r := rout) (k := k)
  try dsimp only
  refine q_ (g_ (s_ (x_lss_i rfl rfl) (z_ (n_ (q_ ?_)))))
  refine ifd (fun h36w h36 => ?_) (fun h36w h36 => ?_)
  ·refine sk_ (n_ (q_ (k_ (q_ (g_ (s_ mv_ (r_ (ixF Rw.enc_len (cells_ro routR) Tryz.underlying23 Ty.sz22) (r_ (ldF0 Rw.enc_len (cells_ro routR) Ty.sc22) (s_ av_ (s_ av_ (z_ (n_ (q_ (g_ (s_ mv_ (s_ mv_ (s_ (lnS Tryz.underlying22) ?_)))))))))))))))))
   refine s_ (x_add_n (a := n) (b := (rout.getD k default).s.length) rfl rfl (by omega)) (s_ av_ (z_ (n_ (q_ (q_ (g_ (s_ mv_ (s_ (lnS Tryz.underlying22) (s_ (x_eql_i rfl rfl) (s_ mv_ ?_))))))))))
   refine or_ 12 ((decide (((k : Nat) : Int) < ((rout.length : Nat) : Int) - 1)) && (decide ((((rout.getD k default).s.length : Nat) : Int) < p.Memory))) (fun g37 => ?_) ?_
   ·have g37r := g37
    have g37r := of_decide_eq_false g37r
    refine sg_ g37 mv_ (sg_ g37 mv_ (sg_ g37 (lnS Tryz.underlying23) (sg_ g37 (x_sub_i (a := ((rout.length : Nat) : Int)) (b := 1) rfl rfl (by omega) (by omega)) (sg_ g37 (x_lss_i rfl rfl) (sg_ g37 mv_ ?_)))))
    refine and_ 5 (decide ((((rout.getD k default).s.length : Nat) : Int) < p.Memory)) (fun g38 => ?_) ?_ (hw := by exact ⟨_, rfl, g37⟩)
    ·have g38r := g38
     have g38r := of_decide_eq_true g38r
     refine sg_ g38 mv_ (sg_ g38 (lnS Tryz.underlying22) (sg_ g38 (fA 0 Ty.fi32_0) (rg_ g38 (ld_ 0 Ty.sc3) (sg_ g38 (x_lss_i rfl rfl) ?_))))
     exact cr_
    exact cr_
   refine z_ (xk_ [0, 2, 4, 7, 8, 54, 55, 56, 10, 81] ?_)
   refine n_ ?_
   refine if_ (fun h39 => ?_) (fun h39 => ?_)
   ·have h39w := h39
    simp only [Bool.and_eq_true, Bool.or_eq_true, Bool.and_eq_false_iff, Bool.or_eq_false_iff, Bool.not_eq_true', Bool.not_eq_false', decide_eq_true_eq, decide_eq_false_iff_not] at h39
    refine q_ (g_ (s_ av_ (z_ (n_ (rt_ (nr_ (kq_ (nr_ (rr_ (kq_ (nr_ ?_)))))))))))
    refine JX_retsC [_] _ Tryz.results7 (fun w h => ⟨rfl, trivial⟩) rfl _ (fun _ h => h.keep [false] rfl) (fun _ _ h => (hB35.back _ _ h)) ⟨?_, ?_⟩
    ·have e_x0 : (false : Bool) = true := by first | (exfalso; have h1 := hne (by omega); omega) | exact absurd (hor (by omega) (by omega)) (by omega) | exact R44.law_long (m := p.Memory) (fan := p.Fan) (by omega) (by omega) (by omega) (by omega) (by assumption) (by assumption) (by assumption) (by omega) i1_1 i3_0 (by omega) i3_1 (by assumption) (by assumption) | (exfalso; have hLF := R44.longF (m := p.Memory) (fan := p.Fan) (by assumption) (by omega) (by omega) (by omega) (by omega) (by assumption) (by assumption) (by assumption); have hb0 := hLF.b0; have hb6 := hLF.b6; omega)
     exact congrArg (fun (x0 : Bool) => vB x0) e_x0
    ·rfl
   ·have h39w := h39
    have ⟨h39, h40⟩ := bor_false h39
    have h39 := of_decide_eq_false h39
    simp only [Bool.and_eq_true, Bool.or_eq_true, Bool.and_eq_false_iff, Bool.or_eq_false_iff, Bool.not_eq_true', Bool.not_eq_false', decide_eq_true_eq, decide_eq_false_iff_not] at h40
    refine sk_ (n_ (q_ (g_ (s_ av_ (z_ (n_ (k_ ?_)))))))
    refine J_loop (X := Nat) (fun (j : Nat) => (1 ≤ j) ∧ (j ≤ (rout.getD k default).s.length)) (fun (j : Nat) => [(0, vL rsA rs.length rsC), (2, vL lA l.length lC), (4, pB b1 0), (7, vL routA rout.length routC), (8, vI ((n + ((rout.getD k default).s.length) : Nat) : Int)), (54, vL routA rout.length routC), (55, vI ((rout.length : Nat) : Int)), (56, vI ((k : Nat) : Int)), (10, vL ((rout.getD k default).sA) ((rout.getD k default).s.length) ((rout.getD k default).sC)), (11, vI ((j : Nat) : Int))]) (fun (j : Nat) => [Ent.blk b1 32 [vI p.Memory, vI p.Fan]]) (fun (j : Nat) => (rout.getD k default).s.length - j) (1 : Nat) ?_ ⟨rfl, rfl, rfl, rfl, rfl, rfl, rfl, rfl, rfl, rfl, trivial⟩ (fun _ h => h) ?_
    ·try dsimp only
     refine ⟨?_, ?_⟩
     ·first | rfl | omega | (simp_all; done) | (simp_all; omega)
     ·first | rfl | omega | (simp_all; done) | (simp_all; omega)
    intro j hI2
    obtain ⟨i2_0, i2_1⟩ := hI2
    try dsimp only at i2_0
    try dsimp only at i2_1
    have hor := hRF.ord k j
    have hs1 := hRF.short k (j - 1)
    have hs2 := hRF.short k j
    have hbd := R44.cmpV_bd l ((rout.getD k default).s.getD (j - 1) []) ((rout.getD k default).s.getD j [])
    try dsimp only
    refine q_ (q_ (g_ (s_ mv_ (s_ mv_ (s_ (lnS Tryz.underlying22) (s_ (x_lss_i rfl rfl) (z_ (n_ ?_))))))))
    refine ifd (fun h41w h41 => ?_) (fun h41w h41 => ?_)
    ·refine sk_ (n_ (q_ (k_ (q_ ?_))))
     refine drB [] 12 Ty.mixed ?_
     refine jp_ 0 rfl mv_ (jp_ 1 rfl mv_ (jp_ 2 rfl (x_sub_i (a := ((j : Nat) : Int)) (b := 1) rfl rfl (by omega) (by omega)) (jq_ 3 rfl (x_indexAddr_at (k := (j - 1)) (off := (j - 1)) (cells_ro (routN k)) Tryz.underlying22 Ty.sz9 rfl (ix_nat rfl (by omega)) lt_ l44g0_ (Nat.mul_one _)) (jq_ 4 rfl (ldM vS [] (cells_ro (routN k)) Ty.sc9) (jp_ 5 rfl mv_ (jp_ 6 rfl mv_ (jq_ 7 rfl (x_indexAddr_at (k := j) (off := j) (cells_ro (routN k)) Tryz.underlying22 Ty.sz9 rfl rfl lt_ l44g0_ (Nat.mul_one _)) (jq_ 8 rfl (ldM vS [] (cells_ro (routN k)) Ty.sc9) (jp_ 9 rfl mv_ ?_)))))))))
     refine j1_ 10 (jc0_ rfl (cl_ Ty.ca22) (fun w hS => f22_ok _ _ l lA lC w (rno lR hS) hy_ hy_ hy_) ?_) gm_
     have ha42 := R44.cmpV_bd l (((rout.getD k default).s).getD (j - 1) []) (((rout.getD k default).s).getD j [])
     try simp only [List.length_cons, List.length_nil, Nat.zero_add, Nat.reduceAdd, Nat.reduceMul] at ha42
     refine jp_ 11 rfl (x_gtr_i rfl rfl) ?_
     refine JA_done (by kernel_rfl) gm_ ?_
     refine n_ ?_
     refine ifd (fun h43w h43 => ?_) (fun h43w h43 => ?_)
     ·refine q_ (g_ (s_ av_ (z_ (xk_ [0, 2, 4, 7, 8, 54, 55, 56, 10, 11, 6] ?_))))
      refine n_ (rt_ (kq_ (nr_ (rr_ (kq_ (kq_ (nr_ (rr_ (kq_ (nr_ ?_))))))))))
      refine JX_retsC [_] _ Tryz.results7 (fun w h => ⟨rfl, trivial⟩) rfl _ (fun _ h => h.keep [false] rfl) (fun _ _ h => (hB35.back _ _ h)) ⟨?_, ?_⟩
      ·have e_x0 : (false : Bool) = true := by first | (exfalso; have h1 := hne (by omega); omega) | exact absurd (hor (by omega) (by omega)) (by omega) | exact R44.law_long (m := p.Memory) (fan := p.Fan) (by omega) (by omega) (by omega) (by omega) (by assumption) (by assumption) (by assumption) (by omega) i1_1 i3_0 (by omega) i3_1 (by assumption) (by assumption) | (exfalso; have hLF := R44.longF (m := p.Memory) (fan := p.Fan) (by assumption) (by omega) (by omega) (by omega) (by omega) (by assumption) (by assumption) (by assumption); have hb0 := hLF.b0; have hb6 := hLF.b6; omega)
       exact congrArg (fun (x0 : Bool) => vB x0) e_x0
      ·rfl
     ·refine sk_ (kx_ (n_ (g_ (s_ mv_ (s_ (x_add_n (a := j) (b := 1) rfl rfl (by omega)) (s_ av_ (z_ ?_)))))))
      refine JX_round (j + 1 : Nat) ?_ ?_ ⟨rfl, rfl, rfl, rfl, rfl, rfl, rfl, rfl, rfl, rfl, trivial⟩ (fun _ h => h)
      ·try dsimp only
       refine ⟨?_, ?_⟩
       ·first | rfl | omega | (simp_all; done) | (simp_all; omega)
       ·first | rfl | omega | (simp_all; done) | (simp_all; omega)
      ·try dsimp only
       first | omega | (simp; omega) | (simp_all; omega)
    ·refine J_exit (ne_ (re_ (kh_ (kx_ (n_ ?_)))))
     refine g_ (s_ (x_add_n (a := k) (b := 1) rfl rfl (by omega)) (s_ mv_ (z_ ?_)))
     refine JX_round ((k + 1, n + ((rout.getD k default).s.length)) : Nat × Nat) ?_ ?_ ⟨rfl, rfl, rfl, rfl, rfl, rfl, rfl, rfl, trivial⟩ (fun _ h => h)
     ·try dsimp only
      refine ⟨?_, ?_⟩
      ·first | rfl | omega | (simp_all; done) | (simp_all; omega)
      ·rw [hsk (by omega), i1_1]
     ·try dsimp only
      first | omega | (simp; omega) | (simp_all; omega)
  ·refine J_exit (ne_ (re_ (kh_ (n_ (q_ ?_)))))
   refine g_ (s_ mv_ (r_ (ldN 0 [vI p.Memory, vI p.Fan] Ty.ag32 Ty.sz32) (s_ mv_ (js_ (vG [Value.nilFunc, Value.nilFunc]) (x_build (by kernel_rfl)) ?_))))
   refine JO_callB [] [] [Ent.blk b1 32 [vI p.Memory, vI p.Fan]] rfl trivial (fun _ => x_call Ty.ca18 rfl) (fun _ h => h) (fun _ h => by cases h) (fun w hS => f18_ok rs rsA rsC p.Memory p.Fan l lA lC w (rsR.on hS (fun _ h => by cases h)) (lR.on hS (fun _ h => by cases h)) hy_ l44g1_ (by first | exact q0.1 | assumption) hy_) ?_
   rintro wc _ _ wbhB50 ⟨rout44, rout44A, rout44C, e45, e46, e47, e48, rfl, rfl, rout44R, rout44L, hf49⟩ hc0 hB50
   have rsR := rsR.again hB50
   have lR := lR.again hB50
   have routR := routR.again hB50
   have routN := fun i => (routN i).again hB50
   have hT := hT.again hB50
   have rout44R := rout44R.mono (lown_range hc0)
   have ha51 := R44.sv_len (by assumption)
   refine s_ mv_ (s_ (ex_ 0) (s_ (ex_ 1) (s_ (ex_ 2) (o_ (al_ Ty.ze34 fun b52 => ?_)))))
   refine s_ av_ (o_ (stG 0 Ty.sz34 ?_))
   refine s_ av_ (z_ (xk_ [0, 2, 4, 7, 8, 13, 12, 14] ?_))
   refine n_ (q_ (g_ (s_ mv_ (r_ (ldN 1 [vI p.Memory, vI p.Fan] Ty.ag32 Ty.sz32) (s_ mv_ (js_ (vG [Value.nilFunc, Value.nilFunc]) (x_build (by kernel_rfl)) ?_))))))
   refine JO_callB [] [] [Ent.blk b52 34 [vI e45, vI e46, vI e47], Ent.blk b1 32 [vI p.Memory, vI p.Fan]] rfl trivial (fun _ => x_call Ty.ca18 rfl) (fun _ h => h) (fun _ h => by cases h) (fun w hS => f18_ok rout44 rout44A rout44C p.Memory p.Fan l lA lC w (rout44R.on hS (fun _ h => by cases h)) (lR.on hS (fun _ h => by cases h)) hy_ l44g1_ (by first | exact q0.1 | assumption) hy_) ?_
   rintro wc _ _ wbhB59 ⟨rout53, rout53A, rout53C, e54, e55, e56, e57, rfl, rfl, rout53R, rout53L, hf58⟩ hc0 hB59
   have rsR := rsR.again hB59
   have lR := lR.again hB59
   have routR := routR.again hB59
   have rout44R := rout44R.again hB59
   have routN := fun i => (routN i).again hB59
   have hT := hT.again hB59
   have rout53R := rout53R.mono (lown_range hc0)
   have ha60 := R44.sv_len (by assumption)
   refine s_ mv_ (s_ (ex_ 0) (s_ (ex_ 1) (s_ (ex_ 2) (o_ (al_ Ty.ze34 fun b61 => ?_)))))
   refine s_ av_ (o_ (stG 0 Ty.sz34 ?_))
   refine s_ av_ (z_ (n_ (q_ (q_ (g_ (s_ (fA 1 Ty.fi34_1) (r_ (ld_ 1 Ty.sc3) (s_ (x_lss_i rfl rfl) (s_ mv_ ?_)))))))))
   refine or_ 3 (decide ((20 : Int) < e46)) (fun g62 => ?_) ?_
   ·have g62r := g62
    have g62r := of_decide_eq_false g62r
    refine sg_ g62 (fA 1 Ty.fi34_1) (rg_ g62 (ld_ 1 Ty.sc3) (sg_ g62 (x_gtr_i rfl rfl) ?_))
    exact cr_
   refine z_ (xk_ [0, 4, 7, 8, 13, 14, 16, 17, 126] ?_)
   refine n_ ?_
   refine if_ (fun h63 => ?_) (fun h63 => ?_)
   ·have h63w := h63
    simp only [Bool.and_eq_true, Bool.or_eq_true, Bool.and_eq_false_iff, Bool.or_eq_false_iff, Bool.not_eq_true', Bool.not_eq_false', decide_eq_true_eq, decide_eq_false_iff_not] at h63
    refine q_ (g_ (s_ av_ (z_ (n_ (rt_ (nr_ ?_))))))
    refine JX_retsC [_] _ Tryz.results7 (fun w h => ⟨rfl, trivial⟩) rfl _ (fun _ h => h.keep [false, false, false] rfl) (fun _ _ h => (hB35.back _ _ (hB50.back _ _ (hB59.back _ _ h)))) ⟨?_, ?_⟩
    ·have e_x0 : (false : Bool) = true := by first | (exfalso; have h1 := hne (by omega); omega) | exact absurd (hor (by omega) (by omega)) (by omega) | exact R44.law_long (m := p.Memory) (fan := p.Fan) (by omega) (by omega) (by omega) (by omega) (by assumption) (by assumption) (by assumption) (by omega) i1_1 i3_0 (by omega) i3_1 (by assumption) (by assumption) | (exfalso; have hLF := R44.longF (m := p.Memory) (fan := p.Fan) (by assumption) (by omega) (by omega) (by omega) (by omega) (by assumption) (by assumption) (by assumption); have hb0 := hLF.b0; have hb6 := hLF.b6; omega)
     exact congrArg (fun (x0 : Bool) => vB x0) e_x0
    ·rfl
   ·have h63w := h63
    have ⟨h63, h64⟩ := bor_false h63
    have h63 := of_decide_eq_false h63
    have h64 := of_decide_eq_false h64
    refine sk_ (n_ (q_ (g_ (s_ av_ (z_ (n_ (q_ (q_ (g_ (s_ (fA 1 Ty.fi34_1) (r_ (ld_ 1 Ty.sc3) (s_ mv_ (z_ (n_ (k_ ?_)))))))))))))))
    refine J_loop (X := Nat × Int) (fun (⟨i, most⟩ : Nat × Int) => ((i : Int) ≤ e46) ∧ (most = p.Fan ^ i)) (fun (⟨i, most⟩ : Nat × Int) => [(0, vL rsA rs.length rsC), (4, pB b1 0), (7, vL routA rout.length routC), (8, vI ((n : Nat) : Int)), (13, pB b52 0), (14, vI e48), (16, pB b61 0), (17, vI e57), (18, vI most), (128, vI e46), (129, vI ((i : Nat) : Int))]) (fun (⟨i, most⟩ : Nat × Int) => [Ent.blk b61 34 [vI e54, vI e55, vI e56], Ent.blk b52 34 [vI e45, vI e46, vI e47], Ent.blk b1 32 [vI p.Memory, vI p.Fan]]) (fun (⟨i, most⟩ : Nat × Int) => e46.toNat - i) ((0, 1) : Nat × Int) ?_ ⟨rfl, rfl, rfl, rfl, rfl, rfl, rfl, rfl, rfl, rfl, rfl, trivial⟩ (fun _ h => h) ?_
    ·try dsimp only
     refine ⟨?_, ?_⟩
     ·first | rfl | omega | (simp_all; done) | (simp_all; omega)
     ·exact (Int.pow_zero _).symm
    rintro ⟨i, most⟩ hI3
    obtain ⟨i3_0, i3_1⟩ := hI3
    try dsimp only at i3_0
    try dsimp only at i3_1
    have hLF := R44.longF (m := p.Memory) (fan := p.Fan) (by assumption) (by omega) (by omega) (by omega) (by omega) (by assumption) (by assumption) (by assumption)
    have hb0 := hLF.b0
    have hb6 := hLF.b6
    have hpw := R44.pow_bd (f := p.Fan) (i := i) (by omega) (by omega) (by omega)
    have hpx : most * p.Fan ≤ 268435456 ∧ 0 ≤ most * p.Fan ∧ 0 ≤ most ∧ most ≤ 16777216 := by rw [i3_1]; exact hpw
    try dsimp only
    refine q_ (g_ (s_ (x_lss_i rfl rfl) (z_ (n_ (q_ ?_)))))
    refine ifd (fun h65w h65 => ?_) (fun h65w h65 => ?_)
    ·refine sk_ (n_ (q_ (k_ (g_ (s_ mv_ (s_ (fA 1 Ty.fi32_1) (r_ (ld_ 2 Ty.sc3) (s_ (x_mul_i (a := most) (b := p.Fan) rfl rfl (by omega) (by omega)) (s_ av_ (z_ (kx_ (n_ (g_ (s_ (x_add_n (a := i) (b := 1) rfl rfl (by omega)) (s_ mv_ (z_ ?_))))))))))))))))
     refine JX_round ((i + 1, most * p.Fan) : Nat × Int) ?_ ?_ ⟨rfl, rfl, rfl, rfl, rfl, rfl, rfl, rfl, rfl, rfl, rfl, trivial⟩ (fun _ h => h)
     ·try dsimp only
      refine ⟨?_, ?_⟩
      ·first | rfl | omega | (simp_all; done) | (simp_all; omega)
      ·rw [i3_1]; exact (R44.pow_next _ _).symm
     ·try dsimp only
      first | omega | (simp; omega) | (simp_all; omega)
    ·refine J_exit (ne_ (re_ (kh_ (n_ (q_ ?_)))))
     refine g_ (s_ mv_ (s_ mv_ (s_ (lnS Tryz.underlying22) (s_ (x_eql_i rfl rfl) (s_ mv_ ?_)))))
     refine and_ 2 (decide (e48 = 0)) (fun g66 => ?_) ?_
     ·have g66r := g66
      have g66r := of_decide_eq_true g66r
      refine sg_ g66 mv_ (sg_ g66 (x_eql_i rfl rfl) ?_)
      exact cr_
     refine s_ mv_ ?_
     refine and_ 2 (decide (e57 = 0)) (fun g67 => ?_) ?_
     ·have g67r := g67
      have ⟨g67r, h68⟩ := band_true g67r
      have g67r := of_decide_eq_true g67r
      have h68 := of_decide_eq_true h68
      refine sg_ g67 mv_ (sg_ g67 (x_eql_i rfl rfl) ?_)
      exact cr_
     refine s_ mv_ ?_
     refine and_ 5 (decide (e45 = ((rout.length : Nat) : Int))) (fun g69 => ?_) ?_
     ·have g69r := g69
      have ⟨g69r, h70⟩ := band_true g69r
      have ⟨g69r, h71⟩ := band_true g69r
      have g69r := of_decide_eq_true g69r
      have h71 := of_decide_eq_true h71
      have h70 := of_decide_eq_true h70
      refine sg_ g69 (fA 0 Ty.fi34_0) (rg_ g69 (ld_ 1 Ty.sc3) (sg_ g69 mv_ (sg_ g69 (lnS Tryz.underlying23) (sg_ g69 (x_eql_i rfl rfl) ?_))))
      exact cr_
     refine s_ mv_ ?_
     refine and_ 6 (decide (e54 = ((min 1 rs.length : Nat) : Int))) (fun g72 => ?_) ?_
     ·have g72r := g72
      have ⟨g72r, h73⟩ := band_true g72r
      have ⟨g72r, h74⟩ := band_true g72r
      have ⟨g72r, h75⟩ := band_true g72r
      have g72r := of_decide_eq_true g72r
      have h75 := of_decide_eq_true h75
      have h74 := of_decide_eq_true h74
      have h73 := of_decide_eq_true h73
      refine sg_ g72 (fA 0 Ty.fi34_0) (rg_ g72 (ld_ 0 Ty.sc3) (sg_ g72 mv_ (sg_ g72 (lnS Tryz.underlying22) (sg_ g72 (x_min_n (a := 1) (b := rs.length) rfl rfl) (sg_ g72 (x_eql_i rfl rfl) ?_)))))
      exact cr_
     refine s_ mv_ ?_
     refine and_ 3 (decide (e55 = 0)) (fun g76 => ?_) ?_
     ·have g76r := g76
      have ⟨g76r, h77⟩ := band_true g76r
      have ⟨g76r, h78⟩ := band_true g76r
      have ⟨g76r, h79⟩ := band_true g76r
      have ⟨g76r, h80⟩ := band_true g76r
      have g76r := of_decide_eq_true g76r
      have h80 := of_decide_eq_true h80
      have h79 := of_decide_eq_true h79
      have h78 := of_decide_eq_true h78
      have h77 := of_decide_eq_true h77
      refine sg_ g76 (fA 1 Ty.fi34_1) (rg_ g76 (ld_ 0 Ty.sc3) (sg_ g76 (x_eql_i rfl rfl) ?_))
      exact cr_
     refine s_ mv_ ?_
     refine and_ 4 (decide (((rout.length : Nat) : Int) ≤ most)) (fun g81 => ?_) ?_
     ·have g81r := g81
      have ⟨g81r, h82⟩ := band_true g81r
      have ⟨g81r, h83⟩ := band_true g81r
      have ⟨g81r, h84⟩ := band_true g81r
      have ⟨g81r, h85⟩ := band_true g81r
      have ⟨g81r, h86⟩ := band_true g81r
      have g81r := of_decide_eq_true g81r
      have h86 := of_decide_eq_true h86
      have h85 := of_decide_eq_true h85
      have h84 := of_decide_eq_true h84
      have h83 := of_decide_eq_true h83
      have h82 := of_decide_eq_true h82
      refine sg_ g81 mv_ (sg_ g81 (lnS Tryz.underlying23) (sg_ g81 mv_ (sg_ g81 (x_leq_i rfl rfl) ?_)))
      exact cr_
     refine s_ mv_ ?_
     refine and_ 12 ((decide (e46 = 0)) || (decide (most / p.Fan < ((rout.length : Nat) : Int)))) (fun g87 => ?_) ?_
     ·have g87r := g87
      have ⟨g87r, h88⟩ := band_true g87r
      have ⟨g87r, h89⟩ := band_true g87r
      have ⟨g87r, h90⟩ := band_true g87r
      have ⟨g87r, h91⟩ := band_true g87r
      have ⟨g87r, h92⟩ := band_true g87r
      have ⟨g87r, h93⟩ := band_true g87r
      have g87r := of_decide_eq_true g87r
      have h93 := of_decide_eq_true h93
      have h92 := of_decide_eq_true h92
      have h91 := of_decide_eq_true h91
      have h90 := of_decide_eq_true h90
      have h89 := of_decide_eq_true h89
      have h88 := of_decide_eq_true h88
      refine sg_ g87 (fA 1 Ty.fi34_1) (rg_ g87 (ld_ 1 Ty.sc3) (sg_ g87 (x_eql_i rfl rfl) (sg_ g87 mv_ ?_)))
      refine or_ 7 (decide (most / p.Fan < ((rout.length : Nat) : Int))) (fun g94 => ?_) ?_ (hw := by exact ⟨_, rfl, g87⟩)
      ·have g94r := g94
       have g94r := of_decide_eq_false g94r
       refine sg_ g94 mv_ (sg_ g94 (lnS Tryz.underlying23) (sg_ g94 mv_ (sg_ g94 (fA 1 Ty.fi32_1) (rg_ g94 (ld_ 2 Ty.sc3) (sg_ g94 (x_quo_i (a := most) (b := p.Fan) rfl rfl (by omega) (by omega) (by omega)) (sg_ g94 (x_gtr_i rfl rfl) ?_))))))
       exact cr_
      exact cr_
     refine s_ av_ (z_ (xk_ [6] ?_))
     refine n_ (rt_ ?_)
     refine JX_retsC [_] _ Tryz.results7 (fun w h => ⟨rfl, trivial⟩) rfl _ (fun _ h => h.keep [false, false, false] rfl) (fun _ _ h => (hB35.back _ _ (hB50.back _ _ (hB59.back _ _ h)))) ⟨?_, ?_⟩
     ·have e_x0 : ((((((((decide (((n : Nat) : Int) = ((rs.length : Nat) : Int))) && (decide (e48 = 0))) && (decide (e57 = 0))) && (decide (e45 = ((rout.length : Nat) : Int)))) && (decide (e54 = ((min 1 rs.length : Nat) : Int)))) && (decide (e55 = 0))) && (decide (((rout.length : Nat) : Int) ≤ most))) && ((decide (e46 = 0)) || (decide (most / p.Fan < ((rout.length : Nat) : Int)))) : Bool) = true := by first | (exfalso; have h1 := hne (by omega); omega) | exact absurd (hor (by omega) (by omega)) (by omega) | exact R44.law_long (m := p.Memory) (fan := p.Fan) (by omega) (by omega) (by omega) (by omega) (by assumption) (by assumption) (by assumption) (by omega) i1_1 i3_0 (by omega) i3_1 (by assumption) (by assumption) | (exfalso; have hLF := R44.longF (m := p.Memory) (fan := p.Fan) (by assumption) (by omega) (by omega) (by omega) (by omega) (by assumption) (by assumption) (by assumption); have hb0 := hLF.b0; have hb6 := hLF.b6; omega)
      exact congrArg (fun (x0 : Bool) => vB x0) e_x0
     ·rfl
end Go.Proofs.YtnfglkgahlaofaaGreatDoor
