/- C44a, C44q, Pl44l in one text. -/
import Derived.Test.YtnfglkgahlaofaaGreatDoorExtsortTexts3
import Derived.Test.YtnfglkgahlaofaaGreatDoorExtsortTexts11
import Derived.Test.YtnfglkgahlaofaaGreatDoorExtsortTexts5
import Derived.Test.YtnfglkgahlaofaaGreatDoorExtsortTexts7
import Derived.Test.YtnfglkgahlaofaaGreatDoorExtsortTexts6
import Derived.Lib.Join
namespace Go.Proofs.YtnfglkgahlaofaaGreatDoor
open Go.GV
set_option linter.unusedVariables false
set_option linter.unusedSimpArgs false
theorem c44a0_ {p : Prop} (h : p := by unfold R44.cmpI; first | exact (if_pos (by omega)).symm | (rw [if_neg (by omega), if_pos (by omega)]; done) | (rw [if_neg (by omega), if_neg (by omega)]; done)) : p := h
theorem c44a1_ {p : Prop} (h : p := by first | (rw [R44.dec_none (by assumption)]; rfl) | (rw [R44.dec_bad (R44.num_badP i1_0 (by omega) (by assumption))]; rfl) | (rw [R44.dec_neg' (by assumption) (R44.num_endP i1_0 (by omega)) (by assumption)]; rfl) | (rw [R44.dec_pos' (by assumption) (R44.num_endP i1_0 (by omega)) (by assumption)]; rfl)) : p := h
theorem c44a2_ {p : Prop} (h : p := by first | omega | (simp only [List.length_append, List.length_cons, List.length_nil]; omega) | (simp; omega) | (simp_all; omega)) : p := h
theorem c44a4_ {p : Prop} (h : p := by first | omega | (simp only [sub, List.length_drop, List.length_take]; omega) | (simp; omega) | (simp_all; omega)) : p := h
theorem c44a8_ {p : Prop} (h : p := by first | exact (R44.valid_bad (k := k) (by omega) (R44.fok_bad (by omega))).symm | exact (R44.valid_end (fun i hi => i1_1 i (by omega))).symm) : p := h
theorem c44a9_ {p : Prop} (h : p := by first | exact (R44.valid_end (fun i hi => i1_1 i (by omega))).symm | (refine (R44.valid_bad (k := k) (by omega) (R44.fok_bad ?_)).symm; by_cases hkk : (l.getD k default).Kind < 0 ∨ 2 < (l.getD k default).Kind; (have := R44.most_out hkk; omega); (have hmr := R44.most_ref (k := (l.getD k default).Kind) (by omega) (by omega) rfl rfl; omega))) : p := h
theorem c44a10_ {p : Prop} (h : p := by first | exact R44.fld_none (by omega) | exact R44.fld_some (by omega) (by omega) (by omega) (by omega)) : p := h
set_option maxRecDepth 20000 in
theorem f21_ok (l : List SortField) (lA : Option Addr) (lC : Nat) (w : World) (lR : RO [] w lA (l.flatMap SortField.enc)) (q0 : l.length ≤ 9223372036854775807) : Calls Tryz.prog 21 #[vL lA l.length lC] w (Gives [] w fun v L => v = vB (R44.valid l) ∧ L = []) := by
 refine calls_J [] 48 Tryz.func21 rfl Tryz.ntmps21 [(0, _)] rfl rfl (Give.nil w) ?_
 refine q_ (g_ (s_ av_ (z_ (n_ (q_ (g_ (o_ (O_makeMap vI fun b1 => ?_))))))))
 refine o_ (O_insert 0 (f := vI) (k := 0) [(0, vI 200)] [Ent.mp vI b1 [(0, vI 200)]] rfl rfl rfl rfl Tryz.underlying95 (mapK_i Tryz.underlying3) rfl rfl ?_)
 refine o_ (O_insert 0 (f := vI) (k := 1) [(0, vI 200), (1, vI 18)] [Ent.mp vI b1 [(0, vI 200), (1, vI 18)]] rfl rfl rfl rfl Tryz.underlying95 (mapK_i Tryz.underlying3) rfl rfl ?_)
 refine o_ (O_insert 0 (f := vI) (k := 2) [(0, vI 200), (1, vI 18), (2, vI 8)] [Ent.mp vI b1 [(0, vI 200), (1, vI 18), (2, vI 8)]] rfl rfl rfl rfl Tryz.underlying95 (mapK_i Tryz.underlying3) rfl rfl ?_)
 refine s_ mv_ (s_ av_ (z_ (n_ (q_ (q_ (g_ (s_ mv_ (s_ (lnS Tryz.underlying24) (s_ mv_ (z_ (n_ (k_ ?_))))))))))))
 refine J_loop (X := Nat) (fun (k : Nat) => (k ≤ l.length) ∧ (∀ i, i < k → R44.fok (l.getD i default) = true)) (fun (k : Nat) => [(0, vL lA l.length lC), (3, Value.map (some b1)), (8, vL lA l.length lC), (9, vI ((l.length : Nat) : Int)), (10, vI ((k : Nat) : Int))]) (fun (k : Nat) => [Ent.mp vI b1 [(0, vI 200), (1, vI 18), (2, vI 8)]]) (fun (k : Nat) => l.length - k) (0 : Nat) ?_ ⟨rfl, rfl, rfl, rfl, rfl, trivial⟩ (fun _ h => h) ?_
 ·try dsimp only
  refine ⟨?_, ?_⟩
  ·first | rfl | omega | (simp_all; done) | (simp_all; omega)
  ·intro i hi; omega
 intro k hI1
 obtain ⟨i1_0, i1_1⟩ := hI1
 try dsimp only at i1_0
 try dsimp only at i1_1
 have hmo := R44.most_le (l.getD k default).Kind
 try dsimp only
 refine q_ (g_ (s_ (x_lss_i rfl rfl) (z_ (n_ (q_ ?_)))))
 refine ifd (fun h2w h2 => ?_) (fun h2w h2 => ?_)
 ·refine sk_ (n_ (q_ (k_ (q_ (g_ (r_ (ixF SortField.enc_len (cells_ro lR) Tryz.underlying24 Ty.sz50) (r_ (ldFN SortField.enc_len (cells_ro lR) Ty.ag50 Ty.sz50) (o_ (al_ Ty.ze50 fun b3 => ?_)))))))))
  refine o_ (stG 0 Ty.sz50 ?_)
  refine z_ (n_ (q_ (g_ (s_ (fA 0 Ty.fi50_0) (r_ (ld_ 0 Ty.sc3) (s_ (x_lss_i rfl rfl) (s_ mv_ ?_)))))))
  refine or_ 3 (decide ((1000 : Int) < (l.getD k default).At)) (fun g4 => ?_) ?_
  ·have g4r := g4
   have g4r := of_decide_eq_false g4r
   refine sg_ g4 (fA 0 Ty.fi50_0) (rg_ g4 (ld_ 0 Ty.sc3) (sg_ g4 (x_gtr_i rfl rfl) ?_))
   exact cr_
  refine s_ mv_ ?_
  refine or_ 3 (decide ((l.getD k default).Length < 1)) (fun g5 => ?_) ?_
  ·have g5r := g5
   have ⟨g5r, h6⟩ := bor_false g5r
   have g5r := of_decide_eq_false g5r
   have h6 := of_decide_eq_false h6
   refine sg_ g5 (fA 1 Ty.fi50_1) (rg_ g5 (ld_ 0 Ty.sc3) (sg_ g5 (x_lss_i rfl rfl) ?_))
   exact cr_
  refine s_ mv_ ?_
  refine or_ 7 (decide ((R44.most ((l.getD k default).Kind)) < (l.getD k default).Length)) (fun g7 => ?_) ?_
  ·have g7r := g7
   have ⟨g7r, h8⟩ := bor_false g7r
   have ⟨g7r, h9⟩ := bor_false g7r
   have g7r := of_decide_eq_false g7r
   have h9 := of_decide_eq_false h9
   have h8 := of_decide_eq_false h8
   refine sg_ g7 (fA 1 Ty.fi50_1) (rg_ g7 (ld_ 0 Ty.sc3) (sg_ g7 mv_ (sg_ g7 (fA 2 Ty.fi50_2) (rg_ g7 (ld_ 0 Ty.sc3) ?_))))
   refine JO_read (vI (R44.most ((l.getD k default).Kind))) rfl ⟨_, rfl, g7⟩ (x_lookup_v 1 (f := vI) (k := (l.getD k default).Kind) rfl rfl rfl Tryz.underlying95 (mapK_i Tryz.underlying3) Ty.ze3 rfl (R44.most_look _)) ?_
   refine sg_ g7 (x_gtr_i rfl rfl) ?_
   exact cr_
  refine s_ mv_ ?_
  refine or_ 6 (decide ((1000 : Int) < ((l.getD k default).At) + ((l.getD k default).Length))) (fun g10 => ?_) ?_
  ·have g10r := g10
   have ⟨g10r, h11⟩ := bor_false g10r
   have ⟨g10r, h12⟩ := bor_false g10r
   have ⟨g10r, h13⟩ := bor_false g10r
   have g10r := of_decide_eq_false g10r
   have h13 := of_decide_eq_false h13
   have h12 := of_decide_eq_false h12
   have h11 := of_decide_eq_false h11
   refine sg_ g10 (fA 0 Ty.fi50_0) (rg_ g10 (ld_ 0 Ty.sc3) (sg_ g10 (fA 1 Ty.fi50_1) (rg_ g10 (ld_ 0 Ty.sc3) (sg_ g10 (x_add_i (a := (l.getD k default).At) (b := (l.getD k default).Length) rfl rfl (by omega) (by omega)) (sg_ g10 (x_gtr_i rfl rfl) ?_)))))
   exact cr_
  refine z_ (n_ ?_)
  refine if_ (fun h14 => ?_) (fun h14 => ?_)
  ·simp only [Bool.and_eq_true, Bool.or_eq_true, Bool.and_eq_false_iff, Bool.or_eq_false_iff, Bool.not_eq_true', Bool.not_eq_false', decide_eq_true_eq, decide_eq_false_iff_not] at h14
   refine q_ (g_ (s_ av_ (z_ (xk_ [0, 3, 8, 9, 10, 2] ?_))))
   refine n_ (rt_ (kq_ (nr_ (rr_ (kq_ (nr_ ?_))))))
   exact p1 Tryz.results21 rfl ⟨(eB c44a8_), rfl⟩
  ·have ⟨h14, h15⟩ := bor_false h14
   have ⟨h14, h16⟩ := bor_false h14
   have ⟨h14, h17⟩ := bor_false h14
   have ⟨h14, h18⟩ := bor_false h14
   have h14 := of_decide_eq_false h14
   have h18 := of_decide_eq_false h18
   have h17 := of_decide_eq_false h17
   have h16 := of_decide_eq_false h16
   have h15 := of_decide_eq_false h15
   refine sk_ (kx_ (n_ (g_ (s_ (x_add_n (a := k) (b := 1) rfl rfl (by omega)) (s_ mv_ (z_ ?_))))))
   refine JX_round (k + 1 : Nat) ?_ ?_ ⟨rfl, rfl, rfl, rfl, rfl, trivial⟩ (fun _ h => h.keep [false, true] rfl)
   ·try dsimp only
    refine ⟨?_, ?_⟩
    ·first | rfl | omega | (simp_all; done) | (simp_all; omega)
    ·intro i hi
     by_cases hik : i = k
     ·subst hik; exact R44.fok_good (by omega)
     ·exact i1_1 i (by omega)
   ·try dsimp only
    first | omega | (simp; omega) | (simp_all; omega)
 ·refine J_exit (ne_ (re_ (kh_ (n_ (q_ ?_)))))
  refine g_ (s_ mv_ (s_ (lnS Tryz.underlying24) (s_ (x_leq_i rfl rfl) (s_ av_ (z_ (n_ (rt_ ?_)))))))
  exact p1 Tryz.results21 rfl ⟨(eB c44a8_), rfl⟩
set_option maxRecDepth 20000 in
theorem f23_ok (l : List SortField) (lA : Option Addr) (lC : Nat) (w : World) (lR : RO [] w lA (l.flatMap SortField.enc)) (q0 : l.length ≤ 9223372036854775807) : Calls Tryz.prog 23 #[vL lA l.length lC] w (Gives [] w fun v L => v = vB (R44.valid l) ∧ L = []) := by
 refine calls_J [] 57 Tryz.func23 rfl Tryz.ntmps23 [(0, _)] rfl rfl (Give.nil w) ?_
 refine q_ (g_ (s_ av_ (z_ (n_ (q_ (q_ (g_ (s_ av_ (z_ (n_ (k_ ?_)))))))))))
 refine J_loop (X := Nat) (fun (k : Nat) => (k ≤ l.length) ∧ (∀ i, i < k → R44.fok (l.getD i default) = true)) (fun (k : Nat) => [(0, vL lA l.length lC), (3, vI ((k : Nat) : Int))]) (fun (k : Nat) => []) (fun (k : Nat) => l.length - k) (0 : Nat) ?_ ⟨rfl, rfl, trivial⟩ (fun _ h => h) ?_
 ·try dsimp only
  refine ⟨?_, ?_⟩
  ·first | rfl | omega | (simp_all; done) | (simp_all; omega)
  ·intro i hi; omega
 intro k hI1
 obtain ⟨i1_0, i1_1⟩ := hI1
 try dsimp only at i1_0
 try dsimp only at i1_1
 have hmo := R44.most_le (l.getD k default).Kind
 try dsimp only
 refine q_ (q_ (g_ (s_ mv_ (s_ mv_ (s_ (lnS Tryz.underlying24) (s_ (x_lss_i rfl rfl) (z_ (n_ ?_))))))))
 refine ifd (fun h1w h1 => ?_) (fun h1w h1 => ?_)
 ·refine sk_ (n_ (q_ (k_ (q_ (g_ (s_ mv_ (s_ mv_ (r_ (ixF SortField.enc_len (cells_ro lR) Tryz.underlying24 Ty.sz50) (r_ (ldFN SortField.enc_len (cells_ro lR) Ty.ag50 Ty.sz50) (o_ (al_ Ty.ze50 fun b2 => ?_)))))))))))
  refine o_ (stG 0 Ty.sz50 ?_)
  refine z_ (n_ (q_ (g_ (s_ av_ (z_ (n_ (q_ (q_ (g_ (s_ (fA 2 Ty.fi50_2) (r_ (ld_ 0 Ty.sc3) (s_ (x_eql_i rfl rfl) (z_ (n_ ?_))))))))))))))
  refine J_cutK (X := Int) (fun (m3 : Int) => m3 = (if (l.getD k default).Kind = 1 then (18 : Int) else (200 : Int))) (fun (m3 : Int) => [(0, vL lA l.length lC), (3, vI ((k : Nat) : Int)), (4, pB b2 0), (5, vI m3)]) (fun (m3 : Int) => [Ent.blk b2 50 (SortField.enc (l.getD k default))]) ?_ ?_
  ·refine if_ (fun h4 => ?_) (fun h4 => ?_)
   ·have h4r := h4
    have h4r := of_decide_eq_true h4r
    have h4 : ((l.getD k default).Kind = 1) := by exact h4r
    refine g_ (s_ av_ (z_ ?_))
    exact JX_cut ((18 : Int)) (if_pos h4).symm ⟨rfl, rfl, rfl, rfl, trivial⟩ (fun _ h => h)
   ·have h4r := h4
    have h4r := of_decide_eq_false h4r
    have h4 : ¬ ((l.getD k default).Kind = 1) := by exact h4r
    refine sk_ ?_
    exact JX_cut ((200 : Int)) (if_neg h4).symm ⟨rfl, rfl, rfl, rfl, trivial⟩ (fun _ h => h)
  rintro m3 rfl
  refine n_ (q_ (q_ (g_ (s_ (fA 2 Ty.fi50_2) (r_ (ld_ 0 Ty.sc3) (s_ (x_eql_i rfl rfl) (z_ (n_ ?_))))))))
  refine J_cutK (X := Int) (fun (m5 : Int) => m5 = (if (l.getD k default).Kind = 2 then (8 : Int) else (if (l.getD k default).Kind = 1 then (18 : Int) else (200 : Int)))) (fun (m5 : Int) => [(0, vL lA l.length lC), (3, vI ((k : Nat) : Int)), (4, pB b2 0), (5, vI m5)]) (fun (m5 : Int) => [Ent.blk b2 50 (SortField.enc (l.getD k default))]) ?_ ?_
  ·refine if_ (fun h6 => ?_) (fun h6 => ?_)
   ·have h6r := h6
    have h6r := of_decide_eq_true h6r
    have h6 : ((l.getD k default).Kind = 2) := by exact h6r
    refine g_ (s_ av_ (z_ ?_))
    exact JX_cut ((8 : Int)) (if_pos h6).symm ⟨rfl, rfl, rfl, rfl, trivial⟩ (fun _ h => h)
   ·have h6r := h6
    have h6r := of_decide_eq_false h6r
    have h6 : ¬ ((l.getD k default).Kind = 2) := by exact h6r
    refine sk_ ?_
    exact JX_cut ((if (l.getD k default).Kind = 1 then (18 : Int) else (200 : Int))) (if_neg h6).symm ⟨rfl, rfl, rfl, rfl, trivial⟩ (fun _ h => h)
  rintro m5 rfl
  refine n_ (q_ (g_ (s_ (fA 2 Ty.fi50_2) (r_ (ld_ 0 Ty.sc3) (s_ (x_lss_i rfl rfl) (s_ mv_ ?_))))))
  refine or_ 3 (decide ((2 : Int) < (l.getD k default).Kind)) (fun g7 => ?_) ?_
  ·have g7r := g7
   have g7r := of_decide_eq_false g7r
   refine sg_ g7 (fA 2 Ty.fi50_2) (rg_ g7 (ld_ 0 Ty.sc3) (sg_ g7 (x_gtr_i rfl rfl) ?_))
   exact cr_
  refine s_ mv_ ?_
  refine or_ 3 (decide ((l.getD k default).At < 0)) (fun g8 => ?_) ?_
  ·have g8r := g8
   have ⟨g8r, h9⟩ := bor_false g8r
   have g8r := of_decide_eq_false g8r
   have h9 := of_decide_eq_false h9
   refine sg_ g8 (fA 0 Ty.fi50_0) (rg_ g8 (ld_ 0 Ty.sc3) (sg_ g8 (x_lss_i rfl rfl) ?_))
   exact cr_
  refine s_ mv_ ?_
  refine or_ 3 (decide ((l.getD k default).Length < 1)) (fun g10 => ?_) ?_
  ·have g10r := g10
   have ⟨g10r, h11⟩ := bor_false g10r
   have ⟨g10r, h12⟩ := bor_false g10r
   have g10r := of_decide_eq_false g10r
   have h12 := of_decide_eq_false h12
   have h11 := of_decide_eq_false h11
   refine sg_ g10 (fA 1 Ty.fi50_1) (rg_ g10 (ld_ 0 Ty.sc3) (sg_ g10 (x_lss_i rfl rfl) ?_))
   exact cr_
  refine s_ mv_ ?_
  refine or_ 4 (decide ((if (l.getD k default).Kind = 2 then (8 : Int) else (if (l.getD k default).Kind = 1 then (18 : Int) else (200 : Int))) < (l.getD k default).Length)) (fun g13 => ?_) ?_
  ·have g13r := g13
   have ⟨g13r, h14⟩ := bor_false g13r
   have ⟨g13r, h15⟩ := bor_false g13r
   have ⟨g13r, h16⟩ := bor_false g13r
   have g13r := of_decide_eq_false g13r
   have h16 := of_decide_eq_false h16
   have h15 := of_decide_eq_false h15
   have h14 := of_decide_eq_false h14
   refine sg_ g13 (fA 1 Ty.fi50_1) (rg_ g13 (ld_ 0 Ty.sc3) (sg_ g13 mv_ (sg_ g13 (x_gtr_i rfl rfl) ?_)))
   exact cr_
  refine s_ mv_ ?_
  refine or_ 6 (decide (1000 - ((l.getD k default).Length) < (l.getD k default).At)) (fun g17 => ?_) ?_
  ·have g17r := g17
   have ⟨g17r, h18⟩ := bor_false g17r
   have ⟨g17r, h19⟩ := bor_false g17r
   have ⟨g17r, h20⟩ := bor_false g17r
   have ⟨g17r, h21⟩ := bor_false g17r
   have g17r := of_decide_eq_false g17r
   have h21 := of_decide_eq_false h21
   have h20 := of_decide_eq_false h20
   have h19 := of_decide_eq_false h19
   have h18 := of_decide_eq_false h18
   refine sg_ g17 (fA 0 Ty.fi50_0) (rg_ g17 (ld_ 0 Ty.sc3) (sg_ g17 (fA 1 Ty.fi50_1) (rg_ g17 (ld_ 0 Ty.sc3) (sg_ g17 (x_sub_i (a := 1000) (b := (l.getD k default).Length) rfl rfl (by omega) (by omega)) (sg_ g17 (x_gtr_i rfl rfl) ?_)))))
   exact cr_
  refine z_ (n_ ?_)
  refine if_ (fun h22 => ?_) (fun h22 => ?_)
  ·simp only [Bool.and_eq_true, Bool.or_eq_true, Bool.and_eq_false_iff, Bool.or_eq_false_iff, Bool.not_eq_true', Bool.not_eq_false', decide_eq_true_eq, decide_eq_false_iff_not] at h22
   refine q_ (g_ (s_ av_ (z_ (n_ (rt_ (kq_ (nr_ (rr_ (kq_ (nr_ ?_))))))))))
   exact p1 Tryz.results23 rfl ⟨(eB c44a9_), rfl⟩
  ·have ⟨h22, h23⟩ := bor_false h22
   have ⟨h22, h24⟩ := bor_false h22
   have ⟨h22, h25⟩ := bor_false h22
   have ⟨h22, h26⟩ := bor_false h22
   have ⟨h22, h27⟩ := bor_false h22
   have h22 := of_decide_eq_false h22
   have h27 := of_decide_eq_false h27
   have h26 := of_decide_eq_false h26
   have h25 := of_decide_eq_false h25
   have h24 := of_decide_eq_false h24
   have h23 := of_decide_eq_false h23
   refine sk_ (kx_ (n_ (g_ (s_ mv_ (s_ (x_add_n (a := k) (b := 1) rfl rfl (by omega)) (s_ av_ (z_ ?_)))))))
   refine JX_round (k + 1 : Nat) ?_ ?_ ⟨rfl, rfl, trivial⟩ (fun _ h => h.keep [false] rfl)
   ·try dsimp only
    refine ⟨?_, ?_⟩
    ·first | rfl | omega | (simp_all; done) | (simp_all; omega)
    ·have hmr := R44.most_ref (k := (l.getD k default).Kind) (by omega) (by omega) rfl rfl
     intro i hi
     by_cases hik : i = k
     ·subst hik; exact R44.fok_good (by omega)
     ·exact i1_1 i (by omega)
   ·try dsimp only
    first | omega | (simp; omega) | (simp_all; omega)
 ·refine J_exit (ne_ (re_ (kh_ (n_ (q_ ?_)))))
  refine g_ (s_ mv_ (s_ (lnS Tryz.underlying24) (s_ (x_leq_i rfl rfl) (s_ av_ (z_ (n_ (rt_ ?_)))))))
  exact p1 Tryz.results23 rfl ⟨(eB c44a9_), rfl⟩
set_option maxRecDepth 20000 in
theorem f83_ok (s : Bytes) (f : SortField) (w : World) (q0 : R44.fok f = true) (q1 : s.length ≤ 1000000000) : Calls Tryz.prog 83 #[vS s, vG (SortField.enc f)] w (Gives [] w fun v L => v = vS (R44.fld s f) ∧ L = []) := by
 have hff := R44.fok_facts q0
 have hfm := R44.most_le f.Kind
 refine calls_J [] 30 Tryz.func83 rfl Tryz.ntmps83 [(0, _), (1, _)] rfl rfl (Give.nil w) ?_
 refine q_ (g_ (o_ (bxG fun b1 => ?_)))
 refine s_ av_ (z_ (n_ (q_ (q_ (g_ (s_ (fA 0 Ty.fi50_0) (r_ (ld_ 0 Ty.sc3) (s_ mv_ (s_ (x_len_s rfl Tryz.underlying9) (s_ (x_geq_i rfl rfl) (z_ (n_ ?_))))))))))))
 refine ifd (fun h2w h2 => ?_) (fun h2w h2 => ?_)
 ·refine g_ (s_ av_ (z_ (n_ (q_ (g_ (s_ mv_ (s_ (fA 1 Ty.fi50_1) (r_ (ld_ 0 Ty.sc3) (s_ mv_ (s_ (x_len_s rfl Tryz.underlying9) (s_ (x_sub_i (a := f.Length) (b := 0) rfl rfl (by omega) (by omega)) (c0 (cl_ Ty.ca96) (fun w hS => repeat_spec [32] _ w hy_ hy_ hy_) ?_))))))))))))
  have ha3 := rep_length [32] (f.Length - 0).toNat
  try simp only [List.length_cons, List.length_nil, Nat.zero_add, Nat.reduceAdd, Nat.reduceMul] at ha3
  refine s_ (x_cat_s rfl rfl c44a2_) (s_ av_ (z_ (n_ (rt_ ?_))))
  exact p1 Tryz.results83 rfl ⟨(eS c44a10_), rfl⟩
 ·refine g_ (s_ mv_ (s_ (fA 0 Ty.fi50_0) (r_ (ld_ 0 Ty.sc3) (s_ mv_ (s_ (x_len_s rfl Tryz.underlying9) (s_ (fA 0 Ty.fi50_0) (r_ (ld_ 0 Ty.sc3) (s_ (fA 1 Ty.fi50_1) (r_ (ld_ 0 Ty.sc3) ?_)))))))))
  refine s_ (x_add_i (a := f.At) (b := f.Length) rfl rfl (by omega) (by omega)) (s_ (x_min_i (a := ((s.length : Nat) : Int)) (b := f.At + f.Length) rfl rfl) (s_ (x_sub_s (lo := (f.At).toNat) (hi := (min ((s.length : Nat) : Int) (f.At + f.Length)).toNat) rfl Tryz.underlying9 (.inl (lo_i (by omega))) (.inl (lo_i (by omega))) lt_ c44a4_) ?_))
  have hsl4 := sub_length s ((f.At).toNat) ((min ((s.length : Nat) : Int) (f.At + f.Length)).toNat) lt_
  refine s_ av_ (z_ (xk_ [0, 3, 4] ?_))
  refine n_ (q_ (g_ (s_ mv_ (s_ (fA 1 Ty.fi50_1) (r_ (ld_ 0 Ty.sc3) (s_ mv_ (s_ (x_len_s rfl Tryz.underlying9) (s_ (x_sub_i (a := f.Length) (b := (((sub s ((f.At).toNat) ((min ((s.length : Nat) : Int) (f.At + f.Length)).toNat)).length : Nat) : Int)) rfl rfl (by omega) (by omega)) (c0 (cl_ Ty.ca96) (fun w hS => repeat_spec [32] _ w hy_ hy_ hy_) ?_)))))))))
  have ha5 := rep_length [32] (f.Length - (((sub s ((f.At).toNat) ((min ((s.length : Nat) : Int) (f.At + f.Length)).toNat)).length : Nat) : Int)).toNat
  try simp only [List.length_cons, List.length_nil, Nat.zero_add, Nat.reduceAdd, Nat.reduceMul] at ha5
  refine s_ (x_cat_s rfl rfl c44a2_) (s_ av_ (z_ (n_ (rt_ ?_))))
  exact p1 Tryz.results83 rfl ⟨(eS c44a10_), rfl⟩
set_option maxRecDepth 20000 in
theorem f82_ok (x : Int) (w : World) : Calls Tryz.prog 82 #[vI x] w (Gives [] w fun v L => v = vB false ∧ L = []) := by
 refine calls_J [] 6 Tryz.func82 rfl Tryz.ntmps82 [(0, _)] rfl rfl (Give.nil w) ?_
 refine q_ (g_ (s_ av_ (z_ (n_ (q_ (g_ (s_ mv_ (s_ mv_ (s_ (x_neq_i rfl rfl) (s_ av_ (z_ (n_ (rt_ ?_)))))))))))))
 exact p1 Tryz.results82 rfl ⟨(eB (decide_eq_false (fun h => h rfl))), rfl⟩
set_option maxRecDepth 20000 in
theorem f99_ok (x : Int) (w : World) : Calls Tryz.prog 99 #[vI x] w (Gives [] w fun v L => v = vB false ∧ L = []) := by
 refine calls_J [] 6 Tryz.func99 rfl Tryz.ntmps99 [(0, _)] rfl rfl (Give.nil w) ?_
 refine q_ (g_ (s_ av_ (z_ (n_ (q_ (g_ (s_ mv_ (s_ mv_ (s_ (x_neq_i rfl rfl) (s_ av_ (z_ (n_ (rt_ ?_)))))))))))))
 exact p1 Tryz.results99 rfl ⟨(eB (decide_eq_false (fun h => h rfl))), rfl⟩
set_option maxRecDepth 20000 in
theorem f62_ok (x : Int) (y : Int) (w : World) : Calls Tryz.prog 62 #[vI x, vI y] w (Gives [] w fun v L => v = vI (R44.cmpI x y) ∧ L = []) := by
 refine calls_J [] 20 Tryz.func62 rfl Tryz.ntmps62 [(0, _), (1, _)] rfl rfl (Give.nil w) ?_
 refine q_ (g_ (s_ av_ (z_ (n_ (q_ (g_ (s_ mv_ (c0 (cl_ Ty.ca82) (fun w hS => f82_ok x w) (s_ av_ (z_ (n_ (q_ (g_ (s_ mv_ (c0 (cl_ Ty.ca82) (fun w hS => f82_ok y w) (s_ av_ ?_))))))))))))))))
 refine z_ (n_ (q_ (q_ (g_ (s_ mv_ (z_ (n_ (iff_ (sk_ (n_ (q_ (q_ (g_ (s_ mv_ (z_ (n_ (iff_ (sk_ (n_ (q_ (q_ (g_ (s_ mv_ (s_ mv_ (s_ (x_lss_i rfl rfl) ?_)))))))))))))))))))))))))
 refine z_ (n_ ?_)
 refine ifd (fun h1w h1 => ?_) (fun h1w h1 => ?_)
 ·refine q_ (g_ (s_ av_ (z_ (n_ (rt_ (nr_ ?_))))))
  exact p1 Tryz.results62 rfl ⟨(eI c44a0_), rfl⟩
 ·refine sk_ (n_ (q_ (q_ (g_ (s_ mv_ (s_ mv_ (s_ (x_gtr_i rfl rfl) (z_ (n_ ?_)))))))))
  refine ifd (fun h2w h2 => ?_) (fun h2w h2 => ?_)
  ·refine q_ (g_ (s_ av_ (z_ (n_ (rt_ (nr_ ?_))))))
   exact p1 Tryz.results62 rfl ⟨(eI c44a0_), rfl⟩
  ·refine sk_ (n_ (q_ (g_ (s_ av_ (z_ (n_ (rt_ ?_)))))))
   exact p1 Tryz.results62 rfl ⟨(eI c44a0_), rfl⟩
set_option maxRecDepth 20000 in
theorem f85_ok (x : Int) (y : Int) (w : World) : Calls Tryz.prog 85 #[vI x, vI y] w (Gives [] w fun v L => v = vI (R44.cmpI x y) ∧ L = []) := by
 refine calls_J [] 20 Tryz.func85 rfl Tryz.ntmps85 [(0, _), (1, _)] rfl rfl (Give.nil w) ?_
 refine q_ (g_ (s_ av_ (z_ (n_ (q_ (g_ (s_ mv_ (c0 (cl_ Ty.ca99) (fun w hS => f99_ok x w) (s_ av_ (z_ (n_ (q_ (g_ (s_ mv_ (c0 (cl_ Ty.ca99) (fun w hS => f99_ok y w) (s_ av_ ?_))))))))))))))))
 refine z_ (n_ (q_ (q_ (g_ (s_ mv_ (z_ (n_ (iff_ (sk_ (n_ (q_ (q_ (g_ (s_ mv_ (z_ (n_ (iff_ (sk_ (n_ (q_ (q_ (g_ (s_ mv_ (s_ mv_ (s_ (x_lss_i rfl rfl) ?_)))))))))))))))))))))))))
 refine z_ (n_ ?_)
 refine ifd (fun h1w h1 => ?_) (fun h1w h1 => ?_)
 ·refine q_ (g_ (s_ av_ (z_ (n_ (rt_ (nr_ ?_))))))
  exact p1 Tryz.results85 rfl ⟨(eI c44a0_), rfl⟩
 ·refine sk_ (n_ (q_ (q_ (g_ (s_ mv_ (s_ mv_ (s_ (x_gtr_i rfl rfl) (z_ (n_ ?_)))))))))
  refine ifd (fun h2w h2 => ?_) (fun h2w h2 => ?_)
  ·refine q_ (g_ (s_ av_ (z_ (n_ (rt_ (nr_ ?_))))))
   exact p1 Tryz.results85 rfl ⟨(eI c44a0_), rfl⟩
  ·refine sk_ (n_ (q_ (g_ (s_ av_ (z_ (n_ (rt_ ?_)))))))
   exact p1 Tryz.results85 rfl ⟨(eI c44a0_), rfl⟩
set_option maxRecDepth 20000 in
theorem f84_ok (s : Bytes) (w : World) (q0 : s.length ≤ 18) : Calls Tryz.prog 84 #[vS s] w (Gives [] w fun v L => v = Value.tuple #[vI ((R44.dec s).getD 0), vB ((R44.dec s).isSome)] ∧ L = []) := by
 refine calls_J [] 42 Tryz.func84 rfl Tryz.ntmps84 [(0, _)] rfl rfl (Give.nil w) ?_
 refine q_ (g_ (s_ av_ (s_ av_ (z_ (n_ (q_ (g_ (s_ mv_ (c0 (cl_ Ty.ca97) (fun w hS => trim_ok s w hy_) ?_)))))))))
 have ha1 := R44.trims_len s
 refine s_ av_ (z_ (n_ (q_ (g_ (s_ mv_ (c0 (cl_ Ty.ca98) (fun w hS => cutp_ok _ w) ?_))))))
 have ha2 := R44.cutM_len (R44.trimR (R44.trimL s))
 refine s_ mv_ (s_ (ex_ 0) (s_ (ex_ 1) (s_ av_ (s_ av_ (z_ (n_ (q_ (q_ (g_ (s_ mv_ (js_ (vB (decide ((R44.cutM (R44.trimR (R44.trimL s))).1 = ([] : Bytes)))) (x_eql_s rfl rfl) (z_ (n_ ?_)))))))))))))
 refine ifd (fun h3w h3 => ?_) (fun h3w h3 => ?_)
 ·try have hi4 := R44.digP h3w
  try have hi5 := R44.digN h3w
  refine q_ (g_ (s_ av_ (s_ av_ (z_ (n_ (rt_ (nr_ ?_)))))))
  exact p2 Tryz.results84 rfl rfl ⟨t2 (eI c44a1_) (eB c44a1_), rfl⟩
 ·try have hi6 := R44.digP h3w
  try have hi7 := R44.digN h3w
  have h3l := List.length_pos_iff.2 h3
  refine sk_ (n_ (q_ (g_ (s_ av_ (z_ (n_ (q_ (q_ (g_ (s_ mv_ (o_ (O_str_bytes ((R44.cutM (R44.trimR (R44.trimL s))).1) rfl Tryz.underlying9 Tryz.underlying120 Tryz.underlying5 fun b8 c9 z10 hz11 => ?_))))))))))))
  refine s_ (lnS Tryz.underlying120) (s_ mv_ (z_ (n_ (k_ ?_))))
  refine J_loop (X := Nat × Int) (fun (⟨k, n⟩ : Nat × Int) => (R44.num ((R44.cutM (R44.trimR (R44.trimL s))).1.drop k) n = R44.num (R44.cutM (R44.trimR (R44.trimL s))).1 0) ∧ (k ≤ (R44.cutM (R44.trimR (R44.trimL s))).1.length) ∧ (0 ≤ n) ∧ (n < 10 ^ k)) (fun (⟨k, n⟩ : Nat × Int) => [(5, vB ((R44.cutM (R44.trimR (R44.trimL s))).2)), (6, vI n), (19, vL (some ⟨b8, 0, none⟩) (((R44.cutM (R44.trimR (R44.trimL s))).1).length) c9), (20, vI ((((R44.cutM (R44.trimR (R44.trimL s))).1).length : Nat) : Int)), (21, vI ((k : Nat) : Int))]) (fun (⟨k, n⟩ : Nat × Int) => [Ent.blk b8 5 ((((R44.cutM (R44.trimR (R44.trimL s))).1) ++ List.replicate z10 (0 : UInt8)).map vU8) (((R44.cutM (R44.trimR (R44.trimL s))).1).length + z10, ((R44.cutM (R44.trimR (R44.trimL s))).1).length + z10 + 1)]) (fun (⟨k, n⟩ : Nat × Int) => (R44.cutM (R44.trimR (R44.trimL s))).1.length - k) ((0, 0) : Nat × Int) ?_ ⟨rfl, rfl, rfl, rfl, rfl, trivial⟩ (fun _ h => h) ?_
  ·try dsimp only
   refine ⟨?_, ?_, ?_, ?_⟩
   ·rfl
   ·first | rfl | omega | (simp_all; done) | (simp_all; omega)
   ·first | rfl | omega | (simp_all; done) | (simp_all; omega)
   ·decide
  rintro ⟨k, n⟩ hI1
  obtain ⟨i1_0, i1_1, i1_2, i1_3⟩ := hI1
  try dsimp only at i1_0
  try dsimp only at i1_1
  try dsimp only at i1_2
  try dsimp only at i1_3
  have hpl := R44.pow_or (k := k) (by omega)
  try dsimp only
  refine q_ (g_ (s_ (x_lss_i rfl rfl) (z_ (n_ (q_ ?_)))))
  refine ifd (fun h12w h12 => ?_) (fun h12w h12 => ?_)
  ·try have hi13 := R44.digP h12w
   try have hi14 := R44.digN h12w
   refine sk_ (n_ (q_ (k_ (q_ (g_ (s_ (x_indexAddr_sl (k := k) Tryz.underlying120 Ty.sz5 rfl rfl lt_ (add_0k1 _ _)) (r_ (x_load_arr 0 vU8 0 rfl rfl Ty.sc5 lt_) (s_ av_ (z_ (n_ (q_ (q_ (g_ (s_ mv_ (js_ (vB (decide (((((R44.cutM (R44.trimR (R44.trimL s))).1) ++ List.replicate z10 (0 : UInt8)).getD k 0) < (48 : UInt8)))) (x_lss_u8 rfl rfl) (s_ mv_ ?_))))))))))))))))
   refine or_ 2 (decide ((57 : UInt8) < ((((R44.cutM (R44.trimR (R44.trimL s))).1) ++ List.replicate z10 (0 : UInt8)).getD k 0))) (fun g15 => ?_) ?_
   ·have g15r := g15
    have g15r := of_decide_eq_false g15r
    have g15ru := g15r
    try simp only [UInt8.lt_iff_toNat_lt, UInt8.le_iff_toNat_le, UInt8.reduceToNat, UInt32.lt_iff_toNat_lt, UInt32.le_iff_toNat_le, UInt32.reduceToNat, UInt64.lt_iff_toNat_lt, UInt64.le_iff_toNat_le, UInt64.reduceToNat] at g15ru
    refine sg_ g15 mv_ (jg_ g15 (vB (decide ((57 : UInt8) < ((((R44.cutM (R44.trimR (R44.trimL s))).1) ++ List.replicate z10 (0 : UInt8)).getD k 0)))) (x_gtr_u8 rfl rfl) ?_)
    exact cr_
   refine z_ (n_ ?_)
   refine if_ (fun h16 => ?_) (fun h16 => ?_)
   ·have h16w := h16
    try have hi17 := R44.digP h16w
    try have hi18 := R44.digN h16w
    simp only [Bool.and_eq_true, Bool.or_eq_true, Bool.and_eq_false_iff, Bool.or_eq_false_iff, Bool.not_eq_true', Bool.not_eq_false', decide_eq_true_eq, decide_eq_false_iff_not] at h16
    refine q_ (g_ (s_ av_ (s_ av_ (z_ (n_ (rt_ (nr_ (kq_ (nr_ (rr_ (kq_ (nr_ ?_))))))))))))
    exact p2 Tryz.results84 rfl rfl ⟨t2 (eI c44a1_) (eB c44a1_), rfl⟩
   ·have h16w := h16
    try have hi19 := R44.digP h16w
    try have hi20 := R44.digN h16w
    have ⟨h16, h21⟩ := bor_false h16
    have h16 := of_decide_eq_false h16
    have h16u := h16
    try simp only [UInt8.lt_iff_toNat_lt, UInt8.le_iff_toNat_le, UInt8.reduceToNat, UInt32.lt_iff_toNat_lt, UInt32.le_iff_toNat_le, UInt32.reduceToNat, UInt64.lt_iff_toNat_lt, UInt64.le_iff_toNat_le, UInt64.reduceToNat] at h16u
    have h21 := of_decide_eq_false h21
    have h21u := h21
    try simp only [UInt8.lt_iff_toNat_lt, UInt8.le_iff_toNat_le, UInt8.reduceToNat, UInt32.lt_iff_toNat_lt, UInt32.le_iff_toNat_le, UInt32.reduceToNat, UInt64.lt_iff_toNat_lt, UInt64.le_iff_toNat_le, UInt64.reduceToNat] at h21u
    refine sk_ (n_ (g_ (s_ mv_ (s_ (x_mul_i (a := 10) (b := n) rfl rfl (by omega) (by omega)) (s_ mv_ (js_ (vU8 (((((R44.cutM (R44.trimR (R44.trimL s))).1) ++ List.replicate z10 (0 : UInt8)).getD k 0) - 48)) (x_sub_u8 rfl rfl) (s_ (x_conv_u8_i64 rfl Tryz.underlying5 Tryz.underlying2) (s_ (x_add_i (a := 10 * n) (b := (((((((R44.cutM (R44.trimR (R44.trimL s))).1) ++ List.replicate z10 (0 : UInt8)).getD k 0) - 48).toNat : Nat) : Int)) rfl rfl lt_ lt_) (s_ av_ (z_ (kx_ (n_ (g_ (s_ (x_add_n (a := k) (b := 1) rfl rfl (by omega)) ?_))))))))))))))
    refine s_ mv_ (z_ ?_)
    refine JX_round ((k + 1, (10 * n) + (((((((R44.cutM (R44.trimR (R44.trimL s))).1) ++ List.replicate z10 (0 : UInt8)).getD k 0) - 48).toNat : Nat) : Int)) : Nat × Int) ?_ ?_ ⟨rfl, rfl, rfl, rfl, rfl, trivial⟩ (fun _ h => h)
    ·try dsimp only
     refine ⟨?_, ?_, ?_, ?_⟩
     ·rw [← i1_0]; exact R44.num_stepP (by omega) (by omega) (by omega)
     ·first | rfl | omega | (simp_all; done) | (simp_all; omega)
     ·exact (R44.pow_stepP i1_2 i1_3 (by omega) (by omega)).1
     ·exact (R44.pow_stepP i1_2 i1_3 (by omega) (by omega)).2
    ·try dsimp only
     first | omega | (simp; omega) | (simp_all; omega)
  ·try have hi22 := R44.digP h12w
   try have hi23 := R44.digN h12w
   refine J_exit (ne_ (re_ (kh_ (n_ (q_ ?_)))))
   refine q_ (g_ (s_ mv_ (z_ (n_ ?_))))
   refine if_ (fun h24 => ?_) (fun h24 => ?_)
   ·have h24w := h24
    try have hi25 := R44.digP h24w
    try have hi26 := R44.digN h24w
    refine g_ (s_ mv_ (s_ (x_neg_i (a := n) rfl (by omega) (by omega)) (s_ av_ (z_ (n_ (q_ (g_ (s_ mv_ (s_ av_ (s_ av_ (z_ (n_ (rt_ ?_)))))))))))))
    exact p2 Tryz.results84 rfl rfl ⟨t2 (eI c44a1_) (eB c44a1_), rfl⟩
   ·have h24w := h24
    try have hi27 := R44.digP h24w
    try have hi28 := R44.digN h24w
    refine sk_ (n_ (q_ (g_ (s_ mv_ (s_ av_ (s_ av_ (z_ (n_ (rt_ ?_)))))))))
    exact p2 Tryz.results84 rfl rfl ⟨t2 (eI c44a1_) (eB c44a1_), rfl⟩
set_option maxRecDepth 20000 in
theorem f86_ok (s : Bytes) (w : World) (q0 : 0 < s.length) (q1 : s.length ≤ 8) : Calls Tryz.prog 86 #[vS s] w (Gives [] w fun v L => v = vI (R44.bin s) ∧ L = []) := by
 refine calls_J [] 25 Tryz.func86 rfl Tryz.ntmps86 [(0, _)] rfl rfl (Give.nil w) ?_
 refine q_ (g_ (s_ av_ (z_ (n_ (q_ (g_ (s_ mv_ (s_ (x_idx_s (k := 0) rfl rfl Tryz.underlying9 (by omega)) (s_ (x_conv_u8_i8 rfl Tryz.underlying5 Tryz.underlying134) (s_ (x_conv_i8_i64 rfl Tryz.underlying134 Tryz.underlying2 (int8_lt _).1 (int8_lt _).2) (s_ av_ (z_ (n_ (q_ (q_ (g_ (s_ mv_ ?_)))))))))))))))))
 refine s_ (x_sub_s (lo := 1) (hi := s.length) rfl Tryz.underlying9 (.inl rfl) (.inr ⟨rfl, rfl⟩) lt_ c44a4_) ?_
 have hsl1 := sub_length s 1 s.length lt_
 refine o_ (O_str_bytes (sub s 1 s.length) rfl Tryz.underlying9 Tryz.underlying120 Tryz.underlying5 fun b2 c3 z4 hz5 => ?_)
 refine s_ (lnS Tryz.underlying120) (s_ mv_ (z_ (n_ (k_ ?_))))
 refine J_loop (X := Nat × Int) (fun (⟨k, n⟩ : Nat × Int) => (k ≤ s.length - 1) ∧ (n = R44.bin (s.take (k + 1)))) (fun (⟨k, n⟩ : Nat × Int) => [(2, vI 0), (3, vI n), (12, vL (some ⟨b2, 0, none⟩) ((sub s 1 s.length).length) c3), (13, vI (((sub s 1 s.length).length : Nat) : Int)), (14, vI ((k : Nat) : Int))]) (fun (⟨k, n⟩ : Nat × Int) => [Ent.blk b2 5 (((sub s 1 s.length) ++ List.replicate z4 (0 : UInt8)).map vU8) ((sub s 1 s.length).length + z4, (sub s 1 s.length).length + z4 + 1)]) (fun (⟨k, n⟩ : Nat × Int) => s.length - 1 - k) ((0, (int8 (s.getD 0 0))) : Nat × Int) ?_ ⟨rfl, rfl, rfl, rfl, rfl, trivial⟩ (fun _ h => h) ?_
 ·try dsimp only
  refine ⟨?_, ?_⟩
  ·first | rfl | omega | (simp_all; done) | (simp_all; omega)
  ·exact R44.bin_first q0
 rintro ⟨k, n⟩ hI1
 obtain ⟨i1_0, i1_1⟩ := hI1
 try dsimp only at i1_0
 try dsimp only at i1_1
 have hbb := R44.bin_or (k := k) q0 q1
 try dsimp only
 refine q_ (g_ (s_ (x_lss_i rfl rfl) (z_ (n_ (q_ ?_)))))
 refine ifd (fun h6w h6 => ?_) (fun h6w h6 => ?_)
 ·refine sk_ (n_ (q_ (k_ (q_ (g_ (s_ (x_indexAddr_sl (k := k) Tryz.underlying120 Ty.sz5 rfl rfl lt_ (add_0k1 _ _)) (r_ (x_load_arr 0 vU8 0 rfl rfl Ty.sc5 lt_) (s_ av_ (z_ (n_ (g_ (s_ mv_ (js_ (vI (n * 2 ^ 8)) (x_shl_i (a := n) (m := 8) rfl rfl (by decide) (by omega) (by omega)) (s_ mv_ (s_ (x_conv_u8_i64 rfl Tryz.underlying5 Tryz.underlying2) (s_ (x_or_hi (n := n) (a := n * 2 ^ 8) (c := (((sub s 1 s.length) ++ List.replicate z4 (0 : UInt8)).getD k 0).toNat) rfl rfl (by omega) (by first | omega | exact UInt8.toNat_lt _ | (simp; omega)) (by omega) (by omega)) ?_))))))))))))))))
  refine s_ av_ (z_ (kx_ (n_ (g_ (s_ (x_add_n (a := k) (b := 1) rfl rfl (by omega)) (s_ mv_ (z_ ?_)))))))
  refine JX_round ((k + 1, (n * 2 ^ 8) + (((((sub s 1 s.length) ++ List.replicate z4 (0 : UInt8)).getD k 0).toNat : Nat) : Int)) : Nat × Int) ?_ ?_ ⟨rfl, rfl, rfl, rfl, rfl, trivial⟩ (fun _ h => h)
  ·try dsimp only
   refine ⟨?_, ?_⟩
   ·first | rfl | omega | (simp_all; done) | (simp_all; omega)
   ·exact R44.bin_stepP (by omega) q0 i1_1
  ·try dsimp only
   first | omega | (simp; omega) | (simp_all; omega)
 ·refine J_exit (ne_ (re_ (kh_ (n_ (q_ ?_)))))
  refine g_ (s_ mv_ (s_ av_ (z_ (n_ (rt_ ?_)))))
  exact p1 Tryz.results86 rfl ⟨(eI (by rw [i1_1, show k + 1 = s.length by omega, List.take_length])), rfl⟩
end Go.Proofs.YtnfglkgahlaofaaGreatDoor

namespace Go.Proofs.YtnfglkgahlaofaaGreatDoor
open Go.GV
set_option linter.unusedVariables false
set_option linter.unusedSimpArgs false
theorem c44q0_ {p : Prop} (h : p := by first | exact R44.fields_len (by omega) | exact R44.fields_bad (i := k) (by assumption) | exact R44.fields_end i1_1 (fun i hi => i1_2 i (by omega))) : p := h
theorem c44q2_ {p : Prop} (h : p := by first | exact R44.ix_hit (by omega) i1_1 (by assumption) | exact R44.ix_end (by omega) i1_1) : p := h
set_option maxRecDepth 20000 in
theorem f53_ok (s : Bytes) (w : World) (q0 : s.length ≤ 1000000) : Calls Tryz.prog 53 #[vS s] w (GivesW [] w fun v L wx => ∃ out : List Bytes, ∃ outA : Option Addr, ∃ outC : Nat, v = vL outA out.length outC ∧ L = [] ∧ RO (List.range w.heap.size) wx outA (out.map vS) ∧ out.length ≤ outC ∧ (out = R44.words s)) := by
 refine calls_JW [] 5 Tryz.func53 rfl Tryz.ntmps53 [(0, _)] rfl rfl (Give.nil w) ?_
 refine q_ (g_ (s_ av_ (z_ (n_ (q_ (g_ (s_ mv_ ?_)))))))
 refine c1 (cl_ Ty.ca78) (fun w hS => fields1_ok s w hy_) ?_
 rintro _ _ ⟨e1, e2, rfl, rfl⟩
 refine s_ av_ (z_ (n_ (rt_ ?_)))
 refine JX_retsD [_] _ Tryz.results53 (fun w h => ⟨rfl, trivial⟩) rfl _ (fun _ h => h.keep [false] rfl) (fun _ _ h => h) (fun wx hw => ⟨(R44.words s), e1, e2, ?_, ?_, (RO.of_rowF (Lc := []) hw hw 0 rfl), (row_le (hw.mem (j := 0) rfl)), ?_⟩)
 ·rfl
 ·rfl
 ·rfl
set_option maxRecDepth 20000 in
theorem f55_ok (s : Bytes) (w : World) (hT : Tab [] w) (q0 : s.length ≤ 1000000) : Calls Tryz.prog 55 #[vS s] w (Gives [] w fun v L => ∃ n : Int, ∃ ok : Bool, v = Value.tuple #[vI n, vB ok] ∧ L = [] ∧ (R44.SmallJ s n ok)) := by
 refine calls_J [] 28 Tryz.func55 rfl Tryz.ntmps55 [(0, _)] rfl rfl (Give.nil w) ?_
 refine q_ (g_ (s_ av_ (s_ av_ (z_ (n_ (q_ (g_ (s_ mv_ ?_))))))))
 refine c1 (cl_ Ty.ca81) (fun w hS => atoi_ok s w (hT.on hS (fun _ h => by cases h)) hy_) ?_
 rintro _ _ ⟨n1, er2, N3, rfl, rfl, hf4⟩
 have ha5 := R44.atoi_bd (by assumption)
 refine s_ mv_ (s_ (ex_ 0) (s_ (ex_ 1) (s_ av_ (s_ av_ (z_ (n_ (q_ (g_ (s_ mv_ (s_ mv_ (s_ (x_eql_err rfl Tryz.underlying125) (s_ mv_ ?_))))))))))))
 refine and_ 2 (decide ((0 : Int) ≤ n1)) (fun g6 => ?_) ?_
 ·have g6r := g6
  refine sg_ g6 mv_ (sg_ g6 (x_geq_i rfl rfl) ?_)
  exact cr_
 refine s_ mv_ ?_
 refine and_ 2 (decide (n1 ≤ 9999)) (fun g7 => ?_) ?_
 ·have g7r := g7
  have ⟨g7r, h8⟩ := band_true g7r
  have h8 := of_decide_eq_true h8
  refine sg_ g7 mv_ (sg_ g7 (x_leq_i rfl rfl) ?_)
  exact cr_
 refine s_ mv_ ?_
 refine and_ 4 (decide (Lib.decDigits n1.toNat = s)) (fun g9 => ?_) ?_
 ·have g9r := g9
  have ⟨g9r, h10⟩ := band_true g9r
  have ⟨g9r, h11⟩ := band_true g9r
  have h11 := of_decide_eq_true h11
  have h10 := of_decide_eq_true h10
  refine sg_ g9 mv_ (c0g g9 (cl_ Ty.ca50) (fun w hS => itoa_ok n1 w (hT.on hS (fun _ h => by cases h)) hy_ hy_) ?_)
  have ha12 := R44.dec_lenI n1 (by omega)
  refine sg_ g9 mv_ (sg_ g9 (x_eql_s rfl rfl) ?_)
  exact cr_
 refine s_ av_ (s_ av_ (z_ (n_ (rt_ ?_))))
 refine JX_rets [_, _] (Value.tuple #[_, _]) Tryz.results55 (fun w h => ⟨rfl, rfl, trivial⟩) rfl _ (fun _ h => h) ⟨n1, (((er2 && (decide ((0 : Int) ≤ n1))) && (decide (n1 ≤ 9999))) && (decide (Lib.decDigits n1.toNat = s))), ?_, ?_, ?_⟩
 ·rfl
 ·rfl
 ·exact R44.small_of (by assumption)
set_option maxRecDepth 20000 in
theorem f57_ok (xs : List Bytes) (xsA : Option Addr) (xsC : Nat) (x : Bytes) (w : World) (xsR : RO [] w xsA (xs.map vS)) (q0 : xs.length ≤ 9223372036854775807) : Calls Tryz.prog 57 #[vL xsA xs.length xsC, vS x] w (Gives [] w fun v L => v = vI (R44.ixOf xs x) ∧ L = []) := by
 refine calls_J [] 19 Tryz.func57 rfl Tryz.ntmps57 [(0, _), (1, _)] rfl rfl (Give.nil w) ?_
 refine q_ (g_ (s_ av_ (z_ (n_ (q_ (q_ (g_ (s_ mv_ (s_ (lnS Tryz.underlying22) (s_ mv_ (z_ (n_ (k_ ?_)))))))))))))
 refine J_loop (X := Nat) (fun (k : Nat) => (k ≤ xs.length) ∧ (R44.ixFrom (xs.drop k) x k = R44.ixOf xs x)) (fun (k : Nat) => [(0, vL xsA xs.length xsC), (1, vS x), (7, vI ((xs.length : Nat) : Int)), (8, vI ((k : Nat) : Int))]) (fun (k : Nat) => []) (fun (k : Nat) => xs.length - k) (0 : Nat) ?_ ⟨rfl, rfl, rfl, rfl, trivial⟩ (fun _ h => h) ?_
 ·try dsimp only
  refine ⟨?_, ?_⟩
  ·first | rfl | omega | (simp_all; done) | (simp_all; omega)
  ·rfl
 intro k hI1
 obtain ⟨i1_0, i1_1⟩ := hI1
 try dsimp only at i1_0
 try dsimp only at i1_1
 try dsimp only
 refine q_ (g_ (s_ (x_lss_i rfl rfl) (z_ (n_ (q_ ?_)))))
 refine ifd (fun h1w h1 => ?_) (fun h1w h1 => ?_)
 ·refine sk_ (n_ (q_ (k_ (q_ (g_ (s_ mv_ (s_ av_ (z_ (n_ (q_ (g_ (s_ mv_ (s_ mv_ (s_ mv_ (r_ (ixM (cells_ro xsR) Tryz.underlying22 Ty.sz9) (r_ (ldM vS [] (cells_ro xsR) Ty.sc9) (s_ (x_eql_s rfl rfl) ?_)))))))))))))))))
  refine z_ (n_ ?_)
  refine ifd (fun h2w h2 => ?_) (fun h2w h2 => ?_)
  ·refine q_ (g_ (s_ mv_ (s_ av_ (z_ (n_ (rt_ (kq_ (nr_ (rr_ (kq_ (nr_ ?_)))))))))))
   exact p1 Tryz.results57 rfl ⟨(eI c44q2_), rfl⟩
  ·refine sk_ (kx_ (n_ (g_ (s_ (x_add_n (a := k) (b := 1) rfl rfl (by omega)) (s_ mv_ (z_ ?_))))))
   refine JX_round (k + 1 : Nat) ?_ ?_ ⟨rfl, rfl, rfl, rfl, trivial⟩ (fun _ h => h)
   ·try dsimp only
    refine ⟨?_, ?_⟩
    ·first | rfl | omega | (simp_all; done) | (simp_all; omega)
    ·exact R44.ix_go (by omega) i1_1 (by assumption)
   ·try dsimp only
    first | omega | (simp; omega) | (simp_all; omega)
 ·refine J_exit (ne_ (re_ (kh_ (n_ (q_ ?_)))))
  refine g_ (s_ av_ (z_ (n_ (rt_ ?_))))
  exact p1 Tryz.results57 rfl ⟨(eI c44q2_), rfl⟩
set_option maxRecDepth 20000 in
theorem f56_ok (xs : List Bytes) (xsA : Option Addr) (xsC : Nat) (x : Bytes) (w : World) (xsR : RO [] w xsA (xs.map vS)) (q0 : xs.length ≤ 9223372036854775807) : Calls Tryz.prog 56 #[vL xsA xs.length xsC, vS x] w (Gives [] w fun v L => v = vB (decide (0 ≤ R44.ixOf xs x)) ∧ L = []) := by
 refine calls_J [] 9 Tryz.func56 rfl Tryz.ntmps56 [(0, _), (1, _)] rfl rfl (Give.nil w) ?_
 refine q_ (g_ (s_ av_ (z_ (n_ (q_ (g_ (s_ mv_ (s_ mv_ (c0 (cl_ Ty.ca57) (fun w hS => f57_ok xs xsA xsC x w (rno xsR hS) hy_) ?_)))))))))
 have ha1 := R44.ixOf_bd xs x
 refine s_ (x_geq_i rfl rfl) (s_ av_ (z_ (n_ (rt_ ?_))))
 exact p1 Tryz.results56 rfl ⟨(eB (by rfl)), rfl⟩
set_option maxRecDepth 20000 in
theorem f52_ok (n : Int) (w : World) (q0 : n ≤ 1000000) (q1 : 0 ≤ n) : Calls Tryz.prog 52 #[vI n, vI 1] w (Gives [] w fun v L => v = vS (Lib.decDigits n.toNat) ∧ L = []) := by
 refine calls_J [] 25 Tryz.func52 rfl Tryz.ntmps52 [(0, _), (1, _)] rfl rfl (Give.nil w) ?_
 refine q_ (g_ (s_ av_ (z_ (n_ (q_ (g_ (s_ av_ (z_ (n_ (q_ (k_ ?_)))))))))))
 refine J_loop (X := Nat × Bytes) (fun (⟨m, s⟩ : Nat × Bytes) => (R44.DigJ n.toNat m s) ∧ (m ≤ n.toNat) ∧ (s.length ≤ 1000000 - m)) (fun (⟨m, s⟩ : Nat × Bytes) => [(0, vI ((m : Nat) : Int)), (1, vI 1), (4, vS []), (5, vS s)]) (fun (⟨m, s⟩ : Nat × Bytes) => []) (fun (⟨m, s⟩ : Nat × Bytes) => 2 * m + (1 - s.length)) ((n.toNat, []) : Nat × Bytes) ?_ ⟨(sE_ (by omega)), rfl, rfl, rfl, trivial⟩ (fun _ h => h) ?_
 ·try dsimp only
  refine ⟨?_, ?_, ?_⟩
  ·exact R44.DigJ.start _
  ·omega
  ·exact Nat.zero_le _
 rintro ⟨m, s⟩ hI1
 obtain ⟨i1_0, i1_1, i1_2⟩ := hI1
 try dsimp only at i1_0
 try dsimp only at i1_1
 try dsimp only at i1_2
 try dsimp only
 refine q_ (q_ (g_ (s_ mv_ (s_ (x_gtr_i rfl rfl) (s_ mv_ ?_)))))
 refine or_ 4 (decide (((s.length : Nat) : Int) < 1)) (fun g1 => ?_) ?_
 ·have g1r := g1
  have g1r := of_decide_eq_false g1r
  refine sg_ g1 mv_ (sg_ g1 (x_len_s rfl Tryz.underlying9) (sg_ g1 mv_ (sg_ g1 (x_lss_i rfl rfl) ?_)))
  exact cr_
 refine z_ (n_ ?_)
 refine if_ (fun h2 => ?_) (fun h2 => ?_)
 ·simp only [Bool.and_eq_true, Bool.or_eq_true, Bool.and_eq_false_iff, Bool.or_eq_false_iff, Bool.not_eq_true', Bool.not_eq_false', decide_eq_true_eq, decide_eq_false_iff_not] at h2
  refine sk_ (n_ (k_ (q_ (g_ (s_ mv_ (s_ (x_rem_n (a := m) (b := 10) rfl rfl (by omega) (by omega)) (s_ (x_add_n (a := 48) (b := m % 10) rfl rfl (by omega)) (s_ (x_conv_n_u8 (a := 48 + (m % 10)) rfl Tryz.underlying3 Tryz.underlying5) (o_ (O_buildSlice (cs := [vU8 (UInt8.ofNat (48 + (m % 10)))]) Tryz.underlying120 Ty.sz5 Ty.ze5 (by decide) (by decide) (by kernel_rfl) fun b3 => ?_))))))))))
  refine JO_read (vS [UInt8.ofNat (48 + (m % 10))]) rfl trivial (x_str_blk 0 (l := [UInt8.ofNat (48 + (m % 10))]) rfl Tryz.underlying120 Tryz.underlying5 Tryz.underlying9 rfl rfl rfl) ?_
  refine s_ mv_ (s_ (x_cat_s rfl rfl (by first | omega | (simp only [List.length_append, List.length_cons, List.length_nil]; omega) | (simp; omega) | (simp_all; omega))) (s_ av_ (z_ (n_ (g_ (s_ mv_ (s_ (x_quo_n (a := m) (b := 10) rfl rfl (by omega) (by omega)) (s_ av_ (z_ (kx_ ?_))))))))))
  refine JX_round ((m / 10, [UInt8.ofNat (48 + (m % 10))] ++ s) : Nat × Bytes) ?_ ?_ ⟨rfl, rfl, rfl, rfl, trivial⟩ (fun _ h => h.keep [false] rfl)
  ·try dsimp only
   refine ⟨?_, ?_, ?_⟩
   ·exact i1_0.stepI (by omega)
   ·first | rfl | omega | (simp_all; done) | (simp_all; omega)
   ·simp only [List.length_append, List.length_cons, List.length_nil]; omega
  ·try dsimp only
   simp only [List.length_append, List.length_cons, List.length_nil]; omega
 ·have ⟨h2, h4⟩ := bor_false h2
  have h2 := of_decide_eq_false h2
  have h4 := of_decide_eq_false h4
  refine J_exit (ne_ (re_ (kh_ (n_ (q_ ?_)))))
  refine g_ (s_ mv_ (s_ av_ (z_ (n_ (rt_ ?_)))))
  exact p1 Tryz.results52 rfl ⟨(eS (i1_0.done (by omega) (List.length_pos_iff.1 (by omega)))), rfl⟩
set_option maxRecDepth 20000 in
theorem f29_ok (a : List SortField) (aA : Option Addr) (aC : Nat) (b : List SortField) (bA : Option Addr) (bC : Nat) (w : World) (aR : RO [] w aA (a.flatMap SortField.enc)) (bR : RO [] w bA (b.flatMap SortField.enc)) (q0 : a.length ≤ 9223372036854775807) (q1 : b.length ≤ 9223372036854775807) : Calls Tryz.prog 29 #[vL aA a.length aC, vL bA b.length bC] w (Gives [] w fun v L => v = vB (decide (a = b)) ∧ L = []) := by
 refine calls_J [] 26 Tryz.func29 rfl Tryz.ntmps29 [(0, _), (1, _)] rfl rfl (Give.nil w) ?_
 refine q_ (g_ (s_ av_ (z_ (n_ (q_ (q_ (g_ (s_ mv_ (s_ (lnS Tryz.underlying24) (s_ mv_ (s_ (lnS Tryz.underlying24) (s_ (x_neq_i rfl rfl) (z_ (n_ ?_))))))))))))))
 refine ifd (fun h1w h1 => ?_) (fun h1w h1 => ?_)
 ·refine q_ (g_ (s_ av_ (z_ (n_ (rt_ (nr_ ?_))))))
  exact p1 Tryz.results29 rfl ⟨(eB c44q0_), rfl⟩
 ·refine sk_ (n_ (q_ (q_ (g_ (s_ av_ (z_ (n_ (k_ ?_))))))))
  refine J_loop (X := Nat) (fun (k : Nat) => (k ≤ a.length) ∧ (a.length = b.length) ∧ (∀ i, i < k → a.getD i default = b.getD i default)) (fun (k : Nat) => [(0, vL aA a.length aC), (1, vL bA b.length bC), (5, vI ((k : Nat) : Int))]) (fun (k : Nat) => []) (fun (k : Nat) => a.length - k) (0 : Nat) ?_ ⟨rfl, rfl, rfl, trivial⟩ (fun _ h => h) ?_
  ·try dsimp only
   refine ⟨?_, ?_, ?_⟩
   ·first | rfl | omega | (simp_all; done) | (simp_all; omega)
   ·omega
   ·intro i hi; omega
  intro k hI1
  obtain ⟨i1_0, i1_1, i1_2⟩ := hI1
  try dsimp only at i1_0
  try dsimp only at i1_1
  try dsimp only at i1_2
  try dsimp only
  refine q_ (q_ (g_ (s_ mv_ (s_ mv_ (s_ (lnS Tryz.underlying24) (s_ (x_lss_i rfl rfl) (z_ (n_ ?_))))))))
  refine ifd (fun h2w h2 => ?_) (fun h2w h2 => ?_)
  ·refine sk_ (n_ (q_ (k_ (q_ ?_))))
   refine drB [] 9 Ty.mixed ?_
   refine jp_ 0 rfl mv_ (jp_ 1 rfl mv_ (jq_ 2 rfl (ixF SortField.enc_len (cells_ro aR) Tryz.underlying24 Ty.sz50) (jq_ 3 rfl (ldFN SortField.enc_len (cells_ro aR) Ty.ag50 Ty.sz50) (jp_ 4 rfl mv_ (jp_ 5 rfl mv_ (jq_ 6 rfl (ixF SortField.enc_len (cells_ro bR) Tryz.underlying24 Ty.sz50) (jq_ 7 rfl (ldFN SortField.enc_len (cells_ro bR) Ty.ag50 Ty.sz50) (jp_ 8 rfl (x_neq_agg rfl rfl Ty.eg50 (Ty.eq50 9998 (a.getD k default) (b.getD k default))) ?_))))))))
   refine JA_done (by kernel_rfl) gm_ ?_
   refine n_ ?_
   refine if_ (fun h3 => ?_) (fun h3 => ?_)
   ·have h3 : (decide (((a.getD k default) : SortField) = (b.getD k default))) = false := bnot_true h3
    have h3 := of_decide_eq_false h3
    refine q_ (g_ (s_ av_ (z_ (n_ (rt_ (kq_ (nr_ (rr_ (kq_ (nr_ ?_))))))))))
    exact p1 Tryz.results29 rfl ⟨(eB c44q0_), rfl⟩
   ·have h3 : (decide (((a.getD k default) : SortField) = (b.getD k default))) = true := bnot_false h3
    have h3 := of_decide_eq_true h3
    refine sk_ (kx_ (n_ (g_ (s_ mv_ (s_ (x_add_n (a := k) (b := 1) rfl rfl (by omega)) (s_ av_ (z_ ?_)))))))
    refine JX_round (k + 1 : Nat) ?_ ?_ ⟨rfl, rfl, rfl, trivial⟩ (fun _ h => h)
    ·try dsimp only
     refine ⟨?_, ?_, ?_⟩
     ·first | rfl | omega | (simp_all; done) | (simp_all; omega)
     ·first | rfl | omega | (simp_all; done) | (simp_all; omega)
     ·intro i hi
      by_cases hik : i = k
      ·subst hik; simp_all
      ·exact i1_2 i (by omega)
    ·try dsimp only
     first | omega | (simp; omega) | (simp_all; omega)
  ·refine J_exit (ne_ (re_ (kh_ (n_ (q_ ?_)))))
   refine g_ (s_ av_ (z_ (n_ (rt_ ?_))))
   exact p1 Tryz.results29 rfl ⟨(eB c44q0_), rfl⟩
end Go.Proofs.YtnfglkgahlaofaaGreatDoor

namespace Go.Proofs.YtnfglkgahlaofaaGreatDoor
open Go.GV
namespace R44
theorem decT {c : UInt8} {k : Nat} (h : ((decide (c < (48 : UInt8)) || decide ((57 : UInt8) < c)) || decide ((3 : Int) < ((k : Nat) : Int))) = true) : 3 < k ∨ isD c = false := by
  simp only [Bool.or_eq_true, decide_eq_true_eq, UInt8.lt_iff_toNat_lt, UInt8.reduceToNat] at h
  unfold isD
  rcases h with (h | h) | h
  · right; rw [decide_eq_false (by omega)]; rfl
  · right; rw [Bool.and_eq_false_iff]; right; exact decide_eq_false (by omega)
  · left; omega
theorem decF {c : UInt8} {k : Nat} (h : ((decide (c < (48 : UInt8)) || decide ((57 : UInt8) < c)) || decide ((3 : Int) < ((k : Nat) : Int))) = false) : k ≤ 3 ∧ isD c = true ∧ 48 ≤ c.toNat ∧ c.toNat ≤ 57 ∧ (c - 48).toNat = c.toNat - 48 := by
  simp only [Bool.or_eq_false_iff, decide_eq_false_iff_not, UInt8.lt_iff_toNat_lt, UInt8.reduceToNat] at h
  obtain ⟨⟨h1, h2⟩, h3⟩ := h
  refine ⟨by omega, ?_, by omega, by omega, ?_⟩
  · unfold isD; rw [decide_eq_true (by omega), decide_eq_true (by omega)]; rfl
  · rw [UInt8.toNat_sub_of_le]
    · rfl
    · rw [UInt8.le_iff_toNat_le]; simp; omega
theorem all_snoc {s : Bytes} {k : Nat} (hk : k < s.length) (h : (s.take k).all isD = true) (hc : isD (s.getD k 0) = true) : (s.take (k + 1)).all isD = true := by
  rw [take_snoc (d := 0) hk, List.all_append, h, List.all_cons, hc]; rfl
theorem vN_step {s : Bytes} {k n : Nat} (hk : k < s.length) (hn : n = vN (s.take k)) (hc : (s.getD k 0 - 48).toNat = (s.getD k 0).toNat - 48) : 10 * n + (s.getD k 0 - 48).toNat = vN (s.take (k + 1)) := by
  rw [take_snoc (d := 0) hk, vN_snoc, ← hn, hc]
theorem vN_small {s : Bytes} {k n : Nat} (h4 : k ≤ 4) (h : (s.take k).all isD = true) (hn : n = vN (s.take k)) : n ≤ 9999 := by
  have := vN_bound (s.take k) 0 0 h (by decide)
  have hl : (s.take k).length ≤ 4 := by rw [List.length_take]; omega
  have h2 : 10 ^ (0 + (s.take k).length) ≤ 10 ^ 4 := Nat.pow_le_pow_right (by decide) (by omega)
  rw [hn]; unfold vN; omega
theorem ref_end2 {s : Bytes} {k n : Nat} (hk : s.length ≤ k) (h4 : k ≤ 4) (hn : n = vN (s.take k)) (hd : (s.take k).all isD = true) : SmallJ s ((n : Nat) : Int) (decide (s ≠ ([] : Bytes)) && decide (Lib.decDigits n = s)) := by
  rw [List.take_of_length_le hk] at hn hd
  rw [hn]; exact ref_yes (by omega) hd
theorem small_none {s : Bytes} (h : numV s = none) : SmallJ s 0 false := ⟨fun h => (by cases h), fun _ => h⟩
def kindT (k : Int) : Bytes := if k = 1 then [32, 110, 117, 109, 98, 101, 114] else if k = 2 then [32, 98, 105, 110, 97, 114, 121] else []
theorem kindT_len (k : Int) : (kindT k).length ≤ 7 := by unfold kindT; split <;> (try split) <;> simp
theorem kindT_look (k : Int) : (lk [((1 : Int), vS [32, 110, 117, 109, 98, 101, 114]), (2, vS [32, 98, 105, 110, 97, 114, 121])] k).getD (vS []) = vS (kindT k) := by
  unfold kindT
  by_cases h1 : k = 1
  · subst h1; rfl
  · by_cases h2 : k = 2
    · subst h2; rfl
    · rw [if_neg h1, if_neg h2]
      have : lk [((1 : Int), vS [32, 110, 117, 109, 98, 101, 114]), (2, vS [32, 98, 105, 110, 97, 114, 121])] k = none := lk_ne (fun e => h1 e) (lk_ne (fun e => h2 e) lk_nil)
      rw [this]; rfl
abbrev desT : Bytes := [32, 100, 101, 115, 99, 101, 110, 100, 105, 110, 103]
def fmt1 (f : SortField) : Bytes := (((Lib.decDigits f.At.toNat ++ [32]) ++ Lib.decDigits f.Length.toNat) ++ kindT f.Kind) ++ (if f.Descending = true then desT else [])
def fmtV (l : List SortField) : Bytes := if valid l = true then Lib.join (l.map fmt1) [44, 32] else []
theorem fmt1_t {f : SortField} (h : f.Descending = true) : (((Lib.decDigits f.At.toNat ++ [32]) ++ Lib.decDigits f.Length.toNat) ++ kindT f.Kind) ++ desT = fmt1 f := by unfold fmt1; rw [if_pos h]
theorem fmt1_f {f : SortField} (h : f.Descending = false) : (((Lib.decDigits f.At.toNat ++ [32]) ++ Lib.decDigits f.Length.toNat) ++ kindT f.Kind) = fmt1 f := by unfold fmt1; rw [if_neg (by rw [h]; decide), List.append_nil]
theorem fmt_snoc {l : List SortField} {k : Nat} (hk : k < l.length) {x : Bytes} (hx : x = fmt1 (l.getD k default)) : (l.take k).map fmt1 ++ [x] = (l.take (k + 1)).map fmt1 := by
  rw [take_snoc (d := default) hk, List.map_append, hx]; rfl
theorem fmt1_len {f : SortField} (h : fok f = true) : (fmt1 f).length ≤ 60 := by
  have hf := fok_facts h
  have hm := most_le f.Kind
  have h1 := dec_len19 (n := f.At.toNat) (by omega)
  have h2 := dec_len19 (n := f.Length.toNat) (by omega)
  have h3 := kindT_len f.Kind
  unfold fmt1
  simp only [List.length_append, List.length_cons, List.length_nil]
  split <;> simp <;> omega
theorem join_snoc (xs : List Bytes) (y sep : Bytes) : Lib.join (xs ++ [y]) sep = if xs = [] then y else (Lib.join xs sep ++ sep) ++ y := by
  cases xs with
  | nil => rw [if_pos rfl]; exact Lib.join_one y sep
  | cons x r =>
    rw [if_neg (List.cons_ne_nil _ _), List.cons_append, Lib.join_cons, Lib.join_cons]
    unfold Lib.joinTail
    rw [List.map_append, List.flatten_append]; simp
theorem fmt_join {l : List SortField} (hv : valid l = true) : ∀ k, k ≤ l.length → (Lib.join ((l.take k).map fmt1) [44, 32]).length ≤ 62 * k
  | 0, _ => by simp [Lib.join_nil]
  | k + 1, hk => by
    have ih := fmt_join hv k (by omega)
    have h1 := fmt1_len ((valid_facts hv).2 k (by omega))
    rw [← fmt_snoc (by omega) rfl, join_snoc]
    split
    · omega
    · simp only [List.length_append, List.length_cons, List.length_nil]; omega
theorem fmt_small {l : List SortField} {k : Nat} (hv : valid l = true) (hk : k ≤ l.length) : (Lib.join ((l.take k).map fmt1) [44, 32]).length ≤ 1000000 := by
  have := fmt_join hv k hk
  have := (valid_facts hv).1
  omega
theorem fmtV_no {l : List SortField} (h : valid l = false) : [] = fmtV l := by unfold fmtV; rw [h]; rfl
theorem fmtV_end {l : List SortField} {k : Nat} (h : valid l = true) (hk : l.length ≤ k) : Lib.join ((l.take k).map fmt1) [44, 32] = fmtV l := by unfold fmtV; rw [if_pos h, List.take_of_length_le hk]
section
variable {l : List SortField} {k : Nat} {s x : Bytes}
end
section
variable {R : List Bytes}
theorem kindR_t (h : (decide ((0 : Int) < ((R.length : Nat) : Int)) && ((decide (R.getD 0 [] = [116, 101, 120, 116]) || decide (R.getD 0 [] = [110, 117, 109, 98, 101, 114])) || decide (R.getD 0 [] = [98, 105, 110, 97, 114, 121]))) = true) : kindOf R = ((if R.getD 0 [] = [98, 105, 110, 97, 114, 121] then (2 : Int) else if R.getD 0 [] = [110, 117, 109, 98, 101, 114] then 1 else 0), R.drop 1) := by
  simp only [Bool.and_eq_true, Bool.or_eq_true, decide_eq_true_eq] at h
  unfold kindOf
  obtain ⟨h0, (h1 | h1) | h1⟩ := h
  · rw [h1]; rw [if_pos (by rw [decide_eq_true h0]; rfl)]; rfl
  · rw [h1]; rw [if_pos (by rw [decide_eq_true h0]; rfl)]; rfl
  · rw [h1]; rw [if_pos (by rw [decide_eq_true h0]; rfl)]; rfl
theorem kindR_f (h : (decide ((0 : Int) < ((R.length : Nat) : Int)) && ((decide (R.getD 0 [] = [116, 101, 120, 116]) || decide (R.getD 0 [] = [110, 117, 109, 98, 101, 114])) || decide (R.getD 0 [] = [98, 105, 110, 97, 114, 121]))) = false) : kindOf R = (0, R) := by
  unfold kindOf
  rw [if_neg]
  intro h2
  simp only [Bool.and_eq_true, decide_eq_true_eq] at h2
  rw [decide_eq_true h2.1, Bool.true_and] at h
  simp only [Bool.or_eq_false_iff, decide_eq_false_iff_not] at h
  have : ixOf KS (R.getD 0 []) = -1 := by
    unfold ixOf KS
    rw [ixFrom, if_neg (fun e => h.1.1 e.symm), ixFrom, if_neg (fun e => h.1.2 e.symm), ixFrom, if_neg (fun e => h.2 e.symm)]; rfl
  omega
theorem kindR_2 (h : kindOf R = ((if R.getD 0 [] = [98, 105, 110, 97, 114, 121] then (2 : Int) else if R.getD 0 [] = [110, 117, 109, 98, 101, 114] then 1 else 0), R.drop 1)) (h1 : R.getD 0 [] = [98, 105, 110, 97, 114, 121]) : kindOf R = (2, R.drop 1) := by rw [h, if_pos h1]
theorem kindR_1 (h : kindOf R = ((if R.getD 0 [] = [98, 105, 110, 97, 114, 121] then (2 : Int) else if R.getD 0 [] = [110, 117, 109, 98, 101, 114] then 1 else 0), R.drop 1)) (h1 : R.getD 0 [] = [110, 117, 109, 98, 101, 114]) : kindOf R = (1, R.drop 1) := by rw [h, if_neg (by rw [h1]; decide), if_pos h1]
theorem kindR_0 (h : kindOf R = ((if R.getD 0 [] = [98, 105, 110, 97, 114, 121] then (2 : Int) else if R.getD 0 [] = [110, 117, 109, 98, 101, 114] then 1 else 0), R.drop 1)) (h1 : ¬ R.getD 0 [] = [110, 117, 109, 98, 101, 114]) (h2 : ¬ R.getD 0 [] = [98, 105, 110, 97, 114, 121]) : kindOf R = (0, R.drop 1) := by rw [h, if_neg h2, if_neg h1]
end
theorem fw_of {W : List Bytes} {p : Bytes} {x : Option SortField} (hw : W = words p) (h : fieldW W = x) : fieldW (words p) = x := by rw [← hw]; exact h
theorem ne_of {W : List Bytes} {s : Bytes} (hw : W = words s) (h : W.length ≠ 0) : words s ≠ [] := fun e => by rw [hw, e] at h; exact h rfl
theorem eq_of {W : List Bytes} {s : Bytes} (hw : W = words s) (h : W.length = 0) : words s = [] := by rw [← hw]; exact List.length_eq_zero_iff.1 h
section
variable {W R1 R2 : List Bytes} {n1 n2 kd : Int} {o1 o2 de : Bool}
theorem fw_go (h : 2 ≤ W.length) (s1 : SmallJ (W.getD 0 []) n1 o1) (h1 : o1 = true) (s2 : SmallJ (W.getD 1 []) n2 o2) (h2 : o2 = true) (hk : kindOf (W.drop 2) = (kd, R1)) (hd : descOf R1 = (de, R2)) (he : R2.length = 0) : fieldW W = some ⟨n1, n2, kd, de⟩ := fw_yes h h1 s1 h2 s2 hk hd (List.length_eq_zero_iff.1 he)
theorem fw_no2 (s1 : SmallJ (W.getD 0 []) n1 o1) (s2 : SmallJ (W.getD 1 []) n2 o2) (h : ((!o1) || (!o2)) = true) : fieldW W = none := by
  cases h1 : o1 with
  | false => exact fw_n1 h1 s1
  | true => cases h2 : o2 with
    | false => exact fw_n2 h2 s2
    | true => rw [h1, h2] at h; cases h
theorem fw_no3 (s1 : SmallJ (W.getD 0 []) n1 o1) (s2 : SmallJ (W.getD 1 []) n2 o2) (hk : kindOf (W.drop 2) = (kd, R1)) (hd : descOf R1 = (de, R2)) (h : (((!o1) || (!o2)) || decide ((0 : Int) < ((R2.length : Nat) : Int))) = true) : fieldW W = none := by
  rcases Bool.or_eq_true_iff.1 h with h | h
  · exact fw_no2 s1 s2 h
  · exact fw_rest hk hd fun e => by rw [e] at h; simp at h
theorem fw_no1 (hk : kindOf (W.drop 2) = (kd, R1)) (hd : descOf R1 = (de, R2)) (h : 0 < R2.length) : fieldW W = none := fw_rest hk hd (List.length_pos_iff.1 h)
end
end R44
end Go.Proofs.YtnfglkgahlaofaaGreatDoor
