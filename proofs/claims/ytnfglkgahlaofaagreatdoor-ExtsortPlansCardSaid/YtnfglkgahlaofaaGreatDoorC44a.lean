/- contracts C44a -/
import Derived.Test.YtnfglkgahlaofaaGreatDoorAll3
import Derived.Test.YtnfglkgahlaofaaGreatDoorAll11
import Derived.Test.YtnfglkgahlaofaaGreatDoorAll5
namespace Go.Proofs.YtnfglkgahlaofaaGreatDoor
open Go.GV
set_option linter.unusedVariables false
set_option linter.unusedSimpArgs false
theorem c44a0_ {p : Prop} (h : p := by unfold R44.cmpI; first | exact (if_pos (by omega)).symm | (rw [if_neg (by omega), if_pos (by omega)]; done) | (rw [if_neg (by omega), if_neg (by omega)]; done)) : p := h
theorem c44a1_ {p : Prop} (h : p := by first | (rw [R44.dec_none (by assumption)]; rfl) | (rw [R44.dec_bad (R44.num_badP i1_0 (by omega) (by assumption))]; rfl) | (rw [R44.dec_neg' (by assumption) (R44.num_endP i1_0 (by omega)) (by assumption)]; rfl) | (rw [R44.dec_pos' (by assumption) (R44.num_endP i1_0 (by omega)) (by assumption)]; rfl)) : p := h
theorem c44a2_ {p : Prop} (h : p := by first | omega | (simp only [List.length_append, List.length_cons, List.length_nil]; omega) | (simp; omega) | (simp_all; omega)) : p := h
theorem c44a4_ {p : Prop} (h : p := by first | omega | (simp only [sub, List.length_drop, List.length_take]; omega) | (simp; omega) | (simp_all; omega)) : p := h
theorem c44a8_ {p : Prop} (h : p := by first | exact (R44.valid_bad (k := k) (by omega) (R44.fok_bad (by omega))).symm | exact (R44.valid_end (fun i hi => i1_1 i (by omega))).symm) : p := h
theorem c44a9_ {p : Prop} (h : p := by first | exact (R44.valid_end (fun i hi => i1_1 i (by omega))).symm | (refine (R44.valid_bad (k := k) (by omega) (R44.fok_bad ?_)).symm; by_cases hkk : (l.getD k default).Kind < 0 ∨ 2 < (l.getD k default).Kind; (have := R44.most_out hkk; omega); (have hmr := R44.most_ref (k := (l.getD k default).Kind) (by omega) (by omega) rfl rfl; omega))) : p := h
theorem c44a10_ {p : Prop} (h : p := by first | exact R44.fld_none (by omega) | exact R44.fld_some (by omega) (by omega) (by omega) (by omega)) : p := h
theorem c44a13_ {p : Prop} (h : p := by first | (rw [i1_2]; rw [show (i + 1).toNat = i.toNat + 1 by omega]; exact R44.fldN_in (by omega) (by omega)) | (rw [i1_2]; exact R44.fldN_out (i := i.toNat) (by omega) (by omega))) : p := h
theorem c44a14_ {p : Prop} (h : p := by first | exact R44.ref_end (neg := true) i1_0 i1_1 (by assumption) (by simp_all) rfl i2_0 i2_1 i2_2 i2_3 i2_4 (by assumption) i3_1 i3_0 (by assumption) | exact R44.ref_end (neg := false) i1_0 i1_1 (by assumption) (by simp_all) rfl i2_0 i2_1 i2_2 i2_3 i2_4 (by assumption) i3_1 i3_0 (by assumption)) : p := h
set_option maxRecDepth 20000 in
theorem f21_ok (l : List SortField) (lA : Option Addr) (lC : Nat) (w : World) (lR : RO [] w lA (l.flatMap SortField.enc)) (q0 : l.length ≤ 9223372036854775807) : Calls Tryz.prog 21 #[vL lA l.length lC] w (Gives [] w fun v L => v = vB (R44.valid l) ∧ L = []) := by
 refine calls_J [] 48 Tryz.func21 rfl Tryz.ntmps21 [(0, _)] rfl rfl (Give.nil w) ?_
 refine q_ (g_ (s_ av_ (z_ (n_ (q_ (g_ (o_ (O_makeMap vI fun b1 => ?_))))))))
 refine o_ (O_insert 0 (f := vI) (k := 0) [(0, vI 200)] [Ent.mp vI b1 [(0, vI 200)]] rfl rfl rfl rfl Tryz.underlying95 (mapK_i Tryz.underlying3) rfl rfl ?_)
 refine o_ (O_insert 0 (f := vI) (k := 1) [(0, vI 200), (1, vI 18)] [Ent.mp vI b1 [(0, vI 200), (1, vI 18)]] rfl rfl rfl rfl Tryz.underlying95 (mapK_i Tryz.underlying3) rfl rfl ?_)
 refine o_ (O_insert 0 (f := vI) (k := 2) [(0, vI 200), (1, vI 18), (2, vI 8)] [Ent.mp vI b1 [(0, vI 200), (1, vI 18), (2, vI 8)]] rfl rfl rfl rfl Tryz.underlying95 (mapK_i Tryz.underlying3) rfl rfl ?_)
 refine s_ mv_ (s_ av_ (z_ (n_ (q_ (q_ (g_ (s_ mv_ (s_ (lnS Tryz.underlying24) (s_ mv_ (z_ (n_ (k_ ?_))))))))))))
 refine J_loop (X := Nat) (fun (k : Nat) => (k ≤ l.length) ∧ (∀ i, i < k → R44.fok (l.getD i default) = true)) (fun (k : Nat) => [(0, vL lA l.length lC), (3, Value.map (some b1)), (8, vL lA l.length lC), (9, vI ((l.length : Nat) : Int)), (10, vI ((k : Nat) : Int))]) (fun (k : Nat) => [Ent.mp vI b1 [(0, vI 200), (1, vI 18), (2, vI 8)]]) (fun (k : Nat) => l.length - k) (0 : Nat) ?_ ⟨rfl, rfl, rfl, rfl, rfl, trivial⟩ (fun _ h => h) ?_
 ·try dsimp only
  refine ⟨?_, ?_⟩
  ·first | rfl | omega | (simp_all; done) | (simp_all; omega)
  ·intro i hi; omega
 intro k hI1
 obtain ⟨i1_0, i1_1⟩ := hI1
 try dsimp only at i1_0
 try dsimp only at i1_1
 have hmo := R44.most_le (l.getD k default).Kind
 try dsimp only
 refine q_ (g_ (s_ (x_lss_i rfl rfl) (z_ (n_ (q_ ?_)))))
 refine ifd (fun h2w h2 => ?_) (fun h2w h2 => ?_)
 ·refine sk_ (n_ (q_ (k_ (q_ (g_ (r_ (ixF SortField.enc_len (cells_ro lR) Tryz.underlying24 Ty.sz50) (r_ (ldFN SortField.enc_len (cells_ro lR) Ty.ag50 Ty.sz50) (o_ (al_ Ty.ze50 fun b3 => ?_)))))))))
  refine o_ (stG 0 Ty.sz50 ?_)
  refine z_ (n_ (q_ (g_ (s_ (fA 0 Ty.fi50_0) (r_ (ld_ 0 Ty.sc3) (s_ (x_lss_i rfl rfl) (s_ mv_ ?_)))))))
  refine or_ 3 (decide ((1000 : Int) < (l.getD k default).At)) (fun g4 => ?_) ?_
  ·have g4r := g4
   have g4r := of_decide_eq_false g4r
   refine sg_ g4 (fA 0 Ty.fi50_0) (rg_ g4 (ld_ 0 Ty.sc3) (sg_ g4 (x_gtr_i rfl rfl) ?_))
   exact cr_
  refine s_ mv_ ?_
  refine or_ 3 (decide ((l.getD k default).Length < 1)) (fun g5 => ?_) ?_
  ·have g5r := g5
   have ⟨g5r, h6⟩ := bor_false g5r
   have g5r := of_decide_eq_false g5r
   have h6 := of_decide_eq_false h6
   refine sg_ g5 (fA 1 Ty.fi50_1) (rg_ g5 (ld_ 0 Ty.sc3) (sg_ g5 (x_lss_i rfl rfl) ?_))
   exact cr_
  refine s_ mv_ ?_
  refine or_ 7 (decide ((R44.most ((l.getD k default).Kind)) < (l.getD k default).Length)) (fun g7 => ?_) ?_
  ·have g7r := g7
   have ⟨g7r, h8⟩ := bor_false g7r
   have ⟨g7r, h9⟩ := bor_false g7r
   have g7r := of_decide_eq_false g7r
   have h9 := of_decide_eq_false h9
   have h8 := of_decide_eq_false h8
   refine sg_ g7 (fA 1 Ty.fi50_1) (rg_ g7 (ld_ 0 Ty.sc3) (sg_ g7 mv_ (sg_ g7 (fA 2 Ty.fi50_2) (rg_ g7 (ld_ 0 Ty.sc3) ?_))))
   refine JO_read (vI (R44.most ((l.getD k default).Kind))) rfl ⟨_, rfl, g7⟩ (x_lookup_v 1 (f := vI) (k := (l.getD k default).Kind) rfl rfl rfl Tryz.underlying95 (mapK_i Tryz.underlying3) Ty.ze3 rfl (R44.most_look _)) ?_
   refine sg_ g7 (x_gtr_i rfl rfl) ?_
   exact cr_
  refine s_ mv_ ?_
  refine or_ 6 (decide ((1000 : Int) < ((l.getD k default).At) + ((l.getD k default).Length))) (fun g10 => ?_) ?_
  ·have g10r := g10
   have ⟨g10r, h11⟩ := bor_false g10r
   have ⟨g10r, h12⟩ := bor_false g10r
   have ⟨g10r, h13⟩ := bor_false g10r
   have g10r := of_decide_eq_false g10r
   have h13 := of_decide_eq_false h13
   have h12 := of_decide_eq_false h12
   have h11 := of_decide_eq_false h11
   refine sg_ g10 (fA 0 Ty.fi50_0) (rg_ g10 (ld_ 0 Ty.sc3) (sg_ g10 (fA 1 Ty.fi50_1) (rg_ g10 (ld_ 0 Ty.sc3) (sg_ g10 (x_add_i (a := (l.getD k default).At) (b := (l.getD k default).Length) rfl rfl (by omega) (by omega)) (sg_ g10 (x_gtr_i rfl rfl) ?_)))))
   exact cr_
  refine z_ (n_ ?_)
  refine if_ (fun h14 => ?_) (fun h14 => ?_)
  ·simp only [Bool.and_eq_true, Bool.or_eq_true, Bool.and_eq_false_iff, Bool.or_eq_false_iff, Bool.not_eq_true', Bool.not_eq_false', decide_eq_true_eq, decide_eq_false_iff_not] at h14
   refine q_ (g_ (s_ av_ (z_ (xk_ [0, 3, 8, 9, 10, 2] ?_))))
   refine n_ (rt_ (kq_ (nr_ (rr_ (kq_ (nr_ ?_))))))
   exact p1 Tryz.results21 rfl ⟨(eB c44a8_), rfl⟩
  ·have ⟨h14, h15⟩ := bor_false h14
   have ⟨h14, h16⟩ := bor_false h14
   have ⟨h14, h17⟩ := bor_false h14
   have ⟨h14, h18⟩ := bor_false h14
   have h14 := of_decide_eq_false h14
   have h18 := of_decide_eq_false h18
   have h17 := of_decide_eq_false h17
   have h16 := of_decide_eq_false h16
   have h15 := of_decide_eq_false h15
   refine sk_ (kx_ (n_ (g_ (s_ (x_add_n (a := k) (b := 1) rfl rfl (by omega)) (s_ mv_ (z_ ?_))))))
   refine JX_round (k + 1 : Nat) ?_ ?_ ⟨rfl, rfl, rfl, rfl, rfl, trivial⟩ (fun _ h => h.keep [false, true] rfl)
   ·try dsimp only
    refine ⟨?_, ?_⟩
    ·first | rfl | omega | (simp_all; done) | (simp_all; omega)
    ·intro i hi
     by_cases hik : i = k
     ·subst hik; exact R44.fok_good (by omega)
     ·exact i1_1 i (by omega)
   ·try dsimp only
    first | omega | (simp; omega) | (simp_all; omega)
 ·refine J_exit (ne_ (re_ (kh_ (n_ (q_ ?_)))))
  refine g_ (s_ mv_ (s_ (lnS Tryz.underlying24) (s_ (x_leq_i rfl rfl) (s_ av_ (z_ (n_ (rt_ ?_)))))))
  exact p1 Tryz.results21 rfl ⟨(eB c44a8_), rfl⟩
set_option maxRecDepth 20000 in
theorem f23_ok (l : List SortField) (lA : Option Addr) (lC : Nat) (w : World) (lR : RO [] w lA (l.flatMap SortField.enc)) (q0 : l.length ≤ 9223372036854775807) : Calls Tryz.prog 23 #[vL lA l.length lC] w (Gives [] w fun v L => v = vB (R44.valid l) ∧ L = []) := by
 refine calls_J [] 57 Tryz.func23 rfl Tryz.ntmps23 [(0, _)] rfl rfl (Give.nil w) ?_
 refine q_ (g_ (s_ av_ (z_ (n_ (q_ (q_ (g_ (s_ av_ (z_ (n_ (k_ ?_)))))))))))
 refine J_loop (X := Nat) (fun (k : Nat) => (k ≤ l.length) ∧ (∀ i, i < k → R44.fok (l.getD i default) = true)) (fun (k : Nat) => [(0, vL lA l.length lC), (3, vI ((k : Nat) : Int))]) (fun (k : Nat) => []) (fun (k : Nat) => l.length - k) (0 : Nat) ?_ ⟨rfl, rfl, trivial⟩ (fun _ h => h) ?_
 ·try dsimp only
  refine ⟨?_, ?_⟩
  ·first | rfl | omega | (simp_all; done) | (simp_all; omega)
  ·intro i hi; omega
 intro k hI1
 obtain ⟨i1_0, i1_1⟩ := hI1
 try dsimp only at i1_0
 try dsimp only at i1_1
 have hmo := R44.most_le (l.getD k default).Kind
 try dsimp only
 refine q_ (q_ (g_ (s_ mv_ (s_ mv_ (s_ (lnS Tryz.underlying24) (s_ (x_lss_i rfl rfl) (z_ (n_ ?_))))))))
 refine ifd (fun h1w h1 => ?_) (fun h1w h1 => ?_)
 ·refine sk_ (n_ (q_ (k_ (q_ (g_ (s_ mv_ (s_ mv_ (r_ (ixF SortField.enc_len (cells_ro lR) Tryz.underlying24 Ty.sz50) (r_ (ldFN SortField.enc_len (cells_ro lR) Ty.ag50 Ty.sz50) (o_ (al_ Ty.ze50 fun b2 => ?_)))))))))))
  refine o_ (stG 0 Ty.sz50 ?_)
  refine z_ (n_ (q_ (g_ (s_ av_ (z_ (n_ (q_ (q_ (g_ (s_ (fA 2 Ty.fi50_2) (r_ (ld_ 0 Ty.sc3) (s_ (x_eql_i rfl rfl) (z_ (n_ ?_))))))))))))))
  refine J_cutK (X := Int) (fun (m3 : Int) => m3 = (if (l.getD k default).Kind = 1 then (18 : Int) else (200 : Int))) (fun (m3 : Int) => [(0, vL lA l.length lC), (3, vI ((k : Nat) : Int)), (4, pB b2 0), (5, vI m3)]) (fun (m3 : Int) => [Ent.blk b2 50 (SortField.enc (l.getD k default))]) ?_ ?_
  ·refine if_ (fun h4 => ?_) (fun h4 => ?_)
   ·have h4r := h4
    have h4r := of_decide_eq_true h4r
    have h4 : ((l.getD k default).Kind = 1) := by exact h4r
    refine g_ (s_ av_ (z_ ?_))
    exact JX_cut ((18 : Int)) (if_pos h4).symm ⟨rfl, rfl, rfl, rfl, trivial⟩ (fun _ h => h)
   ·have h4r := h4
    have h4r := of_decide_eq_false h4r
    have h4 : ¬ ((l.getD k default).Kind = 1) := by exact h4r
    refine sk_ ?_
    exact JX_cut ((200 : Int)) (if_neg h4).symm ⟨rfl, rfl, rfl, rfl, trivial⟩ (fun _ h => h)
  rintro m3 rfl
  refine n_ (q_ (q_ (g_ (s_ (fA 2 Ty.fi50_2) (r_ (ld_ 0 Ty.sc3) (s_ (x_eql_i rfl rfl) (z_ (n_ ?_))))))))
  refine J_cutK (X := Int) (fun (m5 : Int) => m5 = (if (l.getD k default).Kind = 2 then (8 : Int) else (if (l.getD k default).Kind = 1 then (18 : Int) else (200 : Int)))) (fun (m5 : Int) => [(0, vL lA l.length lC), (3, vI ((k : Nat) : Int)), (4, pB b2 0), (5, vI m5)]) (fun (m5 : Int) => [Ent.blk b2 50 (SortField.enc (l.getD k default))]) ?_ ?_
  ·refine if_ (fun h6 => ?_) (fun h6 => ?_)
   ·have h6r := h6
    have h6r := of_decide_eq_true h6r
    have h6 : ((l.getD k default).Kind = 2) := by exact h6r
    refine g_ (s_ av_ (z_ ?_))
    exact JX_cut ((8 : Int)) (if_pos h6).symm ⟨rfl, rfl, rfl, rfl, trivial⟩ (fun _ h => h)
   ·have h6r := h6
    have h6r := of_decide_eq_false h6r
    have h6 : ¬ ((l.getD k default).Kind = 2) := by exact h6r
    refine sk_ ?_
    exact JX_cut ((if (l.getD k default).Kind = 1 then (18 : Int) else (200 : Int))) (if_neg h6).symm ⟨rfl, rfl, rfl, rfl, trivial⟩ (fun _ h => h)
  rintro m5 rfl
  refine n_ (q_ (g_ (s_ (fA 2 Ty.fi50_2) (r_ (ld_ 0 Ty.sc3) (s_ (x_lss_i rfl rfl) (s_ mv_ ?_))))))
  refine or_ 3 (decide ((2 : Int) < (l.getD k default).Kind)) (fun g7 => ?_) ?_
  ·have g7r := g7
   have g7r := of_decide_eq_false g7r
   refine sg_ g7 (fA 2 Ty.fi50_2) (rg_ g7 (ld_ 0 Ty.sc3) (sg_ g7 (x_gtr_i rfl rfl) ?_))
   exact cr_
  refine s_ mv_ ?_
  refine or_ 3 (decide ((l.getD k default).At < 0)) (fun g8 => ?_) ?_
  ·have g8r := g8
   have ⟨g8r, h9⟩ := bor_false g8r
   have g8r := of_decide_eq_false g8r
   have h9 := of_decide_eq_false h9
   refine sg_ g8 (fA 0 Ty.fi50_0) (rg_ g8 (ld_ 0 Ty.sc3) (sg_ g8 (x_lss_i rfl rfl) ?_))
   exact cr_
  refine s_ mv_ ?_
  refine or_ 3 (decide ((l.getD k default).Length < 1)) (fun g10 => ?_) ?_
  ·have g10r := g10
   have ⟨g10r, h11⟩ := bor_false g10r
   have ⟨g10r, h12⟩ := bor_false g10r
   have g10r := of_decide_eq_false g10r
   have h12 := of_decide_eq_false h12
   have h11 := of_decide_eq_false h11
   refine sg_ g10 (fA 1 Ty.fi50_1) (rg_ g10 (ld_ 0 Ty.sc3) (sg_ g10 (x_lss_i rfl rfl) ?_))
   exact cr_
  refine s_ mv_ ?_
  refine or_ 4 (decide ((if (l.getD k default).Kind = 2 then (8 : Int) else (if (l.getD k default).Kind = 1 then (18 : Int) else (200 : Int))) < (l.getD k default).Length)) (fun g13 => ?_) ?_
  ·have g13r := g13
   have ⟨g13r, h14⟩ := bor_false g13r
   have ⟨g13r, h15⟩ := bor_false g13r
   have ⟨g13r, h16⟩ := bor_false g13r
   have g13r := of_decide_eq_false g13r
   have h16 := of_decide_eq_false h16
   have h15 := of_decide_eq_false h15
   have h14 := of_decide_eq_false h14
   refine sg_ g13 (fA 1 Ty.fi50_1) (rg_ g13 (ld_ 0 Ty.sc3) (sg_ g13 mv_ (sg_ g13 (x_gtr_i rfl rfl) ?_)))
   exact cr_
  refine s_ mv_ ?_
  refine or_ 6 (decide (1000 - ((l.getD k default).Length) < (l.getD k default).At)) (fun g17 => ?_) ?_
  ·have g17r := g17
   have ⟨g17r, h18⟩ := bor_false g17r
   have ⟨g17r, h19⟩ := bor_false g17r
   have ⟨g17r, h20⟩ := bor_false g17r
   have ⟨g17r, h21⟩ := bor_false g17r
   have g17r := of_decide_eq_false g17r
   have h21 := of_decide_eq_false h21
   have h20 := of_decide_eq_false h20
   have h19 := of_decide_eq_false h19
   have h18 := of_decide_eq_false h18
   refine sg_ g17 (fA 0 Ty.fi50_0) (rg_ g17 (ld_ 0 Ty.sc3) (sg_ g17 (fA 1 Ty.fi50_1) (rg_ g17 (ld_ 0 Ty.sc3) (sg_ g17 (x_sub_i (a := 1000) (b := (l.getD k default).Length) rfl rfl (by omega) (by omega)) (sg_ g17 (x_gtr_i rfl rfl) ?_)))))
   exact cr_
  refine z_ (n_ ?_)
  refine if_ (fun h22 => ?_) (fun h22 => ?_)
  ·simp only [Bool.and_eq_true, Bool.or_eq_true, Bool.and_eq_false_iff, Bool.or_eq_false_iff, Bool.not_eq_true', Bool.not_eq_false', decide_eq_true_eq, decide_eq_false_iff_not] at h22
   refine q_ (g_ (s_ av_ (z_ (n_ (rt_ (kq_ (nr_ (rr_ (kq_ (nr_ ?_))))))))))
   exact p1 Tryz.results23 rfl ⟨(eB c44a9_), rfl⟩
  ·have ⟨h22, h23⟩ := bor_false h22
   have ⟨h22, h24⟩ := bor_false h22
   have ⟨h22, h25⟩ := bor_false h22
   have ⟨h22, h26⟩ := bor_false h22
   have ⟨h22, h27⟩ := bor_false h22
   have h22 := of_decide_eq_false h22
   have h27 := of_decide_eq_false h27
   have h26 := of_decide_eq_false h26
   have h25 := of_decide_eq_false h25
   have h24 := of_decide_eq_false h24
   have h23 := of_decide_eq_false h23
   refine sk_ (kx_ (n_ (g_ (s_ mv_ (s_ (x_add_n (a := k) (b := 1) rfl rfl (by omega)) (s_ av_ (z_ ?_)))))))
   refine JX_round (k + 1 : Nat) ?_ ?_ ⟨rfl, rfl, trivial⟩ (fun _ h => h.keep [false] rfl)
   ·try dsimp only
    refine ⟨?_, ?_⟩
    ·first | rfl | omega | (simp_all; done) | (simp_all; omega)
    ·have hmr := R44.most_ref (k := (l.getD k default).Kind) (by omega) (by omega) rfl rfl
     intro i hi
     by_cases hik : i = k
     ·subst hik; exact R44.fok_good (by omega)
     ·exact i1_1 i (by omega)
   ·try dsimp only
    first | omega | (simp; omega) | (simp_all; omega)
 ·refine J_exit (ne_ (re_ (kh_ (n_ (q_ ?_)))))
  refine g_ (s_ mv_ (s_ (lnS Tryz.underlying24) (s_ (x_leq_i rfl rfl) (s_ av_ (z_ (n_ (rt_ ?_)))))))
  exact p1 Tryz.results23 rfl ⟨(eB c44a9_), rfl⟩
set_option maxRecDepth 20000 in
theorem f83_ok (s : Bytes) (f : SortField) (w : World) (q0 : R44.fok f = true) (q1 : s.length ≤ 1000000000) : Calls Tryz.prog 83 #[vS s, vG (SortField.enc f)] w (Gives [] w fun v L => v = vS (R44.fld s f) ∧ L = []) := by
 have hff := R44.fok_facts q0
 have hfm := R44.most_le f.Kind
 refine calls_J [] 30 Tryz.func83 rfl Tryz.ntmps83 [(0, _), (1, _)] rfl rfl (Give.nil w) ?_
 refine q_ (g_ (o_ (bxG fun b1 => ?_)))
 refine s_ av_ (z_ (n_ (q_ (q_ (g_ (s_ (fA 0 Ty.fi50_0) (r_ (ld_ 0 Ty.sc3) (s_ mv_ (s_ (x_len_s rfl Tryz.underlying9) (s_ (x_geq_i rfl rfl) (z_ (n_ ?_))))))))))))
 refine ifd (fun h2w h2 => ?_) (fun h2w h2 => ?_)
 ·refine g_ (s_ av_ (z_ (n_ (q_ (g_ (s_ mv_ (s_ (fA 1 Ty.fi50_1) (r_ (ld_ 0 Ty.sc3) (s_ mv_ (s_ (x_len_s rfl Tryz.underlying9) (s_ (x_sub_i (a := f.Length) (b := 0) rfl rfl (by omega) (by omega)) (c0 (cl_ Ty.ca96) (fun w hS => repeat_spec [32] _ w hy_ hy_ hy_) ?_))))))))))))
  have ha3 := rep_length [32] (f.Length - 0).toNat
  try simp only [List.length_cons, List.length_nil, Nat.zero_add, Nat.reduceAdd, Nat.reduceMul] at ha3
  refine s_ (x_cat_s rfl rfl c44a2_) (s_ av_ (z_ (n_ (rt_ ?_))))
  exact p1 Tryz.results83 rfl ⟨(eS c44a10_), rfl⟩
 ·refine g_ (s_ mv_ (s_ (fA 0 Ty.fi50_0) (r_ (ld_ 0 Ty.sc3) (s_ mv_ (s_ (x_len_s rfl Tryz.underlying9) (s_ (fA 0 Ty.fi50_0) (r_ (ld_ 0 Ty.sc3) (s_ (fA 1 Ty.fi50_1) (r_ (ld_ 0 Ty.sc3) ?_)))))))))
  refine s_ (x_add_i (a := f.At) (b := f.Length) rfl rfl (by omega) (by omega)) (s_ (x_min_i (a := ((s.length : Nat) : Int)) (b := f.At + f.Length) rfl rfl) (s_ (x_sub_s (lo := (f.At).toNat) (hi := (min ((s.length : Nat) : Int) (f.At + f.Length)).toNat) rfl Tryz.underlying9 (.inl (lo_i (by omega))) (.inl (lo_i (by omega))) lt_ c44a4_) ?_))
  have hsl4 := sub_length s ((f.At).toNat) ((min ((s.length : Nat) : Int) (f.At + f.Length)).toNat) lt_
  refine s_ av_ (z_ (xk_ [0, 3, 4] ?_))
  refine n_ (q_ (g_ (s_ mv_ (s_ (fA 1 Ty.fi50_1) (r_ (ld_ 0 Ty.sc3) (s_ mv_ (s_ (x_len_s rfl Tryz.underlying9) (s_ (x_sub_i (a := f.Length) (b := (((sub s ((f.At).toNat) ((min ((s.length : Nat) : Int) (f.At + f.Length)).toNat)).length : Nat) : Int)) rfl rfl (by omega) (by omega)) (c0 (cl_ Ty.ca96) (fun w hS => repeat_spec [32] _ w hy_ hy_ hy_) ?_)))))))))
  have ha5 := rep_length [32] (f.Length - (((sub s ((f.At).toNat) ((min ((s.length : Nat) : Int) (f.At + f.Length)).toNat)).length : Nat) : Int)).toNat
  try simp only [List.length_cons, List.length_nil, Nat.zero_add, Nat.reduceAdd, Nat.reduceMul] at ha5
  refine s_ (x_cat_s rfl rfl c44a2_) (s_ av_ (z_ (n_ (rt_ ?_))))
  exact p1 Tryz.results83 rfl ⟨(eS c44a10_), rfl⟩
set_option maxRecDepth 20000 in
theorem f70_ok (s : Bytes) (f : SortField) (w : World) (q0 : R44.fok f = true) (q1 : s.length ≤ 1000000000) : Calls Tryz.prog 70 #[vS s, vG (SortField.enc f)] w (Gives [] w fun v L => v = vS (R44.fld s f) ∧ L = []) := by
 have hff := R44.fok_facts q0
 have hfm := R44.most_le f.Kind
 refine calls_J [] 32 Tryz.func70 rfl Tryz.ntmps70 [(0, _), (1, _)] rfl rfl (Give.nil w) ?_
 refine q_ (g_ (o_ (bxG fun b1 => ?_)))
 refine s_ av_ (z_ (n_ (q_ (g_ (s_ av_ (z_ (n_ (q_ (q_ (g_ (s_ (fA 0 Ty.fi50_0) (r_ (ld_ 0 Ty.sc3) (s_ av_ (z_ (n_ (k_ ?_))))))))))))))))
 refine J_loop (X := Nat × Int × Bytes) (fun (⟨j, i, out⟩ : Nat × Int × Bytes) => (i = f.At + j) ∧ (i ≤ f.At + f.Length) ∧ (out = R44.fldN s f.At.toNat j) ∧ (out.length = j)) (fun (⟨j, i, out⟩ : Nat × Int × Bytes) => [(0, vS s), (3, pB b1 0), (4, vS []), (5, vS out), (6, vI i)]) (fun (⟨j, i, out⟩ : Nat × Int × Bytes) => [Ent.blk b1 50 (SortField.enc f)]) (fun (⟨j, i, out⟩ : Nat × Int × Bytes) => (f.At + f.Length - i).toNat) ((0, f.At, []) : Nat × Int × Bytes) ?_ ⟨rfl, rfl, rfl, rfl, rfl, trivial⟩ (fun _ h => h) ?_
 ·try dsimp only
  refine ⟨?_, ?_, ?_, ?_⟩
  ·first | rfl | omega | (simp_all; done) | (simp_all; omega)
  ·first | rfl | omega | (simp_all; done) | (simp_all; omega)
  ·rfl
  ·rfl
 rintro ⟨j, i, out⟩ hI1
 obtain ⟨i1_0, i1_1, i1_2, i1_3⟩ := hI1
 try dsimp only at i1_0
 try dsimp only at i1_1
 try dsimp only at i1_2
 try dsimp only at i1_3
 try dsimp only
 refine q_ (q_ (g_ (s_ mv_ (s_ (fA 0 Ty.fi50_0) (r_ (ld_ 0 Ty.sc3) (s_ (fA 1 Ty.fi50_1) (r_ (ld_ 0 Ty.sc3) (s_ (x_add_i (a := f.At) (b := f.Length) rfl rfl (by omega) (by omega)) (s_ (x_lss_i rfl rfl) (z_ (n_ ?_)))))))))))
 refine ifd (fun h2w h2 => ?_) (fun h2w h2 => ?_)
 ·refine sk_ (n_ (q_ (k_ (q_ (g_ (s_ mv_ (s_ mv_ (s_ (x_len_s rfl Tryz.underlying9) (s_ (x_lss_i rfl rfl) (z_ (n_ ?_)))))))))))
  refine ifd (fun h3w h3 => ?_) (fun h3w h3 => ?_)
  ·refine g_ (s_ mv_ (s_ mv_ (s_ mv_ (s_ mv_ (s_ (x_add_i (a := i) (b := 1) rfl rfl (by omega) (by omega)) (s_ (x_sub_s (lo := (i).toNat) (hi := (i + 1).toNat) rfl Tryz.underlying9 (.inl (lo_i (by omega))) (.inl (lo_i (by omega))) lt_ c44a4_) ?_))))))
   have hsl4 := sub_length s ((i).toNat) ((i + 1).toNat) lt_
   refine s_ (x_cat_s rfl rfl c44a2_) (s_ av_ (z_ (kx_ (n_ (g_ (s_ mv_ (s_ (x_add_i (a := i) (b := 1) rfl rfl (by omega) (by omega)) (s_ av_ (z_ ?_)))))))))
   refine JX_round ((j + 1, i + 1, out ++ (sub s ((i).toNat) ((i + 1).toNat))) : Nat × Int × Bytes) ?_ ?_ ⟨rfl, rfl, rfl, rfl, rfl, trivial⟩ (fun _ h => h)
   ·try dsimp only
    refine ⟨?_, ?_, ?_, ?_⟩
    ·first | rfl | omega | (simp_all; done) | (simp_all; omega)
    ·first | rfl | omega | (simp_all; done) | (simp_all; omega)
    ·exact c44a13_
    ·rw [List.length_append, i1_3]; first | rfl | omega
   ·try dsimp only
    first | omega | (simp; omega) | (simp_all; omega)
  ·refine g_ (s_ mv_ (js_ (vS (out ++ [32])) (x_cat_s rfl rfl c44a2_) (s_ av_ (z_ (kx_ (n_ (g_ (s_ mv_ (s_ (x_add_i (a := i) (b := 1) rfl rfl (by omega) (by omega)) (s_ av_ (z_ ?_)))))))))))
   refine JX_round ((j + 1, i + 1, out ++ [32]) : Nat × Int × Bytes) ?_ ?_ ⟨rfl, rfl, rfl, rfl, rfl, trivial⟩ (fun _ h => h)
   ·try dsimp only
    refine ⟨?_, ?_, ?_, ?_⟩
    ·first | rfl | omega | (simp_all; done) | (simp_all; omega)
    ·first | rfl | omega | (simp_all; done) | (simp_all; omega)
    ·exact c44a13_
    ·rw [List.length_append, i1_3]; first | rfl | omega
   ·try dsimp only
    first | omega | (simp; omega) | (simp_all; omega)
 ·refine J_exit (ne_ (re_ (kh_ (n_ (q_ ?_)))))
  refine g_ (s_ mv_ (s_ av_ (z_ (n_ (rt_ ?_)))))
  exact p1 Tryz.results70 rfl ⟨(eS (by rw [i1_2, show j = f.Length.toNat by omega]; rfl)), rfl⟩
set_option maxRecDepth 20000 in
theorem f82_ok (x : Int) (w : World) : Calls Tryz.prog 82 #[vI x] w (Gives [] w fun v L => v = vB false ∧ L = []) := by
 refine calls_J [] 6 Tryz.func82 rfl Tryz.ntmps82 [(0, _)] rfl rfl (Give.nil w) ?_
 refine q_ (g_ (s_ av_ (z_ (n_ (q_ (g_ (s_ mv_ (s_ mv_ (s_ (x_neq_i rfl rfl) (s_ av_ (z_ (n_ (rt_ ?_)))))))))))))
 exact p1 Tryz.results82 rfl ⟨(eB (decide_eq_false (fun h => h rfl))), rfl⟩
set_option maxRecDepth 20000 in
theorem f99_ok (x : Int) (w : World) : Calls Tryz.prog 99 #[vI x] w (Gives [] w fun v L => v = vB false ∧ L = []) := by
 refine calls_J [] 6 Tryz.func99 rfl Tryz.ntmps99 [(0, _)] rfl rfl (Give.nil w) ?_
 refine q_ (g_ (s_ av_ (z_ (n_ (q_ (g_ (s_ mv_ (s_ mv_ (s_ (x_neq_i rfl rfl) (s_ av_ (z_ (n_ (rt_ ?_)))))))))))))
 exact p1 Tryz.results99 rfl ⟨(eB (decide_eq_false (fun h => h rfl))), rfl⟩
set_option maxRecDepth 20000 in
theorem f62_ok (x : Int) (y : Int) (w : World) : Calls Tryz.prog 62 #[vI x, vI y] w (Gives [] w fun v L => v = vI (R44.cmpI x y) ∧ L = []) := by
 refine calls_J [] 20 Tryz.func62 rfl Tryz.ntmps62 [(0, _), (1, _)] rfl rfl (Give.nil w) ?_
 refine q_ (g_ (s_ av_ (z_ (n_ (q_ (g_ (s_ mv_ (c0 (cl_ Ty.ca82) (fun w hS => f82_ok x w) (s_ av_ (z_ (n_ (q_ (g_ (s_ mv_ (c0 (cl_ Ty.ca82) (fun w hS => f82_ok y w) (s_ av_ ?_))))))))))))))))
 refine z_ (n_ (q_ (q_ (g_ (s_ mv_ (z_ (n_ (iff_ (sk_ (n_ (q_ (q_ (g_ (s_ mv_ (z_ (n_ (iff_ (sk_ (n_ (q_ (q_ (g_ (s_ mv_ (s_ mv_ (s_ (x_lss_i rfl rfl) ?_)))))))))))))))))))))))))
 refine z_ (n_ ?_)
 refine ifd (fun h1w h1 => ?_) (fun h1w h1 => ?_)
 ·refine q_ (g_ (s_ av_ (z_ (n_ (rt_ (nr_ ?_))))))
  exact p1 Tryz.results62 rfl ⟨(eI c44a0_), rfl⟩
 ·refine sk_ (n_ (q_ (q_ (g_ (s_ mv_ (s_ mv_ (s_ (x_gtr_i rfl rfl) (z_ (n_ ?_)))))))))
  refine ifd (fun h2w h2 => ?_) (fun h2w h2 => ?_)
  ·refine q_ (g_ (s_ av_ (z_ (n_ (rt_ (nr_ ?_))))))
   exact p1 Tryz.results62 rfl ⟨(eI c44a0_), rfl⟩
  ·refine sk_ (n_ (q_ (g_ (s_ av_ (z_ (n_ (rt_ ?_)))))))
   exact p1 Tryz.results62 rfl ⟨(eI c44a0_), rfl⟩
set_option maxRecDepth 20000 in
theorem f85_ok (x : Int) (y : Int) (w : World) : Calls Tryz.prog 85 #[vI x, vI y] w (Gives [] w fun v L => v = vI (R44.cmpI x y) ∧ L = []) := by
 refine calls_J [] 20 Tryz.func85 rfl Tryz.ntmps85 [(0, _), (1, _)] rfl rfl (Give.nil w) ?_
 refine q_ (g_ (s_ av_ (z_ (n_ (q_ (g_ (s_ mv_ (c0 (cl_ Ty.ca99) (fun w hS => f99_ok x w) (s_ av_ (z_ (n_ (q_ (g_ (s_ mv_ (c0 (cl_ Ty.ca99) (fun w hS => f99_ok y w) (s_ av_ ?_))))))))))))))))
 refine z_ (n_ (q_ (q_ (g_ (s_ mv_ (z_ (n_ (iff_ (sk_ (n_ (q_ (q_ (g_ (s_ mv_ (z_ (n_ (iff_ (sk_ (n_ (q_ (q_ (g_ (s_ mv_ (s_ mv_ (s_ (x_lss_i rfl rfl) ?_)))))))))))))))))))))))))
 refine z_ (n_ ?_)
 refine ifd (fun h1w h1 => ?_) (fun h1w h1 => ?_)
 ·refine q_ (g_ (s_ av_ (z_ (n_ (rt_ (nr_ ?_))))))
  exact p1 Tryz.results85 rfl ⟨(eI c44a0_), rfl⟩
 ·refine sk_ (n_ (q_ (q_ (g_ (s_ mv_ (s_ mv_ (s_ (x_gtr_i rfl rfl) (z_ (n_ ?_)))))))))
  refine ifd (fun h2w h2 => ?_) (fun h2w h2 => ?_)
  ·refine q_ (g_ (s_ av_ (z_ (n_ (rt_ (nr_ ?_))))))
   exact p1 Tryz.results85 rfl ⟨(eI c44a0_), rfl⟩
  ·refine sk_ (n_ (q_ (g_ (s_ av_ (z_ (n_ (rt_ ?_)))))))
   exact p1 Tryz.results85 rfl ⟨(eI c44a0_), rfl⟩
set_option maxRecDepth 20000 in
theorem f72_ok (x : Int) (y : Int) (w : World) : Calls Tryz.prog 72 #[vI x, vI y] w (Gives [] w fun v L => v = vI (R44.cmpI x y) ∧ L = []) := by
 refine calls_J [] 11 Tryz.func72 rfl Tryz.ntmps72 [(0, _), (1, _)] rfl rfl (Give.nil w) ?_
 refine q_ (g_ (s_ av_ (z_ (n_ (q_ (q_ (g_ (s_ mv_ (s_ mv_ (s_ (x_lss_i rfl rfl) (z_ (n_ ?_))))))))))))
 refine ifd (fun h1w h1 => ?_) (fun h1w h1 => ?_)
 ·refine q_ (g_ (s_ av_ (z_ (n_ (rt_ (nr_ ?_))))))
  exact p1 Tryz.results72 rfl ⟨(eI c44a0_), rfl⟩
 ·refine sk_ (n_ (q_ (q_ (g_ (s_ mv_ (s_ mv_ (s_ (x_gtr_i rfl rfl) (z_ (n_ ?_)))))))))
  refine ifd (fun h2w h2 => ?_) (fun h2w h2 => ?_)
  ·refine q_ (g_ (s_ av_ (z_ (n_ (rt_ (nr_ ?_))))))
   exact p1 Tryz.results72 rfl ⟨(eI c44a0_), rfl⟩
  ·refine sk_ (n_ (q_ (g_ (s_ av_ (z_ (n_ (rt_ ?_)))))))
   exact p1 Tryz.results72 rfl ⟨(eI c44a0_), rfl⟩
set_option maxRecDepth 20000 in
theorem f84_ok (s : Bytes) (w : World) (q0 : s.length ≤ 18) : Calls Tryz.prog 84 #[vS s] w (Gives [] w fun v L => v = Value.tuple #[vI ((R44.dec s).getD 0), vB ((R44.dec s).isSome)] ∧ L = []) := by
 refine calls_J [] 42 Tryz.func84 rfl Tryz.ntmps84 [(0, _)] rfl rfl (Give.nil w) ?_
 refine q_ (g_ (s_ av_ (s_ av_ (z_ (n_ (q_ (g_ (s_ mv_ (c0 (cl_ Ty.ca97) (fun w hS => trim_ok s w hy_) ?_)))))))))
 have ha1 := R44.trims_len s
 refine s_ av_ (z_ (n_ (q_ (g_ (s_ mv_ (c0 (cl_ Ty.ca98) (fun w hS => cutp_ok _ w) ?_))))))
 have ha2 := R44.cutM_len (R44.trimR (R44.trimL s))
 refine s_ mv_ (s_ (ex_ 0) (s_ (ex_ 1) (s_ av_ (s_ av_ (z_ (n_ (q_ (q_ (g_ (s_ mv_ (js_ (vB (decide ((R44.cutM (R44.trimR (R44.trimL s))).1 = ([] : Bytes)))) (x_eql_s rfl rfl) (z_ (n_ ?_)))))))))))))
 refine ifd (fun h3w h3 => ?_) (fun h3w h3 => ?_)
 ·try have hi4 := R44.digP h3w
  try have hi5 := R44.digN h3w
  refine q_ (g_ (s_ av_ (s_ av_ (z_ (n_ (rt_ (nr_ ?_)))))))
  exact p2 Tryz.results84 rfl rfl ⟨t2 (eI c44a1_) (eB c44a1_), rfl⟩
 ·try have hi6 := R44.digP h3w
  try have hi7 := R44.digN h3w
  have h3l := List.length_pos_iff.2 h3
  refine sk_ (n_ (q_ (g_ (s_ av_ (z_ (n_ (q_ (q_ (g_ (s_ mv_ (o_ (O_str_bytes ((R44.cutM (R44.trimR (R44.trimL s))).1) rfl Tryz.underlying9 Tryz.underlying120 Tryz.underlying5 fun b8 c9 z10 hz11 => ?_))))))))))))
  refine s_ (lnS Tryz.underlying120) (s_ mv_ (z_ (n_ (k_ ?_))))
  refine J_loop (X := Nat × Int) (fun (⟨k, n⟩ : Nat × Int) => (R44.num ((R44.cutM (R44.trimR (R44.trimL s))).1.drop k) n = R44.num (R44.cutM (R44.trimR (R44.trimL s))).1 0) ∧ (k ≤ (R44.cutM (R44.trimR (R44.trimL s))).1.length) ∧ (0 ≤ n) ∧ (n < 10 ^ k)) (fun (⟨k, n⟩ : Nat × Int) => [(5, vB ((R44.cutM (R44.trimR (R44.trimL s))).2)), (6, vI n), (19, vL (some ⟨b8, 0, none⟩) (((R44.cutM (R44.trimR (R44.trimL s))).1).length) c9), (20, vI ((((R44.cutM (R44.trimR (R44.trimL s))).1).length : Nat) : Int)), (21, vI ((k : Nat) : Int))]) (fun (⟨k, n⟩ : Nat × Int) => [Ent.blk b8 5 ((((R44.cutM (R44.trimR (R44.trimL s))).1) ++ List.replicate z10 (0 : UInt8)).map vU8) (((R44.cutM (R44.trimR (R44.trimL s))).1).length + z10, ((R44.cutM (R44.trimR (R44.trimL s))).1).length + z10 + 1)]) (fun (⟨k, n⟩ : Nat × Int) => (R44.cutM (R44.trimR (R44.trimL s))).1.length - k) ((0, 0) : Nat × Int) ?_ ⟨rfl, rfl, rfl, rfl, rfl, trivial⟩ (fun _ h => h) ?_
  ·try dsimp only
   refine ⟨?_, ?_, ?_, ?_⟩
   ·rfl
   ·first | rfl | omega | (simp_all; done) | (simp_all; omega)
   ·first | rfl | omega | (simp_all; done) | (simp_all; omega)
   ·decide
  rintro ⟨k, n⟩ hI1
  obtain ⟨i1_0, i1_1, i1_2, i1_3⟩ := hI1
  try dsimp only at i1_0
  try dsimp only at i1_1
  try dsimp only at i1_2
  try dsimp only at i1_3
  have hpl := R44.pow_or (k := k) (by omega)
  try dsimp only
  refine q_ (g_ (s_ (x_lss_i rfl rfl) (z_ (n_ (q_ ?_)))))
  refine ifd (fun h12w h12 => ?_) (fun h12w h12 => ?_)
  ·try have hi13 := R44.digP h12w
   try have hi14 := R44.digN h12w
   refine sk_ (n_ (q_ (k_ (q_ (g_ (s_ (x_indexAddr_sl (k := k) Tryz.underlying120 Ty.sz5 rfl rfl lt_ (add_0k1 _ _)) (r_ (x_load_arr 0 vU8 0 rfl rfl Ty.sc5 lt_) (s_ av_ (z_ (n_ (q_ (q_ (g_ (s_ mv_ (js_ (vB (decide (((((R44.cutM (R44.trimR (R44.trimL s))).1) ++ List.replicate z10 (0 : UInt8)).getD k 0) < (48 : UInt8)))) (x_lss_u8 rfl rfl) (s_ mv_ ?_))))))))))))))))
   refine or_ 2 (decide ((57 : UInt8) < ((((R44.cutM (R44.trimR (R44.trimL s))).1) ++ List.replicate z10 (0 : UInt8)).getD k 0))) (fun g15 => ?_) ?_
   ·have g15r := g15
    have g15r := of_decide_eq_false g15r
    have g15ru := g15r
    try simp only [UInt8.lt_iff_toNat_lt, UInt8.le_iff_toNat_le, UInt8.reduceToNat, UInt32.lt_iff_toNat_lt, UInt32.le_iff_toNat_le, UInt32.reduceToNat, UInt64.lt_iff_toNat_lt, UInt64.le_iff_toNat_le, UInt64.reduceToNat] at g15ru
    refine sg_ g15 mv_ (jg_ g15 (vB (decide ((57 : UInt8) < ((((R44.cutM (R44.trimR (R44.trimL s))).1) ++ List.replicate z10 (0 : UInt8)).getD k 0)))) (x_gtr_u8 rfl rfl) ?_)
    exact cr_
   refine z_ (n_ ?_)
   refine if_ (fun h16 => ?_) (fun h16 => ?_)
   ·have h16w := h16
    try have hi17 := R44.digP h16w
    try have hi18 := R44.digN h16w
    simp only [Bool.and_eq_true, Bool.or_eq_true, Bool.and_eq_false_iff, Bool.or_eq_false_iff, Bool.not_eq_true', Bool.not_eq_false', decide_eq_true_eq, decide_eq_false_iff_not] at h16
    refine q_ (g_ (s_ av_ (s_ av_ (z_ (n_ (rt_ (nr_ (kq_ (nr_ (rr_ (kq_ (nr_ ?_))))))))))))
    exact p2 Tryz.results84 rfl rfl ⟨t2 (eI c44a1_) (eB c44a1_), rfl⟩
   ·have h16w := h16
    try have hi19 := R44.digP h16w
    try have hi20 := R44.digN h16w
    have ⟨h16, h21⟩ := bor_false h16
    have h16 := of_decide_eq_false h16
    have h16u := h16
    try simp only [UInt8.lt_iff_toNat_lt, UInt8.le_iff_toNat_le, UInt8.reduceToNat, UInt32.lt_iff_toNat_lt, UInt32.le_iff_toNat_le, UInt32.reduceToNat, UInt64.lt_iff_toNat_lt, UInt64.le_iff_toNat_le, UInt64.reduceToNat] at h16u
    have h21 := of_decide_eq_false h21
    have h21u := h21
    try simp only [UInt8.lt_iff_toNat_lt, UInt8.le_iff_toNat_le, UInt8.reduceToNat, UInt32.lt_iff_toNat_lt, UInt32.le_iff_toNat_le, UInt32.reduceToNat, UInt64.lt_iff_toNat_lt, UInt64.le_iff_toNat_le, UInt64.reduceToNat] at h21u
    refine sk_ (n_ (g_ (s_ mv_ (s_ (x_mul_i (a := 10) (b := n) rfl rfl (by omega) (by omega)) (s_ mv_ (js_ (vU8 (((((R44.cutM (R44.trimR (R44.trimL s))).1) ++ List.replicate z10 (0 : UInt8)).getD k 0) - 48)) (x_sub_u8 rfl rfl) (s_ (x_conv_u8_i64 rfl Tryz.underlying5 Tryz.underlying2) (s_ (x_add_i (a := 10 * n) (b := (((((((R44.cutM (R44.trimR (R44.trimL s))).1) ++ List.replicate z10 (0 : UInt8)).getD k 0) - 48).toNat : Nat) : Int)) rfl rfl lt_ lt_) (s_ av_ (z_ (kx_ (n_ (g_ (s_ (x_add_n (a := k) (b := 1) rfl rfl (by omega)) ?_))))))))))))))
    refine s_ mv_ (z_ ?_)
    refine JX_round ((k + 1, (10 * n) + (((((((R44.cutM (R44.trimR (R44.trimL s))).1) ++ List.replicate z10 (0 : UInt8)).getD k 0) - 48).toNat : Nat) : Int)) : Nat × Int) ?_ ?_ ⟨rfl, rfl, rfl, rfl, rfl, trivial⟩ (fun _ h => h)
    ·try dsimp only
     refine ⟨?_, ?_, ?_, ?_⟩
     ·rw [← i1_0]; exact R44.num_stepP (by omega) (by omega) (by omega)
     ·first | rfl | omega | (simp_all; done) | (simp_all; omega)
     ·exact (R44.pow_stepP i1_2 i1_3 (by omega) (by omega)).1
     ·exact (R44.pow_stepP i1_2 i1_3 (by omega) (by omega)).2
    ·try dsimp only
     first | omega | (simp; omega) | (simp_all; omega)
  ·try have hi22 := R44.digP h12w
   try have hi23 := R44.digN h12w
   refine J_exit (ne_ (re_ (kh_ (n_ (q_ ?_)))))
   refine q_ (g_ (s_ mv_ (z_ (n_ ?_))))
   refine if_ (fun h24 => ?_) (fun h24 => ?_)
   ·have h24w := h24
    try have hi25 := R44.digP h24w
    try have hi26 := R44.digN h24w
    refine g_ (s_ mv_ (s_ (x_neg_i (a := n) rfl (by omega) (by omega)) (s_ av_ (z_ (n_ (q_ (g_ (s_ mv_ (s_ av_ (s_ av_ (z_ (n_ (rt_ ?_)))))))))))))
    exact p2 Tryz.results84 rfl rfl ⟨t2 (eI c44a1_) (eB c44a1_), rfl⟩
   ·have h24w := h24
    try have hi27 := R44.digP h24w
    try have hi28 := R44.digN h24w
    refine sk_ (n_ (q_ (g_ (s_ mv_ (s_ av_ (s_ av_ (z_ (n_ (rt_ ?_)))))))))
    exact p2 Tryz.results84 rfl rfl ⟨t2 (eI c44a1_) (eB c44a1_), rfl⟩
set_option maxRecDepth 20000 in
theorem f86_ok (s : Bytes) (w : World) (q0 : 0 < s.length) (q1 : s.length ≤ 8) : Calls Tryz.prog 86 #[vS s] w (Gives [] w fun v L => v = vI (R44.bin s) ∧ L = []) := by
 refine calls_J [] 25 Tryz.func86 rfl Tryz.ntmps86 [(0, _)] rfl rfl (Give.nil w) ?_
 refine q_ (g_ (s_ av_ (z_ (n_ (q_ (g_ (s_ mv_ (s_ (x_idx_s (k := 0) rfl rfl Tryz.underlying9 (by omega)) (s_ (x_conv_u8_i8 rfl Tryz.underlying5 Tryz.underlying134) (s_ (x_conv_i8_i64 rfl Tryz.underlying134 Tryz.underlying2 (int8_lt _).1 (int8_lt _).2) (s_ av_ (z_ (n_ (q_ (q_ (g_ (s_ mv_ ?_)))))))))))))))))
 refine s_ (x_sub_s (lo := 1) (hi := s.length) rfl Tryz.underlying9 (.inl rfl) (.inr ⟨rfl, rfl⟩) lt_ c44a4_) ?_
 have hsl1 := sub_length s 1 s.length lt_
 refine o_ (O_str_bytes (sub s 1 s.length) rfl Tryz.underlying9 Tryz.underlying120 Tryz.underlying5 fun b2 c3 z4 hz5 => ?_)
 refine s_ (lnS Tryz.underlying120) (s_ mv_ (z_ (n_ (k_ ?_))))
 refine J_loop (X := Nat × Int) (fun (⟨k, n⟩ : Nat × Int) => (k ≤ s.length - 1) ∧ (n = R44.bin (s.take (k + 1)))) (fun (⟨k, n⟩ : Nat × Int) => [(2, vI 0), (3, vI n), (12, vL (some ⟨b2, 0, none⟩) ((sub s 1 s.length).length) c3), (13, vI (((sub s 1 s.length).length : Nat) : Int)), (14, vI ((k : Nat) : Int))]) (fun (⟨k, n⟩ : Nat × Int) => [Ent.blk b2 5 (((sub s 1 s.length) ++ List.replicate z4 (0 : UInt8)).map vU8) ((sub s 1 s.length).length + z4, (sub s 1 s.length).length + z4 + 1)]) (fun (⟨k, n⟩ : Nat × Int) => s.length - 1 - k) ((0, (int8 (s.getD 0 0))) : Nat × Int) ?_ ⟨rfl, rfl, rfl, rfl, rfl, trivial⟩ (fun _ h => h) ?_
 ·try dsimp only
  refine ⟨?_, ?_⟩
  ·first | rfl | omega | (simp_all; done) | (simp_all; omega)
  ·exact R44.bin_first q0
 rintro ⟨k, n⟩ hI1
 obtain ⟨i1_0, i1_1⟩ := hI1
 try dsimp only at i1_0
 try dsimp only at i1_1
 have hbb := R44.bin_or (k := k) q0 q1
 try dsimp only
 refine q_ (g_ (s_ (x_lss_i rfl rfl) (z_ (n_ (q_ ?_)))))
 refine ifd (fun h6w h6 => ?_) (fun h6w h6 => ?_)
 ·refine sk_ (n_ (q_ (k_ (q_ (g_ (s_ (x_indexAddr_sl (k := k) Tryz.underlying120 Ty.sz5 rfl rfl lt_ (add_0k1 _ _)) (r_ (x_load_arr 0 vU8 0 rfl rfl Ty.sc5 lt_) (s_ av_ (z_ (n_ (g_ (s_ mv_ (js_ (vI (n * 2 ^ 8)) (x_shl_i (a := n) (m := 8) rfl rfl (by decide) (by omega) (by omega)) (s_ mv_ (s_ (x_conv_u8_i64 rfl Tryz.underlying5 Tryz.underlying2) (s_ (x_or_hi (n := n) (a := n * 2 ^ 8) (c := (((sub s 1 s.length) ++ List.replicate z4 (0 : UInt8)).getD k 0).toNat) rfl rfl (by omega) (by first | omega | exact UInt8.toNat_lt _ | (simp; omega)) (by omega) (by omega)) ?_))))))))))))))))
  refine s_ av_ (z_ (kx_ (n_ (g_ (s_ (x_add_n (a := k) (b := 1) rfl rfl (by omega)) (s_ mv_ (z_ ?_)))))))
  refine JX_round ((k + 1, (n * 2 ^ 8) + (((((sub s 1 s.length) ++ List.replicate z4 (0 : UInt8)).getD k 0).toNat : Nat) : Int)) : Nat × Int) ?_ ?_ ⟨rfl, rfl, rfl, rfl, rfl, trivial⟩ (fun _ h => h)
  ·try dsimp only
   refine ⟨?_, ?_⟩
   ·first | rfl | omega | (simp_all; done) | (simp_all; omega)
   ·exact R44.bin_stepP (by omega) q0 i1_1
  ·try dsimp only
   first | omega | (simp; omega) | (simp_all; omega)
 ·refine J_exit (ne_ (re_ (kh_ (n_ (q_ ?_)))))
  refine g_ (s_ mv_ (s_ av_ (z_ (n_ (rt_ ?_)))))
  exact p1 Tryz.results86 rfl ⟨(eI (by rw [i1_1, show k + 1 = s.length by omega, List.take_length])), rfl⟩
set_option maxRecDepth 20000 in
theorem f71_ok (s : Bytes) (w : World) (q0 : s.length ≤ 18) : Calls Tryz.prog 71 #[vS s] w (Gives [] w fun v L => ∃ n : Int, ∃ ok : Bool, v = Value.tuple #[vI n, vB ok] ∧ L = [] ∧ (R44.RefNum s n ok)) := by
 refine calls_J [] 84 Tryz.func71 rfl Tryz.ntmps71 [(0, _)] rfl rfl (Give.nil w) ?_
 refine q_ (g_ (s_ av_ (s_ av_ (z_ (n_ (q_ (g_ (s_ av_ (s_ av_ (s_ av_ (s_ av_ (z_ (n_ (q_ (k_ ?_)))))))))))))))
 refine J_loop (X := Nat) (fun (i : Nat) => (i ≤ s.length) ∧ (R44.trimL (s.drop i) = R44.trimL s)) (fun (i : Nat) => [(0, vS s), (2, vI 0), (3, vB false), (4, vI ((i : Nat) : Int)), (5, vI 0), (6, vI 0), (7, vB false)]) (fun (i : Nat) => []) (fun (i : Nat) => s.length - i) (0 : Nat) ?_ ⟨rfl, rfl, rfl, rfl, rfl, rfl, rfl, trivial⟩ (fun _ h => h) ?_
 ·try dsimp only
  refine ⟨?_, ?_⟩
  ·first | rfl | omega | (simp_all; done) | (simp_all; omega)
  ·rfl
 intro i hI1
 obtain ⟨i1_0, i1_1⟩ := hI1
 try dsimp only at i1_0
 try dsimp only at i1_1
 try dsimp only
 refine q_ (q_ (g_ (s_ mv_ (s_ mv_ (s_ (x_len_s rfl Tryz.underlying9) (s_ (x_lss_i rfl rfl) (s_ mv_ ?_)))))))
 refine and_ 4 (decide (s.getD i 0 = (32 : UInt8))) (fun g1 => ?_) ?_
 ·have g1r := g1
  have g1r := of_decide_eq_true g1r
  refine sg_ g1 mv_ (sg_ g1 mv_ (sg_ g1 (x_idx_s (k := i) rfl rfl Tryz.underlying9 (by omega)) (jg_ g1 (vB (decide (s.getD i 0 = (32 : UInt8)))) (x_eql_u8 rfl rfl) ?_)))
  exact cr_
 refine z_ (n_ ?_)
 refine if_ (fun h2 => ?_) (fun h2 => ?_)
 ·have h2w := h2
  try have hi3 := R44.dig2 h2w
  try have hi4 := R44.dig2n h2w
  try have hi5 := R44.bl2 h2w
  try have hi6 := R44.bl2n h2w
  try have hi7 := R44.sg2 h2w
  try have hi8 := R44.sg2n h2w
  have ⟨h2, h9⟩ := band_true h2
  have h2 := of_decide_eq_true h2
  have h9 := of_decide_eq_true h9
  refine sk_ (n_ (k_ (g_ (s_ mv_ (s_ (x_add_n (a := i) (b := 1) rfl rfl (by omega)) (s_ av_ (z_ (kx_ ?_))))))))
  refine JX_round (i + 1 : Nat) ?_ ?_ ⟨rfl, rfl, rfl, rfl, rfl, rfl, rfl, trivial⟩ (fun _ h => h)
  ·try dsimp only
   refine ⟨?_, ?_⟩
   ·first | rfl | omega | (simp_all; done) | (simp_all; omega)
   ·rw [← i1_1]; exact (R44.trimL_step (by omega) (by simp_all)).symm
  ·try dsimp only
   first | omega | (simp; omega) | (simp_all; omega)
 ·have h2w := h2
  try have hi10 := R44.dig2 h2w
  try have hi11 := R44.dig2n h2w
  try have hi12 := R44.bl2 h2w
  try have hi13 := R44.bl2n h2w
  try have hi14 := R44.sg2 h2w
  try have hi15 := R44.sg2n h2w
  simp only [Bool.and_eq_true, Bool.or_eq_true, Bool.and_eq_false_iff, Bool.or_eq_false_iff, Bool.not_eq_true', Bool.not_eq_false', decide_eq_true_eq, decide_eq_false_iff_not] at h2
  refine J_exit (ne_ (re_ (kh_ (n_ (q_ ?_)))))
  refine q_ (g_ (s_ mv_ (s_ mv_ (s_ (x_len_s rfl Tryz.underlying9) (s_ (x_lss_i rfl rfl) (s_ mv_ ?_))))))
  refine and_ 4 (decide (s.getD i 0 = (45 : UInt8))) (fun g16 => ?_) ?_
  ·have g16r := g16
   have g16r := of_decide_eq_true g16r
   refine sg_ g16 mv_ (sg_ g16 mv_ (sg_ g16 (x_idx_s (k := i) rfl rfl Tryz.underlying9 (by omega)) (jg_ g16 (vB (decide (s.getD i 0 = (45 : UInt8)))) (x_eql_u8 rfl rfl) ?_)))
   exact cr_
  refine z_ (n_ ?_)
  refine if_ (fun h17 => ?_) (fun h17 => ?_)
  ·have h17w := h17
   try have hi18 := R44.dig2 h17w
   try have hi19 := R44.dig2n h17w
   try have hi20 := R44.bl2 h17w
   try have hi21 := R44.bl2n h17w
   try have hi22 := R44.sg2 h17w
   try have hi23 := R44.sg2n h17w
   have ⟨h17, h24⟩ := band_true h17
   have h17 := of_decide_eq_true h17
   have h24 := of_decide_eq_true h24
   refine q_ (g_ (s_ av_ (z_ (n_ (g_ (s_ mv_ (s_ (x_add_n (a := i) (b := 1) rfl rfl (by omega)) (s_ av_ (z_ (xk_ [0, 2, 3, 4, 5, 6, 7] ?_))))))))))
   refine n_ (q_ (k_ ?_))
   refine J_loop (X := Nat × Int × Nat) (fun (⟨i2, n, dg⟩ : Nat × Int × Nat) => (i + 1 ≤ i2) ∧ (i2 ≤ s.length) ∧ (dg = i2 - (i + 1)) ∧ (n = R44.val (sub s (i + 1) i2)) ∧ (∀ c ∈ sub s (i + 1) i2, R44.isDig c = true) ∧ (0 ≤ n) ∧ (n < 10 ^ dg)) (fun (⟨i2, n, dg⟩ : Nat × Int × Nat) => [(0, vS s), (2, vI 0), (3, vB false), (4, vI ((i2 : Nat) : Int)), (5, vI n), (6, vI ((dg : Nat) : Int)), (7, vB true)]) (fun (⟨i2, n, dg⟩ : Nat × Int × Nat) => []) (fun (⟨i2, n, dg⟩ : Nat × Int × Nat) => s.length - i2) ((i + 1, 0, 0) : Nat × Int × Nat) ?_ ⟨rfl, rfl, rfl, rfl, rfl, rfl, rfl, trivial⟩ (fun _ h => h) ?_
   ·try dsimp only
    refine ⟨?_, ?_, ?_, ?_, ?_, ?_, ?_⟩
    ·first | rfl | omega | (simp_all; done) | (simp_all; omega)
    ·first | rfl | omega | (simp_all; done) | (simp_all; omega)
    ·first | rfl | omega | (simp_all; done) | (simp_all; omega)
    ·rw [R44.sub_none]; rfl
    ·intro c hc; rw [R44.sub_none] at hc; cases hc
    ·first | rfl | omega | (simp_all; done) | (simp_all; omega)
    ·decide
   rintro ⟨i2, n, dg⟩ hI2
   obtain ⟨i2_0, i2_1, i2_2, i2_3, i2_4, i2_5, i2_6⟩ := hI2
   try dsimp only at i2_0
   try dsimp only at i2_1
   try dsimp only at i2_2
   try dsimp only at i2_3
   try dsimp only at i2_4
   try dsimp only at i2_5
   try dsimp only at i2_6
   have hpl := R44.pow_or (k := dg) (by omega)
   try dsimp only
   refine q_ (q_ (g_ (s_ mv_ (s_ mv_ (s_ (x_len_s rfl Tryz.underlying9) (s_ (x_lss_i rfl rfl) (s_ mv_ ?_)))))))
   refine and_ 4 (decide ((48 : UInt8) ≤ s.getD i2 0)) (fun g25 => ?_) ?_
   ·have g25r := g25
    have g25r := of_decide_eq_true g25r
    refine sg_ g25 mv_ (sg_ g25 mv_ (sg_ g25 (x_idx_s (k := i2) rfl rfl Tryz.underlying9 (by omega)) (jg_ g25 (vB (decide ((48 : UInt8) ≤ s.getD i2 0))) (x_geq_u8 rfl rfl) ?_)))
    exact cr_
   refine s_ mv_ ?_
   refine and_ 4 (decide (s.getD i2 0 ≤ (57 : UInt8))) (fun g26 => ?_) ?_
   ·have g26r := g26
    have ⟨g26r, h27⟩ := band_true g26r
    have g26r := of_decide_eq_true g26r
    have h27 := of_decide_eq_true h27
    have h27u := h27
    try simp only [UInt8.lt_iff_toNat_lt, UInt8.le_iff_toNat_le, UInt8.reduceToNat, UInt32.lt_iff_toNat_lt, UInt32.le_iff_toNat_le, UInt32.reduceToNat, UInt64.lt_iff_toNat_lt, UInt64.le_iff_toNat_le, UInt64.reduceToNat] at h27u
    refine sg_ g26 mv_ (sg_ g26 mv_ (sg_ g26 (x_idx_s (k := i2) rfl rfl Tryz.underlying9 (by omega)) (jg_ g26 (vB (decide (s.getD i2 0 ≤ (57 : UInt8)))) (x_leq_u8 rfl rfl) ?_)))
    exact cr_
   refine z_ (n_ ?_)
   refine if_ (fun h28 => ?_) (fun h28 => ?_)
   ·have h28w := h28
    try have hi29 := R44.dig2 h28w
    try have hi30 := R44.dig2n h28w
    try have hi31 := R44.bl2 h28w
    try have hi32 := R44.bl2n h28w
    try have hi33 := R44.sg2 h28w
    try have hi34 := R44.sg2n h28w
    have ⟨h28, h35⟩ := band_true h28
    have ⟨h28, h36⟩ := band_true h28
    have h28 := of_decide_eq_true h28
    have h36 := of_decide_eq_true h36
    have h36u := h36
    try simp only [UInt8.lt_iff_toNat_lt, UInt8.le_iff_toNat_le, UInt8.reduceToNat, UInt32.lt_iff_toNat_lt, UInt32.le_iff_toNat_le, UInt32.reduceToNat, UInt64.lt_iff_toNat_lt, UInt64.le_iff_toNat_le, UInt64.reduceToNat] at h36u
    have h35 := of_decide_eq_true h35
    have h35u := h35
    try simp only [UInt8.lt_iff_toNat_lt, UInt8.le_iff_toNat_le, UInt8.reduceToNat, UInt32.lt_iff_toNat_lt, UInt32.le_iff_toNat_le, UInt32.reduceToNat, UInt64.lt_iff_toNat_lt, UInt64.le_iff_toNat_le, UInt64.reduceToNat] at h35u
    refine sk_ (n_ (k_ (q_ (g_ (s_ mv_ (s_ (x_mul_i (a := 10) (b := n) rfl rfl (by omega) (by omega)) (s_ mv_ (s_ mv_ (s_ (x_idx_s (k := i2) rfl rfl Tryz.underlying9 (by omega)) (js_ (vU8 ((s.getD i2 0) - 48)) (x_sub_u8 rfl rfl) (s_ (x_conv_u8_i64 rfl Tryz.underlying5 Tryz.underlying2) (s_ (x_add_i (a := 10 * n) (b := ((((s.getD i2 0) - 48).toNat : Nat) : Int)) rfl rfl (by omega) (by omega)) (s_ av_ ?_)))))))))))))
    refine z_ (xk_ [0, 2, 3, 4, 5, 6, 7] ?_)
    refine n_ (q_ (g_ (s_ mv_ (s_ (x_add_n (a := dg) (b := 1) rfl rfl (by omega)) (s_ av_ (z_ (n_ (g_ (s_ mv_ (s_ (x_add_n (a := i2) (b := 1) rfl rfl (by omega)) (s_ av_ (z_ (kx_ ?_)))))))))))))
    refine JX_round ((i2 + 1, (10 * n) + ((((s.getD i2 0) - 48).toNat : Nat) : Int), dg + 1) : Nat × Int × Nat) ?_ ?_ ⟨rfl, rfl, rfl, rfl, rfl, rfl, rfl, trivial⟩ (fun _ h => h)
    ·try dsimp only
     refine ⟨?_, ?_, ?_, ?_, ?_, ?_, ?_⟩
     ·first | rfl | omega | (simp_all; done) | (simp_all; omega)
     ·first | rfl | omega | (simp_all; done) | (simp_all; omega)
     ·first | rfl | omega | (simp_all; done) | (simp_all; omega)
     ·exact R44.val_step (by omega) (by omega) (by omega) i2_3
     ·exact R44.digs_step (by omega) (by omega) (by omega) (by omega) i2_4
     ·exact (R44.pow_stepP i2_5 i2_6 (by omega) (by omega)).1
     ·exact (R44.pow_stepP i2_5 i2_6 (by omega) (by omega)).2
    ·try dsimp only
     first | omega | (simp; omega) | (simp_all; omega)
   ·have h28w := h28
    try have hi37 := R44.dig2 h28w
    try have hi38 := R44.dig2n h28w
    try have hi39 := R44.bl2 h28w
    try have hi40 := R44.bl2n h28w
    try have hi41 := R44.sg2 h28w
    try have hi42 := R44.sg2n h28w
    simp only [Bool.and_eq_true, Bool.or_eq_true, Bool.and_eq_false_iff, Bool.or_eq_false_iff, Bool.not_eq_true', Bool.not_eq_false', decide_eq_true_eq, decide_eq_false_iff_not] at h28
    refine J_exit (ne_ (re_ (kh_ (n_ (q_ ?_)))))
    refine k_ ?_
    refine J_loop (X := Nat) (fun (i3 : Nat) => (i3 ≤ s.length) ∧ (R44.trimL (s.drop i3) = R44.trimL (s.drop i2))) (fun (i3 : Nat) => [(0, vS s), (2, vI 0), (3, vB false), (4, vI ((i3 : Nat) : Int)), (5, vI n), (6, vI ((dg : Nat) : Int)), (7, vB true)]) (fun (i3 : Nat) => []) (fun (i3 : Nat) => s.length - i3) (i2 : Nat) ?_ ⟨rfl, rfl, rfl, rfl, rfl, rfl, rfl, trivial⟩ (fun _ h => h) ?_
    ·try dsimp only
     refine ⟨?_, ?_⟩
     ·first | rfl | omega | (simp_all; done) | (simp_all; omega)
     ·rfl
    intro i3 hI3
    obtain ⟨i3_0, i3_1⟩ := hI3
    try dsimp only at i3_0
    try dsimp only at i3_1
    try dsimp only
    refine q_ (q_ (g_ (s_ mv_ (s_ mv_ (s_ (x_len_s rfl Tryz.underlying9) (s_ (x_lss_i rfl rfl) (s_ mv_ ?_)))))))
    refine and_ 4 (decide (s.getD i3 0 = (32 : UInt8))) (fun g43 => ?_) ?_
    ·have g43r := g43
     have g43r := of_decide_eq_true g43r
     refine sg_ g43 mv_ (sg_ g43 mv_ (sg_ g43 (x_idx_s (k := i3) rfl rfl Tryz.underlying9 (by omega)) (jg_ g43 (vB (decide (s.getD i3 0 = (32 : UInt8)))) (x_eql_u8 rfl rfl) ?_)))
     exact cr_
    refine z_ (n_ ?_)
    refine if_ (fun h44 => ?_) (fun h44 => ?_)
    ·have h44w := h44
     try have hi45 := R44.dig2 h44w
     try have hi46 := R44.dig2n h44w
     try have hi47 := R44.bl2 h44w
     try have hi48 := R44.bl2n h44w
     try have hi49 := R44.sg2 h44w
     try have hi50 := R44.sg2n h44w
     have ⟨h44, h51⟩ := band_true h44
     have h44 := of_decide_eq_true h44
     have h51 := of_decide_eq_true h51
     refine sk_ (n_ (k_ (g_ (s_ mv_ (s_ (x_add_n (a := i3) (b := 1) rfl rfl (by omega)) (s_ av_ (z_ (kx_ ?_))))))))
     refine JX_round (i3 + 1 : Nat) ?_ ?_ ⟨rfl, rfl, rfl, rfl, rfl, rfl, rfl, trivial⟩ (fun _ h => h)
     ·try dsimp only
      refine ⟨?_, ?_⟩
      ·first | rfl | omega | (simp_all; done) | (simp_all; omega)
      ·rw [← i3_1]; exact (R44.trimL_step (by omega) (by simp_all)).symm
     ·try dsimp only
      first | omega | (simp; omega) | (simp_all; omega)
    ·have h44w := h44
     try have hi52 := R44.dig2 h44w
     try have hi53 := R44.dig2n h44w
     try have hi54 := R44.bl2 h44w
     try have hi55 := R44.bl2n h44w
     try have hi56 := R44.sg2 h44w
     try have hi57 := R44.sg2n h44w
     simp only [Bool.and_eq_true, Bool.or_eq_true, Bool.and_eq_false_iff, Bool.or_eq_false_iff, Bool.not_eq_true', Bool.not_eq_false', decide_eq_true_eq, decide_eq_false_iff_not] at h44
     refine J_exit (ne_ (re_ (kh_ (n_ (q_ ?_)))))
     refine q_ (g_ (s_ mv_ (z_ (n_ (ift (g_ (s_ mv_ (s_ (x_neg_i (a := n) rfl (by omega) (by omega)) (s_ av_ (z_ (n_ (q_ (g_ (s_ mv_ (s_ mv_ (s_ (x_gtr_i rfl rfl) ?_))))))))))))))))
     refine s_ mv_ ?_
     refine and_ 4 (decide (((i3 : Nat) : Int) = ((s.length : Nat) : Int))) (fun g58 => ?_) ?_
     ·have g58r := g58
      have g58r := of_decide_eq_true g58r
      refine sg_ g58 mv_ (sg_ g58 mv_ (sg_ g58 (x_len_s rfl Tryz.underlying9) (sg_ g58 (x_eql_i rfl rfl) ?_)))
      exact cr_
     refine s_ av_ (s_ av_ (z_ (xk_ [2, 3] ?_)))
     refine n_ (rt_ ?_)
     refine JX_rets [_, _] (Value.tuple #[_, _]) Tryz.results71 (fun w h => ⟨rfl, rfl, trivial⟩) rfl _ (fun _ h => h) ⟨-n, ((decide ((0 : Int) < ((dg : Nat) : Int))) && (decide (((i3 : Nat) : Int) = ((s.length : Nat) : Int)))), ?_, ?_, ?_⟩
     ·rfl
     ·rfl
     ·exact c44a14_
  ·have h17w := h17
   try have hi59 := R44.dig2 h17w
   try have hi60 := R44.dig2n h17w
   try have hi61 := R44.bl2 h17w
   try have hi62 := R44.bl2n h17w
   try have hi63 := R44.sg2 h17w
   try have hi64 := R44.sg2n h17w
   simp only [Bool.and_eq_true, Bool.or_eq_true, Bool.and_eq_false_iff, Bool.or_eq_false_iff, Bool.not_eq_true', Bool.not_eq_false', decide_eq_true_eq, decide_eq_false_iff_not] at h17
   refine sk_ (n_ (q_ (k_ ?_)))
   refine J_loop (X := Nat × Int × Nat) (fun (⟨i2, n, dg⟩ : Nat × Int × Nat) => (i ≤ i2) ∧ (i2 ≤ s.length) ∧ (dg = i2 - (i)) ∧ (n = R44.val (sub s (i) i2)) ∧ (∀ c ∈ sub s (i) i2, R44.isDig c = true) ∧ (0 ≤ n) ∧ (n < 10 ^ dg)) (fun (⟨i2, n, dg⟩ : Nat × Int × Nat) => [(0, vS s), (2, vI 0), (3, vB false), (4, vI ((i2 : Nat) : Int)), (5, vI n), (6, vI ((dg : Nat) : Int)), (7, vB false)]) (fun (⟨i2, n, dg⟩ : Nat × Int × Nat) => []) (fun (⟨i2, n, dg⟩ : Nat × Int × Nat) => s.length - i2) ((i, 0, 0) : Nat × Int × Nat) ?_ ⟨rfl, rfl, rfl, rfl, rfl, rfl, rfl, trivial⟩ (fun _ h => h) ?_
   ·try dsimp only
    refine ⟨?_, ?_, ?_, ?_, ?_, ?_, ?_⟩
    ·first | rfl | omega | (simp_all; done) | (simp_all; omega)
    ·first | rfl | omega | (simp_all; done) | (simp_all; omega)
    ·first | rfl | omega | (simp_all; done) | (simp_all; omega)
    ·rw [R44.sub_none]; rfl
    ·intro c hc; rw [R44.sub_none] at hc; cases hc
    ·first | rfl | omega | (simp_all; done) | (simp_all; omega)
    ·decide
   rintro ⟨i2, n, dg⟩ hI2
   obtain ⟨i2_0, i2_1, i2_2, i2_3, i2_4, i2_5, i2_6⟩ := hI2
   try dsimp only at i2_0
   try dsimp only at i2_1
   try dsimp only at i2_2
   try dsimp only at i2_3
   try dsimp only at i2_4
   try dsimp only at i2_5
   try dsimp only at i2_6
   have hpl := R44.pow_or (k := dg) (by omega)
   try dsimp only
   refine q_ (q_ (g_ (s_ mv_ (s_ mv_ (s_ (x_len_s rfl Tryz.underlying9) (s_ (x_lss_i rfl rfl) (s_ mv_ ?_)))))))
   refine and_ 4 (decide ((48 : UInt8) ≤ s.getD i2 0)) (fun g65 => ?_) ?_
   ·have g65r := g65
    have g65r := of_decide_eq_true g65r
    refine sg_ g65 mv_ (sg_ g65 mv_ (sg_ g65 (x_idx_s (k := i2) rfl rfl Tryz.underlying9 (by omega)) (jg_ g65 (vB (decide ((48 : UInt8) ≤ s.getD i2 0))) (x_geq_u8 rfl rfl) ?_)))
    exact cr_
   refine s_ mv_ ?_
   refine and_ 4 (decide (s.getD i2 0 ≤ (57 : UInt8))) (fun g66 => ?_) ?_
   ·have g66r := g66
    have ⟨g66r, h67⟩ := band_true g66r
    have g66r := of_decide_eq_true g66r
    have h67 := of_decide_eq_true h67
    have h67u := h67
    try simp only [UInt8.lt_iff_toNat_lt, UInt8.le_iff_toNat_le, UInt8.reduceToNat, UInt32.lt_iff_toNat_lt, UInt32.le_iff_toNat_le, UInt32.reduceToNat, UInt64.lt_iff_toNat_lt, UInt64.le_iff_toNat_le, UInt64.reduceToNat] at h67u
    refine sg_ g66 mv_ (sg_ g66 mv_ (sg_ g66 (x_idx_s (k := i2) rfl rfl Tryz.underlying9 (by omega)) (jg_ g66 (vB (decide (s.getD i2 0 ≤ (57 : UInt8)))) (x_leq_u8 rfl rfl) ?_)))
    exact cr_
   refine z_ (n_ ?_)
   refine if_ (fun h68 => ?_) (fun h68 => ?_)
   ·have h68w := h68
    try have hi69 := R44.dig2 h68w
    try have hi70 := R44.dig2n h68w
    try have hi71 := R44.bl2 h68w
    try have hi72 := R44.bl2n h68w
    try have hi73 := R44.sg2 h68w
    try have hi74 := R44.sg2n h68w
    have ⟨h68, h75⟩ := band_true h68
    have ⟨h68, h76⟩ := band_true h68
    have h68 := of_decide_eq_true h68
    have h76 := of_decide_eq_true h76
    have h76u := h76
    try simp only [UInt8.lt_iff_toNat_lt, UInt8.le_iff_toNat_le, UInt8.reduceToNat, UInt32.lt_iff_toNat_lt, UInt32.le_iff_toNat_le, UInt32.reduceToNat, UInt64.lt_iff_toNat_lt, UInt64.le_iff_toNat_le, UInt64.reduceToNat] at h76u
    have h75 := of_decide_eq_true h75
    have h75u := h75
    try simp only [UInt8.lt_iff_toNat_lt, UInt8.le_iff_toNat_le, UInt8.reduceToNat, UInt32.lt_iff_toNat_lt, UInt32.le_iff_toNat_le, UInt32.reduceToNat, UInt64.lt_iff_toNat_lt, UInt64.le_iff_toNat_le, UInt64.reduceToNat] at h75u
    refine sk_ (n_ (k_ (q_ (g_ (s_ mv_ (s_ (x_mul_i (a := 10) (b := n) rfl rfl (by omega) (by omega)) (s_ mv_ (s_ mv_ (s_ (x_idx_s (k := i2) rfl rfl Tryz.underlying9 (by omega)) (js_ (vU8 ((s.getD i2 0) - 48)) (x_sub_u8 rfl rfl) (s_ (x_conv_u8_i64 rfl Tryz.underlying5 Tryz.underlying2) (s_ (x_add_i (a := 10 * n) (b := ((((s.getD i2 0) - 48).toNat : Nat) : Int)) rfl rfl (by omega) (by omega)) (s_ av_ ?_)))))))))))))
    refine z_ (xk_ [0, 2, 3, 4, 5, 6, 7] ?_)
    refine n_ (q_ (g_ (s_ mv_ (s_ (x_add_n (a := dg) (b := 1) rfl rfl (by omega)) (s_ av_ (z_ (n_ (g_ (s_ mv_ (s_ (x_add_n (a := i2) (b := 1) rfl rfl (by omega)) (s_ av_ (z_ (kx_ ?_)))))))))))))
    refine JX_round ((i2 + 1, (10 * n) + ((((s.getD i2 0) - 48).toNat : Nat) : Int), dg + 1) : Nat × Int × Nat) ?_ ?_ ⟨rfl, rfl, rfl, rfl, rfl, rfl, rfl, trivial⟩ (fun _ h => h)
    ·try dsimp only
     refine ⟨?_, ?_, ?_, ?_, ?_, ?_, ?_⟩
     ·first | rfl | omega | (simp_all; done) | (simp_all; omega)
     ·first | rfl | omega | (simp_all; done) | (simp_all; omega)
     ·first | rfl | omega | (simp_all; done) | (simp_all; omega)
     ·exact R44.val_step (by omega) (by omega) (by omega) i2_3
     ·exact R44.digs_step (by omega) (by omega) (by omega) (by omega) i2_4
     ·exact (R44.pow_stepP i2_5 i2_6 (by omega) (by omega)).1
     ·exact (R44.pow_stepP i2_5 i2_6 (by omega) (by omega)).2
    ·try dsimp only
     first | omega | (simp; omega) | (simp_all; omega)
   ·have h68w := h68
    try have hi77 := R44.dig2 h68w
    try have hi78 := R44.dig2n h68w
    try have hi79 := R44.bl2 h68w
    try have hi80 := R44.bl2n h68w
    try have hi81 := R44.sg2 h68w
    try have hi82 := R44.sg2n h68w
    simp only [Bool.and_eq_true, Bool.or_eq_true, Bool.and_eq_false_iff, Bool.or_eq_false_iff, Bool.not_eq_true', Bool.not_eq_false', decide_eq_true_eq, decide_eq_false_iff_not] at h68
    refine J_exit (ne_ (re_ (kh_ (n_ (q_ ?_)))))
    refine k_ ?_
    refine J_loop (X := Nat) (fun (i3 : Nat) => (i3 ≤ s.length) ∧ (R44.trimL (s.drop i3) = R44.trimL (s.drop i2))) (fun (i3 : Nat) => [(0, vS s), (2, vI 0), (3, vB false), (4, vI ((i3 : Nat) : Int)), (5, vI n), (6, vI ((dg : Nat) : Int)), (7, vB false)]) (fun (i3 : Nat) => []) (fun (i3 : Nat) => s.length - i3) (i2 : Nat) ?_ ⟨rfl, rfl, rfl, rfl, rfl, rfl, rfl, trivial⟩ (fun _ h => h) ?_
    ·try dsimp only
     refine ⟨?_, ?_⟩
     ·first | rfl | omega | (simp_all; done) | (simp_all; omega)
     ·rfl
    intro i3 hI3
    obtain ⟨i3_0, i3_1⟩ := hI3
    try dsimp only at i3_0
    try dsimp only at i3_1
    try dsimp only
    refine q_ (q_ (g_ (s_ mv_ (s_ mv_ (s_ (x_len_s rfl Tryz.underlying9) (s_ (x_lss_i rfl rfl) (s_ mv_ ?_)))))))
    refine and_ 4 (decide (s.getD i3 0 = (32 : UInt8))) (fun g83 => ?_) ?_
    ·have g83r := g83
     have g83r := of_decide_eq_true g83r
     refine sg_ g83 mv_ (sg_ g83 mv_ (sg_ g83 (x_idx_s (k := i3) rfl rfl Tryz.underlying9 (by omega)) (jg_ g83 (vB (decide (s.getD i3 0 = (32 : UInt8)))) (x_eql_u8 rfl rfl) ?_)))
     exact cr_
    refine z_ (n_ ?_)
    refine if_ (fun h84 => ?_) (fun h84 => ?_)
    ·have h84w := h84
     try have hi85 := R44.dig2 h84w
     try have hi86 := R44.dig2n h84w
     try have hi87 := R44.bl2 h84w
     try have hi88 := R44.bl2n h84w
     try have hi89 := R44.sg2 h84w
     try have hi90 := R44.sg2n h84w
     have ⟨h84, h91⟩ := band_true h84
     have h84 := of_decide_eq_true h84
     have h91 := of_decide_eq_true h91
     refine sk_ (n_ (k_ (g_ (s_ mv_ (s_ (x_add_n (a := i3) (b := 1) rfl rfl (by omega)) (s_ av_ (z_ (kx_ ?_))))))))
     refine JX_round (i3 + 1 : Nat) ?_ ?_ ⟨rfl, rfl, rfl, rfl, rfl, rfl, rfl, trivial⟩ (fun _ h => h)
     ·try dsimp only
      refine ⟨?_, ?_⟩
      ·first | rfl | omega | (simp_all; done) | (simp_all; omega)
      ·rw [← i3_1]; exact (R44.trimL_step (by omega) (by simp_all)).symm
     ·try dsimp only
      first | omega | (simp; omega) | (simp_all; omega)
    ·have h84w := h84
     try have hi92 := R44.dig2 h84w
     try have hi93 := R44.dig2n h84w
     try have hi94 := R44.bl2 h84w
     try have hi95 := R44.bl2n h84w
     try have hi96 := R44.sg2 h84w
     try have hi97 := R44.sg2n h84w
     simp only [Bool.and_eq_true, Bool.or_eq_true, Bool.and_eq_false_iff, Bool.or_eq_false_iff, Bool.not_eq_true', Bool.not_eq_false', decide_eq_true_eq, decide_eq_false_iff_not] at h84
     refine J_exit (ne_ (re_ (kh_ (n_ (q_ ?_)))))
     refine q_ (g_ (s_ mv_ (z_ (n_ (iff_ (sk_ (n_ (q_ (g_ (s_ mv_ (s_ mv_ (s_ (x_gtr_i rfl rfl) (s_ mv_ ?_)))))))))))))
     refine and_ 4 (decide (((i3 : Nat) : Int) = ((s.length : Nat) : Int))) (fun g98 => ?_) ?_
     ·have g98r := g98
      have g98r := of_decide_eq_true g98r
      refine sg_ g98 mv_ (sg_ g98 mv_ (sg_ g98 (x_len_s rfl Tryz.underlying9) (sg_ g98 (x_eql_i rfl rfl) ?_)))
      exact cr_
     refine s_ av_ (s_ av_ (z_ (n_ (rt_ ?_))))
     refine JX_rets [_, _] (Value.tuple #[_, _]) Tryz.results71 (fun w h => ⟨rfl, rfl, trivial⟩) rfl _ (fun _ h => h) ⟨n, ((decide ((0 : Int) < ((dg : Nat) : Int))) && (decide (((i3 : Nat) : Int) = ((s.length : Nat) : Int)))), ?_, ?_, ?_⟩
     ·rfl
     ·rfl
     ·exact c44a14_
end Go.Proofs.YtnfglkgahlaofaaGreatDoor
