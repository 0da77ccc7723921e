/- contracts C26a -/
import Derived.Test.YtmbinhhlfbgiaaaGreatUpgradeUnique3
import Derived.Test.YtmbinhhlfbgiaaaGreatUpgradeUnique5
import Derived.Test.YtmbinhhlfbgiaaaGreatUpgradeUnique4
namespace Go.Proofs.YtmbinhhlfbgiaaaGreat
open Go.GV
set_option linter.unusedVariables false
set_option linter.unusedSimpArgs false
theorem c26a0_ {p : Prop} (h : p := by rw [if_pos hO]; simp only [Bool.and_eq_true, decide_eq_true_eq]; omega) : p := h
theorem c26a1_ {p : Prop} (h : p := by rw [if_neg hO]; simp only [Bool.and_eq_true, decide_eq_true_eq]; omega) : p := h
theorem c26a2_ {p : Prop} (h : p := by first | exact R16.zeros_bad (k := k) (by omega) (by assumption) | exact R16.zeros_end i1_0 (by assumption) i1_1) : p := h
set_option maxRecDepth 20000 in
theorem f92_ok (n : Int) (lo : Int) (hi : Int) (w : World) : Calls Tryz.prog 92 #[vI n, vI lo, vI hi] w (Gives [] w fun v L => v = vB ((decide (lo ≤ n)) && (decide (n ≤ hi))) ∧ L = []) := by
 refine calls_J [] 15 Tryz.func92 rfl Tryz.ntmps92 [(0, _), (1, _), (2, _)] rfl rfl (Give.nil w) ?_
 refine q_ (g_ (s_ av_ (z_ (n_ (q_ (g_ (s_ mv_ (s_ mv_ (s_ (x_geq_i rfl rfl) (s_ mv_ ?_))))))))))
 refine and_ 3 (decide (n ≤ hi)) (fun g1 => ?_) ?_
 ·have g1r := g1
  have g1r := of_decide_eq_true g1r
  refine sg_ g1 mv_ (sg_ g1 mv_ (sg_ g1 (x_leq_i rfl rfl) ?_))
  exact cr_
 refine s_ av_ (z_ (n_ (rt_ ?_)))
 exact p1 Tryz.results92 rfl ⟨rfl, rfl⟩
set_option maxRecDepth 20000 in
theorem f68_ok (n : Int) (lo : Int) (hi : Int) (w : World) : Calls Tryz.prog 68 #[vI n, vI lo, vI hi] w (Gives [] w fun v L => v = vB ((decide (lo ≤ n)) && (decide (n ≤ hi))) ∧ L = []) := by
 refine calls_J [] 15 Tryz.func68 rfl Tryz.ntmps68 [(0, _), (1, _), (2, _)] rfl rfl (Give.nil w) ?_
 refine q_ (g_ (s_ av_ (z_ (n_ (q_ (g_ (s_ mv_ (s_ mv_ (s_ (x_geq_i rfl rfl) (s_ mv_ ?_))))))))))
 refine and_ 3 (decide (n ≤ hi)) (fun g1 => ?_) ?_
 ·have g1r := g1
  have g1r := of_decide_eq_true g1r
  refine sg_ g1 mv_ (sg_ g1 mv_ (sg_ g1 (x_leq_i rfl rfl) ?_))
  exact cr_
 refine s_ av_ (z_ (n_ (rt_ ?_)))
 exact p1 Tryz.results68 rfl ⟨rfl, rfl⟩
set_option maxRecDepth 20000 in
theorem f80_ok (n : Int) (lo : Int) (hi : Int) (w : World) : Calls Tryz.prog 80 #[vI n, vI lo, vI hi] w (Gives [] w fun v L => v = vB ((decide (lo ≤ n)) && (decide (n ≤ hi))) ∧ L = []) := by
 refine calls_J [] 15 Tryz.func80 rfl Tryz.ntmps80 [(0, _), (1, _), (2, _)] rfl rfl (Give.nil w) ?_
 refine q_ (g_ (s_ av_ (z_ (n_ (q_ (g_ (s_ mv_ (s_ mv_ (s_ (x_geq_i rfl rfl) (s_ mv_ ?_))))))))))
 refine and_ 3 (decide (n ≤ hi)) (fun g1 => ?_) ?_
 ·have g1r := g1
  have g1r := of_decide_eq_true g1r
  refine sg_ g1 mv_ (sg_ g1 mv_ (sg_ g1 (x_leq_i rfl rfl) ?_))
  exact cr_
 refine s_ av_ (z_ (n_ (rt_ ?_)))
 exact p1 Tryz.results80 rfl ⟨rfl, rfl⟩
set_option maxRecDepth 20000 in
theorem f93_ok (l : List Int) (lA : Option Addr) (lC : Nat) (w : World) (lR : RO [] w lA (l.map vI)) (q0 : l.length ≤ 9223372036854775807) : Calls Tryz.prog 93 #[vL lA l.length lC] w (Gives [] w fun v L => v = vB (R16.zeros l) ∧ L = []) := by
 refine calls_J [] 14 Tryz.func93 rfl Tryz.ntmps93 [(0, _)] rfl rfl (Give.nil w) ?_
 refine q_ (g_ (s_ av_ (z_ (n_ (q_ (q_ (g_ (s_ mv_ (s_ (lnS Tryz.underlying150) (s_ mv_ (z_ (n_ (k_ ?_)))))))))))))
 refine J_loop (X := Nat) (fun (k : Nat) => (k ≤ l.length) ∧ (∀ i, i < k → l.getD i 0 = 0)) (fun (k : Nat) => [(5, vL lA l.length lC), (6, vI ((l.length : Nat) : Int)), (7, vI ((k : Nat) : Int))]) (fun (k : Nat) => []) (fun (k : Nat) => l.length - k) (0 : Nat) ?_ ⟨rfl, rfl, rfl, trivial⟩ (fun _ h => h) ?_
 ·try dsimp only
  refine ⟨?_, ?_⟩
  ·first | rfl | omega | (simp_all; done) | (simp_all; omega)
  ·intro i hi; omega
 intro k hI1
 obtain ⟨i1_0, i1_1⟩ := hI1
 try dsimp only at i1_0
 try dsimp only at i1_1
 try dsimp only
 refine q_ (g_ (s_ (x_lss_i rfl rfl) (z_ (n_ (q_ ?_)))))
 refine ifd (fun h1w h1 => ?_) (fun h1w h1 => ?_)
 ·refine sk_ (n_ (q_ (k_ (q_ (g_ (r_ (ixM (cells_ro lR) Tryz.underlying150 Ty.sz3) (r_ (ldM vI 0 (cells_ro lR) Ty.sc3) (s_ av_ (z_ (n_ (q_ (g_ (s_ mv_ (s_ (x_neq_i rfl rfl) (z_ (n_ ?_))))))))))))))))
  refine ifd (fun h2w h2 => ?_) (fun h2w h2 => ?_)
  ·refine q_ (g_ (s_ av_ (z_ (n_ (rt_ (kq_ (nr_ (rr_ (kq_ (nr_ ?_))))))))))
   exact p1 Tryz.results93 rfl ⟨(eB c26a2_), rfl⟩
  ·refine sk_ (kx_ (n_ (g_ (s_ (x_add_n (a := k) (b := 1) rfl rfl (by omega)) (s_ mv_ (z_ ?_))))))
   refine JX_round (k + 1 : Nat) ?_ ?_ ⟨rfl, rfl, rfl, trivial⟩ (fun _ h => h)
   ·try dsimp only
    refine ⟨?_, ?_⟩
    ·first | rfl | omega | (simp_all; done) | (simp_all; omega)
    ·intro i hi; by_cases hik : i = k
     ·subst hik; simp_all
     ·exact i1_1 i (by omega)
   ·try dsimp only
    first | omega | (simp; omega) | (simp_all; omega)
 ·refine J_exit (ne_ (re_ (kh_ (n_ (q_ ?_)))))
  refine g_ (s_ av_ (z_ (n_ (rt_ ?_))))
  exact p1 Tryz.results93 rfl ⟨(eB c26a2_), rfl⟩
set_option maxRecDepth 20000 in
theorem f65_ok (d : DataSet) (w : World) : Calls Tryz.prog 65 #[vG (DataSet.enc d)] w (Gives [] w fun v L => v = vB (R16.valid d) ∧ L = []) := by
 refine calls_J [] 112 Tryz.func65 rfl Tryz.ntmps65 [(0, _)] rfl rfl (Give.nil w) ?_
 refine q_ (g_ (o_ (bxG fun b1 => ?_)))
 refine s_ av_ (z_ (n_ (q_ (g_ (js_ (vG [vI 128, vI 256, vI 512]) (x_build (by kernel_rfl)) (o_ (al_ Ty.ze129 fun b2 => ?_)))))))
 refine o_ (stG 0 Ty.sz129 ?_)
 refine z_ (n_ (q_ (g_ (s_ av_ (z_ (n_ (q_ (q_ (g_ (r_ (ldN 0 [vI 128, vI 256, vI 512] Ty.ag129 Ty.sz129) (s_ mv_ (z_ (n_ (k_ ?_))))))))))))))
 refine J_loop (X := Nat × Bool) (fun (⟨k, kn⟩ : Nat × Bool) => (k ≤ 3) ∧ (kn = (([128, 256, 512] : List Int).take k).any fun n => decide (d.Interval = n))) (fun (⟨k, kn⟩ : Nat × Bool) => [(1, pB b1 0), (2, vB false), (4, vB kn), (8, vG [vI 128, vI 256, vI 512]), (9, vI ((k : Nat) : Int))]) (fun (⟨k, kn⟩ : Nat × Bool) => [Ent.blk b1 23 (DataSet.enc d)]) (fun (⟨k, kn⟩ : Nat × Bool) => 3 - k) ((0, false) : Nat × Bool) ?_ ⟨rfl, rfl, rfl, rfl, rfl, trivial⟩ (fun _ h => h.keep [false, true] rfl) ?_
 ·try dsimp only
  refine ⟨?_, ?_⟩
  ·first | rfl | omega | (simp_all; done) | (simp_all; omega)
  ·rfl
 rintro ⟨k, kn⟩ hI1
 obtain ⟨i1_0, i1_1⟩ := hI1
 try dsimp only at i1_0
 try dsimp only at i1_1
 try dsimp only
 refine q_ (g_ (s_ (x_lss_i rfl rfl) (z_ (n_ (q_ ?_)))))
 refine ifd (fun h3w h3 => ?_) (fun h3w h3 => ?_)
 ·refine sk_ (n_ (q_ (k_ (q_ (g_ (s_ (x_idx_arr vI (xs := ([128, 256, 512] : List Int)) (d := 0) (k := k) rfl rfl Tryz.underlying129 Ty.sc3 Ty.sz3 rfl lt_) (s_ av_ (z_ (n_ (g_ (s_ mv_ (s_ mv_ ?_))))))))))))
  refine or_ 4 (decide (d.Interval = (([128, 256, 512] : List Int).getD k 0))) (fun g4 => ?_) ?_
  ·have g4r := g4
   refine sg_ g4 (fA 7 Ty.fi23_7) (rg_ g4 (ld_ 0 Ty.sc3) (sg_ g4 mv_ (sg_ g4 (x_eql_i rfl rfl) ?_)))
   exact cr_
  refine s_ av_ (z_ (kx_ (n_ (g_ (s_ (x_add_n (a := k) (b := 1) rfl rfl (by omega)) (s_ mv_ (z_ ?_)))))))
  refine JX_round ((k + 1, kn || (decide (d.Interval = (([128, 256, 512] : List Int).getD k 0)))) : Nat × Bool) ?_ ?_ ⟨rfl, rfl, rfl, rfl, rfl, trivial⟩ (fun _ h => h)
  ·try dsimp only
   refine ⟨?_, ?_⟩
   ·first | rfl | omega | (simp_all; done) | (simp_all; omega)
   ·rw [i1_1]; exact R16.known_step (by omega)
  ·try dsimp only
   first | omega | (simp; omega) | (simp_all; omega)
 ·refine J_exit (ne_ (re_ ?_))
  have hkn : kn = true → (d.Interval = 128 ∨ d.Interval = 256 ∨ d.Interval = 512) := by intro h; rw [i1_1, show k = 3 by omega] at h; simpa using h
  refine kh_ (n_ (q_ (q_ (g_ (s_ mv_ (s_ (x_not rfl) (s_ mv_ ?_)))))))
  refine or_ 4 (!((decide (1 ≤ d.Org)) && (decide (d.Org ≤ 3)))) (fun g5 => ?_) ?_
  ·have g5r := g5
   have g5r : (kn) = true := bnot_false g5r
   have hi6 := hkn g5r
   refine sg_ g5 (fA 1 Ty.fi23_1) (rg_ g5 (ld_ 0 Ty.sc3) (c0g g5 (cl_ Ty.ca92) (fun w hS => f92_ok _ 1 3 w) (sg_ g5 (x_not rfl) ?_)))
   exact cr_
  refine s_ mv_ ?_
  refine or_ 8 (!((decide (1 ≤ d.Length)) && (decide (d.Length ≤ (min 200 (d.Interval - 7)))))) (fun g7 => ?_) ?_
  ·have g7r := g7
   have ⟨g7r, h8⟩ := bor_false g7r
   have g7r : (kn) = true := bnot_false g7r
   have hi9 := hkn g7r
   have h8 : ((decide (1 ≤ d.Org)) && (decide (d.Org ≤ 3))) = true := bnot_false h8
   have ⟨h8, h10⟩ := band_true h8
   have h8 := of_decide_eq_true h8
   have h10 := of_decide_eq_true h10
   refine sg_ g7 (fA 3 Ty.fi23_3) (rg_ g7 (ld_ 0 Ty.sc3) (sg_ g7 (fA 7 Ty.fi23_7) (rg_ g7 (ld_ 0 Ty.sc3) (sg_ g7 (x_sub_i (a := d.Interval) (b := 7) rfl rfl (by omega) (by omega)) (sg_ g7 (x_min_i (a := 200) (b := d.Interval - 7) rfl rfl) (c0g g7 (cl_ Ty.ca92) (fun w hS => f92_ok _ 1 _ w) (sg_ g7 (x_not rfl) ?_)))))))
   exact cr_
  refine s_ mv_ ?_
  refine or_ 7 (!(R16.zeros [d.Format, d.Block])) (fun g11 => ?_) ?_
  ·have g11r := g11
   have ⟨g11r, h12⟩ := bor_false g11r
   have ⟨g11r, h13⟩ := bor_false g11r
   have g11r : (kn) = true := bnot_false g11r
   have hi14 := hkn g11r
   have h13 : ((decide (1 ≤ d.Org)) && (decide (d.Org ≤ 3))) = true := bnot_false h13
   have ⟨h13, h15⟩ := band_true h13
   have h13 := of_decide_eq_true h13
   have h15 := of_decide_eq_true h15
   have h12 : ((decide (1 ≤ d.Length)) && (decide (d.Length ≤ (min 200 (d.Interval - 7))))) = true := bnot_false h12
   have ⟨h12, h16⟩ := band_true h12
   have h12 := of_decide_eq_true h12
   have h16 := of_decide_eq_true h16
   refine sg_ g11 (fA 2 Ty.fi23_2) (rg_ g11 (ld_ 0 Ty.sc3) (sg_ g11 (fA 4 Ty.fi23_4) (rg_ g11 (ld_ 0 Ty.sc3) (og_ g11 (O_buildSlice (cs := [vI d.Format, vI d.Block]) Tryz.underlying150 Ty.sz3 Ty.ze3 (by decide) (by decide) (by kernel_rfl) fun b17 => ?_)))))
   refine c0g g11 (cl_ Ty.ca93) (fun w hS => f93_ok [d.Format, d.Block] _ 2 w (RO.of_blk hS 0 (off := 0) (m := 2) rfl rfl) hy_) (sg_ g11 (x_not rfl) ?_)
   exact cr_ (fun _ h => h.keep [false, true] rfl)
  refine z_ (n_ ?_)
  refine if_ (fun h18 => ?_) (fun h18 => ?_)
  ·simp only [Bool.and_eq_true, Bool.or_eq_true, Bool.and_eq_false_iff, Bool.or_eq_false_iff, Bool.not_eq_true', Bool.not_eq_false', decide_eq_true_eq, decide_eq_false_iff_not] at h18
   refine q_ (g_ (s_ av_ (z_ (n_ (rt_ (nr_ ?_))))))
   refine p1 Tryz.results65 rfl ⟨?_, rfl⟩
   have e_x0 : (false : Bool) = (R16.valid d) := by
    have hk3 : k = 3 := by omega
    subst hk3
    rw [R16.known3] at i1_1
    subst i1_1
    rw [Bool.eq_iff_iff]
    simp only [Bool.and_eq_true, Bool.or_eq_true, Bool.not_eq_true', Bool.and_eq_false_iff, Bool.or_eq_false_iff, decide_eq_true_eq, decide_eq_false_iff_not, R16.zeros, List.all_cons, List.all_nil, R16.valid, R16.bet, Bool.false_eq_true, and_true, true_and, Bool.and_true, Bool.true_eq_false, or_false, Decidable.not_not, ne_eq, false_iff, true_iff, iff_true, iff_false] at *
    by_cases hO : d.Org = 3
    ·exact c26a0_
    ·exact c26a1_
   exact congrArg (fun (x0 : Bool) => vB x0) e_x0
  ·have ⟨h18, h19⟩ := bor_false h18
   have ⟨h18, h20⟩ := bor_false h18
   have ⟨h18, h21⟩ := bor_false h18
   have h18 : (kn) = true := bnot_false h18
   have hi22 := hkn h18
   have h21 : ((decide (1 ≤ d.Org)) && (decide (d.Org ≤ 3))) = true := bnot_false h21
   have ⟨h21, h23⟩ := band_true h21
   have h21 := of_decide_eq_true h21
   have h23 := of_decide_eq_true h23
   have h20 : ((decide (1 ≤ d.Length)) && (decide (d.Length ≤ (min 200 (d.Interval - 7))))) = true := bnot_false h20
   have ⟨h20, h24⟩ := band_true h20
   have h20 := of_decide_eq_true h20
   have h24 := of_decide_eq_true h24
   have h19 : (R16.zeros [d.Format, d.Block]) = true := bnot_false h19
   refine sk_ (n_ (q_ (q_ (g_ (s_ (fA 1 Ty.fi23_1) (r_ (ld_ 0 Ty.sc3) (s_ (x_neq_i rfl rfl) (z_ (n_ ?_)))))))))
   refine ifd (fun h25w h25 => ?_) (fun h25w h25 => ?_)
   ·refine q_ (g_ (s_ (fA 5 Ty.fi23_5) (r_ (ld_ 0 Ty.sc3) (s_ (fA 6 Ty.fi23_6) (r_ (ld_ 0 Ty.sc3) (s_ (fA 8 Ty.fi23_8) (r_ (ld_ 0 Ty.sc3) (s_ (fA 9 Ty.fi23_9) (r_ (ld_ 0 Ty.sc3) (s_ (fA 10 Ty.fi23_10) ?_))))))))))
    refine r_ (ld_ 0 Ty.sc3) (o_ (O_buildSlice (cs := [vI d.KeyAt, vI d.KeyLength, vI d.Area, vI d.FreeInterval, vI d.FreeArea]) Tryz.underlying150 Ty.sz3 Ty.ze3 (by decide) (by decide) (by kernel_rfl) fun b26 => ?_))
    refine c0 (cl_ Ty.ca93) (fun w hS => f93_ok [d.KeyAt, d.KeyLength, d.Area, d.FreeInterval, d.FreeArea] _ 5 w (RO.of_blk hS 0 (off := 0) (m := 5) rfl rfl) hy_) (s_ av_ (z_ (xk_ [1, 2] ?_)))
    refine n_ (rt_ (nr_ ?_))
    refine p1 Tryz.results65 rfl ⟨?_, rfl⟩
    have e_x0 : (R16.zeros [d.KeyAt, d.KeyLength, d.Area, d.FreeInterval, d.FreeArea] : Bool) = (R16.valid d) := by
     have hk3 : k = 3 := by omega
     subst hk3
     rw [R16.known3] at i1_1
     subst i1_1
     rw [Bool.eq_iff_iff]
     simp only [Bool.and_eq_true, Bool.or_eq_true, Bool.not_eq_true', Bool.and_eq_false_iff, Bool.or_eq_false_iff, decide_eq_true_eq, decide_eq_false_iff_not, R16.zeros, List.all_cons, List.all_nil, R16.valid, R16.bet, Bool.false_eq_true, and_true, true_and, Bool.and_true, Bool.true_eq_false, or_false, Decidable.not_not, ne_eq, false_iff, true_iff, iff_true, iff_false] at *
     by_cases hO : d.Org = 3
     ·exact c26a0_
     ·exact c26a1_
    exact congrArg (fun (x0 : Bool) => vB x0) e_x0
   ·refine sk_ (n_ (q_ (g_ (s_ (fA 3 Ty.fi23_3) (r_ (ld_ 0 Ty.sc3) (s_ (fA 7 Ty.fi23_7) (r_ (ld_ 0 Ty.sc3) (s_ (x_quo_i (a := d.Interval) (b := 2) rfl rfl (by omega) (by omega) (by omega)) (s_ (x_sub_i (a := d.Interval / 2) (b := 8) rfl rfl (by omega) (by omega)) (s_ (x_leq_i rfl rfl) (s_ mv_ ?_)))))))))))
    refine and_ 5 ((decide (0 ≤ d.KeyAt)) && (decide (d.KeyAt ≤ d.Length))) (fun g27 => ?_) ?_
    ·have g27r := g27
     have g27r := of_decide_eq_true g27r
     refine sg_ g27 (fA 5 Ty.fi23_5) (rg_ g27 (ld_ 0 Ty.sc3) (sg_ g27 (fA 3 Ty.fi23_3) (rg_ g27 (ld_ 0 Ty.sc3) (c0g g27 (cl_ Ty.ca92) (fun w hS => f92_ok _ 0 _ w) ?_))))
     exact cr_
    refine s_ mv_ ?_
    refine and_ 6 ((decide (1 ≤ d.KeyLength)) && (decide (d.KeyLength ≤ (d.Interval / 16)))) (fun g28 => ?_) ?_
    ·have g28r := g28
     have ⟨g28r, h29⟩ := band_true g28r
     have g28r := of_decide_eq_true g28r
     have ⟨h29, h30⟩ := band_true h29
     have h29 := of_decide_eq_true h29
     have h30 := of_decide_eq_true h30
     refine sg_ g28 (fA 6 Ty.fi23_6) (rg_ g28 (ld_ 0 Ty.sc3) (sg_ g28 (fA 7 Ty.fi23_7) (rg_ g28 (ld_ 0 Ty.sc3) (sg_ g28 (x_quo_i (a := d.Interval) (b := 16) rfl rfl (by omega) (by omega) (by omega)) (c0g g28 (cl_ Ty.ca92) (fun w hS => f92_ok _ 1 _ w) ?_)))))
     exact cr_
    refine s_ mv_ ?_
    refine and_ 8 (decide (d.KeyAt + d.KeyLength ≤ d.Length)) (fun g31 => ?_) ?_
    ·have g31r := g31
     have ⟨g31r, h32⟩ := band_true g31r
     have ⟨g31r, h33⟩ := band_true g31r
     have g31r := of_decide_eq_true g31r
     have ⟨h33, h34⟩ := band_true h33
     have h33 := of_decide_eq_true h33
     have h34 := of_decide_eq_true h34
     have ⟨h32, h35⟩ := band_true h32
     have h32 := of_decide_eq_true h32
     have h35 := of_decide_eq_true h35
     refine sg_ g31 (fA 5 Ty.fi23_5) (rg_ g31 (ld_ 0 Ty.sc3) (sg_ g31 (fA 6 Ty.fi23_6) (rg_ g31 (ld_ 0 Ty.sc3) (sg_ g31 (x_add_i (a := d.KeyAt) (b := d.KeyLength) rfl rfl (by omega) (by omega)) (sg_ g31 (fA 3 Ty.fi23_3) (rg_ g31 (ld_ 0 Ty.sc3) (sg_ g31 (x_leq_i rfl rfl) ?_)))))))
     exact cr_
    refine s_ mv_ ?_
    refine and_ 3 ((decide (2 ≤ d.Area)) && (decide (d.Area ≤ 8))) (fun g36 => ?_) ?_
    ·have g36r := g36
     have ⟨g36r, h37⟩ := band_true g36r
     have ⟨g36r, h38⟩ := band_true g36r
     have ⟨g36r, h39⟩ := band_true g36r
     have g36r := of_decide_eq_true g36r
     have ⟨h39, h40⟩ := band_true h39
     have h39 := of_decide_eq_true h39
     have h40 := of_decide_eq_true h40
     have ⟨h38, h41⟩ := band_true h38
     have h38 := of_decide_eq_true h38
     have h41 := of_decide_eq_true h41
     have h37 := of_decide_eq_true h37
     refine sg_ g36 (fA 8 Ty.fi23_8) (rg_ g36 (ld_ 0 Ty.sc3) (c0g g36 (cl_ Ty.ca92) (fun w hS => f92_ok _ 2 8 w) ?_))
     exact cr_
    refine s_ mv_ ?_
    refine and_ 3 ((decide (0 ≤ d.FreeInterval)) && (decide (d.FreeInterval ≤ 90))) (fun g42 => ?_) ?_
    ·have g42r := g42
     have ⟨g42r, h43⟩ := band_true g42r
     have ⟨g42r, h44⟩ := band_true g42r
     have ⟨g42r, h45⟩ := band_true g42r
     have ⟨g42r, h46⟩ := band_true g42r
     have g42r := of_decide_eq_true g42r
     have ⟨h46, h47⟩ := band_true h46
     have h46 := of_decide_eq_true h46
     have h47 := of_decide_eq_true h47
     have ⟨h45, h48⟩ := band_true h45
     have h45 := of_decide_eq_true h45
     have h48 := of_decide_eq_true h48
     have h44 := of_decide_eq_true h44
     have ⟨h43, h49⟩ := band_true h43
     have h43 := of_decide_eq_true h43
     have h49 := of_decide_eq_true h49
     refine sg_ g42 (fA 9 Ty.fi23_9) (rg_ g42 (ld_ 0 Ty.sc3) (c0g g42 (cl_ Ty.ca92) (fun w hS => f92_ok _ 0 90 w) ?_))
     exact cr_
    refine s_ mv_ ?_
    refine and_ 6 ((decide (0 ≤ d.FreeArea)) && (decide (d.FreeArea ≤ (d.Area - 1)))) (fun g50 => ?_) ?_
    ·have g50r := g50
     have ⟨g50r, h51⟩ := band_true g50r
     have ⟨g50r, h52⟩ := band_true g50r
     have ⟨g50r, h53⟩ := band_true g50r
     have ⟨g50r, h54⟩ := band_true g50r
     have ⟨g50r, h55⟩ := band_true g50r
     have g50r := of_decide_eq_true g50r
     have ⟨h55, h56⟩ := band_true h55
     have h55 := of_decide_eq_true h55
     have h56 := of_decide_eq_true h56
     have ⟨h54, h57⟩ := band_true h54
     have h54 := of_decide_eq_true h54
     have h57 := of_decide_eq_true h57
     have h53 := of_decide_eq_true h53
     have ⟨h52, h58⟩ := band_true h52
     have h52 := of_decide_eq_true h52
     have h58 := of_decide_eq_true h58
     have ⟨h51, h59⟩ := band_true h51
     have h51 := of_decide_eq_true h51
     have h59 := of_decide_eq_true h59
     refine sg_ g50 (fA 10 Ty.fi23_10) (rg_ g50 (ld_ 0 Ty.sc3) (sg_ g50 (fA 8 Ty.fi23_8) (rg_ g50 (ld_ 0 Ty.sc3) (sg_ g50 (x_sub_i (a := d.Area) (b := 1) rfl rfl (by omega) (by omega)) (c0g g50 (cl_ Ty.ca92) (fun w hS => f92_ok _ 0 _ w) ?_)))))
     exact cr_
    refine s_ av_ (z_ (xk_ [2] ?_))
    refine n_ (rt_ ?_)
    refine p1 Tryz.results65 rfl ⟨?_, rfl⟩
    have e_x0 : (((((((decide (d.Length ≤ (d.Interval / 2) - 8)) && ((decide (0 ≤ d.KeyAt)) && (decide (d.KeyAt ≤ d.Length)))) && ((decide (1 ≤ d.KeyLength)) && (decide (d.KeyLength ≤ (d.Interval / 16))))) && (decide (d.KeyAt + d.KeyLength ≤ d.Length))) && ((decide (2 ≤ d.Area)) && (decide (d.Area ≤ 8)))) && ((decide (0 ≤ d.FreeInterval)) && (decide (d.FreeInterval ≤ 90)))) && ((decide (0 ≤ d.FreeArea)) && (decide (d.FreeArea ≤ (d.Area - 1)))) : Bool) = (R16.valid d) := by
     have hk3 : k = 3 := by omega
     subst hk3
     rw [R16.known3] at i1_1
     subst i1_1
     rw [Bool.eq_iff_iff]
     simp only [Bool.and_eq_true, Bool.or_eq_true, Bool.not_eq_true', Bool.and_eq_false_iff, Bool.or_eq_false_iff, decide_eq_true_eq, decide_eq_false_iff_not, R16.zeros, List.all_cons, List.all_nil, R16.valid, R16.bet, Bool.false_eq_true, and_true, true_and, Bool.and_true, Bool.true_eq_false, or_false, Decidable.not_not, ne_eq, false_iff, true_iff, iff_true, iff_false] at *
     by_cases hO : d.Org = 3
     ·exact c26a0_
     ·exact c26a1_
    exact congrArg (fun (x0 : Bool) => vB x0) e_x0
set_option maxRecDepth 20000 in
theorem f48_ok (d : DataSet) (w : World) : Calls Tryz.prog 48 #[vG (DataSet.enc d)] w (Gives [] w fun v L => v = vB (R16.valid d) ∧ L = []) := by
 refine calls_J [] 123 Tryz.func48 rfl Tryz.ntmps48 [(0, _)] rfl rfl (Give.nil w) ?_
 refine q_ (g_ (o_ (bxG fun b1 => ?_)))
 refine s_ av_ (z_ (n_ (q_ (q_ (g_ (s_ (fA 1 Ty.fi23_1) (r_ (ld_ 0 Ty.sc3) (s_ (x_neq_i rfl rfl) (s_ mv_ ?_)))))))))
 refine and_ 3 (decide (d.Org ≠ 2)) (fun g2 => ?_) ?_
 ·have g2r := g2
  have g2r := of_decide_eq_true g2r
  refine sg_ g2 (fA 1 Ty.fi23_1) (rg_ g2 (ld_ 0 Ty.sc3) (sg_ g2 (x_neq_i rfl rfl) ?_))
  exact cr_
 refine s_ mv_ ?_
 refine and_ 3 (decide (d.Org ≠ 3)) (fun g3 => ?_) ?_
 ·have g3r := g3
  have ⟨g3r, h4⟩ := band_true g3r
  have g3r := of_decide_eq_true g3r
  have h4 := of_decide_eq_true h4
  refine sg_ g3 (fA 1 Ty.fi23_1) (rg_ g3 (ld_ 0 Ty.sc3) (sg_ g3 (x_neq_i rfl rfl) ?_))
  exact cr_
 refine s_ mv_ ?_
 refine or_ 13 (((decide (d.Interval ≠ 128)) && (decide (d.Interval ≠ 256))) && (decide (d.Interval ≠ 512))) (fun g5 => ?_) ?_
 ·have g5r := g5
  simp only [Bool.and_eq_true, Bool.or_eq_true, Bool.and_eq_false_iff, Bool.or_eq_false_iff, Bool.not_eq_true', Bool.not_eq_false', decide_eq_true_eq, decide_eq_false_iff_not] at g5r
  refine sg_ g5 (fA 7 Ty.fi23_7) (rg_ g5 (ld_ 0 Ty.sc3) (sg_ g5 (x_neq_i rfl rfl) (sg_ g5 mv_ ?_)))
  refine and_ 3 (decide (d.Interval ≠ 256)) (fun g6 => ?_) ?_ (hw := by exact ⟨_, rfl, g5⟩)
  ·have g6r := g6
   have g6r := of_decide_eq_true g6r
   refine sg_ g6 (fA 7 Ty.fi23_7) (rg_ g6 (ld_ 0 Ty.sc3) (sg_ g6 (x_neq_i rfl rfl) ?_))
   exact cr_
  refine sg_ g5 mv_ ?_
  refine and_ 3 (decide (d.Interval ≠ 512)) (fun g7 => ?_) ?_ (hw := by exact ⟨_, rfl, g5⟩)
  ·have g7r := g7
   have ⟨g7r, h8⟩ := band_true g7r
   have g7r := of_decide_eq_true g7r
   have h8 := of_decide_eq_true h8
   refine sg_ g7 (fA 7 Ty.fi23_7) (rg_ g7 (ld_ 0 Ty.sc3) (sg_ g7 (x_neq_i rfl rfl) ?_))
   exact cr_
  exact cr_
 refine z_ (n_ ?_)
 refine if_ (fun h9 => ?_) (fun h9 => ?_)
 ·simp only [Bool.and_eq_true, Bool.or_eq_true, Bool.and_eq_false_iff, Bool.or_eq_false_iff, Bool.not_eq_true', Bool.not_eq_false', decide_eq_true_eq, decide_eq_false_iff_not] at h9
  refine q_ (g_ (s_ av_ (z_ (n_ (rt_ (nr_ ?_))))))
  refine p1 Tryz.results48 rfl ⟨?_, rfl⟩
  have e_x0 : (false : Bool) = (R16.valid d) := by
   rw [Bool.eq_iff_iff]
   simp only [Bool.and_eq_true, Bool.or_eq_true, Bool.not_eq_true', Bool.and_eq_false_iff, Bool.or_eq_false_iff, decide_eq_true_eq, decide_eq_false_iff_not, R16.valid, R16.bet, Bool.false_eq_true, and_true, true_and, Bool.and_true, Bool.true_eq_false, or_false, Decidable.not_not, ne_eq, false_iff, true_iff, iff_true, iff_false] at *
   by_cases hO : d.Org = 3
   ·exact c26a0_
   ·exact c26a1_
  exact congrArg (fun (x0 : Bool) => vB x0) e_x0
 ·have ⟨h9, h10⟩ := bor_false h9
  simp only [Bool.and_eq_true, Bool.or_eq_true, Bool.and_eq_false_iff, Bool.or_eq_false_iff, Bool.not_eq_true', Bool.not_eq_false', decide_eq_true_eq, decide_eq_false_iff_not] at h9
  simp only [Bool.and_eq_true, Bool.or_eq_true, Bool.and_eq_false_iff, Bool.or_eq_false_iff, Bool.not_eq_true', Bool.not_eq_false', decide_eq_true_eq, decide_eq_false_iff_not] at h10
  refine sk_ (n_ (q_ (q_ (g_ (s_ (fA 3 Ty.fi23_3) (r_ (ld_ 0 Ty.sc3) (s_ (fA 7 Ty.fi23_7) (r_ (ld_ 0 Ty.sc3) (s_ (x_sub_i (a := d.Interval) (b := 7) rfl rfl (by omega) (by omega)) (s_ (x_min_i (a := 200) (b := d.Interval - 7) rfl rfl) (c0 (cl_ Ty.ca68) (fun w hS => f68_ok _ 1 _ w) (s_ (x_not rfl) (s_ mv_ ?_)))))))))))))
  refine or_ 3 (decide (d.Format ≠ 0)) (fun g11 => ?_) ?_
  ·have g11r := g11
   have g11r : ((decide (1 ≤ d.Length)) && (decide (d.Length ≤ (min 200 (d.Interval - 7))))) = true := bnot_false g11r
   have ⟨g11r, h12⟩ := band_true g11r
   have g11r := of_decide_eq_true g11r
   have h12 := of_decide_eq_true h12
   refine sg_ g11 (fA 2 Ty.fi23_2) (rg_ g11 (ld_ 0 Ty.sc3) (sg_ g11 (x_neq_i rfl rfl) ?_))
   exact cr_
  refine s_ mv_ ?_
  refine or_ 3 (decide (d.Block ≠ 0)) (fun g13 => ?_) ?_
  ·have g13r := g13
   have ⟨g13r, h14⟩ := bor_false g13r
   have g13r : ((decide (1 ≤ d.Length)) && (decide (d.Length ≤ (min 200 (d.Interval - 7))))) = true := bnot_false g13r
   have ⟨g13r, h15⟩ := band_true g13r
   have g13r := of_decide_eq_true g13r
   have h15 := of_decide_eq_true h15
   have h14 := of_decide_eq_false h14
   refine sg_ g13 (fA 4 Ty.fi23_4) (rg_ g13 (ld_ 0 Ty.sc3) (sg_ g13 (x_neq_i rfl rfl) ?_))
   exact cr_
  refine z_ (xk_ [1, 2, 48] ?_)
  refine n_ ?_
  refine if_ (fun h16 => ?_) (fun h16 => ?_)
  ·simp only [Bool.and_eq_true, Bool.or_eq_true, Bool.and_eq_false_iff, Bool.or_eq_false_iff, Bool.not_eq_true', Bool.not_eq_false', decide_eq_true_eq, decide_eq_false_iff_not] at h16
   refine q_ (g_ (s_ av_ (z_ (n_ (rt_ (nr_ ?_))))))
   refine p1 Tryz.results48 rfl ⟨?_, rfl⟩
   have e_x0 : (false : Bool) = (R16.valid d) := by
    rw [Bool.eq_iff_iff]
    simp only [Bool.and_eq_true, Bool.or_eq_true, Bool.not_eq_true', Bool.and_eq_false_iff, Bool.or_eq_false_iff, decide_eq_true_eq, decide_eq_false_iff_not, R16.valid, R16.bet, Bool.false_eq_true, and_true, true_and, Bool.and_true, Bool.true_eq_false, or_false, Decidable.not_not, ne_eq, false_iff, true_iff, iff_true, iff_false] at *
    by_cases hO : d.Org = 3
    ·exact c26a0_
    ·exact c26a1_
   exact congrArg (fun (x0 : Bool) => vB x0) e_x0
  ·have ⟨h16, h17⟩ := bor_false h16
   have ⟨h16, h18⟩ := bor_false h16
   have h16 : ((decide (1 ≤ d.Length)) && (decide (d.Length ≤ (min 200 (d.Interval - 7))))) = true := bnot_false h16
   have ⟨h16, h19⟩ := band_true h16
   have h16 := of_decide_eq_true h16
   have h19 := of_decide_eq_true h19
   have h18 := of_decide_eq_false h18
   have h17 := of_decide_eq_false h17
   refine sk_ (n_ (q_ (q_ (g_ (s_ (fA 1 Ty.fi23_1) (r_ (ld_ 0 Ty.sc3) (s_ (x_neq_i rfl rfl) (z_ (n_ ?_)))))))))
   refine ifd (fun h20w h20 => ?_) (fun h20w h20 => ?_)
   ·refine q_ (g_ (s_ (fA 5 Ty.fi23_5) (r_ (ld_ 0 Ty.sc3) (s_ (x_eql_i rfl rfl) (s_ mv_ ?_)))))
    refine and_ 3 (decide (d.KeyLength = 0)) (fun g21 => ?_) ?_
    ·have g21r := g21
     have g21r := of_decide_eq_true g21r
     refine sg_ g21 (fA 6 Ty.fi23_6) (rg_ g21 (ld_ 0 Ty.sc3) (sg_ g21 (x_eql_i rfl rfl) ?_))
     exact cr_
    refine s_ mv_ ?_
    refine and_ 3 (decide (d.Area = 0)) (fun g22 => ?_) ?_
    ·have g22r := g22
     have ⟨g22r, h23⟩ := band_true g22r
     have g22r := of_decide_eq_true g22r
     have h23 := of_decide_eq_true h23
     refine sg_ g22 (fA 8 Ty.fi23_8) (rg_ g22 (ld_ 0 Ty.sc3) (sg_ g22 (x_eql_i rfl rfl) ?_))
     exact cr_
    refine s_ mv_ ?_
    refine and_ 3 (decide (d.FreeInterval = 0)) (fun g24 => ?_) ?_
    ·have g24r := g24
     have ⟨g24r, h25⟩ := band_true g24r
     have ⟨g24r, h26⟩ := band_true g24r
     have g24r := of_decide_eq_true g24r
     have h26 := of_decide_eq_true h26
     have h25 := of_decide_eq_true h25
     refine sg_ g24 (fA 9 Ty.fi23_9) (rg_ g24 (ld_ 0 Ty.sc3) (sg_ g24 (x_eql_i rfl rfl) ?_))
     exact cr_
    refine s_ mv_ ?_
    refine and_ 3 (decide (d.FreeArea = 0)) (fun g27 => ?_) ?_
    ·have g27r := g27
     have ⟨g27r, h28⟩ := band_true g27r
     have ⟨g27r, h29⟩ := band_true g27r
     have ⟨g27r, h30⟩ := band_true g27r
     have g27r := of_decide_eq_true g27r
     have h30 := of_decide_eq_true h30
     have h29 := of_decide_eq_true h29
     have h28 := of_decide_eq_true h28
     refine sg_ g27 (fA 10 Ty.fi23_10) (rg_ g27 (ld_ 0 Ty.sc3) (sg_ g27 (x_eql_i rfl rfl) ?_))
     exact cr_
    refine s_ av_ (z_ (n_ (rt_ (nr_ ?_))))
    refine p1 Tryz.results48 rfl ⟨?_, rfl⟩
    have e_x0 : (((((decide (d.KeyAt = 0)) && (decide (d.KeyLength = 0))) && (decide (d.Area = 0))) && (decide (d.FreeInterval = 0))) && (decide (d.FreeArea = 0)) : Bool) = (R16.valid d) := by
     rw [Bool.eq_iff_iff]
     simp only [Bool.and_eq_true, Bool.or_eq_true, Bool.not_eq_true', Bool.and_eq_false_iff, Bool.or_eq_false_iff, decide_eq_true_eq, decide_eq_false_iff_not, R16.valid, R16.bet, Bool.false_eq_true, and_true, true_and, Bool.and_true, Bool.true_eq_false, or_false, Decidable.not_not, ne_eq, false_iff, true_iff, iff_true, iff_false] at *
     by_cases hO : d.Org = 3
     ·exact c26a0_
     ·exact c26a1_
    exact congrArg (fun (x0 : Bool) => vB x0) e_x0
   ·refine sk_ (n_ (q_ (g_ (s_ (fA 3 Ty.fi23_3) (r_ (ld_ 0 Ty.sc3) (s_ (fA 7 Ty.fi23_7) (r_ (ld_ 0 Ty.sc3) (s_ (x_quo_i (a := d.Interval) (b := 2) rfl rfl (by omega) (by omega) (by omega)) (s_ (x_sub_i (a := d.Interval / 2) (b := 8) rfl rfl (by omega) (by omega)) (s_ (x_leq_i rfl rfl) (s_ mv_ ?_)))))))))))
    refine and_ 3 ((decide (0 ≤ d.KeyAt)) && (decide (d.KeyAt ≤ 200))) (fun g31 => ?_) ?_
    ·have g31r := g31
     have g31r := of_decide_eq_true g31r
     refine sg_ g31 (fA 5 Ty.fi23_5) (rg_ g31 (ld_ 0 Ty.sc3) (c0g g31 (cl_ Ty.ca68) (fun w hS => f68_ok _ 0 200 w) ?_))
     exact cr_
    refine s_ mv_ ?_
    refine and_ 6 ((decide (1 ≤ d.KeyLength)) && (decide (d.KeyLength ≤ (d.Interval / 16)))) (fun g32 => ?_) ?_
    ·have g32r := g32
     have ⟨g32r, h33⟩ := band_true g32r
     have g32r := of_decide_eq_true g32r
     have ⟨h33, h34⟩ := band_true h33
     have h33 := of_decide_eq_true h33
     have h34 := of_decide_eq_true h34
     refine sg_ g32 (fA 6 Ty.fi23_6) (rg_ g32 (ld_ 0 Ty.sc3) (sg_ g32 (fA 7 Ty.fi23_7) (rg_ g32 (ld_ 0 Ty.sc3) (sg_ g32 (x_quo_i (a := d.Interval) (b := 16) rfl rfl (by omega) (by omega) (by omega)) (c0g g32 (cl_ Ty.ca68) (fun w hS => f68_ok _ 1 _ w) ?_)))))
     exact cr_
    refine s_ mv_ ?_
    refine and_ 8 (decide (d.KeyAt + d.KeyLength ≤ d.Length)) (fun g35 => ?_) ?_
    ·have g35r := g35
     have ⟨g35r, h36⟩ := band_true g35r
     have ⟨g35r, h37⟩ := band_true g35r
     have g35r := of_decide_eq_true g35r
     have ⟨h37, h38⟩ := band_true h37
     have h37 := of_decide_eq_true h37
     have h38 := of_decide_eq_true h38
     have ⟨h36, h39⟩ := band_true h36
     have h36 := of_decide_eq_true h36
     have h39 := of_decide_eq_true h39
     refine sg_ g35 (fA 5 Ty.fi23_5) (rg_ g35 (ld_ 0 Ty.sc3) (sg_ g35 (fA 6 Ty.fi23_6) (rg_ g35 (ld_ 0 Ty.sc3) (sg_ g35 (x_add_i (a := d.KeyAt) (b := d.KeyLength) rfl rfl (by omega) (by omega)) (sg_ g35 (fA 3 Ty.fi23_3) (rg_ g35 (ld_ 0 Ty.sc3) (sg_ g35 (x_leq_i rfl rfl) ?_)))))))
     exact cr_
    refine s_ mv_ ?_
    refine and_ 3 ((decide (2 ≤ d.Area)) && (decide (d.Area ≤ 8))) (fun g40 => ?_) ?_
    ·have g40r := g40
     have ⟨g40r, h41⟩ := band_true g40r
     have ⟨g40r, h42⟩ := band_true g40r
     have ⟨g40r, h43⟩ := band_true g40r
     have g40r := of_decide_eq_true g40r
     have ⟨h43, h44⟩ := band_true h43
     have h43 := of_decide_eq_true h43
     have h44 := of_decide_eq_true h44
     have ⟨h42, h45⟩ := band_true h42
     have h42 := of_decide_eq_true h42
     have h45 := of_decide_eq_true h45
     have h41 := of_decide_eq_true h41
     refine sg_ g40 (fA 8 Ty.fi23_8) (rg_ g40 (ld_ 0 Ty.sc3) (c0g g40 (cl_ Ty.ca68) (fun w hS => f68_ok _ 2 8 w) ?_))
     exact cr_
    refine s_ mv_ ?_
    refine and_ 3 ((decide (0 ≤ d.FreeInterval)) && (decide (d.FreeInterval ≤ 90))) (fun g46 => ?_) ?_
    ·have g46r := g46
     have ⟨g46r, h47⟩ := band_true g46r
     have ⟨g46r, h48⟩ := band_true g46r
     have ⟨g46r, h49⟩ := band_true g46r
     have ⟨g46r, h50⟩ := band_true g46r
     have g46r := of_decide_eq_true g46r
     have ⟨h50, h51⟩ := band_true h50
     have h50 := of_decide_eq_true h50
     have h51 := of_decide_eq_true h51
     have ⟨h49, h52⟩ := band_true h49
     have h49 := of_decide_eq_true h49
     have h52 := of_decide_eq_true h52
     have h48 := of_decide_eq_true h48
     have ⟨h47, h53⟩ := band_true h47
     have h47 := of_decide_eq_true h47
     have h53 := of_decide_eq_true h53
     refine sg_ g46 (fA 9 Ty.fi23_9) (rg_ g46 (ld_ 0 Ty.sc3) (c0g g46 (cl_ Ty.ca68) (fun w hS => f68_ok _ 0 90 w) ?_))
     exact cr_
    refine s_ mv_ ?_
    refine and_ 6 ((decide (0 ≤ d.FreeArea)) && (decide (d.FreeArea ≤ (d.Area - 1)))) (fun g54 => ?_) ?_
    ·have g54r := g54
     have ⟨g54r, h55⟩ := band_true g54r
     have ⟨g54r, h56⟩ := band_true g54r
     have ⟨g54r, h57⟩ := band_true g54r
     have ⟨g54r, h58⟩ := band_true g54r
     have ⟨g54r, h59⟩ := band_true g54r
     have g54r := of_decide_eq_true g54r
     have ⟨h59, h60⟩ := band_true h59
     have h59 := of_decide_eq_true h59
     have h60 := of_decide_eq_true h60
     have ⟨h58, h61⟩ := band_true h58
     have h58 := of_decide_eq_true h58
     have h61 := of_decide_eq_true h61
     have h57 := of_decide_eq_true h57
     have ⟨h56, h62⟩ := band_true h56
     have h56 := of_decide_eq_true h56
     have h62 := of_decide_eq_true h62
     have ⟨h55, h63⟩ := band_true h55
     have h55 := of_decide_eq_true h55
     have h63 := of_decide_eq_true h63
     refine sg_ g54 (fA 10 Ty.fi23_10) (rg_ g54 (ld_ 0 Ty.sc3) (sg_ g54 (fA 8 Ty.fi23_8) (rg_ g54 (ld_ 0 Ty.sc3) (sg_ g54 (x_sub_i (a := d.Area) (b := 1) rfl rfl (by omega) (by omega)) (c0g g54 (cl_ Ty.ca68) (fun w hS => f68_ok _ 0 _ w) ?_)))))
     exact cr_
    refine s_ av_ (z_ (xk_ [2] ?_))
    refine n_ (rt_ ?_)
    refine p1 Tryz.results48 rfl ⟨?_, rfl⟩
    have e_x0 : (((((((decide (d.Length ≤ (d.Interval / 2) - 8)) && ((decide (0 ≤ d.KeyAt)) && (decide (d.KeyAt ≤ 200)))) && ((decide (1 ≤ d.KeyLength)) && (decide (d.KeyLength ≤ (d.Interval / 16))))) && (decide (d.KeyAt + d.KeyLength ≤ d.Length))) && ((decide (2 ≤ d.Area)) && (decide (d.Area ≤ 8)))) && ((decide (0 ≤ d.FreeInterval)) && (decide (d.FreeInterval ≤ 90)))) && ((decide (0 ≤ d.FreeArea)) && (decide (d.FreeArea ≤ (d.Area - 1)))) : Bool) = (R16.valid d) := by
     rw [Bool.eq_iff_iff]
     simp only [Bool.and_eq_true, Bool.or_eq_true, Bool.not_eq_true', Bool.and_eq_false_iff, Bool.or_eq_false_iff, decide_eq_true_eq, decide_eq_false_iff_not, R16.valid, R16.bet, Bool.false_eq_true, and_true, true_and, Bool.and_true, Bool.true_eq_false, or_false, Decidable.not_not, ne_eq, false_iff, true_iff, iff_true, iff_false] at *
     by_cases hO : d.Org = 3
     ·exact c26a0_
     ·exact c26a1_
    exact congrArg (fun (x0 : Bool) => vB x0) e_x0
end Go.Proofs.YtmbinhhlfbgiaaaGreat
