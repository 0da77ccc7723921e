/- contracts C45b -/
import Derived.Test.YtggobegaiijhhaaGreatDoorUtilityRecords8
set_option linter.unusedVariables false
set_option linter.unusedSimpArgs false
namespace Go.Proofs.YtggobegaiijhhaaGreatDoor
open Go.GV
set_option linter.unusedVariables false
set_option linter.unusedSimpArgs false
theorem c45b0_ {p : Prop} (h : p := by simp only [List.length_take, List.length_drop]; omega) : p := h
theorem c45b1_ {p : Prop} (h : p := by first | (left; assumption) | (right; simp_all; done) | simp_all) : p := h
theorem c45b2_ {p : Prop} (h : p := by first | (intro h; exact absurd h (by decide)) | exact fun h => by obtain ⟨h1, h2⟩ := band_true h; exact R45.few_all (fun i hi => i1_1 i (by omega)) (by omega) (by simp_all) (by have := of_decide_eq_true h2; omega)) : p := h
theorem c45b3_ {p : Prop} (h : p := by first | exact R45.NewJ.same (by first | rfl | assumption) | exact i2_1.go (by assumption) (fun h => by simp_all)) : p := h
theorem c45b5_ {p : Prop} (h : p := by first | exact R45.recV_in (by assumption) | exact R45.recV_no (by assumption) (R45.or_of (by assumption)) | exact R45.recV_rows (by assumption) (R45.or_no (by assumption) (by assumption)) (R45.rec_end i1_1 (by assumption) (by omega))) : p := h
theorem c45b6_ {p : Prop} (h : p := by first | (intro h; exact absurd h (by decide)) | exact fun h => R45.few_rows (fun i hi => i1_1 i (by omega)) (by omega) (of_decide_eq_true h)) : p := h
theorem c45b7_ {p : Prop} (h : p := by first | exact i1_1.add (by omega) i2_1 (by simpa using ‹_›) (by omega) | exact i1_1.skip (by omega)) : p := h
set_option maxRecDepth 20000 in
theorem f23_ok (rows : List SRow) (rowsA : Option Addr) (rowsC : Nat) (m : Int) (w : World) (rowsR : RO [] w rowsA (rows.flatMap SRow.enc)) (q0 : rows.length ≤ 9223372036854775807) : Calls Tryz.prog 23 #[vL rowsA rows.length rowsC, vI m] w (Gives [] w fun v L => ∃ z : Bool, v = vB z ∧ L = [] ∧ (z = true → R45.FewR rows m)) := by
 refine calls_J [] 32 Tryz.func23 rfl Tryz.ntmps23 [(0, _), (1, _)] rfl rfl (Give.nil w) ?_
 refine q_ (g_ (s_ av_ (z_ (n_ (q_ (q_ (g_ (s_ av_ (z_ (n_ (k_ ?_)))))))))))
 refine J_loop (X := Nat) (fun (k : Nat) => (k ≤ rows.length) ∧ (∀ i, i < k → (rows.getD i default).Key.length ≤ 60 ∧ (rows.getD i default).Record.length ≤ 300)) (fun (k : Nat) => [(0, vL rowsA rows.length rowsC), (1, vI m), (5, vI ((k : Nat) : Int))]) (fun (k : Nat) => []) (fun (k : Nat) => rows.length - k) (0 : Nat) ?_ ⟨rfl, rfl, rfl, trivial⟩ (fun _ h => h) ?_
 ·try dsimp only
  refine ⟨?_, ?_⟩
  ·first | rfl | omega | (simp_all; done) | (simp_all; omega)
  ·intro i hi; omega
 intro k hI1
 obtain ⟨i1_0, i1_1⟩ := hI1
 try dsimp only at i1_0
 try dsimp only at i1_1
 try dsimp only
 refine q_ (q_ (g_ (s_ mv_ (s_ mv_ (s_ (lnS Tryz.underlying22) (s_ (x_lss_i rfl rfl) (z_ (n_ ?_))))))))
 refine ifd (fun h1w h1 => ?_) (fun h1w h1 => ?_)
 ·refine sk_ (n_ (q_ (k_ (q_ (g_ (s_ mv_ (s_ mv_ (r_ (ixF SRow.enc_len (cells_ro rowsR) Tryz.underlying22 Ty.sz57) (s_ (fB Ty.fi57_1) (r_ (ldF 1 SRow.enc_len (cells_ro rowsR) Ty.sc9) (s_ (x_len_s rfl Tryz.underlying9) (s_ (x_gtr_i rfl rfl) (s_ mv_ ?_)))))))))))))
  refine or_ 7 (decide ((300 : Int) < ((((rows.getD k default).Record).length : Nat) : Int))) (fun g2 => ?_) ?_
  ·have g2r := g2
   have g2r := of_decide_eq_false g2r
   refine sg_ g2 mv_ (sg_ g2 mv_ (rg_ g2 (ixF SRow.enc_len (cells_ro rowsR) Tryz.underlying22 Ty.sz57) (sg_ g2 (fB Ty.fi57_2) (rg_ g2 (ldF 2 SRow.enc_len (cells_ro rowsR) Ty.sc9) (sg_ g2 (x_len_s rfl Tryz.underlying9) (sg_ g2 (x_gtr_i rfl rfl) ?_))))))
   exact cr_
  refine z_ (n_ ?_)
  refine if_ (fun h3 => ?_) (fun h3 => ?_)
  ·simp only [Bool.and_eq_true, Bool.or_eq_true, Bool.and_eq_false_iff, Bool.or_eq_false_iff, Bool.not_eq_true', Bool.not_eq_false', decide_eq_true_eq, decide_eq_false_iff_not] at h3
   refine q_ (g_ (s_ av_ (z_ (n_ (rt_ (kq_ (nr_ (rr_ (kq_ (nr_ ?_))))))))))
   refine JX_rets [_] _ Tryz.results23 (fun w h => ⟨rfl, trivial⟩) rfl _ (fun _ h => h) ⟨(false), ?_, ?_, ?_⟩
   ·have e_x0 : (false : Bool) = (false) := by first | rfl | omega | (simp_all; done) | (simp_all; omega)
    exact congrArg (fun (x0 : Bool) => vB x0) e_x0
   ·rfl
   ·exact c45b6_
  ·have ⟨h3, h4⟩ := bor_false h3
   have h3 := of_decide_eq_false h3
   have h4 := of_decide_eq_false h4
   refine sk_ (kx_ (n_ (g_ (s_ mv_ (s_ (x_add_n (a := k) (b := 1) rfl rfl (by omega)) (s_ av_ (z_ ?_)))))))
   refine JX_round (k + 1 : Nat) ?_ ?_ ⟨rfl, rfl, rfl, trivial⟩ (fun _ h => h)
   ·try dsimp only
    refine ⟨?_, ?_⟩
    ·first | rfl | omega | (simp_all; done) | (simp_all; omega)
    ·intro i hi
     by_cases hik : i = k
     ·subst hik; omega
     ·exact i1_1 i (by omega)
   ·try dsimp only
    first | omega | (simp; omega) | (simp_all; omega)
 ·refine J_exit (ne_ (re_ (kh_ (n_ (q_ ?_)))))
  refine g_ (s_ mv_ (s_ (lnS Tryz.underlying22) (s_ mv_ (s_ (x_leq_i rfl rfl) (s_ av_ (z_ (n_ (rt_ ?_))))))))
  refine JX_rets [_] _ Tryz.results23 (fun w h => ⟨rfl, trivial⟩) rfl _ (fun _ h => h) ⟨(decide (((rows.length : Nat) : Int) ≤ m)), ?_, ?_, ?_⟩
  ·rfl
  ·rfl
  ·exact c45b6_
set_option maxRecDepth 20000 in
theorem f9_ok (rows : List SRow) (rowsA : Option Addr) (rowsC : Nat) (l : List Binding) (lA : Option Addr) (lC : Nat) (w : World) (rowsR : RO [] w rowsA (rows.flatMap SRow.enc)) (lR : RO [] w lA (l.flatMap Binding.enc)) (lN : Kp [] w (okL Binding.ok l)) (q0 : rows.length ≤ 9223372036854775807) (q1 : l.length ≤ 9223372036854775807) (q2 : ∀ i, (l.getD i default).Lines.length ≤ 9223372036854775807) : Calls Tryz.prog 9 #[vL rowsA rows.length rowsC, vL lA l.length lC] w (Gives [] w fun v L => ∃ z : Bool, v = vB z ∧ L = [] ∧ (z = true → R45.FewP rows l)) := by
 refine calls_J [] 47 Tryz.func9 rfl Tryz.ntmps9 [(0, _), (1, _)] rfl rfl (Give.nil w) ?_
 refine q_ (g_ (s_ av_ (z_ (n_ (q_ (q_ (g_ (s_ mv_ (s_ (lnS Tryz.underlying36) (s_ mv_ (z_ (n_ (k_ ?_)))))))))))))
 refine J_loop (X := Nat) (fun (k : Nat) => (k ≤ l.length) ∧ (∀ i, i < k → R45.FewB (l.getD i default))) (fun (k : Nat) => [(0, vL rowsA rows.length rowsC), (1, vL lA l.length lC), (9, vL lA l.length lC), (10, vI ((l.length : Nat) : Int)), (11, vI ((k : Nat) : Int))]) (fun (k : Nat) => []) (fun (k : Nat) => l.length - k) (0 : Nat) ?_ ⟨rfl, rfl, rfl, rfl, rfl, trivial⟩ (fun _ h => h) ?_
 ·try dsimp only
  refine ⟨?_, ?_⟩
  ·first | rfl | omega | (simp_all; done) | (simp_all; omega)
  ·intro i hi; omega
 intro k hI1
 obtain ⟨i1_0, i1_1⟩ := hI1
 try dsimp only at i1_0
 try dsimp only at i1_1
 have hq2 := q2 k
 try dsimp only
 refine q_ (g_ (s_ (x_lss_i rfl rfl) (z_ (n_ (q_ ?_)))))
 refine ifd (fun h1w h1 => ?_) (fun h1w h1 => ?_)
 ·refine sk_ (n_ (q_ (k_ (q_ (g_ (r_ (ixF Binding.enc_len (cells_ro lR) Tryz.underlying36 Ty.sz33) (r_ (ldFN Binding.enc_len (cells_ro lR) Ty.ag33 Ty.sz33) (o_ (al_ Ty.ze33 fun b2 => ?_)))))))))
  refine o_ (stG 0 Ty.sz33 ?_)
  refine z_ (n_ (q_ (q_ (g_ (s_ (fA 0 Ty.fi33_0) (s_ (fA 33 Ty.fi27_13) (r_ (ld_ 0 Ty.sc25) (s_ (lnS Tryz.underlying25) (s_ (x_gtr_i rfl rfl) (s_ mv_ ?_))))))))))
  refine or_ 5 (decide ((60 : Int) < ((((l.getD k default).Name).length : Nat) : Int))) (fun g3 => ?_) ?_
  ·have g3r := g3
   have g3r := of_decide_eq_false g3r
   refine sg_ g3 (fA 0 Ty.fi33_0) (sg_ g3 (fA 0 Ty.fi27_0) (rg_ g3 (ld_ 0 Ty.sc9) (sg_ g3 (x_len_s rfl Tryz.underlying9) (sg_ g3 (x_gtr_i rfl rfl) ?_))))
   exact cr_
  refine z_ (n_ ?_)
  refine if_ (fun h4 => ?_) (fun h4 => ?_)
  ·have h4w := h4
   simp only [Bool.and_eq_true, Bool.or_eq_true, Bool.and_eq_false_iff, Bool.or_eq_false_iff, Bool.not_eq_true', Bool.not_eq_false', decide_eq_true_eq, decide_eq_false_iff_not] at h4
   refine q_ (g_ (s_ av_ (z_ (n_ (rt_ (nr_ (kq_ (nr_ (rr_ (kq_ (nr_ ?_)))))))))))
   refine JX_rets [_] _ Tryz.results9 (fun w h => ⟨rfl, trivial⟩) rfl _ (fun _ h => h.keep [false] rfl) ⟨(false), ?_, ?_, ?_⟩
   ·have e_x0 : (false : Bool) = (false) := by first | rfl | omega | (simp_all; done) | (simp_all; omega)
    exact congrArg (fun (x0 : Bool) => vB x0) e_x0
   ·rfl
   ·exact c45b2_
  ·have h4w := h4
   have ⟨h4, h5⟩ := bor_false h4
   have h4 := of_decide_eq_false h4
   have h5 := of_decide_eq_false h5
   refine sk_ (n_ (q_ (g_ (s_ (fA 0 Ty.fi33_0) (s_ (fA 33 Ty.fi27_13) (r_ (ld_ 0 Ty.sc25) (s_ (lnS Tryz.underlying25) (s_ mv_ (z_ (xk_ [0, 1, 9, 10, 11, 29, 30, 31] ?_))))))))))
   refine n_ (k_ ?_)
   refine J_loop (X := Nat) (fun (j : Nat) => (j ≤ (l.getD k default).Lines.length) ∧ (∀ i, i < j → ((l.getD k default).Lines.getD i []).length ≤ 60)) (fun (j : Nat) => [(0, vL rowsA rows.length rowsC), (1, vL lA l.length lC), (9, vL lA l.length lC), (10, vI ((l.length : Nat) : Int)), (11, vI ((k : Nat) : Int)), (29, vL ((l.getD k default).LinesA) ((l.getD k default).Lines.length) ((l.getD k default).LinesC)), (30, vI (((l.getD k default).Lines.length : Nat) : Int)), (31, vI ((j : Nat) : Int))]) (fun (j : Nat) => []) (fun (j : Nat) => (l.getD k default).Lines.length - j) (0 : Nat) ?_ ⟨rfl, rfl, rfl, rfl, rfl, rfl, rfl, rfl, trivial⟩ (fun _ h => h.keep [false] rfl) ?_
   ·try dsimp only
    refine ⟨?_, ?_⟩
    ·first | rfl | omega | (simp_all; done) | (simp_all; omega)
    ·intro i hi; omega
   intro j hI2
   obtain ⟨i2_0, i2_1⟩ := hI2
   try dsimp only at i2_0
   try dsimp only at i2_1
   try dsimp only
   refine q_ (g_ (s_ (x_lss_i rfl rfl) (z_ (n_ (q_ ?_)))))
   refine ifd (fun h6w h6 => ?_) (fun h6w h6 => ?_)
   ·refine sk_ (n_ (q_ (k_ (q_ (g_ (r_ (x_indexAddr_at (k := j) (off := j) (cells_ro (Kp.ro (lN.imp fun _ h => (h k)))) Tryz.underlying25 Ty.sz9 rfl rfl lt_ (by rw [List.length_map]; first | omega | (simp only [List.length_append, List.length_cons, List.length_nil]; omega) | (simp; omega) | (simp_all; omega) | (simp_all; done)) (Nat.mul_one _)) (r_ (ldM vS [] (cells_ro (Kp.ro (lN.imp fun _ h => (h k)))) Ty.sc9) (s_ av_ (z_ (n_ (q_ (g_ (s_ mv_ (s_ (x_len_s rfl Tryz.underlying9) (s_ (x_gtr_i rfl rfl) (z_ (n_ ?_)))))))))))))))))
    refine ifd (fun h7w h7 => ?_) (fun h7w h7 => ?_)
    ·refine q_ (g_ (s_ av_ (z_ (n_ (rt_ (kq_ (nr_ (rr_ (kq_ (kq_ (nr_ (rr_ (kq_ (nr_ ?_))))))))))))))
     refine JX_rets [_] _ Tryz.results9 (fun w h => ⟨rfl, trivial⟩) rfl _ (fun _ h => h) ⟨(false), ?_, ?_, ?_⟩
     ·have e_x0 : (false : Bool) = (false) := by first | rfl | omega | (simp_all; done) | (simp_all; omega)
      exact congrArg (fun (x0 : Bool) => vB x0) e_x0
     ·rfl
     ·exact c45b2_
    ·refine sk_ (kx_ (n_ (g_ (s_ (x_add_n (a := j) (b := 1) rfl rfl (by omega)) (s_ mv_ (z_ ?_))))))
     refine JX_round (j + 1 : Nat) ?_ ?_ ⟨rfl, rfl, rfl, rfl, rfl, rfl, rfl, rfl, trivial⟩ (fun _ h => h)
     ·try dsimp only
      refine ⟨?_, ?_⟩
      ·first | rfl | omega | (simp_all; done) | (simp_all; omega)
      ·intro i hi
       by_cases hij : i = j
       ·subst hij; omega
       ·exact i2_1 i (by omega)
     ·try dsimp only
      first | omega | (simp; omega) | (simp_all; omega)
   ·refine J_exit (ne_ (re_ (kh_ (kx_ (n_ ?_)))))
    refine g_ (s_ (x_add_n (a := k) (b := 1) rfl rfl (by omega)) (s_ mv_ (z_ ?_)))
    refine JX_round (k + 1 : Nat) ?_ ?_ ⟨rfl, rfl, rfl, rfl, rfl, trivial⟩ (fun _ h => h)
    ·try dsimp only
     refine ⟨?_, ?_⟩
     ·first | rfl | omega | (simp_all; done) | (simp_all; omega)
     ·intro i hi
      by_cases hik : i = k
      ·subst hik; exact R45.few_b (by omega) (by omega) (fun j hj => i2_1 j (by omega)) (by omega)
      ·exact i1_1 i (by omega)
    ·try dsimp only
     first | omega | (simp; omega) | (simp_all; omega)
 ·refine J_exit (ne_ (re_ (kh_ (n_ (q_ ?_)))))
  refine g_ (s_ mv_ ?_)
  refine c1 (cl_ Ty.ca23) (fun w hS => f23_ok rows _ _ 30 w (rno rowsR hS) hy_) ?_
  rintro _ _ ⟨z8, rfl, rfl, hf9⟩
  refine s_ mv_ ?_
  refine and_ 3 (decide (((l.length : Nat) : Int) ≤ 4)) (fun g10 => ?_) ?_
  ·have g10r := g10
   refine sg_ g10 mv_ (sg_ g10 (lnS Tryz.underlying36) (sg_ g10 (x_leq_i rfl rfl) ?_))
   exact cr_
  refine s_ av_ (z_ (n_ (rt_ ?_)))
  refine JX_rets [_] _ Tryz.results9 (fun w h => ⟨rfl, trivial⟩) rfl _ (fun _ h => h) ⟨(z8 && (decide (((l.length : Nat) : Int) ≤ 4))), ?_, ?_, ?_⟩
  ·rfl
  ·rfl
  ·exact c45b2_
set_option maxRecDepth 20000 in
theorem f10_ok (rows : List SRow) (rowsA : Option Addr) (rowsC : Nat) (w : World) (rowsR : RO [] w rowsA (rows.flatMap SRow.enc)) (q0 : rows.length ≤ 1000000) : Calls Tryz.prog 10 #[vL rowsA rows.length rowsC] w (Gives [] w fun v L => ∃ out : List SRow, ∃ outA : Option Addr, ∃ outC : Nat, v = vL outA out.length outC ∧ L = [Ent.row (.slice outA out.length outC) 57 3 out.length (out.flatMap SRow.enc)] ∧ (R45.DistJ rows rows.length out)) := by
 refine calls_J [] 56 Tryz.func10 rfl Tryz.ntmps10 [(0, _)] rfl rfl (Give.nil w) ?_
 refine q_ (g_ (s_ av_ (z_ (n_ (q_ (g_ (o_ (O_buildSlice0 Tryz.underlying22 Ty.sz57 fun b1 => ?_))))))))
 refine s_ av_ (z_ (n_ (q_ (q_ (g_ (s_ av_ (z_ (n_ (k_ ?_)))))))))
 refine J_loop (X := Nat × (List SRow) × (Option Addr) × Nat) (fun (⟨i, out, outA, outC⟩ : Nat × (List SRow) × (Option Addr) × Nat) => (i ≤ rows.length) ∧ (R45.DistJ rows i out)) (fun (⟨i, out, outA, outC⟩ : Nat × (List SRow) × (Option Addr) × Nat) => [(0, vL rowsA rows.length rowsC), (2, vL none 0 0), (3, vL outA out.length outC), (4, vI ((i : Nat) : Int))]) (fun (⟨i, out, outA, outC⟩ : Nat × (List SRow) × (Option Addr) × Nat) => [Ent.row (.slice outA out.length outC) 57 3 out.length (out.flatMap SRow.enc)]) (fun (⟨i, out, outA, outC⟩ : Nat × (List SRow) × (Option Addr) × Nat) => rows.length - i) ((0, ([] : List SRow), (some ⟨b1, 0, none⟩), 0) : Nat × (List SRow) × (Option Addr) × Nat) ?_ ⟨rfl, rfl, rfl, rfl, trivial⟩ (fun _ h => (St.torow (cs := []) h 3 0 rfl (by decide)).keep [true] rfl) ?_
 ·try dsimp only
  refine ⟨?_, ?_⟩
  ·first | rfl | omega | (simp_all; done) | (simp_all; omega)
  ·exact R45.DistJ.start
 rintro ⟨i, out, outA, outC⟩ hI1
 obtain ⟨i1_0, i1_1⟩ := hI1
 try dsimp only at i1_0
 try dsimp only at i1_1
 have hol := i1_1.1
 try dsimp only
 refine q_ (q_ (g_ (s_ mv_ (s_ mv_ (s_ (lnS Tryz.underlying22) (s_ (x_lss_i rfl rfl) (z_ (n_ ?_))))))))
 refine ifd (fun h2w h2 => ?_) (fun h2w h2 => ?_)
 ·refine sk_ (n_ (q_ (k_ (q_ (g_ (s_ av_ (z_ (n_ (q_ (q_ (g_ (s_ av_ (z_ (n_ (k_ ?_)))))))))))))))
  refine J_loop (X := Nat × Bool) (fun (⟨k, again⟩ : Nat × Bool) => (k ≤ i) ∧ (R45.NewJ rows i k again)) (fun (⟨k, again⟩ : Nat × Bool) => [(0, vL rowsA rows.length rowsC), (2, vL none 0 0), (3, vL outA out.length outC), (4, vI ((i : Nat) : Int)), (5, vB again), (6, vI ((k : Nat) : Int))]) (fun (⟨k, again⟩ : Nat × Bool) => [Ent.row (.slice outA out.length outC) 57 3 out.length (out.flatMap SRow.enc)]) (fun (⟨k, again⟩ : Nat × Bool) => i - k) ((0, false) : Nat × Bool) ?_ ⟨rfl, rfl, rfl, rfl, rfl, rfl, trivial⟩ (fun _ h => h) ?_
  ·try dsimp only
   refine ⟨?_, ?_⟩
   ·first | rfl | omega | (simp_all; done) | (simp_all; omega)
   ·exact R45.NewJ.start
  rintro ⟨k, again⟩ hI2
  obtain ⟨i2_0, i2_1⟩ := hI2
  try dsimp only at i2_0
  try dsimp only at i2_1
  try dsimp only
  refine q_ (q_ (g_ (s_ mv_ (s_ mv_ (s_ (x_lss_i rfl rfl) (z_ (n_ ?_)))))))
  refine ifd (fun h3w h3 => ?_) (fun h3w h3 => ?_)
  ·refine sk_ (n_ (q_ (k_ ?_)))
   refine drB [] 28 Ty.mixed ?_
   refine jp_ 0 rfl mv_ (jp_ 1 rfl mv_ ?_)
   refine jb_ 20 (fun h4 => ?_) (fun h4 => ?_)
   ·refine js2_ 2 rfl (js2_ 3 rfl (js2_ 4 rfl (js2_ 5 rfl (js2_ 6 rfl (js2_ 7 rfl (js2_ 8 rfl (js2_ 9 rfl (js2_ 10 rfl (js2_ 11 rfl ?_)))))))))
    refine js2_ 12 rfl (js2_ 13 rfl (ju_ 14 rfl (ju_ 15 rfl (ju_ 16 rfl (ju_ 17 rfl (ju_ 18 rfl (ju_ 19 rfl (ju_ 20 rfl (ju_ 21 rfl ?_)))))))))
    refine ju_ 22 rfl (ju_ 23 rfl (ju_ 24 rfl (js2_ 25 rfl ?_)))
    refine jt_ 26 (vB true) rfl (fun _ _ => rfl) ?_
    refine jp_ 27 rfl av_ ?_
    refine JA_done (by kernel_rfl) gm_ ?_
    refine kx_ (n_ (g_ (s_ mv_ (s_ (x_add_n (a := k) (b := 1) rfl rfl (by omega)) (s_ av_ (z_ ?_))))))
    refine JX_round ((k + 1, true) : Nat × Bool) ?_ ?_ ⟨rfl, rfl, rfl, rfl, rfl, rfl, trivial⟩ (fun _ h => h)
    ·try dsimp only
     refine ⟨?_, ?_⟩
     ·first | rfl | omega | (simp_all; done) | (simp_all; omega)
     ·exact c45b3_
    ·try dsimp only
     first | omega | (simp; omega) | (simp_all; omega)
   ·refine jp_ 2 rfl mv_ (jp_ 3 rfl mv_ (jq_ 4 rfl (ixF SRow.enc_len (cells_ro rowsR) Tryz.underlying22 Ty.sz57) (jp_ 5 rfl (fB0 Ty.fi57_0) (jq_ 6 rfl (ldF0 SRow.enc_len (cells_ro rowsR) Ty.sc3) (jp_ 7 rfl mv_ (jp_ 8 rfl mv_ (jq_ 9 rfl (ixF SRow.enc_len (cells_ro rowsR) Tryz.underlying22 Ty.sz57) (jp_ 10 rfl (fB0 Ty.fi57_0) (jq_ 11 rfl (ldF0 SRow.enc_len (cells_ro rowsR) Ty.sc3) ?_ (hw := ⟨_, rfl, rfl⟩)) (hw := ⟨_, rfl, rfl⟩)) (hw := ⟨_, rfl, rfl⟩)) (hw := ⟨_, rfl, rfl⟩)) (hw := ⟨_, rfl, rfl⟩)) (hw := ⟨_, rfl, rfl⟩)) (hw := ⟨_, rfl, rfl⟩)) (hw := ⟨_, rfl, rfl⟩)) (hw := ⟨_, rfl, rfl⟩)) (hw := ⟨_, rfl, rfl⟩)
    refine jp_ 12 rfl (x_eql_i rfl rfl) (jp_ 13 rfl mv_ ?_ (hw := ⟨_, rfl, rfl⟩)) (hw := ⟨_, rfl, rfl⟩)
    refine jb_ 32 (fun h5 => ?_) (fun h5 => ?_)
    ·have h5 := of_decide_eq_true h5
     refine jp_ 14 rfl mv_ (jp_ 15 rfl mv_ (jq_ 16 rfl (ixF SRow.enc_len (cells_ro rowsR) Tryz.underlying22 Ty.sz57) (jp_ 17 rfl (fB Ty.fi57_1) (jq_ 18 rfl (ldF 1 SRow.enc_len (cells_ro rowsR) Ty.sc9) (jp_ 19 rfl mv_ (jp_ 20 rfl mv_ (jq_ 21 rfl (ixF SRow.enc_len (cells_ro rowsR) Tryz.underlying22 Ty.sz57) (jp_ 22 rfl (fB Ty.fi57_1) (jq_ 23 rfl (ldF 1 SRow.enc_len (cells_ro rowsR) Ty.sc9) ?_ (hw := ⟨_, rfl, rfl⟩)) (hw := ⟨_, rfl, rfl⟩)) (hw := ⟨_, rfl, rfl⟩)) (hw := ⟨_, rfl, rfl⟩)) (hw := ⟨_, rfl, rfl⟩)) (hw := ⟨_, rfl, rfl⟩)) (hw := ⟨_, rfl, rfl⟩)) (hw := ⟨_, rfl, rfl⟩)) (hw := ⟨_, rfl, rfl⟩)) (hw := ⟨_, rfl, rfl⟩)
     refine jp_ 24 rfl (x_eql_s rfl rfl) ?_ (hw := ⟨_, rfl, rfl⟩)
     refine JA_take 25 (vB (decide ((rows.getD k default).Key = (rows.getD i default).Key))) rfl (by kernel_rfl) (by kernel_rfl) (by kernel_rfl) rfl (fun _ _ _ h => h) rfl ⟨_, rfl, rfl⟩ (fun _ _ => rfl) ?_
     refine jt_ 26 (vB (decide ((rows.getD k default).Key = (rows.getD i default).Key))) rfl (fun _ _ => rfl) ?_
     refine jp_ 27 rfl av_ ?_
     refine JA_done (by kernel_rfl) gm_ ?_
     refine kx_ (n_ (g_ (s_ mv_ (s_ (x_add_n (a := k) (b := 1) rfl rfl (by omega)) (s_ av_ (z_ ?_))))))
     refine JX_round ((k + 1, decide ((rows.getD k default).Key = (rows.getD i default).Key)) : Nat × Bool) ?_ ?_ ⟨rfl, rfl, rfl, rfl, rfl, rfl, trivial⟩ (fun _ h => h)
     ·try dsimp only
      refine ⟨?_, ?_⟩
      ·first | rfl | omega | (simp_all; done) | (simp_all; omega)
      ·exact c45b3_
     ·try dsimp only
      first | omega | (simp; omega) | (simp_all; omega)
    ·have h5 := of_decide_eq_false h5
     refine js2_ 14 rfl (js2_ 15 rfl (js2_ 16 rfl (js2_ 17 rfl (js2_ 18 rfl (js2_ 19 rfl (js2_ 20 rfl (js2_ 21 rfl (js2_ 22 rfl (js2_ 23 rfl ?_)))))))))
     refine js2_ 24 rfl ?_
     refine JA_take 25 (vB false) rfl (by kernel_rfl) (by kernel_rfl) (by kernel_rfl) rfl (fun _ _ _ h => h) rfl ⟨_, rfl, rfl⟩ (fun _ _ => rfl) ?_
     refine jt_ 26 (vB false) rfl (fun _ _ => rfl) ?_
     refine jp_ 27 rfl av_ ?_
     refine JA_done (by kernel_rfl) gm_ ?_
     refine kx_ (n_ (g_ (s_ mv_ (s_ (x_add_n (a := k) (b := 1) rfl rfl (by omega)) (s_ av_ (z_ ?_))))))
     refine JX_round ((k + 1, false) : Nat × Bool) ?_ ?_ ⟨rfl, rfl, rfl, rfl, rfl, rfl, trivial⟩ (fun _ h => h)
     ·try dsimp only
      refine ⟨?_, ?_⟩
      ·first | rfl | omega | (simp_all; done) | (simp_all; omega)
      ·exact c45b3_
     ·try dsimp only
      first | omega | (simp; omega) | (simp_all; omega)
  ·refine J_exit (ne_ (re_ (kh_ (n_ (q_ ?_)))))
   refine g_ (s_ mv_ (s_ (x_not rfl) (z_ (n_ ?_))))
   refine if_ (fun h6 => ?_) (fun h6 => ?_)
   ·have h6w := h6
    have h6 : (again) = false := bnot_true h6
    refine g_ (s_ mv_ (s_ mv_ (s_ mv_ (r_ (ixF SRow.enc_len (cells_ro rowsR) Tryz.underlying22 Ty.sz57) (r_ (ldFN SRow.enc_len (cells_ro rowsR) Ty.ag57 Ty.sz57) (o_ (O_buildSlice (cs := [vI ((rows.getD i default).Id), vS ((rows.getD i default).Key), vS ((rows.getD i default).Record)]) Tryz.underlying22 Ty.sz57 Ty.ze57 (by decide) (by decide) (by kernel_rfl) fun b7 => ?_)))))))
    refine o_ (O_append_f 1 SRow.enc 3 out [(rows.getD i default)] Tryz.underlying22 Ty.sz57 Ty.by57 Ty.ze57 rfl (by decide) rfl rfl rfl rfl SRow.enc_len SRow.enc_one (cells_blk 0 (off := 0) (m := 3) rfl rfl) lt_ lt_ fun A8 c9 => ?_)
    refine s_ av_ (z_ (kx_ (n_ (g_ (s_ mv_ (s_ (x_add_n (a := i) (b := 1) rfl rfl (by omega)) (s_ av_ (z_ ?_))))))))
    refine JX_round ((i + 1, out ++ [(rows.getD i default)], A8, c9) : Nat × (List SRow) × (Option Addr) × Nat) ?_ ?_ ⟨rfl, rfl, rfl, rfl, trivial⟩ (fun _ h => h.keep [false, true] rfl)
    ·try dsimp only
     refine ⟨?_, ?_⟩
     ·first | rfl | omega | (simp_all; done) | (simp_all; omega)
     ·exact c45b7_
    ·try dsimp only
     first | omega | (simp; omega) | (simp_all; omega)
   ·have h6w := h6
    have h6 : (again) = true := bnot_false h6
    refine sk_ (kx_ (n_ (g_ (s_ mv_ (s_ (x_add_n (a := i) (b := 1) rfl rfl (by omega)) (s_ av_ (z_ ?_)))))))
    refine JX_round ((i + 1, out, outA, outC) : Nat × (List SRow) × (Option Addr) × Nat) ?_ ?_ ⟨rfl, rfl, rfl, rfl, trivial⟩ (fun _ h => h)
    ·try dsimp only
     refine ⟨?_, ?_⟩
     ·first | rfl | omega | (simp_all; done) | (simp_all; omega)
     ·exact c45b7_
    ·try dsimp only
     first | omega | (simp; omega) | (simp_all; omega)
 ·refine J_exit (ne_ (re_ (kh_ (n_ (q_ ?_)))))
  refine g_ (s_ mv_ (s_ av_ (z_ (n_ (rt_ ?_)))))
  refine JX_rets [_] _ Tryz.results10 (fun w h => ⟨rfl, trivial⟩) rfl _ (fun _ h => h) ⟨out, outA, outC, ?_, ?_, ?_⟩
  ·rfl
  ·rfl
  ·rw [show rows.length = i by omega]; exact i1_1
set_option maxRecDepth 20000 in
theorem f12_ok (rows : List SRow) (rowsA : Option Addr) (rowsC : Nat) (w : World) (rowsR : RO [] w rowsA (rows.flatMap SRow.enc)) : Calls Tryz.prog 12 #[vL rowsA rows.length rowsC] w (Gives [] w fun v L => ∃ s : Nat, v = pB s 0 ∧ L = [Ent.blk s 52 [vL rowsA rows.length rowsC, vI 0, vI 0, vI ((0 : Nat) : Int)]]) := by
 refine calls_J [] 6 Tryz.func12 rfl Tryz.ntmps12 [(0, _)] rfl rfl (Give.nil w) ?_
 refine q_ (g_ (s_ av_ (z_ (n_ (q_ (g_ (s_ mv_ (js_ (vG [vL rowsA rows.length rowsC, vI 0, vI 0, vI 0]) (x_build (by kernel_rfl)) (o_ (bxG fun b1 => ?_))))))))))
 refine s_ av_ (z_ (n_ (rt_ ?_)))
 refine JX_rets [_] _ Tryz.results12 (fun w h => ⟨rfl, trivial⟩) rfl _ (fun _ h => h) ⟨b1, ?_, ?_⟩
 ·rfl
 ·have e_y0 : (0 : Nat) = 0 := by
   first | rfl | omega | (simp_all; done) | (simp_all; omega)
  have e_all := (congrArg (fun (y0 : Nat) => [Ent.blk b1 52 [vL rowsA rows.length rowsC, vI 0, vI 0, vI ((y0 : Nat) : Int)]]) e_y0)
  exact e_all
set_option maxRecDepth 20000 in
theorem f17_ok (n : Bytes) (id : Int) (w : World) : Calls Tryz.prog 17 #[vS n, vI id] w (Gives [] w fun v L => v = vG (Binding.enc (R45.freshB n id)) ∧ L = []) := by
 refine calls_J [] 10 Tryz.func17 rfl Tryz.ntmps17 [(0, _), (1, _)] rfl rfl (Give.nil w) ?_
 refine q_ (g_ (o_ (al_ Ty.ze33 fun b1 => ?_)))
 refine z_ (n_ (q_ (g_ (s_ mv_ (js_ (vG [vS n, vS [], vB false, vI 0, vS [], vS [], vI 0, vI 0, vI 0, vI 0, vI 0, vI 0, vI 0, vI 0, vI 0, vI 0, vI 0, vI 0, vI 0, vI 0, vI 0, vI 0, vI 0, vB false, vI 0, vS [], vS [], vI 0, vI 0, vB false, vI 1, vI 0, vB false, vL none 0 0, vB false]) (x_build (by kernel_rfl)) (s_ mv_ (js_ (vG [vI id, vI 0, vI 0, vI 0, vI 0, vI 0, vI 0, vI 0, vI 0, vI 0, vI 0, vI 0, vI 0, vI 0, vB false, vI 0, vS [], vS [], vI 0, vI 0, vB false]) (x_build (by kernel_rfl)) ?_)))))))
 refine js_ (vG [vS n, vS [], vB false, vI 0, vS [], vS [], vI 0, vI 0, vI 0, vI 0, vI 0, vI 0, vI 0, vI 0, vI 0, vI 0, vI 0, vI 0, vI 0, vI 0, vI 0, vI 0, vI 0, vB false, vI 0, vS [], vS [], vI 0, vI 0, vB false, vI 1, vI 0, vB false, vL none 0 0, vB false, vS [], vI 0, vS [], vI 0, vI 0, vI 0, vI 0, vI 0, vI 0, vI 0, vI 0, vI 0, vI 0, vI 0, vI 0, vI 0, vI 0, vB false, vI 0, vS [], vS [], vI 0, vI 0, vB false, vL none 0 0, vI 0, vI 0, vI 0, vB false, vS [], vS [], vI 0, vI 0, vL none 0 0, vB true, vI id, vI 0, vI 0, vI 0, vI 0, vI 0, vI 0, vI 0, vI 0, vI 0, vI 0, vI 0, vI 0, vI 0, vB false, vI 0, vS [], vS [], vI 0, vI 0, vB false]) (x_build (by kernel_rfl)) (o_ (stG 0 Ty.sz33 ?_))
 refine z_ (n_ (rt_ ?_))
 refine JX_rets [_] _ Tryz.results17 (fun w h => ⟨⟨_, rfl, load_blkN 0 [vS n, vS [], vB false, vI 0, vS [], vS [], vI 0, vI 0, vI 0, vI 0, vI 0, vI 0, vI 0, vI 0, vI 0, vI 0, vI 0, vI 0, vI 0, vI 0, vI 0, vI 0, vI 0, vB false, vI 0, vS [], vS [], vI 0, vI 0, vB false, vI 1, vI 0, vB false, vL none 0 0, vB false, vS [], vI 0, vS [], vI 0, vI 0, vI 0, vI 0, vI 0, vI 0, vI 0, vI 0, vI 0, vI 0, vI 0, vI 0, vI 0, vI 0, vB false, vI 0, vS [], vS [], vI 0, vI 0, vB false, vL none 0 0, vI 0, vI 0, vI 0, vB false, vS [], vS [], vI 0, vI 0, vL none 0 0, vB true, vI id, vI 0, vI 0, vI 0, vI 0, vI 0, vI 0, vI 0, vI 0, vI 0, vI 0, vI 0, vI 0, vI 0, vB false, vI 0, vS [], vS [], vI 0, vI 0, vB false] h rfl Ty.ag33 Ty.sz33 rfl⟩, trivial⟩) rfl _ (fun _ h => h.keep [false] rfl) ⟨?_, ?_⟩
 ·have e_x0 : ((Binding.mk n [] false 0 [] [] 0 0 0 (DataSet.mk 0 0 0 0 0 0 0 0 0 0 0 0 0 0 false 0 [] [] 0 0 false) 1 0 false ([] : List Bytes) none 0 false [] 0 [] (DataSet.mk 0 0 0 0 0 0 0 0 0 0 0 0 0 0 false 0 [] [] 0 0 false) none 0 0 0 0 0 false [] [] 0 0 none 0 0 true (DataSet.mk id 0 0 0 0 0 0 0 0 0 0 0 0 0 false 0 [] [] 0 0 false)) : Binding) = (R45.freshB n id) := by rfl
  exact congrArg (fun (x0 : Binding) => vG (Binding.enc x0)) e_x0
 ·rfl
set_option maxRecDepth 20000 in
theorem f18_ok (n : Bytes) (l : List Bytes) (lA : Option Addr) (lC : Nat) (w : World) (lR : RO [] w lA (l.map vS)) : Calls Tryz.prog 18 #[vS n, vL lA l.length lC] w (Gives [] w fun v L => v = vG (Binding.enc (R45.inlineB n l lA lC)) ∧ L = []) := by
 refine calls_J [] 9 Tryz.func18 rfl Tryz.ntmps18 [(0, _), (1, _)] rfl rfl (Give.nil w) ?_
 refine q_ (g_ (o_ (al_ Ty.ze33 fun b1 => ?_)))
 refine z_ (n_ (q_ (g_ (s_ mv_ (s_ mv_ (js_ (vG [vS n, vS [], vB false, vI 0, vS [], vS [], vI 0, vI 0, vI 0, vI 0, vI 0, vI 0, vI 0, vI 0, vI 0, vI 0, vI 0, vI 0, vI 0, vI 0, vI 0, vI 0, vI 0, vB false, vI 0, vS [], vS [], vI 0, vI 0, vB false, vI 0, vI 0, vB true, vL lA l.length lC, vB false]) (x_build (by kernel_rfl)) ?_))))))
 refine js_ (vG [vS n, vS [], vB false, vI 0, vS [], vS [], vI 0, vI 0, vI 0, vI 0, vI 0, vI 0, vI 0, vI 0, vI 0, vI 0, vI 0, vI 0, vI 0, vI 0, vI 0, vI 0, vI 0, vB false, vI 0, vS [], vS [], vI 0, vI 0, vB false, vI 0, vI 0, vB true, vL lA l.length lC, vB false, vS [], vI 0, vS [], vI 0, vI 0, vI 0, vI 0, vI 0, vI 0, vI 0, vI 0, vI 0, vI 0, vI 0, vI 0, vI 0, vI 0, vB false, vI 0, vS [], vS [], vI 0, vI 0, vB false, vL none 0 0, vI 0, vI 0, vI 0, vB false, vS [], vS [], vI 0, vI 0, vL none 0 0, vB false, vI 0, vI 0, vI 0, vI 0, vI 0, vI 0, vI 0, vI 0, vI 0, vI 0, vI 0, vI 0, vI 0, vI 0, vB false, vI 0, vS [], vS [], vI 0, vI 0, vB false]) (x_build (by kernel_rfl)) (o_ (stG 0 Ty.sz33 ?_))
 refine z_ (n_ (rt_ ?_))
 refine JX_rets [_] _ Tryz.results18 (fun w h => ⟨⟨_, rfl, load_blkN 0 [vS n, vS [], vB false, vI 0, vS [], vS [], vI 0, vI 0, vI 0, vI 0, vI 0, vI 0, vI 0, vI 0, vI 0, vI 0, vI 0, vI 0, vI 0, vI 0, vI 0, vI 0, vI 0, vB false, vI 0, vS [], vS [], vI 0, vI 0, vB false, vI 0, vI 0, vB true, vL lA l.length lC, vB false, vS [], vI 0, vS [], vI 0, vI 0, vI 0, vI 0, vI 0, vI 0, vI 0, vI 0, vI 0, vI 0, vI 0, vI 0, vI 0, vI 0, vB false, vI 0, vS [], vS [], vI 0, vI 0, vB false, vL none 0 0, vI 0, vI 0, vI 0, vB false, vS [], vS [], vI 0, vI 0, vL none 0 0, vB false, vI 0, vI 0, vI 0, vI 0, vI 0, vI 0, vI 0, vI 0, vI 0, vI 0, vI 0, vI 0, vI 0, vI 0, vB false, vI 0, vS [], vS [], vI 0, vI 0, vB false] h rfl Ty.ag33 Ty.sz33 rfl⟩, trivial⟩) rfl _ (fun _ h => h.keep [false] rfl) ⟨?_, ?_⟩
 ·have e_x0 : ((Binding.mk n [] false 0 [] [] 0 0 0 (DataSet.mk 0 0 0 0 0 0 0 0 0 0 0 0 0 0 false 0 [] [] 0 0 false) 0 0 true l lA lC false [] 0 [] (DataSet.mk 0 0 0 0 0 0 0 0 0 0 0 0 0 0 false 0 [] [] 0 0 false) none 0 0 0 0 0 false [] [] 0 0 none 0 0 false (DataSet.mk 0 0 0 0 0 0 0 0 0 0 0 0 0 0 false 0 [] [] 0 0 false)) : Binding) = (R45.inlineB n l lA lC) := by rfl
  exact congrArg (fun (x0 : Binding) => vG (Binding.enc x0)) e_x0
 ·rfl
set_option maxRecDepth 20000 in
theorem f25_ok (rows : List SRow) (rowsA : Option Addr) (rowsC : Nat) (id : Int) (w : World) (rowsR : RO [] w rowsA (rows.flatMap SRow.enc)) (q0 : rows.length ≤ 1000000) : Calls Tryz.prog 25 #[vL rowsA rows.length rowsC, vI id] w (Gives [] w fun v L => ∃ out : List SRow, ∃ outA : Option Addr, ∃ outC : Nat, v = vL outA out.length outC ∧ L = [Ent.row (.slice outA out.length outC) 57 3 out.length (out.flatMap SRow.enc)] ∧ (out = R45.above rows id [])) := by
 refine calls_J [] 66 Tryz.func25 rfl Tryz.ntmps25 [(0, _), (1, _)] rfl rfl (Give.nil w) ?_
 refine q_ (g_ (s_ av_ (z_ (n_ (q_ (g_ (o_ (O_buildSlice0 Tryz.underlying22 Ty.sz57 fun b1 => ?_))))))))
 refine s_ av_ (z_ (n_ (q_ (q_ (g_ (s_ av_ (z_ (n_ (k_ ?_)))))))))
 refine J_loop (X := Nat × (List SRow) × (Option Addr) × Nat) (fun (⟨i, out, outA, outC⟩ : Nat × (List SRow) × (Option Addr) × Nat) => (i ≤ rows.length) ∧ (R45.RowsJ rows id i out)) (fun (⟨i, out, outA, outC⟩ : Nat × (List SRow) × (Option Addr) × Nat) => [(0, vL rowsA rows.length rowsC), (1, vI id), (4, vL none 0 0), (5, vL outA out.length outC), (6, vI ((i : Nat) : Int))]) (fun (⟨i, out, outA, outC⟩ : Nat × (List SRow) × (Option Addr) × Nat) => [Ent.row (.slice outA out.length outC) 57 3 out.length (out.flatMap SRow.enc)]) (fun (⟨i, out, outA, outC⟩ : Nat × (List SRow) × (Option Addr) × Nat) => rows.length - i) ((0, ([] : List SRow), (some ⟨b1, 0, none⟩), 0) : Nat × (List SRow) × (Option Addr) × Nat) ?_ ⟨rfl, rfl, rfl, rfl, rfl, trivial⟩ (fun _ h => (St.torow (cs := []) h 3 0 rfl (by decide)).keep [true] rfl) ?_
 ·try dsimp only
  refine ⟨?_, ?_⟩
  ·first | rfl | omega | (simp_all; done) | (simp_all; omega)
  ·exact R45.RowsJ.start
 rintro ⟨i, out, outA, outC⟩ hI1
 obtain ⟨i1_0, i1_1⟩ := hI1
 try dsimp only at i1_0
 try dsimp only at i1_1
 have hol := i1_1.len
 try dsimp only
 refine q_ (q_ (g_ (s_ mv_ (s_ mv_ (s_ (lnS Tryz.underlying22) (s_ (x_lss_i rfl rfl) (z_ (n_ ?_))))))))
 refine ifd (fun h2w h2 => ?_) (fun h2w h2 => ?_)
 ·refine sk_ (n_ (q_ (k_ (q_ (q_ (g_ (s_ mv_ (s_ mv_ (r_ (ixF SRow.enc_len (cells_ro rowsR) Tryz.underlying22 Ty.sz57) (s_ (fB0 Ty.fi57_0) (r_ (ldF0 SRow.enc_len (cells_ro rowsR) Ty.sc3) (s_ mv_ (s_ (x_neq_i rfl rfl) (s_ mv_ ?_))))))))))))))
  refine or_ 6 (decide ((rows.getD i default).Key = ([] : Bytes))) (fun g3 => ?_) ?_
  ·have g3r := g3
   have g3r := of_decide_eq_false g3r
   refine sg_ g3 mv_ (sg_ g3 mv_ (rg_ g3 (ixF SRow.enc_len (cells_ro rowsR) Tryz.underlying22 Ty.sz57) (sg_ g3 (fB Ty.fi57_1) (rg_ g3 (ldF 1 SRow.enc_len (cells_ro rowsR) Ty.sc9) (jg_ g3 (vB (decide ((rows.getD i default).Key = ([] : Bytes)))) (x_eql_s rfl rfl) ?_)))))
   exact cr_
  refine z_ (n_ ?_)
  refine if_ (fun h4 => ?_) (fun h4 => ?_)
  ·have h4w := h4
   simp only [Bool.and_eq_true, Bool.or_eq_true, Bool.and_eq_false_iff, Bool.or_eq_false_iff, Bool.not_eq_true', Bool.not_eq_false', decide_eq_true_eq, decide_eq_false_iff_not] at h4
   refine J_exit (ne_ (kh_ (n_ (g_ ?_))))
   refine s_ mv_ (s_ (x_add_n (a := i) (b := 1) rfl rfl (by omega)) (s_ av_ (z_ ?_)))
   refine JX_round ((i + 1, out, outA, outC) : Nat × (List SRow) × (Option Addr) × Nat) ?_ ?_ ⟨rfl, rfl, rfl, rfl, rfl, trivial⟩ (fun _ h => h)
   ·try dsimp only
    refine ⟨?_, ?_⟩
    ·first | rfl | omega | (simp_all; done) | (simp_all; omega)
    ·first | exact i1_1.skip (by omega) c45b1_ | exact i1_1.put (by omega) (by simp_all) (by simp_all) (by omega) i2_1 (fun hj => by first | (exfalso; omega) | exact R45.ge_f (by assumption))
   ·try dsimp only
    first | omega | (simp; omega) | (simp_all; omega)
  ·have h4w := h4
   have ⟨h4, h5⟩ := bor_false h4
   have h4 := of_decide_eq_false h4
   have h5 := of_decide_eq_false h5
   have h5l := List.length_pos_iff.2 h5
   refine sk_ (n_ (q_ (g_ (s_ mv_ (s_ (lnS Tryz.underlying22) (s_ av_ (z_ (xk_ [0, 1, 4, 5, 6, 7] ?_))))))))
   refine n_ (q_ (k_ ?_))
   refine J_loop (X := Nat) (fun (j : Nat) => (j ≤ out.length) ∧ (∀ k, j ≤ k → k < out.length → Op.bytesLess (rows.getD i default).Key (out.getD k default).Key = true)) (fun (j : Nat) => [(0, vL rowsA rows.length rowsC), (1, vI id), (4, vL none 0 0), (5, vL outA out.length outC), (6, vI ((i : Nat) : Int)), (7, vI ((j : Nat) : Int))]) (fun (j : Nat) => [Ent.row (.slice outA out.length outC) 57 3 out.length (out.flatMap SRow.enc)]) (fun (j : Nat) => j) (out.length : Nat) ?_ ⟨rfl, rfl, rfl, rfl, rfl, rfl, trivial⟩ (fun _ h => h) ?_
   ·try dsimp only
    refine ⟨?_, ?_⟩
    ·first | rfl | omega | (simp_all; done) | (simp_all; omega)
    ·intro k hk hl; omega
   intro j hI2
   obtain ⟨i2_0, i2_1⟩ := hI2
   try dsimp only at i2_0
   try dsimp only at i2_1
   try dsimp only
   refine q_ (q_ ?_)
   refine drB [] 16 Ty.mixed ?_
   refine jp_ 0 rfl mv_ (jp_ 1 rfl (x_gtr_i rfl rfl) (jp_ 2 rfl mv_ ?_))
   refine jb_ 34 (fun h6 => ?_) (fun h6 => ?_)
   ·have h6 := of_decide_eq_true h6
    refine jp_ 3 rfl mv_ (jp_ 4 rfl mv_ (jp_ 5 rfl (x_sub_i (a := ((j : Nat) : Int)) (b := 1) rfl rfl (by omega) (by omega)) (jq_ 6 rfl (ixF (k := (j - 1)) (hy := (ix_nat rfl (by omega))) SRow.enc_len (cells_row 0 rfl) Tryz.underlying22 Ty.sz57) (jp_ 7 rfl (fB Ty.fi57_1) (jq_ 8 rfl (ldF 1 SRow.enc_len (cells_row 0 rfl) Ty.sc9) (jp_ 9 rfl mv_ (jp_ 10 rfl mv_ (jq_ 11 rfl (ixF SRow.enc_len (cells_ro rowsR) Tryz.underlying22 Ty.sz57) (jp_ 12 rfl (fB Ty.fi57_1) ?_ (hw := ⟨_, rfl, rfl⟩)) (hw := ⟨_, rfl, rfl⟩)) (hw := ⟨_, rfl, rfl⟩)) (hw := ⟨_, rfl, rfl⟩)) (hw := ⟨_, rfl, rfl⟩)) (hw := ⟨_, rfl, rfl⟩)) (hw := ⟨_, rfl, rfl⟩)) (hw := ⟨_, rfl, rfl⟩)) (hw := ⟨_, rfl, rfl⟩)) (hw := ⟨_, rfl, rfl⟩)
    refine jq_ 13 rfl (ldF 1 SRow.enc_len (cells_ro rowsR) Ty.sc9) (jp_ 14 rfl (x_gtr_s rfl rfl) ?_ (hw := ⟨_, rfl, rfl⟩)) (hw := ⟨_, rfl, rfl⟩)
    refine jt_ 15 (vB (!((Op.bytesLess ((out.getD (j - 1) default).Key) ((rows.getD i default).Key)) || (decide ((out.getD (j - 1) default).Key = (rows.getD i default).Key))))) rfl (fun _ _ => rfl) ?_
    refine JA_done (by kernel_rfl) gm_ ?_
    refine n_ ?_
    refine if_ (fun h7 => ?_) (fun h7 => ?_)
    ·have h7w := h7
     have h7 : ((Op.bytesLess ((out.getD (j - 1) default).Key) ((rows.getD i default).Key)) || (decide ((out.getD (j - 1) default).Key = (rows.getD i default).Key))) = false := bnot_true h7
     have ⟨h7, h8⟩ := bor_false h7
     have h8 := of_decide_eq_false h8
     refine sk_ (n_ (k_ (g_ (s_ mv_ (s_ (x_sub_i (a := ((j : Nat) : Int)) (b := 1) rfl rfl (by omega) (by omega)) (s_ av_ (z_ (kx_ ?_))))))))
     refine JX_round ((j - 1) : Nat) ?_ ?_ ⟨rfl, rfl, rfl, rfl, rfl, (sE_ (by omega)), trivial⟩ (fun _ h => h)
     ·try dsimp only
      refine ⟨?_, ?_⟩
      ·first | rfl | omega | (simp_all; done) | (simp_all; omega)
      ·intro k hk hl
       by_cases hkj : k = j - 1
       ·subst hkj; first | exact R45.gt_of (by assumption) (by assumption) | simp_all
       ·exact i2_1 k (by omega) hl
     ·try dsimp only
      first | omega | (simp; omega) | (simp_all; omega)
    ·have h7w := h7
     have h7 : ((Op.bytesLess ((out.getD (j - 1) default).Key) ((rows.getD i default).Key)) || (decide ((out.getD (j - 1) default).Key = (rows.getD i default).Key))) = true := bnot_false h7
     simp only [Bool.and_eq_true, Bool.or_eq_true, Bool.and_eq_false_iff, Bool.or_eq_false_iff, Bool.not_eq_true', Bool.not_eq_false', decide_eq_true_eq, decide_eq_false_iff_not] at h7
     refine J_exit (ne_ (re_ (kh_ (n_ ?_))))
     refine drB [4, 10, 14] 16 Ty.mixed ?_
     refine jp_ 1 rfl mv_ (jp_ 2 rfl mv_ (jq_ 3 rfl (x_subrow_row 0 (lo := 0) (hi := j) rfl rfl Tryz.underlying22 Ty.sz57 (.inr ⟨rfl, rfl⟩) (.inl rfl) lt_ lt_) (jp_ 5 rfl mv_ (jp_ 6 rfl mv_ (jq_ 7 rfl (ixF SRow.enc_len (cells_ro rowsR) Tryz.underlying22 Ty.sz57) (jq_ 8 rfl (ldFN SRow.enc_len (cells_ro rowsR) Ty.ag57 Ty.sz57) (jp_ 11 rfl mv_ (jp_ 12 rfl mv_ (jq_ 13 rfl (x_subrow_row 0 (lo := j) (hi := out.length) rfl rfl Tryz.underlying22 Ty.sz57 (.inl rfl) (.inr ⟨rfl, rfl⟩) lt_ lt_) ?_)))))))))
     refine JA_finX (X := (Option Addr) × Nat) (fun ⟨A20, c21⟩ => [(0, vL rowsA rows.length rowsC), (1, vI id), (4, vL none 0 0), (5, vL A20 ((((([] : List SRow) ++ ((out.drop 0).take (j - 0))) ++ [(rows.getD i default)]) ++ ((out.drop j).take (out.length - j))).length) c21), (6, vI ((i : Nat) : Int))]) (fun ⟨A20, c21⟩ => [Ent.row (.slice A20 (((([] : List SRow) ++ ((out.drop 0).take (j - 0))) ++ [(rows.getD i default)]) ++ ((out.drop j).take (out.length - j))).length c21) 57 3 (((([] : List SRow) ++ ((out.drop 0).take (j - 0))) ++ [(rows.getD i default)]) ++ ((out.drop j).take (out.length - j))).length ((((([] : List SRow) ++ ((out.drop 0).take (j - 0))) ++ [(rows.getD i default)]) ++ ((out.drop j).take (out.length - j))).flatMap SRow.enc)]) ?_ (fun key9 => ?_)
     ·rintro ⟨A20, c21⟩
      show JX _ _ _ _ _ [(0, vL rowsA rows.length rowsC), (1, vI id), (4, vL none 0 0), (5, vL A20 ((((([] : List SRow) ++ ((out.drop 0).take (j - 0))) ++ [(rows.getD i default)]) ++ ((out.drop j).take (out.length - j))).length) c21), (6, vI ((i : Nat) : Int))] [Ent.row (.slice A20 (((([] : List SRow) ++ ((out.drop 0).take (j - 0))) ++ [(rows.getD i default)]) ++ ((out.drop j).take (out.length - j))).length c21) 57 3 (((([] : List SRow) ++ ((out.drop 0).take (j - 0))) ++ [(rows.getD i default)]) ++ ((out.drop j).take (out.length - j))).length ((((([] : List SRow) ++ ((out.drop 0).take (j - 0))) ++ [(rows.getD i default)]) ++ ((out.drop j).take (out.length - j))).flatMap SRow.enc)]
      refine kx_ (n_ (g_ (s_ mv_ (s_ (x_add_n (a := i) (b := 1) rfl rfl (by omega)) (s_ av_ (z_ ?_))))))
      refine JX_round ((i + 1, ((([] : List SRow) ++ ((out.drop 0).take (j - 0))) ++ [(rows.getD i default)]) ++ ((out.drop j).take (out.length - j)), A20, c21) : Nat × (List SRow) × (Option Addr) × Nat) ?_ ?_ ⟨rfl, rfl, rfl, rfl, rfl, trivial⟩ (fun _ h => h)
      ·try dsimp only
       refine ⟨?_, ?_⟩
       ·first | rfl | omega | (simp_all; done) | (simp_all; omega)
       ·first | exact i1_1.skip (by omega) c45b1_ | exact i1_1.put (by omega) (by simp_all) (by simp_all) (by omega) i2_1 (fun hj => by first | (exfalso; omega) | exact R45.ge_f (by assumption))
      ·try dsimp only
       first | omega | (simp; omega) | (simp_all; omega)
     ·refine JA_ready (rs := [0, 9]) (by kernel_rfl) (by decide) gm_ (List.forall_mem_cons.2 ⟨?_, (List.forall_mem_cons.2 ⟨?_, all_nil⟩)⟩)
      ·refine jio_ rfl (O_buildSlice0 Tryz.underlying22 Ty.sz57 fun b22 => ?_)
       refine JA_weaken (E' := [(0, vL rowsA rows.length rowsC), (1, vI id), (4, vL none 0 0), (5, vL outA out.length outC), (6, vI ((i : Nat) : Int)), (7, vI ((j : Nat) : Int)), (32, vI ((j : Nat) : Int)), (33, vB (decide ((0 : Int) < ((j : Nat) : Int)))), (34, vB true), (35, vL outA out.length outC), (36, vI ((j : Nat) : Int)), (37, vI (((j : Nat) : Int) - 1)), (38, pA outA ((j - 1) * 3)), (39, pA outA ((j - 1) * 3 + 1)), (40, vS ((out.getD (j - 1) default).Key)), (41, vL rowsA rows.length rowsC), (42, vI ((i : Nat) : Int)), (43, pA rowsA (i * 3)), (44, pA rowsA (i * 3 + 1)), (45, vS ((rows.getD i default).Key)), (46, vB (!((Op.bytesLess ((out.getD (j - 1) default).Key) ((rows.getD i default).Key)) || (decide ((out.getD (j - 1) default).Key = (rows.getD i default).Key))))), (47, vB (!((Op.bytesLess ((out.getD (j - 1) default).Key) ((rows.getD i default).Key)) || (decide ((out.getD (j - 1) default).Key = (rows.getD i default).Key))))), (51, vL outA out.length outC), (52, vI ((j : Nat) : Int)), (53, vL (subA outA outC 0 3) j outC), (55, vL rowsA rows.length rowsC), (56, vI ((i : Nat) : Int)), (57, pA rowsA (i * 3)), (58, vG [vI ((rows.getD i default).Id), vS ((rows.getD i default).Key), vS ((rows.getD i default).Record)]), (61, vL outA out.length outC), (62, vI ((j : Nat) : Int)), (63, vL (subA outA outC j 3) (out.length - j) (outC - j)), (50, vL (some ⟨b22, 0, none⟩) ((([] : List SRow)).length) 0)]) (L' := [Ent.row (.slice (some ⟨b22, 0, none⟩) ([] : List SRow).length 0) 57 3 ([] : List SRow).length (([] : List SRow).flatMap SRow.enc), Ent.row (.slice outA out.length outC) 57 3 out.length (out.flatMap SRow.enc)]) ⟨rfl, rfl, rfl, rfl, rfl, rfl, rfl, rfl, rfl, rfl, rfl, rfl, rfl, rfl, rfl, rfl, rfl, rfl, rfl, rfl, rfl, rfl, rfl, rfl, rfl, rfl, rfl, rfl, rfl, rfl, rfl, rfl, rfl, trivial⟩ (fun _ h => (St.torow (cs := []) ((h.front 1 _ rfl).front 1 _ rfl) 3 0 rfl (by decide)).keep [true, true] rfl) ?_
       refine JA_ready (rs := [4, 9]) (by kernel_rfl) (by decide) (fun _ h => ⟨h.keep [false, true] rfl, fun _ => h.keep [false, true] rfl⟩) (List.forall_mem_cons.2 ⟨?_, (List.forall_mem_cons.2 ⟨?_, all_nil⟩)⟩)
       ·refine jio_ rfl (O_append_f 0 SRow.enc 3 ([] : List SRow) ((out.drop 0).take (j - 0)) Tryz.underlying22 Ty.sz57 Ty.by57 Ty.ze57 rfl (by decide) rfl rfl rfl c45b0_ SRow.enc_len SRow.enc_one (cells_sub_rowF 1 SRow.enc 3 SRow.enc_len 0 j rfl lt_ lt_) lt_ lt_ fun A23 c24 => ?_)
        refine j1_ 9 (jio_ rfl (O_buildSlice (cs := [vI ((rows.getD i default).Id), vS ((rows.getD i default).Key), vS ((rows.getD i default).Record)]) Tryz.underlying22 Ty.sz57 Ty.ze57 (by decide) (by decide) (by kernel_rfl) fun b26 => ?_)) (gl_ rfl (fun _ h => h.keep [false, true] rfl))
        refine j1_ 10 (jio_ rfl (O_append_f 1 SRow.enc 3 (([] : List SRow) ++ ((out.drop 0).take (j - 0))) [(rows.getD i default)] Tryz.underlying22 Ty.sz57 Ty.by57 Ty.ze57 rfl (by decide) rfl rfl rfl rfl SRow.enc_len SRow.enc_one (cells_blk 0 (off := 0) (m := 3) rfl rfl) lt_ lt_ fun A29 c30 => ?_)) (gl_ rfl (fun _ h => h.keep [false, false, true] rfl))
        refine j1_ 14 (jio_ rfl (O_append_f 1 SRow.enc 3 ((([] : List SRow) ++ ((out.drop 0).take (j - 0))) ++ [(rows.getD i default)]) ((out.drop j).take (out.length - j)) Tryz.underlying22 Ty.sz57 Ty.by57 Ty.ze57 rfl (by decide) rfl rfl rfl c45b0_ SRow.enc_len SRow.enc_one (cells_sub_rowF 2 SRow.enc 3 SRow.enc_len j out.length rfl lt_ lt_) lt_ lt_ fun A33 c34 => ?_)) (gl_ rfl (fun _ h => h.keep [false, false, true] rfl))
        refine jp_ 15 rfl av_ ?_
        exact JA_done (by kernel_rfl) (gl_ rfl (fun _ h => h.keep [false, false, true] rfl)) (JX_weaken (E' := [(0, vL rowsA rows.length rowsC), (1, vI id), (4, vL none 0 0), (5, vL A33 ((((([] : List SRow) ++ ((out.drop 0).take (j - 0))) ++ [(rows.getD i default)]) ++ ((out.drop j).take (out.length - j))).length) c34), (6, vI ((i : Nat) : Int))]) (L' := [Ent.row (.slice A33 (((([] : List SRow) ++ ((out.drop 0).take (j - 0))) ++ [(rows.getD i default)]) ++ ((out.drop j).take (out.length - j))).length c34) 57 3 (((([] : List SRow) ++ ((out.drop 0).take (j - 0))) ++ [(rows.getD i default)]) ++ ((out.drop j).take (out.length - j))).length ((((([] : List SRow) ++ ((out.drop 0).take (j - 0))) ++ [(rows.getD i default)]) ++ ((out.drop j).take (out.length - j))).flatMap SRow.enc)]) ⟨rfl, rfl, rfl, rfl, rfl, trivial⟩ (fun _ h => h.keep [false, true, false] rfl) (key9 (A33, c34)))
       ·refine jio_ rfl (O_buildSlice (cs := [vI ((rows.getD i default).Id), vS ((rows.getD i default).Key), vS ((rows.getD i default).Record)]) Tryz.underlying22 Ty.sz57 Ty.ze57 (by decide) (by decide) (by kernel_rfl) fun b35 => ?_)
        refine j1_ 4 (jio_ rfl (O_append_f 1 SRow.enc 3 ([] : List SRow) ((out.drop 0).take (j - 0)) Tryz.underlying22 Ty.sz57 Ty.by57 Ty.ze57 rfl (by decide) rfl rfl rfl c45b0_ SRow.enc_len SRow.enc_one (cells_sub_rowF 2 SRow.enc 3 SRow.enc_len 0 j rfl lt_ lt_) lt_ lt_ fun A38 c39 => ?_)) (fun _ h => ⟨h.keep [false, false, true] rfl, fun _ => h.keep [false, false, true] rfl⟩)
        refine j1_ 10 (jio_ rfl (O_append_f 1 SRow.enc 3 (([] : List SRow) ++ ((out.drop 0).take (j - 0))) [(rows.getD i default)] Tryz.underlying22 Ty.sz57 Ty.by57 Ty.ze57 rfl (by decide) rfl rfl rfl rfl SRow.enc_len SRow.enc_one (cells_blk 0 (off := 0) (m := 3) rfl rfl) lt_ lt_ fun A42 c43 => ?_)) (gl_ rfl (fun _ h => h.keep [false, false, true] rfl))
        refine j1_ 14 (jio_ rfl (O_append_f 1 SRow.enc 3 ((([] : List SRow) ++ ((out.drop 0).take (j - 0))) ++ [(rows.getD i default)]) ((out.drop j).take (out.length - j)) Tryz.underlying22 Ty.sz57 Ty.by57 Ty.ze57 rfl (by decide) rfl rfl rfl c45b0_ SRow.enc_len SRow.enc_one (cells_sub_rowF 2 SRow.enc 3 SRow.enc_len j out.length rfl lt_ lt_) lt_ lt_ fun A46 c47 => ?_)) (gl_ rfl (fun _ h => h.keep [false, false, true] rfl))
        refine jp_ 15 rfl av_ ?_
        exact JA_done (by kernel_rfl) (gl_ rfl (fun _ h => h.keep [false, false, true] rfl)) (JX_weaken (E' := [(0, vL rowsA rows.length rowsC), (1, vI id), (4, vL none 0 0), (5, vL A46 ((((([] : List SRow) ++ ((out.drop 0).take (j - 0))) ++ [(rows.getD i default)]) ++ ((out.drop j).take (out.length - j))).length) c47), (6, vI ((i : Nat) : Int))]) (L' := [Ent.row (.slice A46 (((([] : List SRow) ++ ((out.drop 0).take (j - 0))) ++ [(rows.getD i default)]) ++ ((out.drop j).take (out.length - j))).length c47) 57 3 (((([] : List SRow) ++ ((out.drop 0).take (j - 0))) ++ [(rows.getD i default)]) ++ ((out.drop j).take (out.length - j))).length ((((([] : List SRow) ++ ((out.drop 0).take (j - 0))) ++ [(rows.getD i default)]) ++ ((out.drop j).take (out.length - j))).flatMap SRow.enc)]) ⟨rfl, rfl, rfl, rfl, rfl, trivial⟩ (fun _ h => h.keep [false, true, false] rfl) (key9 (A46, c47)))
      ·refine jio_ rfl (O_buildSlice (cs := [vI ((rows.getD i default).Id), vS ((rows.getD i default).Key), vS ((rows.getD i default).Record)]) Tryz.underlying22 Ty.sz57 Ty.ze57 (by decide) (by decide) (by kernel_rfl) fun b48 => ?_)
       refine j1_ 0 (jio_ rfl (O_buildSlice0 Tryz.underlying22 Ty.sz57 fun b50 => ?_)) (fun _ h => ⟨h.keep [false, true] rfl, fun _ => h.keep [false, true] rfl⟩)
       refine JA_weaken (E' := [(0, vL rowsA rows.length rowsC), (1, vI id), (4, vL none 0 0), (5, vL outA out.length outC), (6, vI ((i : Nat) : Int)), (7, vI ((j : Nat) : Int)), (32, vI ((j : Nat) : Int)), (33, vB (decide ((0 : Int) < ((j : Nat) : Int)))), (34, vB true), (35, vL outA out.length outC), (36, vI ((j : Nat) : Int)), (37, vI (((j : Nat) : Int) - 1)), (38, pA outA ((j - 1) * 3)), (39, pA outA ((j - 1) * 3 + 1)), (40, vS ((out.getD (j - 1) default).Key)), (41, vL rowsA rows.length rowsC), (42, vI ((i : Nat) : Int)), (43, pA rowsA (i * 3)), (44, pA rowsA (i * 3 + 1)), (45, vS ((rows.getD i default).Key)), (46, vB (!((Op.bytesLess ((out.getD (j - 1) default).Key) ((rows.getD i default).Key)) || (decide ((out.getD (j - 1) default).Key = (rows.getD i default).Key))))), (47, vB (!((Op.bytesLess ((out.getD (j - 1) default).Key) ((rows.getD i default).Key)) || (decide ((out.getD (j - 1) default).Key = (rows.getD i default).Key))))), (51, vL outA out.length outC), (52, vI ((j : Nat) : Int)), (53, vL (subA outA outC 0 3) j outC), (55, vL rowsA rows.length rowsC), (56, vI ((i : Nat) : Int)), (57, pA rowsA (i * 3)), (58, vG [vI ((rows.getD i default).Id), vS ((rows.getD i default).Key), vS ((rows.getD i default).Record)]), (61, vL outA out.length outC), (62, vI ((j : Nat) : Int)), (63, vL (subA outA outC j 3) (out.length - j) (outC - j)), (59, vL (some ⟨b48, 0, none⟩) 1 1), (50, vL (some ⟨b50, 0, none⟩) ((([] : List SRow)).length) 0)]) (L' := [Ent.row (.slice (some ⟨b50, 0, none⟩) ([] : List SRow).length 0) 57 3 ([] : List SRow).length (([] : List SRow).flatMap SRow.enc), Ent.blk b48 57 [vI ((rows.getD i default).Id), vS ((rows.getD i default).Key), vS ((rows.getD i default).Record)], Ent.row (.slice outA out.length outC) 57 3 out.length (out.flatMap SRow.enc)]) ⟨rfl, rfl, rfl, rfl, rfl, rfl, rfl, rfl, rfl, rfl, rfl, rfl, rfl, rfl, rfl, rfl, rfl, rfl, rfl, rfl, rfl, rfl, rfl, rfl, rfl, rfl, rfl, rfl, rfl, rfl, rfl, rfl, rfl, rfl, trivial⟩ (fun _ h => (St.torow (cs := []) (((h.front 2 _ rfl).front 2 _ rfl).front 2 _ rfl) 3 0 rfl (by decide)).keep [true, true, true] rfl) ?_
       refine j1_ 4 (jio_ rfl (O_append_f 0 SRow.enc 3 ([] : List SRow) ((out.drop 0).take (j - 0)) Tryz.underlying22 Ty.sz57 Ty.by57 Ty.ze57 rfl (by decide) rfl rfl rfl c45b0_ SRow.enc_len SRow.enc_one (cells_sub_rowF 2 SRow.enc 3 SRow.enc_len 0 j rfl lt_ lt_) lt_ lt_ fun A53 c54 => ?_)) (fun _ h => ⟨h.keep [false, false, true] rfl, fun _ => h.keep [false, false, true] rfl⟩)
       refine j1_ 10 (jio_ rfl (O_append_f 0 SRow.enc 3 (([] : List SRow) ++ ((out.drop 0).take (j - 0))) [(rows.getD i default)] Tryz.underlying22 Ty.sz57 Ty.by57 Ty.ze57 rfl (by decide) rfl rfl rfl rfl SRow.enc_len SRow.enc_one (cells_blk 1 (off := 0) (m := 3) rfl rfl) lt_ lt_ fun A57 c58 => ?_)) (gl_ rfl (fun _ h => h.keep [false, false, true] rfl))
       refine j1_ 14 (jio_ rfl (O_append_f 0 SRow.enc 3 ((([] : List SRow) ++ ((out.drop 0).take (j - 0))) ++ [(rows.getD i default)]) ((out.drop j).take (out.length - j)) Tryz.underlying22 Ty.sz57 Ty.by57 Ty.ze57 rfl (by decide) rfl rfl rfl c45b0_ SRow.enc_len SRow.enc_one (cells_sub_rowF 2 SRow.enc 3 SRow.enc_len j out.length rfl lt_ lt_) lt_ lt_ fun A61 c62 => ?_)) (gl_ rfl (fun _ h => h.keep [false, false, true] rfl))
       refine jp_ 15 rfl av_ ?_
       exact JA_done (by kernel_rfl) (gl_ rfl (fun _ h => h.keep [false, false, true] rfl)) (JX_weaken (E' := [(0, vL rowsA rows.length rowsC), (1, vI id), (4, vL none 0 0), (5, vL A61 ((((([] : List SRow) ++ ((out.drop 0).take (j - 0))) ++ [(rows.getD i default)]) ++ ((out.drop j).take (out.length - j))).length) c62), (6, vI ((i : Nat) : Int))]) (L' := [Ent.row (.slice A61 (((([] : List SRow) ++ ((out.drop 0).take (j - 0))) ++ [(rows.getD i default)]) ++ ((out.drop j).take (out.length - j))).length c62) 57 3 (((([] : List SRow) ++ ((out.drop 0).take (j - 0))) ++ [(rows.getD i default)]) ++ ((out.drop j).take (out.length - j))).length ((((([] : List SRow) ++ ((out.drop 0).take (j - 0))) ++ [(rows.getD i default)]) ++ ((out.drop j).take (out.length - j))).flatMap SRow.enc)]) ⟨rfl, rfl, rfl, rfl, rfl, trivial⟩ (fun _ h => h.keep [true, false, false] rfl) (key9 (A61, c62)))
   ·have h6 := of_decide_eq_false h6
    refine js2_ 3 rfl (js2_ 4 rfl (js2_ 5 rfl (js2_ 6 rfl (js2_ 7 rfl (js2_ 8 rfl (js2_ 9 rfl (js2_ 10 rfl (js2_ 11 rfl (js2_ 12 rfl ?_)))))))))
    refine js2_ 13 rfl (js2_ 14 rfl ?_)
    refine jt_ 15 (vB false) rfl (fun _ _ => rfl) ?_
    refine JA_done (by kernel_rfl) gm_ ?_
    refine n_ (iff_ (J_exit (ne_ (re_ (kh_ (n_ ?_))))))
    refine drB [4, 10, 14] 16 Ty.mixed ?_
    refine jp_ 1 rfl mv_ (jp_ 2 rfl mv_ (jq_ 3 rfl (x_subrow_row 0 (lo := 0) (hi := j) rfl rfl Tryz.underlying22 Ty.sz57 (.inr ⟨rfl, rfl⟩) (.inl rfl) lt_ lt_) (jp_ 5 rfl mv_ (jp_ 6 rfl mv_ (jq_ 7 rfl (ixF SRow.enc_len (cells_ro rowsR) Tryz.underlying22 Ty.sz57) (jq_ 8 rfl (ldFN SRow.enc_len (cells_ro rowsR) Ty.ag57 Ty.sz57) (jp_ 11 rfl mv_ (jp_ 12 rfl mv_ (jq_ 13 rfl (x_subrow_row 0 (lo := j) (hi := out.length) rfl rfl Tryz.underlying22 Ty.sz57 (.inl rfl) (.inr ⟨rfl, rfl⟩) lt_ lt_) ?_)))))))))
    refine JA_finX (X := (Option Addr) × Nat) (fun ⟨A74, c75⟩ => [(0, vL rowsA rows.length rowsC), (1, vI id), (4, vL none 0 0), (5, vL A74 ((((([] : List SRow) ++ ((out.drop 0).take (j - 0))) ++ [(rows.getD i default)]) ++ ((out.drop j).take (out.length - j))).length) c75), (6, vI ((i : Nat) : Int))]) (fun ⟨A74, c75⟩ => [Ent.row (.slice A74 (((([] : List SRow) ++ ((out.drop 0).take (j - 0))) ++ [(rows.getD i default)]) ++ ((out.drop j).take (out.length - j))).length c75) 57 3 (((([] : List SRow) ++ ((out.drop 0).take (j - 0))) ++ [(rows.getD i default)]) ++ ((out.drop j).take (out.length - j))).length ((((([] : List SRow) ++ ((out.drop 0).take (j - 0))) ++ [(rows.getD i default)]) ++ ((out.drop j).take (out.length - j))).flatMap SRow.enc)]) ?_ (fun key63 => ?_)
    ·rintro ⟨A74, c75⟩
     show JX _ _ _ _ _ [(0, vL rowsA rows.length rowsC), (1, vI id), (4, vL none 0 0), (5, vL A74 ((((([] : List SRow) ++ ((out.drop 0).take (j - 0))) ++ [(rows.getD i default)]) ++ ((out.drop j).take (out.length - j))).length) c75), (6, vI ((i : Nat) : Int))] [Ent.row (.slice A74 (((([] : List SRow) ++ ((out.drop 0).take (j - 0))) ++ [(rows.getD i default)]) ++ ((out.drop j).take (out.length - j))).length c75) 57 3 (((([] : List SRow) ++ ((out.drop 0).take (j - 0))) ++ [(rows.getD i default)]) ++ ((out.drop j).take (out.length - j))).length ((((([] : List SRow) ++ ((out.drop 0).take (j - 0))) ++ [(rows.getD i default)]) ++ ((out.drop j).take (out.length - j))).flatMap SRow.enc)]
     refine kx_ (n_ (g_ (s_ mv_ (s_ (x_add_n (a := i) (b := 1) rfl rfl (by omega)) (s_ av_ (z_ ?_))))))
     refine JX_round ((i + 1, ((([] : List SRow) ++ ((out.drop 0).take (j - 0))) ++ [(rows.getD i default)]) ++ ((out.drop j).take (out.length - j)), A74, c75) : Nat × (List SRow) × (Option Addr) × Nat) ?_ ?_ ⟨rfl, rfl, rfl, rfl, rfl, trivial⟩ (fun _ h => h)
     ·try dsimp only
      refine ⟨?_, ?_⟩
      ·first | rfl | omega | (simp_all; done) | (simp_all; omega)
      ·first | exact i1_1.skip (by omega) c45b1_ | exact i1_1.put (by omega) (by simp_all) (by simp_all) (by omega) i2_1 (fun hj => by first | (exfalso; omega) | exact R45.ge_f (by assumption))
     ·try dsimp only
      first | omega | (simp; omega) | (simp_all; omega)
    ·refine JA_ready (rs := [0, 9]) (by kernel_rfl) (by decide) gm_ (List.forall_mem_cons.2 ⟨?_, (List.forall_mem_cons.2 ⟨?_, all_nil⟩)⟩)
     ·refine jio_ rfl (O_buildSlice0 Tryz.underlying22 Ty.sz57 fun b76 => ?_)
      refine JA_weaken (E' := [(0, vL rowsA rows.length rowsC), (1, vI id), (4, vL none 0 0), (5, vL outA out.length outC), (6, vI ((i : Nat) : Int)), (7, vI ((j : Nat) : Int)), (32, vI ((j : Nat) : Int)), (33, vB (decide ((0 : Int) < ((j : Nat) : Int)))), (34, vB false), (35, undef), (36, undef), (37, undef), (38, undef), (39, undef), (40, undef), (41, undef), (42, undef), (43, undef), (44, undef), (45, undef), (46, undef), (47, vB false), (51, vL outA out.length outC), (52, vI ((j : Nat) : Int)), (53, vL (subA outA outC 0 3) j outC), (55, vL rowsA rows.length rowsC), (56, vI ((i : Nat) : Int)), (57, pA rowsA (i * 3)), (58, vG [vI ((rows.getD i default).Id), vS ((rows.getD i default).Key), vS ((rows.getD i default).Record)]), (61, vL outA out.length outC), (62, vI ((j : Nat) : Int)), (63, vL (subA outA outC j 3) (out.length - j) (outC - j)), (50, vL (some ⟨b76, 0, none⟩) ((([] : List SRow)).length) 0)]) (L' := [Ent.row (.slice (some ⟨b76, 0, none⟩) ([] : List SRow).length 0) 57 3 ([] : List SRow).length (([] : List SRow).flatMap SRow.enc), Ent.row (.slice outA out.length outC) 57 3 out.length (out.flatMap SRow.enc)]) ⟨rfl, rfl, rfl, rfl, rfl, rfl, rfl, rfl, rfl, rfl, rfl, rfl, rfl, rfl, rfl, rfl, rfl, rfl, rfl, rfl, rfl, rfl, rfl, rfl, rfl, rfl, rfl, rfl, rfl, rfl, rfl, rfl, rfl, trivial⟩ (fun _ h => (St.torow (cs := []) ((h.front 1 _ rfl).front 1 _ rfl) 3 0 rfl (by decide)).keep [true, true] rfl) ?_
      refine JA_ready (rs := [4, 9]) (by kernel_rfl) (by decide) (fun _ h => ⟨h.keep [false, true] rfl, fun _ => h.keep [false, true] rfl⟩) (List.forall_mem_cons.2 ⟨?_, (List.forall_mem_cons.2 ⟨?_, all_nil⟩)⟩)
      ·refine jio_ rfl (O_append_f 0 SRow.enc 3 ([] : List SRow) ((out.drop 0).take (j - 0)) Tryz.underlying22 Ty.sz57 Ty.by57 Ty.ze57 rfl (by decide) rfl rfl rfl c45b0_ SRow.enc_len SRow.enc_one (cells_sub_rowF 1 SRow.enc 3 SRow.enc_len 0 j rfl lt_ lt_) lt_ lt_ fun A77 c78 => ?_)
       refine j1_ 9 (jio_ rfl (O_buildSlice (cs := [vI ((rows.getD i default).Id), vS ((rows.getD i default).Key), vS ((rows.getD i default).Record)]) Tryz.underlying22 Ty.sz57 Ty.ze57 (by decide) (by decide) (by kernel_rfl) fun b80 => ?_)) (gl_ rfl (fun _ h => h.keep [false, true] rfl))
       refine j1_ 10 (jio_ rfl (O_append_f 1 SRow.enc 3 (([] : List SRow) ++ ((out.drop 0).take (j - 0))) [(rows.getD i default)] Tryz.underlying22 Ty.sz57 Ty.by57 Ty.ze57 rfl (by decide) rfl rfl rfl rfl SRow.enc_len SRow.enc_one (cells_blk 0 (off := 0) (m := 3) rfl rfl) lt_ lt_ fun A83 c84 => ?_)) (gl_ rfl (fun _ h => h.keep [false, false, true] rfl))
       refine j1_ 14 (jio_ rfl (O_append_f 1 SRow.enc 3 ((([] : List SRow) ++ ((out.drop 0).take (j - 0))) ++ [(rows.getD i default)]) ((out.drop j).take (out.length - j)) Tryz.underlying22 Ty.sz57 Ty.by57 Ty.ze57 rfl (by decide) rfl rfl rfl c45b0_ SRow.enc_len SRow.enc_one (cells_sub_rowF 2 SRow.enc 3 SRow.enc_len j out.length rfl lt_ lt_) lt_ lt_ fun A87 c88 => ?_)) (gl_ rfl (fun _ h => h.keep [false, false, true] rfl))
       refine jp_ 15 rfl av_ ?_
       exact JA_done (by kernel_rfl) (gl_ rfl (fun _ h => h.keep [false, false, true] rfl)) (JX_weaken (E' := [(0, vL rowsA rows.length rowsC), (1, vI id), (4, vL none 0 0), (5, vL A87 ((((([] : List SRow) ++ ((out.drop 0).take (j - 0))) ++ [(rows.getD i default)]) ++ ((out.drop j).take (out.length - j))).length) c88), (6, vI ((i : Nat) : Int))]) (L' := [Ent.row (.slice A87 (((([] : List SRow) ++ ((out.drop 0).take (j - 0))) ++ [(rows.getD i default)]) ++ ((out.drop j).take (out.length - j))).length c88) 57 3 (((([] : List SRow) ++ ((out.drop 0).take (j - 0))) ++ [(rows.getD i default)]) ++ ((out.drop j).take (out.length - j))).length ((((([] : List SRow) ++ ((out.drop 0).take (j - 0))) ++ [(rows.getD i default)]) ++ ((out.drop j).take (out.length - j))).flatMap SRow.enc)]) ⟨rfl, rfl, rfl, rfl, rfl, trivial⟩ (fun _ h => h.keep [false, true, false] rfl) (key63 (A87, c88)))
      ·refine jio_ rfl (O_buildSlice (cs := [vI ((rows.getD i default).Id), vS ((rows.getD i default).Key), vS ((rows.getD i default).Record)]) Tryz.underlying22 Ty.sz57 Ty.ze57 (by decide) (by decide) (by kernel_rfl) fun b89 => ?_)
       refine j1_ 4 (jio_ rfl (O_append_f 1 SRow.enc 3 ([] : List SRow) ((out.drop 0).take (j - 0)) Tryz.underlying22 Ty.sz57 Ty.by57 Ty.ze57 rfl (by decide) rfl rfl rfl c45b0_ SRow.enc_len SRow.enc_one (cells_sub_rowF 2 SRow.enc 3 SRow.enc_len 0 j rfl lt_ lt_) lt_ lt_ fun A92 c93 => ?_)) (fun _ h => ⟨h.keep [false, false, true] rfl, fun _ => h.keep [false, false, true] rfl⟩)
       refine j1_ 10 (jio_ rfl (O_append_f 1 SRow.enc 3 (([] : List SRow) ++ ((out.drop 0).take (j - 0))) [(rows.getD i default)] Tryz.underlying22 Ty.sz57 Ty.by57 Ty.ze57 rfl (by decide) rfl rfl rfl rfl SRow.enc_len SRow.enc_one (cells_blk 0 (off := 0) (m := 3) rfl rfl) lt_ lt_ fun A96 c97 => ?_)) (gl_ rfl (fun _ h => h.keep [false, false, true] rfl))
       refine j1_ 14 (jio_ rfl (O_append_f 1 SRow.enc 3 ((([] : List SRow) ++ ((out.drop 0).take (j - 0))) ++ [(rows.getD i default)]) ((out.drop j).take (out.length - j)) Tryz.underlying22 Ty.sz57 Ty.by57 Ty.ze57 rfl (by decide) rfl rfl rfl c45b0_ SRow.enc_len SRow.enc_one (cells_sub_rowF 2 SRow.enc 3 SRow.enc_len j out.length rfl lt_ lt_) lt_ lt_ fun A100 c101 => ?_)) (gl_ rfl (fun _ h => h.keep [false, false, true] rfl))
       refine jp_ 15 rfl av_ ?_
       exact JA_done (by kernel_rfl) (gl_ rfl (fun _ h => h.keep [false, false, true] rfl)) (JX_weaken (E' := [(0, vL rowsA rows.length rowsC), (1, vI id), (4, vL none 0 0), (5, vL A100 ((((([] : List SRow) ++ ((out.drop 0).take (j - 0))) ++ [(rows.getD i default)]) ++ ((out.drop j).take (out.length - j))).length) c101), (6, vI ((i : Nat) : Int))]) (L' := [Ent.row (.slice A100 (((([] : List SRow) ++ ((out.drop 0).take (j - 0))) ++ [(rows.getD i default)]) ++ ((out.drop j).take (out.length - j))).length c101) 57 3 (((([] : List SRow) ++ ((out.drop 0).take (j - 0))) ++ [(rows.getD i default)]) ++ ((out.drop j).take (out.length - j))).length ((((([] : List SRow) ++ ((out.drop 0).take (j - 0))) ++ [(rows.getD i default)]) ++ ((out.drop j).take (out.length - j))).flatMap SRow.enc)]) ⟨rfl, rfl, rfl, rfl, rfl, trivial⟩ (fun _ h => h.keep [false, true, false] rfl) (key63 (A100, c101)))
     ·refine jio_ rfl (O_buildSlice (cs := [vI ((rows.getD i default).Id), vS ((rows.getD i default).Key), vS ((rows.getD i default).Record)]) Tryz.underlying22 Ty.sz57 Ty.ze57 (by decide) (by decide) (by kernel_rfl) fun b102 => ?_)
      refine j1_ 0 (jio_ rfl (O_buildSlice0 Tryz.underlying22 Ty.sz57 fun b104 => ?_)) (fun _ h => ⟨h.keep [false, true] rfl, fun _ => h.keep [false, true] rfl⟩)
      refine JA_weaken (E' := [(0, vL rowsA rows.length rowsC), (1, vI id), (4, vL none 0 0), (5, vL outA out.length outC), (6, vI ((i : Nat) : Int)), (7, vI ((j : Nat) : Int)), (32, vI ((j : Nat) : Int)), (33, vB (decide ((0 : Int) < ((j : Nat) : Int)))), (34, vB false), (35, undef), (36, undef), (37, undef), (38, undef), (39, undef), (40, undef), (41, undef), (42, undef), (43, undef), (44, undef), (45, undef), (46, undef), (47, vB false), (51, vL outA out.length outC), (52, vI ((j : Nat) : Int)), (53, vL (subA outA outC 0 3) j outC), (55, vL rowsA rows.length rowsC), (56, vI ((i : Nat) : Int)), (57, pA rowsA (i * 3)), (58, vG [vI ((rows.getD i default).Id), vS ((rows.getD i default).Key), vS ((rows.getD i default).Record)]), (61, vL outA out.length outC), (62, vI ((j : Nat) : Int)), (63, vL (subA outA outC j 3) (out.length - j) (outC - j)), (59, vL (some ⟨b102, 0, none⟩) 1 1), (50, vL (some ⟨b104, 0, none⟩) ((([] : List SRow)).length) 0)]) (L' := [Ent.row (.slice (some ⟨b104, 0, none⟩) ([] : List SRow).length 0) 57 3 ([] : List SRow).length (([] : List SRow).flatMap SRow.enc), Ent.blk b102 57 [vI ((rows.getD i default).Id), vS ((rows.getD i default).Key), vS ((rows.getD i default).Record)], Ent.row (.slice outA out.length outC) 57 3 out.length (out.flatMap SRow.enc)]) ⟨rfl, rfl, rfl, rfl, rfl, rfl, rfl, rfl, rfl, rfl, rfl, rfl, rfl, rfl, rfl, rfl, rfl, rfl, rfl, rfl, rfl, rfl, rfl, rfl, rfl, rfl, rfl, rfl, rfl, rfl, rfl, rfl, rfl, rfl, trivial⟩ (fun _ h => (St.torow (cs := []) (((h.front 2 _ rfl).front 2 _ rfl).front 2 _ rfl) 3 0 rfl (by decide)).keep [true, true, true] rfl) ?_
      refine j1_ 4 (jio_ rfl (O_append_f 0 SRow.enc 3 ([] : List SRow) ((out.drop 0).take (j - 0)) Tryz.underlying22 Ty.sz57 Ty.by57 Ty.ze57 rfl (by decide) rfl rfl rfl c45b0_ SRow.enc_len SRow.enc_one (cells_sub_rowF 2 SRow.enc 3 SRow.enc_len 0 j rfl lt_ lt_) lt_ lt_ fun A107 c108 => ?_)) (fun _ h => ⟨h.keep [false, false, true] rfl, fun _ => h.keep [false, false, true] rfl⟩)
      refine j1_ 10 (jio_ rfl (O_append_f 0 SRow.enc 3 (([] : List SRow) ++ ((out.drop 0).take (j - 0))) [(rows.getD i default)] Tryz.underlying22 Ty.sz57 Ty.by57 Ty.ze57 rfl (by decide) rfl rfl rfl rfl SRow.enc_len SRow.enc_one (cells_blk 1 (off := 0) (m := 3) rfl rfl) lt_ lt_ fun A111 c112 => ?_)) (gl_ rfl (fun _ h => h.keep [false, false, true] rfl))
      refine j1_ 14 (jio_ rfl (O_append_f 0 SRow.enc 3 ((([] : List SRow) ++ ((out.drop 0).take (j - 0))) ++ [(rows.getD i default)]) ((out.drop j).take (out.length - j)) Tryz.underlying22 Ty.sz57 Ty.by57 Ty.ze57 rfl (by decide) rfl rfl rfl c45b0_ SRow.enc_len SRow.enc_one (cells_sub_rowF 2 SRow.enc 3 SRow.enc_len j out.length rfl lt_ lt_) lt_ lt_ fun A115 c116 => ?_)) (gl_ rfl (fun _ h => h.keep [false, false, true] rfl))
      refine jp_ 15 rfl av_ ?_
      exact JA_done (by kernel_rfl) (gl_ rfl (fun _ h => h.keep [false, false, true] rfl)) (JX_weaken (E' := [(0, vL rowsA rows.length rowsC), (1, vI id), (4, vL none 0 0), (5, vL A115 ((((([] : List SRow) ++ ((out.drop 0).take (j - 0))) ++ [(rows.getD i default)]) ++ ((out.drop j).take (out.length - j))).length) c116), (6, vI ((i : Nat) : Int))]) (L' := [Ent.row (.slice A115 (((([] : List SRow) ++ ((out.drop 0).take (j - 0))) ++ [(rows.getD i default)]) ++ ((out.drop j).take (out.length - j))).length c116) 57 3 (((([] : List SRow) ++ ((out.drop 0).take (j - 0))) ++ [(rows.getD i default)]) ++ ((out.drop j).take (out.length - j))).length ((((([] : List SRow) ++ ((out.drop 0).take (j - 0))) ++ [(rows.getD i default)]) ++ ((out.drop j).take (out.length - j))).flatMap SRow.enc)]) ⟨rfl, rfl, rfl, rfl, rfl, trivial⟩ (fun _ h => h.keep [true, false, false] rfl) (key63 (A115, c116)))
 ·refine J_exit (ne_ (re_ (kh_ (n_ (q_ ?_)))))
  refine g_ (s_ mv_ (s_ av_ (z_ (n_ (rt_ ?_)))))
  refine JX_rets [_] _ Tryz.results25 (fun w h => ⟨rfl, trivial⟩) rfl _ (fun _ h => h) ⟨out, outA, outC, ?_, ?_, ?_⟩
  ·rfl
  ·rfl
  ·exact i1_1.done (by omega)
set_option maxRecDepth 20000 in
theorem f13_ok (rows : List SRow) (rowsA : Option Addr) (rowsC : Nat) (b : Binding) (w : World) (rowsR : RO [] w rowsA (rows.flatMap SRow.enc)) (bN : Kp [] w (Binding.ok b)) (q0 : rows.length ≤ 1000) (q1 : b.Lines.length ≤ 1000) : Calls Tryz.prog 13 #[vL rowsA rows.length rowsC, vG (Binding.enc b)] w (Gives [] w fun v L => ∃ out : List Bytes, ∃ outA : Option Addr, ∃ outC : Nat, v = Value.tuple #[vL outA out.length outC, vI 0] ∧ L = [Ent.row (.slice outA out.length outC) 9 1 out.length (out.map vS)] ∧ (out = R45.recV rows b)) := by
 refine calls_J [] 51 Tryz.func13 rfl Tryz.ntmps13 [(0, _), (1, _)] rfl rfl (Give.nil w) ?_
 refine q_ (g_ (o_ (bxG fun b1 => ?_)))
 refine s_ av_ (s_ av_ (z_ (n_ (q_ (g_ (o_ (O_buildSlice0 Tryz.underlying25 Ty.sz9 fun b2 => ?_)))))))
 refine s_ av_ (z_ (n_ (q_ (q_ (g_ (s_ (fA 0 Ty.fi33_0) (s_ (fA 32 Ty.fi27_12) (r_ (ld_ 1 Ty.sc4) (z_ (n_ ?_))))))))))
 refine if_ (fun h3 => ?_) (fun h3 => ?_)
 ·have h3w := h3
  refine g_ (s_ mv_ (s_ (fA 0 Ty.fi33_0) (s_ (fA 33 Ty.fi27_13) (r_ (ld_ 1 Ty.sc25) ?_))))
  refine JO_weaken (E' := [(0, vL rowsA rows.length rowsC), (1, vG (Binding.enc b)), (3, pB b1 0), (4, vL none 0 0), (5, vI 0), (9, vL (some ⟨b2, 0, none⟩) ((([] : List Bytes)).length) 0), (6, vL (some ⟨b2, 0, none⟩) ((([] : List Bytes)).length) 0), (10, pB b1 0), (11, pB b1 32), (12, vB b.Inline), (13, vL (some ⟨b2, 0, none⟩) ((([] : List Bytes)).length) 0), (14, pB b1 0), (15, pB b1 33), (16, vL b.LinesA b.Lines.length b.LinesC)]) (L' := [Ent.row (.slice (some ⟨b2, 0, none⟩) ([] : List Bytes).length 0) 9 1 ([] : List Bytes).length (([] : List Bytes).map vS), Ent.blk b1 33 (Binding.enc b)]) ⟨rfl, rfl, rfl, rfl, rfl, rfl, rfl, rfl, rfl, rfl, rfl, rfl, rfl, rfl, trivial⟩ (fun _ h => (St.torow (cs := []) ((h.front 1 _ rfl).front 1 _ rfl) 1 0 rfl (by decide)).keep [true, true] rfl) ?_
  refine o_ (O_append_m 0 vS ([] : List Bytes) b.Lines Tryz.underlying25 Ty.sz9 Ty.by9 Ty.ze9 rfl rfl rfl rfl rfl (fun _ => rfl) (cells_ro (Kp.ro (bN.imp fun _ h => h))) lt_ lt_ fun A4 c5 => ?_)
  refine s_ av_ (z_ (n_ (q_ (q_ (g_ (s_ mv_ (s_ (lnS Tryz.underlying25) (s_ (x_gtr_i rfl rfl) (z_ (n_ ?_))))))))))
  refine ifd (fun h6w h6 => ?_) (fun h6w h6 => ?_)
  ·exfalso; (try simp only [List.length_append, List.length_singleton, List.length_nil] at *); omega
  ·refine sk_ (n_ (q_ (g_ (s_ mv_ (s_ av_ (s_ av_ (z_ (n_ (rt_ ?_)))))))))
   refine JX_rets [_, _] (Value.tuple #[_, _]) Tryz.results13 (fun w h => ⟨rfl, rfl, trivial⟩) rfl _ (fun _ h => h.keep [true, false] rfl) ⟨([] : List Bytes) ++ b.Lines, A4, c5, ?_, ?_, ?_⟩
   ·rfl
   ·rfl
   ·exact c45b5_
 ·have h3w := h3
  refine q_ (g_ (s_ (fA 0 Ty.fi33_0) (s_ (fA 34 Ty.fi27_14) (r_ (ld_ 1 Ty.sc4) (s_ (x_not rfl) (s_ mv_ ?_))))))
  refine and_ 3 (!b.Create) (fun g7 => ?_) ?_
  ·have g7r := g7
   have g7r : (b.Dummy) = false := bnot_true g7r
   refine sg_ g7 (fA 69 Ty.fi33_3) (rg_ g7 (ld_ 1 Ty.sc4) (sg_ g7 (x_not rfl) ?_))
   exact cr_
  refine z_ (n_ ?_)
  refine if_ (fun h8 => ?_) (fun h8 => ?_)
  ·have h8w := h8
   have ⟨h8, h9⟩ := band_true h8
   have h8 : (b.Dummy) = false := bnot_true h8
   have h9 : (b.Create) = false := bnot_true h9
   refine q_ (g_ (s_ mv_ (s_ (fA 36 Ty.fi33_2) (s_ (fA 38 Ty.fi31_2) (s_ (fA 38 Ty.fi24_0) (r_ (ld_ 1 Ty.sc3) ?_))))))
   refine c1 (cl_ Ty.ca25) (fun w hS => f25_ok rows _ _ _ w (rno rowsR hS) hy_) ?_
   rintro _ _ ⟨out10, outA11, outC12, rfl, rfl, hf13⟩
   have ha14 := R45.above_le (by assumption)
   refine s_ av_ (z_ (xk_ [4, 5, 6, 7] ?_))
   refine n_ (q_ (g_ (s_ av_ (z_ (n_ (k_ ?_))))))
   refine J_loop (X := Nat × (List Bytes) × (Option Addr) × Nat) (fun (⟨i, out, outA, outC⟩ : Nat × (List Bytes) × (Option Addr) × Nat) => (i ≤ out10.length) ∧ (out = (out10.take i).map SRow.Record) ∧ (out.length ≤ i)) (fun (⟨i, out, outA, outC⟩ : Nat × (List Bytes) × (Option Addr) × Nat) => [(4, vL none 0 0), (5, vI 0), (6, vL outA out.length outC), (7, vL outA11 out10.length outC12), (8, vI ((i : Nat) : Int))]) (fun (⟨i, out, outA, outC⟩ : Nat × (List Bytes) × (Option Addr) × Nat) => [Ent.row (.slice outA11 out10.length outC12) 57 3 out10.length (out10.flatMap SRow.enc), Ent.row (.slice outA out.length outC) 9 1 out.length (out.map vS)]) (fun (⟨i, out, outA, outC⟩ : Nat × (List Bytes) × (Option Addr) × Nat) => out10.length - i) ((0, ([] : List Bytes), (some ⟨b2, 0, none⟩), 0) : Nat × (List Bytes) × (Option Addr) × Nat) ?_ ⟨rfl, rfl, rfl, rfl, rfl, trivial⟩ (fun _ h => ((St.torow (cs := []) (h.front 1 _ rfl) 1 0 rfl (by decide)).front 1 _ rfl).keep [true, true, false] rfl) ?_
   ·try dsimp only
    refine ⟨?_, ?_, ?_⟩
    ·first | rfl | omega | (simp_all; done) | (simp_all; omega)
    ·rfl
    ·exact Nat.le_refl _
   rintro ⟨i, out, outA, outC⟩ hI1
   obtain ⟨i1_0, i1_1, i1_2⟩ := hI1
   try dsimp only at i1_0
   try dsimp only at i1_1
   try dsimp only at i1_2
   try dsimp only
   refine q_ (q_ (g_ (s_ mv_ (s_ mv_ (s_ (lnS Tryz.underlying22) (s_ (x_lss_i rfl rfl) (z_ (n_ ?_))))))))
   refine ifd (fun h15w h15 => ?_) (fun h15w h15 => ?_)
   ·refine sk_ (n_ (q_ (k_ (g_ (s_ mv_ (s_ mv_ (s_ mv_ (r_ (ixF SRow.enc_len (cells_row 0 rfl) Tryz.underlying22 Ty.sz57) (s_ (fB Ty.fi57_2) (r_ (ldF 2 SRow.enc_len (cells_row 0 rfl) Ty.sc9) (o_ (O_buildSlice (cs := [vS ((out10.getD i default).Record)]) Tryz.underlying25 Ty.sz9 Ty.ze9 (by decide) (by decide) (by kernel_rfl) fun b16 => ?_))))))))))))
    refine o_ (O_append_m 2 vS out [(out10.getD i default).Record] Tryz.underlying25 Ty.sz9 Ty.by9 Ty.ze9 rfl rfl rfl rfl rfl (fun _ => rfl) (cells_blk 0 (off := 0) (m := 1) rfl rfl) lt_ lt_ fun A17 c18 => ?_)
    refine s_ av_ (z_ (kx_ (n_ (g_ (s_ mv_ (s_ (x_add_n (a := i) (b := 1) rfl rfl (by omega)) (s_ av_ (z_ ?_))))))))
    refine JX_round ((i + 1, out ++ [(out10.getD i default).Record], A17, c18) : Nat × (List Bytes) × (Option Addr) × Nat) ?_ ?_ ⟨rfl, rfl, rfl, rfl, rfl, trivial⟩ (fun _ h => h.keep [false, true, true] rfl)
    ·try dsimp only
     refine ⟨?_, ?_, ?_⟩
     ·first | rfl | omega | (simp_all; done) | (simp_all; omega)
     ·rw [i1_1]; exact R45.rec_step (by omega)
     ·rw [List.length_append, List.length_singleton]; omega
    ·try dsimp only
     first | omega | (simp; omega) | (simp_all; omega)
   ·refine J_exit (ne_ (re_ (kh_ (n_ (q_ ?_)))))
    refine q_ (g_ (s_ mv_ (s_ (lnS Tryz.underlying25) (s_ (x_gtr_i rfl rfl) (z_ (n_ ?_))))))
    refine ifd (fun h19w h19 => ?_) (fun h19w h19 => ?_)
    ·exfalso; (try simp only [List.length_append, List.length_singleton, List.length_nil] at *); omega
    ·refine sk_ (n_ (q_ (g_ (s_ mv_ (s_ av_ (s_ av_ (z_ (n_ (rt_ ?_)))))))))
     refine JX_rets [_, _] (Value.tuple #[_, _]) Tryz.results13 (fun w h => ⟨rfl, rfl, trivial⟩) rfl _ (fun _ h => h.keep [false, true] rfl) ⟨out, outA, outC, ?_, ?_, ?_⟩
     ·rfl
     ·rfl
     ·exact c45b5_
  ·have h8w := h8
   simp only [Bool.and_eq_true, Bool.or_eq_true, Bool.and_eq_false_iff, Bool.or_eq_false_iff, Bool.not_eq_true', Bool.not_eq_false', decide_eq_true_eq, decide_eq_false_iff_not] at h8
   refine sk_ (n_ (q_ (q_ (g_ (s_ mv_ (s_ (lnS Tryz.underlying25) (jr_ (vB false) (z_ (n_ (iff_ (sk_ (n_ (q_ (g_ (s_ mv_ (s_ av_ (s_ av_ (z_ (n_ (rt_ ?_))))))))))))))))))))
   refine JX_rets [_, _] (Value.tuple #[_, _]) Tryz.results13 (fun w h => ⟨rfl, rfl, trivial⟩) rfl [Ent.row (.slice (some ⟨b2, 0, none⟩) ([] : List Bytes).length 0) 9 1 ([] : List Bytes).length (([] : List Bytes).map vS)] (fun _ h => (St.torow (cs := []) h 1 0 rfl (by decide)).keep [true, false] rfl) ⟨([] : List Bytes), (some ⟨b2, 0, none⟩), 0, ?_, ?_, ?_⟩
   ·have e_x0 : (0 : Nat) = (([] : List Bytes).length) := by first | rfl | omega | (simp_all; done) | (simp_all; omega)
    exact congrArg (fun (x0 : Nat) => Value.tuple #[vL (some ⟨b2, 0, none⟩) x0 0, vI 0]) e_x0
   ·rfl
   ·exact c45b5_
end Go.Proofs.YtggobegaiijhhaaGreatDoor
