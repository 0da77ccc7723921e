/- contracts C44g -/
import Derived.Test.YtnfglkgahlaofaaGreatDoorC44f
import Derived.Test.YtnfglkgahlaofaaGreatDoorAll10
namespace Go.Proofs.YtnfglkgahlaofaaGreatDoor
open Go.GV
set_option linter.unusedVariables false
set_option linter.unusedSimpArgs false
theorem c44g0_ {p : Prop} (h : p := by first | exact i1_1.skip (by assumption) | exact i1_1.first hcv (by omega) (by assumption) | exact i1_1.keep hcv (by omega) (by omega) | exact i1_1.swap hcv (by omega) (by assumption) (by omega)) : p := h
theorem c44g1_ {p : Prop} (h : p := by first | exact i2_0.freshW (by assumption) rfl (by omega) (by omega) | exact i2_0.dryW (by assumption) (by omega) | exact i2_0.goW (by assumption) (by omega)) : p := h
theorem c44g2_ {p : Prop} (h : p := by first | exact i2_0.decW (by assumption) rfl (by omega) (by omega) | (rw [R44.er_len (R44.best_lt (by assumption))]; exact R44.dec_ite (by omega)) | (rw [List.length_append, R44.er_len (R44.best_lt (by assumption)), List.length_singleton]; exact R44.dec_ite (by omega))) : p := h
set_option maxRecDepth 20000 in
theorem f34_ok (ms : List item) (msA : Option Addr) (msC : Nat) (run : Int) (l : List SortField) (lA : Option Addr) (lC : Nat) (w : World) (msR : RO [] w msA (ms.flatMap item.enc)) (lR : RO [] w lA (l.flatMap SortField.enc)) (q0 : ms.length ≤ 1000000) (q1 : ∀ i, (ms.getD i default).s.length ≤ 1000000) (q2 : l.length ≤ 9223372036854775807) : Calls Tryz.prog 34 #[vL msA ms.length msC, vI run, vL lA l.length lC] w (Gives [] w fun v L => ∃ r : Int, v = vI r ∧ L = [] ∧ (R44.Best (R44.cmpV l) ms run ms.length r) ∧ (r < (ms.length : Int))) := by
 refine calls_J [] 58 Tryz.func34 rfl Tryz.ntmps34 [(0, _), (1, _), (2, _)] rfl rfl (Give.nil w) ?_
 refine q_ (g_ (s_ av_ (z_ (n_ (q_ (g_ (s_ av_ (z_ (n_ (q_ (q_ (g_ (s_ av_ (z_ (n_ (k_ ?_))))))))))))))))
 refine J_loop (X := Nat × Int) (fun (⟨k, r⟩ : Nat × Int) => (k ≤ ms.length) ∧ (R44.Best (R44.cmpV l) ms run k r)) (fun (⟨k, r⟩ : Nat × Int) => [(0, vL msA ms.length msC), (1, vI run), (2, vL lA l.length lC), (6, vI 0), (7, vI r), (8, vI ((k : Nat) : Int))]) (fun (⟨k, r⟩ : Nat × Int) => []) (fun (⟨k, r⟩ : Nat × Int) => ms.length - k) ((0, (-1)) : Nat × Int) ?_ ⟨rfl, rfl, rfl, rfl, rfl, rfl, trivial⟩ (fun _ h => h) ?_
 ·try dsimp only
  refine ⟨?_, ?_⟩
  ·first | rfl | omega | (simp_all; done) | (simp_all; omega)
  ·exact R44.best_0
 rintro ⟨k, r⟩ hI1
 obtain ⟨i1_0, i1_1⟩ := hI1
 try dsimp only at i1_0
 try dsimp only at i1_1
 have hbb := i1_1.bd
 have hcv := R44.cmpV_ok l
 have hqk := q1 k
 have hqr := q1 r.toNat
 try dsimp only
 refine q_ (q_ (g_ (s_ mv_ (s_ mv_ (s_ (lnS Tryz.underlying71) (s_ (x_lss_i rfl rfl) (z_ (n_ ?_))))))))
 refine ifd (fun h1w h1 => ?_) (fun h1w h1 => ?_)
 ·refine sk_ (n_ (q_ (k_ (q_ (q_ (g_ (s_ mv_ (s_ mv_ (r_ (ixF item.enc_len (cells_ro msR) Tryz.underlying71 Ty.sz73) (s_ (fB Ty.fi73_1) (r_ (ldF 1 item.enc_len (cells_ro msR) Ty.sc3) (s_ mv_ (s_ (x_neq_i rfl rfl) (z_ (n_ ?_)))))))))))))))
  refine ifd (fun h2w h2 => ?_) (fun h2w h2 => ?_)
  ·refine J_exit (ne_ (kh_ (n_ (g_ ?_))))
   refine s_ mv_ (s_ (x_add_n (a := k) (b := 1) rfl rfl (by omega)) (s_ av_ (z_ ?_)))
   refine JX_round ((k + 1, r) : Nat × Int) ?_ ?_ ⟨rfl, rfl, rfl, rfl, rfl, rfl, trivial⟩ (fun _ h => h)
   ·try dsimp only
    refine ⟨?_, ?_⟩
    ·first | rfl | omega | (simp_all; done) | (simp_all; omega)
    ·exact c44g0_
   ·try dsimp only
    first | omega | (simp; omega) | (simp_all; omega)
  ·refine sk_ (n_ (q_ (q_ (g_ (s_ mv_ (s_ (x_geq_i rfl rfl) (z_ (n_ ?_))))))))
   refine ifd (fun h3w h3 => ?_) (fun h3w h3 => ?_)
   ·refine q_ ?_
    refine drB [] 13 Ty.mixed ?_
    refine jp_ 0 rfl mv_ (jp_ 1 rfl mv_ (jq_ 2 rfl (ixF item.enc_len (cells_ro msR) Tryz.underlying71 Ty.sz73) (jp_ 3 rfl (fB0 Ty.fi73_0) (jq_ 4 rfl (ldF0 item.enc_len (cells_ro msR) Ty.sc9) (jp_ 5 rfl mv_ (jp_ 6 rfl mv_ (jq_ 7 rfl (ixF (k := (r).toNat) (hy := (ix_nat rfl (by omega))) item.enc_len (cells_ro msR) Tryz.underlying71 Ty.sz73) (jp_ 8 rfl (fB0 Ty.fi73_0) (jq_ 9 rfl (ldF0 item.enc_len (cells_ro msR) Ty.sc9) ?_)))))))))
    refine jp_ 10 rfl mv_ (j1_ 11 (jc0_ rfl (cl_ Ty.ca24) (fun w hS => f24_ok _ _ l lA lC w (rno lR hS) hy_ hy_ hy_) ?_) gm_)
    have ha4 := R44.cmpV_bd l ((ms.getD k default).s) ((ms.getD ((r).toNat) default).s)
    refine jp_ 12 rfl av_ ?_
    refine JA_done (by kernel_rfl) gm_ ?_
    refine n_ (q_ ?_)
    refine drB [] 19 Ty.mixed ?_
    refine jp_ 0 rfl mv_ (jp_ 1 rfl (x_gtr_i rfl rfl) (jp_ 2 rfl mv_ ?_))
    refine jb_ 39 (fun h5 => ?_) (fun h5 => ?_)
    ·have h5 := of_decide_eq_true h5
     refine js2_ 3 rfl (js2_ 4 rfl (js2_ 5 rfl (ju_ 6 rfl (ju_ 7 rfl (ju_ 8 rfl (ju_ 9 rfl (ju_ 10 rfl (ju_ 11 rfl (ju_ 12 rfl ?_)))))))))
     refine ju_ 13 rfl (ju_ 14 rfl (ju_ 15 rfl (ju_ 16 rfl (js2_ 17 rfl ?_))))
     refine jt_ 18 (vB true) rfl (fun _ _ => rfl) ?_
     refine JA_done (by kernel_rfl) gm_ ?_
     refine n_ (ift (J_exit (ne_ (kh_ (n_ (g_ (s_ mv_ (s_ (x_add_n (a := k) (b := 1) rfl rfl (by omega)) (s_ av_ (z_ ?_))))))))))
     refine JX_round ((k + 1, r) : Nat × Int) ?_ ?_ ⟨rfl, rfl, rfl, rfl, rfl, rfl, trivial⟩ (fun _ h => h)
     ·try dsimp only
      refine ⟨?_, ?_⟩
      ·first | rfl | omega | (simp_all; done) | (simp_all; omega)
      ·exact c44g0_
     ·try dsimp only
      first | omega | (simp; omega) | (simp_all; omega)
    ·have h5 := of_decide_eq_false h5
     refine jp_ 3 rfl mv_ (jp_ 4 rfl (x_eql_i rfl rfl) (jp_ 5 rfl mv_ ?_ (hw := ⟨_, rfl, rfl⟩)) (hw := ⟨_, rfl, rfl⟩)) (hw := ⟨_, rfl, rfl⟩)
     refine jb_ 42 (fun h6 => ?_) (fun h6 => ?_)
     ·have h6 := of_decide_eq_true h6
      refine jp_ 6 rfl mv_ (jp_ 7 rfl mv_ (jq_ 8 rfl (ixF item.enc_len (cells_ro msR) Tryz.underlying71 Ty.sz73) (jp_ 9 rfl (fB Ty.fi73_2) (jq_ 10 rfl (ldF 2 item.enc_len (cells_ro msR) Ty.sc3) (jp_ 11 rfl mv_ (jp_ 12 rfl mv_ (jq_ 13 rfl (ixF (k := (r).toNat) (hy := (ix_nat rfl (by omega))) item.enc_len (cells_ro msR) Tryz.underlying71 Ty.sz73) (jp_ 14 rfl (fB Ty.fi73_2) (jq_ 15 rfl (ldF 2 item.enc_len (cells_ro msR) Ty.sc3) ?_ (hw := ⟨_, rfl, rfl⟩)) (hw := ⟨_, rfl, rfl⟩)) (hw := ⟨_, rfl, rfl⟩)) (hw := ⟨_, rfl, rfl⟩)) (hw := ⟨_, rfl, rfl⟩)) (hw := ⟨_, rfl, rfl⟩)) (hw := ⟨_, rfl, rfl⟩)) (hw := ⟨_, rfl, rfl⟩)) (hw := ⟨_, rfl, rfl⟩)) (hw := ⟨_, rfl, rfl⟩)
      refine jp_ 16 rfl (x_gtr_i rfl rfl) ?_ (hw := ⟨_, rfl, rfl⟩)
      refine JA_take 17 (vB (decide ((ms.getD ((r).toNat) default).no < (ms.getD k default).no))) rfl (by kernel_rfl) (by kernel_rfl) (by kernel_rfl) rfl (fun _ _ _ h => h) rfl ⟨_, rfl, rfl⟩ (fun _ _ => rfl) ?_
      refine jt_ 18 (vB (decide ((ms.getD ((r).toNat) default).no < (ms.getD k default).no))) rfl (fun _ _ => rfl) ?_
      refine JA_done (by kernel_rfl) gm_ ?_
      refine n_ ?_
      refine ifd (fun h7w h7 => ?_) (fun h7w h7 => ?_)
      ·refine J_exit (ne_ (kh_ (n_ (g_ ?_))))
       refine s_ mv_ (s_ (x_add_n (a := k) (b := 1) rfl rfl (by omega)) (s_ av_ (z_ ?_)))
       refine JX_round ((k + 1, r) : Nat × Int) ?_ ?_ ⟨rfl, rfl, rfl, rfl, rfl, rfl, trivial⟩ (fun _ h => h)
       ·try dsimp only
        refine ⟨?_, ?_⟩
        ·first | rfl | omega | (simp_all; done) | (simp_all; omega)
        ·exact c44g0_
       ·try dsimp only
        first | omega | (simp; omega) | (simp_all; omega)
      ·refine sk_ (n_ (g_ (s_ mv_ (s_ av_ (z_ (kx_ (n_ (g_ (s_ mv_ (s_ (x_add_n (a := k) (b := 1) rfl rfl (by omega)) (s_ av_ (z_ ?_))))))))))))
       refine JX_round ((k + 1, ((k : Nat) : Int)) : Nat × Int) ?_ ?_ ⟨rfl, rfl, rfl, rfl, rfl, rfl, trivial⟩ (fun _ h => h)
       ·try dsimp only
        refine ⟨?_, ?_⟩
        ·first | rfl | omega | (simp_all; done) | (simp_all; omega)
        ·exact c44g0_
       ·try dsimp only
        first | omega | (simp; omega) | (simp_all; omega)
     ·have h6 := of_decide_eq_false h6
      refine js2_ 6 rfl (js2_ 7 rfl (js2_ 8 rfl (js2_ 9 rfl (js2_ 10 rfl (js2_ 11 rfl (js2_ 12 rfl (js2_ 13 rfl (js2_ 14 rfl (js2_ 15 rfl ?_)))))))))
      refine js2_ 16 rfl ?_
      refine JA_take 17 (vB false) rfl (by kernel_rfl) (by kernel_rfl) (by kernel_rfl) rfl (fun _ _ _ h => h) rfl ⟨_, rfl, rfl⟩ (fun _ _ => rfl) ?_
      refine jt_ 18 (vB false) rfl (fun _ _ => rfl) ?_
      refine JA_done (by kernel_rfl) gm_ ?_
      refine n_ (iff_ (sk_ (n_ (g_ (s_ mv_ (s_ av_ (z_ (kx_ (n_ (g_ (s_ mv_ (s_ (x_add_n (a := k) (b := 1) rfl rfl (by omega)) (s_ av_ (z_ ?_))))))))))))))
      refine JX_round ((k + 1, ((k : Nat) : Int)) : Nat × Int) ?_ ?_ ⟨rfl, rfl, rfl, rfl, rfl, rfl, trivial⟩ (fun _ h => h)
      ·try dsimp only
       refine ⟨?_, ?_⟩
       ·first | rfl | omega | (simp_all; done) | (simp_all; omega)
       ·exact c44g0_
      ·try dsimp only
       first | omega | (simp; omega) | (simp_all; omega)
   ·refine sk_ (n_ (g_ (s_ mv_ (s_ av_ (z_ (kx_ (n_ (g_ (s_ mv_ (s_ (x_add_n (a := k) (b := 1) rfl rfl (by omega)) (s_ av_ (z_ ?_))))))))))))
    refine JX_round ((k + 1, ((k : Nat) : Int)) : Nat × Int) ?_ ?_ ⟨rfl, rfl, rfl, rfl, rfl, rfl, trivial⟩ (fun _ h => h)
    ·try dsimp only
     refine ⟨?_, ?_⟩
     ·first | rfl | omega | (simp_all; done) | (simp_all; omega)
     ·exact c44g0_
    ·try dsimp only
     first | omega | (simp; omega) | (simp_all; omega)
 ·refine J_exit (ne_ (re_ (kh_ (n_ (q_ ?_)))))
  refine g_ (s_ mv_ (s_ av_ (z_ (n_ (rt_ ?_)))))
  refine JX_rets [_] _ Tryz.results34 (fun w h => ⟨rfl, trivial⟩) rfl _ (fun _ h => h) ⟨r, ?_, ?_, ?_, ?_⟩
  ·rfl
  ·rfl
  ·rw [show ms.length = k by omega]; exact i1_1
  ·omega
set_option maxHeartbeats 2000000 in
set_option maxRecDepth 20000 in
theorem f14_ok (rs : List Bytes) (rsA : Option Addr) (rsC : Nat) (m : Int) (l : List SortField) (lA : Option Addr) (lC : Nat) (w : World) (rsR : RO [] w rsA (rs.map vS)) (lR : RO [] w lA (l.flatMap SortField.enc)) (q0 : rs.length ≤ 1000000) (q1 : ∀ i, (rs.getD i []).length ≤ 1000000) (q2 : l.length ≤ 9223372036854775807) : Calls Tryz.prog 14 #[vL rsA rs.length rsC, vI m, vL lA l.length lC] w (GivesW [] w fun v L wx => ∃ out : List Rw, ∃ outA : Option Addr, ∃ outC : Nat, v = vL outA out.length outC ∧ L = [] ∧ RO (List.range w.heap.size) wx outA (out.flatMap Rw.enc) ∧ (∀ i : Nat, RO (List.range w.heap.size) wx (out.getD i default).sA (((out.getD i default).s).map vS)) ∧ (out.map Rw.s = R44.runsV l m rs)) := by
 refine calls_JW [] 120 Tryz.func14 rfl Tryz.ntmps14 [(0, _), (1, _), (2, _)] rfl rfl (Give.nil w) ?_
 refine q_ (g_ (s_ av_ (z_ (n_ (q_ (q_ (g_ (s_ mv_ (s_ (x_lss_i rfl rfl) (s_ mv_ ?_))))))))))
 refine or_ 3 (!(R44.valid l)) (fun g1 => ?_) ?_
 ·have g1r := g1
  have g1r := of_decide_eq_false g1r
  refine sg_ g1 mv_ (c0g g1 (cl_ Ty.ca23) (fun w hS => f23_ok l lA lC w (rno lR hS) hy_) (sg_ g1 (x_not rfl) ?_))
  exact cr_
 refine s_ mv_ ?_
 refine or_ 3 (decide (((rs.length : Nat) : Int) = 0)) (fun g2 => ?_) ?_
 ·have g2r := g2
  have ⟨g2r, h3⟩ := bor_false g2r
  have g2r := of_decide_eq_false g2r
  have h3 : (R44.valid l) = true := bnot_false h3
  have hi4 := R44.valid_facts h3
  refine sg_ g2 mv_ (sg_ g2 (lnS Tryz.underlying22) (sg_ g2 (x_eql_i rfl rfl) ?_))
  exact cr_
 refine z_ (n_ ?_)
 refine if_ (fun h5 => ?_) (fun h5 => ?_)
 ·have h5w := h5
  simp only [Bool.and_eq_true, Bool.or_eq_true, Bool.and_eq_false_iff, Bool.or_eq_false_iff, Bool.not_eq_true', Bool.not_eq_false', decide_eq_true_eq, decide_eq_false_iff_not] at h5
  refine q_ (g_ (s_ av_ (z_ (n_ (rt_ (nr_ ?_))))))
  refine JX_retsB [_] _ Tryz.results14 (fun w h => ⟨rfl, trivial⟩) rfl _ (fun _ h => h) (fun _ _ h => h) (fun wx hw => ⟨([] : List Rw), none, 0, ?_, ?_, RO.nil, (fun _ => RO.nil), ?_⟩)
  ·have e_x0 : (0 : Nat) = (([] : List Rw).length) := by first | rfl | omega | (simp_all; done) | (simp_all; omega)
   exact congrArg (fun (x0 : Nat) => vL none x0 0) e_x0
  ·rfl
  ·first | exact R44.runsV_nil (by simp_all) | exact i2_0.fin (by omega) (by omega)
 ·have h5w := h5
  have ⟨h5, h6⟩ := bor_false h5
  have ⟨h5, h7⟩ := bor_false h5
  have h5 := of_decide_eq_false h5
  have h7 : (R44.valid l) = true := bnot_false h7
  have hi8 := R44.valid_facts h7
  have h6 := of_decide_eq_false h6
  refine sk_ (n_ (q_ (g_ (o_ (O_buildSlice0 Tryz.underlying71 Ty.sz73 fun b9 => ?_)))))
  refine s_ av_ (z_ (n_ (q_ (g_ (s_ av_ (z_ (n_ (q_ (k_ ?_)))))))))
  refine J_loop (X := Nat × (List item) × (Option Addr) × Nat) (fun (⟨next, ms, msA, msC⟩ : Nat × (List item) × (Option Addr) × Nat) => (next ≤ rs.length) ∧ (ms = R44.fills rs next) ∧ ((next : Int) ≤ m)) (fun (⟨next, ms, msA, msC⟩ : Nat × (List item) × (Option Addr) × Nat) => [(0, vL rsA rs.length rsC), (1, vI m), (2, vL lA l.length lC), (6, vL none 0 0), (7, vL msA ms.length msC), (8, vI ((next : Nat) : Int))]) (fun (⟨next, ms, msA, msC⟩ : Nat × (List item) × (Option Addr) × Nat) => [Ent.row (.slice msA ms.length msC) 73 3 ms.length (ms.flatMap item.enc)]) (fun (⟨next, ms, msA, msC⟩ : Nat × (List item) × (Option Addr) × Nat) => rs.length - next) ((0, ([] : List item), (some ⟨b9, 0, none⟩), 0) : Nat × (List item) × (Option Addr) × Nat) ?_ ⟨rfl, rfl, rfl, rfl, rfl, rfl, trivial⟩ (fun _ h => (St.torow (cs := []) h 3 0 rfl (by decide)).keep [true] rfl) ?_
  ·try dsimp only
   refine ⟨?_, ?_, ?_⟩
   ·first | rfl | omega | (simp_all; done) | (simp_all; omega)
   ·rfl
   ·omega
  rintro ⟨next, ms, msA, msC⟩ hI1
  obtain ⟨i1_0, i1_1, i1_2⟩ := hI1
  try dsimp only at i1_0
  try dsimp only at i1_1
  try dsimp only at i1_2
  have hml : ms.length = next := by rw [i1_1]; exact R44.fills_len rs
  have hqn := q1 next
  try dsimp only
  refine q_ (q_ (g_ (s_ mv_ (s_ mv_ (s_ (lnS Tryz.underlying22) (s_ (x_lss_i rfl rfl) (s_ mv_ ?_)))))))
  refine and_ 4 (decide (((ms.length : Nat) : Int) < m)) (fun g10 => ?_) ?_
  ·have g10r := g10
   have g10r := of_decide_eq_true g10r
   refine sg_ g10 mv_ (sg_ g10 (lnS Tryz.underlying71) (sg_ g10 mv_ (sg_ g10 (x_lss_i rfl rfl) ?_)))
   exact cr_
  refine z_ (n_ ?_)
  refine if_ (fun h11 => ?_) (fun h11 => ?_)
  ·have h11w := h11
   have ⟨h11, h12⟩ := band_true h11
   have h11 := of_decide_eq_true h11
   have h12 := of_decide_eq_true h12
   refine sk_ (n_ (k_ (q_ (g_ (s_ mv_ (s_ mv_ (s_ mv_ (r_ (ixM (cells_ro rsR) Tryz.underlying22 Ty.sz9) (r_ (ldM vS [] (cells_ro rsR) Ty.sc9) (s_ mv_ (js_ (vG [vS (rs.getD next []), vI 1, vI ((next : Nat) : Int)]) (x_build (by kernel_rfl)) (o_ (O_buildSlice (cs := [vS (rs.getD next []), vI 1, vI ((next : Nat) : Int)]) Tryz.underlying71 Ty.sz73 Ty.ze73 (by decide) (by decide) (by kernel_rfl) fun b13 => ?_)))))))))))))
   refine o_ (O_append_f 1 item.enc 3 ms [(item.mk (rs.getD next []) 1 ((next : Nat) : Int))] Tryz.underlying71 Ty.sz73 Ty.by73 Ty.ze73 rfl (by decide) rfl rfl rfl rfl item.enc_len item.enc_one (cells_blk 0 (off := 0) (m := 3) rfl rfl) lt_ lt_ fun A14 c15 => ?_)
   refine s_ av_ (z_ (xk_ [0, 1, 2, 6, 7, 8] ?_))
   refine n_ (g_ (s_ mv_ (s_ (x_add_n (a := next) (b := 1) rfl rfl (by omega)) (s_ av_ (z_ (kx_ ?_))))))
   refine JX_round ((next + 1, ms ++ [(item.mk (rs.getD next []) 1 ((next : Nat) : Int))], A14, c15) : Nat × (List item) × (Option Addr) × Nat) ?_ ?_ ⟨rfl, rfl, rfl, rfl, rfl, rfl, trivial⟩ (fun _ h => h.keep [false, true] rfl)
   ·try dsimp only
    refine ⟨?_, ?_, ?_⟩
    ·first | rfl | omega | (simp_all; done) | (simp_all; omega)
    ·rw [i1_1]; exact R44.fills_step
    ·first | rfl | omega | (simp_all; done) | (simp_all; omega)
   ·try dsimp only
    first | omega | (simp; omega) | (simp_all; omega)
  ·have h11w := h11
   simp only [Bool.and_eq_true, Bool.or_eq_true, Bool.and_eq_false_iff, Bool.or_eq_false_iff, Bool.not_eq_true', Bool.not_eq_false', decide_eq_true_eq, decide_eq_false_iff_not] at h11
   refine J_exit (ne_ (re_ (kh_ (n_ (q_ ?_)))))
   refine g_ (o_ (O_buildSlice0 Tryz.underlying22 Ty.sz9 fun b16 => ?_))
   refine o_ (O_buildSlice (cs := [vL (some ⟨b16, 0, none⟩) 0 0]) Tryz.underlying23 Ty.sz22 Ty.ze22 (by decide) (by decide) (by kernel_rfl) fun b17 => ?_)
   refine s_ av_ (z_ (n_ (q_ (k_ ?_))))
   refine J_loop (X := (List item) × (Option Addr) × Nat × Nat × (List Rw) × (Option Addr) × Nat) (fun (⟨ms, msA, msC, next, rws, rwsA, rwsC⟩ : (List item) × (Option Addr) × Nat × Nat × (List Rw) × (Option Addr) × Nat) => (R44.RefJ l m.toNat rs next ms (rws.map Rw.s)) ∧ (next ≤ rs.length)) (fun (⟨ms, msA, msC, next, rws, rwsA, rwsC⟩ : (List item) × (Option Addr) × Nat × Nat × (List Rw) × (Option Addr) × Nat) => [(0, vL rsA rs.length rsC), (2, vL lA l.length lC), (6, vL none 0 0), (7, vL msA ms.length msC), (8, vI ((next : Nat) : Int)), (9, vL rwsA rws.length rwsC)]) (fun (⟨ms, msA, msC, next, rws, rwsA, rwsC⟩ : (List item) × (Option Addr) × Nat × Nat × (List Rw) × (Option Addr) × Nat) => (Ent.row (.slice msA ms.length msC) 73 3 ms.length (ms.flatMap item.enc) :: Ent.row (.slice rwsA rws.length rwsC) 22 1 rws.length (rws.flatMap Rw.enc) :: (rws.map (RwE 9) ++ []))) (fun (⟨ms, msA, msC, next, rws, rwsA, rwsC⟩ : (List item) × (Option Addr) × Nat × Nat × (List Rw) × (Option Addr) × Nat) => 2 * (ms.length + (rs.length - next)) + (if (rws.getD (rws.length - 1) default).s = [] then 0 else 1)) ((ms, msA, msC, next, [(Rw.mk ([] : List Bytes) (some ⟨b16, 0, none⟩) 0)], (some ⟨b17, 0, none⟩), 1) : (List item) × (Option Addr) × Nat × Nat × (List Rw) × (Option Addr) × Nat) ?_ ⟨rfl, rfl, rfl, rfl, rfl, rfl, trivial⟩ (fun _ h => ((St.torow (cs := [vL (some ⟨b16, 0, none⟩) 0 0]) (seg_snoc 2 (X := []) (T := []) (f := RwE 9) (x := (Rw.mk ([] : List Bytes) (some ⟨b16, 0, none⟩) 0)) (St.torow (cs := []) (h.front 1 _ rfl) 1 0 rfl (by decide)) rfl rfl) 1 1 rfl (by decide)).front 1 _ rfl).keepN 2 [true, true] rfl) ?_
   ·try dsimp only
    refine ⟨?_, ?_⟩
    ·rw [i1_1]; exact R44.RefJ.start (by assumption) (by omega) (by omega) (by omega)
    ·first | rfl | omega | (simp_all; done) | (simp_all; omega)
   rintro ⟨ms, msA, msC, next, rws, rwsA, rwsC⟩ hI2
   obtain ⟨i2_0, i2_1⟩ := hI2
   try dsimp only at i2_0
   try dsimp only at i2_1
   have hsm := i2_0.smallW
   have hsh := i2_0.short q1
   have hqn := q1 next
   have hs1 := hsm.2.2.2.1 (rws.length - 1)
   try dsimp only
   refine q_ (q_ (g_ (s_ mv_ (s_ (lnS Tryz.underlying71) (s_ (x_gtr_i rfl rfl) (z_ (n_ ?_)))))))
   refine ifd (fun h18w h18 => ?_) (fun h18w h18 => ?_)
   ·refine sk_ (n_ (k_ (q_ (g_ (s_ mv_ (s_ (lnS Tryz.underlying23) (s_ av_ (z_ (n_ (q_ (g_ (s_ mv_ (s_ mv_ (s_ mv_ ?_))))))))))))))
    refine c1 (cl_ Ty.ca34) (fun w hS => f34_ok ms msA msC _ l lA lC w (RO.of_row hS 0 rfl) (rno lR hS) hy_ hy_ hy_) ?_
    rintro _ _ ⟨r19, rfl, rfl, hf20, hf21⟩
    refine s_ av_ (z_ (n_ (q_ (q_ (g_ (s_ mv_ (s_ (x_lss_i rfl rfl) (z_ (n_ ?_)))))))))
    refine ifd (fun h22w h22 => ?_) (fun h22w h22 => ?_)
    ·refine q_ (g_ (s_ mv_ (o_ (O_buildSlice0 Tryz.underlying22 Ty.sz9 fun b23 => ?_))))
     refine o_ (O_buildSlice (cs := [vL (some ⟨b23, 0, none⟩) 0 0]) Tryz.underlying23 Ty.sz22 Ty.ze22 (by decide) (by decide) (by kernel_rfl) fun b24 => ?_)
     refine o_ (O_append_f 3 Rw.enc 1 rws [(Rw.mk ([] : List Bytes) (some ⟨b23, 0, none⟩) 0)] Tryz.underlying23 Ty.sz22 Ty.by22 Ty.ze22 rfl (by decide) rfl rfl rfl rfl Rw.enc_len Rw.enc_one (cells_blk 0 (off := 0) (m := 1) rfl rfl) lt_ lt_ fun A25 c26 => ?_)
     refine JO_weaken (E' := [(0, vL rsA rs.length rsC), (2, vL lA l.length lC), (6, vL none 0 0), (7, vL msA ms.length msC), (8, vI ((next : Nat) : Int)), (9, vL rwsA rws.length rwsC), (50, vL msA ms.length msC), (51, vI ((ms.length : Nat) : Int)), (52, vB (decide ((0 : Int) < ((ms.length : Nat) : Int)))), (53, vL rwsA rws.length rwsC), (54, vI ((rws.length : Nat) : Int)), (10, vI ((rws.length : Nat) : Int)), (55, vL msA ms.length msC), (56, vI ((rws.length : Nat) : Int)), (57, vL lA l.length lC), (58, vI r19), (11, vI r19), (59, vI r19), (60, vB (decide (r19 < 0))), (61, vL rwsA rws.length rwsC), (62, vL (some ⟨b23, 0, none⟩) 0 0), (63, vL (some ⟨b24, 0, none⟩) 1 1), (64, vL A25 ((rws ++ [(Rw.mk ([] : List Bytes) (some ⟨b23, 0, none⟩) 0)]).length) c26)]) (L' := (Ent.blk b24 22 [vL (some ⟨b23, 0, none⟩) 0 0] :: Ent.row (.slice msA ms.length msC) 73 3 ms.length (ms.flatMap item.enc) :: Ent.row (.slice A25 (rws ++ [(Rw.mk ([] : List Bytes) (some ⟨b23, 0, none⟩) 0)]).length c26) 22 1 (rws ++ [(Rw.mk ([] : List Bytes) (some ⟨b23, 0, none⟩) 0)]).length ((rws ++ [(Rw.mk ([] : List Bytes) (some ⟨b23, 0, none⟩) 0)]).flatMap Rw.enc) :: ((rws ++ [(Rw.mk ([] : List Bytes) (some ⟨b23, 0, none⟩) 0)]).map (RwE 9) ++ []))) ⟨rfl, rfl, rfl, rfl, rfl, rfl, rfl, rfl, rfl, rfl, rfl, rfl, rfl, rfl, rfl, rfl, rfl, rfl, rfl, rfl, rfl, rfl, rfl, trivial⟩ (fun _ h => (seg_snoc 3 (X := rws) (f := RwE 9) (x := (Rw.mk ([] : List Bytes) (some ⟨b23, 0, none⟩) 0)) (St.torow (cs := []) (h.front 1 _ rfl) 1 0 rfl (by decide)) rfl rfl)) ?_
     refine s_ av_ (z_ (xk_ [0, 2, 6, 7, 8, 9, 10, 11] ?_))
     refine n_ (J_exit (ne_ (kh_ ?_)))
     refine JX_round ((ms, msA, msC, next, rws ++ [(Rw.mk ([] : List Bytes) (some ⟨b23, 0, none⟩) 0)], A25, c26) : (List item) × (Option Addr) × Nat × Nat × (List Rw) × (Option Addr) × Nat) ?_ ?_ ⟨rfl, rfl, rfl, rfl, rfl, rfl, trivial⟩ (fun _ h => h.keepN 3 [false, true, true] rfl)
     ·try dsimp only
      refine ⟨?_, ?_⟩
      ·exact c44g1_
      ·first | rfl | omega | (simp_all; done) | (simp_all; omega)
     ·try dsimp only
      exact c44g2_
    ·obtain ⟨k27, rfl⟩ : ∃ k27 : Nat, r19 = (k27 : Int) := ⟨r19.toNat, by omega⟩
     have hsk := hsh k27
     refine sk_ (n_ (q_ (g_ (s_ mv_ (s_ mv_ (r_ (ixF item.enc_len (cells_row 0 rfl) Tryz.underlying71 Ty.sz73) (r_ (ldFN item.enc_len (cells_row 0 rfl) Ty.ag73 Ty.sz73) (o_ (al_ Ty.ze73 fun b28 => ?_)))))))))
     refine o_ (stG 0 Ty.sz73 ?_)
     refine z_ (xk_ [0, 2, 6, 7, 8, 9, 10, 11, 12] ?_)
     refine n_ (q_ ?_)
     refine drU [Ent.blk b28 73 [vS ((ms.getD k27 default).s), vI ((ms.getD k27 default).run), vI ((ms.getD k27 default).no)], Ent.row (.slice msA ms.length msC) 73 3 ms.length (ms.flatMap item.enc)] [11, 13] 14 Ty.mixed ?_
     refine jp_ 0 rfl mv_ (jp_ 1 rfl mv_ (jp_ 2 rfl (x_sub_i (a := ((rws.length : Nat) : Int)) (b := 1) rfl rfl (by omega) (by omega)) (jp_ 3 rfl mv_ (jp_ 4 rfl mv_ (jp_ 5 rfl (x_sub_i (a := ((rws.length : Nat) : Int)) (b := 1) rfl rfl (by omega) (by omega)) (jp_ 8 rfl (fA 0 Ty.fi73_0) (jq_ 9 rfl (ld_ 0 Ty.sc9) ?_)))))))
     refine JA_finX (X := (Option Addr) × Nat) (fun ⟨A33, c34⟩ => [(0, vL rsA rs.length rsC), (2, vL lA l.length lC), (6, vL none 0 0), (7, vL msA ms.length msC), (8, vI ((next : Nat) : Int)), (9, vL rwsA ((rws.set (rws.length - 1) (Rw.mk (((rws.getD (rws.length - 1) default).s) ++ [(ms.getD k27 default).s]) A33 c34)).length) rwsC), (10, vI ((rws.length : Nat) : Int)), (11, vI ((k27 : Nat) : Int)), (12, pB b28 0)]) (fun ⟨A33, c34⟩ => (Ent.row (.slice A33 (((rws.getD (rws.length - 1) default).s) ++ [(ms.getD k27 default).s]).length c34) 9 1 (((rws.getD (rws.length - 1) default).s) ++ [(ms.getD k27 default).s]).length ((((rws.getD (rws.length - 1) default).s) ++ [(ms.getD k27 default).s]).map vS) :: Ent.blk b28 73 [vS ((ms.getD k27 default).s), vI ((ms.getD k27 default).run), vI ((ms.getD k27 default).no)] :: Ent.row (.slice msA ms.length msC) 73 3 ms.length (ms.flatMap item.enc) :: Ent.row (.slice rwsA (rws.set (rws.length - 1) (Rw.mk (((rws.getD (rws.length - 1) default).s) ++ [(ms.getD k27 default).s]) A33 c34)).length rwsC) 22 1 (rws.set (rws.length - 1) (Rw.mk (((rws.getD (rws.length - 1) default).s) ++ [(ms.getD k27 default).s]) A33 c34)).length ((rws.set (rws.length - 1) (Rw.mk (((rws.getD (rws.length - 1) default).s) ++ [(ms.getD k27 default).s]) A33 c34)).flatMap Rw.enc) :: ((rws.eraseIdx (rws.length - 1)).map (RwE 9) ++ []))) ?_ (fun key29 => ?_)
     ·rintro ⟨A33, c34⟩
      show JX _ _ _ _ _ [(0, vL rsA rs.length rsC), (2, vL lA l.length lC), (6, vL none 0 0), (7, vL msA ms.length msC), (8, vI ((next : Nat) : Int)), (9, vL rwsA ((rws.set (rws.length - 1) (Rw.mk (((rws.getD (rws.length - 1) default).s) ++ [(ms.getD k27 default).s]) A33 c34)).length) rwsC), (10, vI ((rws.length : Nat) : Int)), (11, vI ((k27 : Nat) : Int)), (12, pB b28 0)] (Ent.row (.slice A33 (((rws.getD (rws.length - 1) default).s) ++ [(ms.getD k27 default).s]).length c34) 9 1 (((rws.getD (rws.length - 1) default).s) ++ [(ms.getD k27 default).s]).length ((((rws.getD (rws.length - 1) default).s) ++ [(ms.getD k27 default).s]).map vS) :: Ent.blk b28 73 [vS ((ms.getD k27 default).s), vI ((ms.getD k27 default).run), vI ((ms.getD k27 default).no)] :: Ent.row (.slice msA ms.length msC) 73 3 ms.length (ms.flatMap item.enc) :: Ent.row (.slice rwsA (rws.set (rws.length - 1) (Rw.mk (((rws.getD (rws.length - 1) default).s) ++ [(ms.getD k27 default).s]) A33 c34)).length rwsC) 22 1 (rws.set (rws.length - 1) (Rw.mk (((rws.getD (rws.length - 1) default).s) ++ [(ms.getD k27 default).s]) A33 c34)).length ((rws.set (rws.length - 1) (Rw.mk (((rws.getD (rws.length - 1) default).s) ++ [(ms.getD k27 default).s]) A33 c34)).flatMap Rw.enc) :: ((rws.eraseIdx (rws.length - 1)).map (RwE 9) ++ []))
      refine n_ (q_ ?_)
      refine drB [4, 9] 11 Ty.mixed ?_
      refine jp_ 1 rfl mv_ (jp_ 2 rfl mv_ (jq_ 3 rfl (x_subrow_row 2 (lo := 0) (hi := k27) rfl rfl Tryz.underlying71 Ty.sz73 (.inr ⟨rfl, rfl⟩) (.inl rfl) lt_ lt_) (jp_ 5 rfl mv_ (jp_ 6 rfl mv_ (jp_ 7 rfl (x_add_n (a := k27) (b := 1) rfl rfl (by omega)) (jq_ 8 rfl (x_subrow_row 2 (lo := k27 + 1) (hi := ms.length) rfl rfl Tryz.underlying71 Ty.sz73 (.inl rfl) (.inr ⟨rfl, rfl⟩) lt_ lt_) (j1_ 0 (jio_ rfl (O_buildSlice0 Tryz.underlying71 Ty.sz73 fun b31 => ?_)) gm_)))))))
      refine JA_weaken (E' := [(0, vL rsA rs.length rsC), (2, vL lA l.length lC), (6, vL none 0 0), (7, vL msA ms.length msC), (8, vI ((next : Nat) : Int)), (9, vL rwsA ((rws.set (rws.length - 1) (Rw.mk (((rws.getD (rws.length - 1) default).s) ++ [(ms.getD k27 default).s]) A33 c34)).length) rwsC), (10, vI ((rws.length : Nat) : Int)), (11, vI ((k27 : Nat) : Int)), (12, pB b28 0), (83, vL msA ms.length msC), (84, vI ((k27 : Nat) : Int)), (85, vL (subA msA msC 0 3) k27 msC), (87, vL msA ms.length msC), (88, vI ((k27 : Nat) : Int)), (89, vI ((k27 + 1 : Nat) : Int)), (90, vL (subA msA msC (k27 + 1) 3) (ms.length - (k27 + 1)) (msC - (k27 + 1))), (82, vL (some ⟨b31, 0, none⟩) ((([] : List item)).length) 0)]) (L' := (Ent.row (.slice (some ⟨b31, 0, none⟩) ([] : List item).length 0) 73 3 ([] : List item).length (([] : List item).flatMap item.enc) :: Ent.row (.slice A33 (((rws.getD (rws.length - 1) default).s) ++ [(ms.getD k27 default).s]).length c34) 9 1 (((rws.getD (rws.length - 1) default).s) ++ [(ms.getD k27 default).s]).length ((((rws.getD (rws.length - 1) default).s) ++ [(ms.getD k27 default).s]).map vS) :: Ent.blk b28 73 [vS ((ms.getD k27 default).s), vI ((ms.getD k27 default).run), vI ((ms.getD k27 default).no)] :: Ent.row (.slice msA ms.length msC) 73 3 ms.length (ms.flatMap item.enc) :: Ent.row (.slice rwsA (rws.set (rws.length - 1) (Rw.mk (((rws.getD (rws.length - 1) default).s) ++ [(ms.getD k27 default).s]) A33 c34)).length rwsC) 22 1 (rws.set (rws.length - 1) (Rw.mk (((rws.getD (rws.length - 1) default).s) ++ [(ms.getD k27 default).s]) A33 c34)).length ((rws.set (rws.length - 1) (Rw.mk (((rws.getD (rws.length - 1) default).s) ++ [(ms.getD k27 default).s]) A33 c34)).flatMap Rw.enc) :: ((rws.eraseIdx (rws.length - 1)).map (RwE 9) ++ []))) ⟨rfl, rfl, rfl, rfl, rfl, rfl, rfl, rfl, rfl, rfl, rfl, rfl, rfl, rfl, rfl, rfl, rfl, trivial⟩ (fun _ h => (St.torow (cs := []) (((((h.front 4 _ rfl).front 4 _ rfl).front 4 _ rfl).front 4 _ rfl).front 4 _ rfl) 3 0 rfl (by decide)).keepN 5 [true, true, true, true, true] rfl) ?_
      refine j1_ 4 (jio_ rfl (O_append_f 0 item.enc 3 ([] : List item) ((ms.drop 0).take (k27 - 0)) Tryz.underlying71 Ty.sz73 Ty.by73 Ty.ze73 rfl (by decide) rfl rfl rfl (by simp only [List.length_take, List.length_drop]; omega) item.enc_len item.enc_one (cells_sub_rowF 3 item.enc 3 item.enc_len 0 k27 rfl lt_ lt_) lt_ lt_ fun A34 c35 => ?_)) (fun _ h => ⟨h.keepN 5 [false, true, true, true, true] rfl, fun _ => h.keepN 5 [false, true, true, true, true] rfl⟩)
      refine j1_ 9 (jio_ rfl (O_append_f 0 item.enc 3 (([] : List item) ++ ((ms.drop 0).take (k27 - 0))) ((ms.drop (k27 + 1)).take (ms.length - (k27 + 1))) Tryz.underlying71 Ty.sz73 Ty.by73 Ty.ze73 rfl (by decide) rfl rfl rfl (by simp only [List.length_take, List.length_drop]; omega) item.enc_len item.enc_one (cells_sub_rowF 3 item.enc 3 item.enc_len (k27 + 1) ms.length rfl lt_ lt_) lt_ lt_ fun A38 c39 => ?_)) (gl_ rfl (fun _ h => h.keepN 5 [false, true, true, true, true] rfl))
      refine jp_ 10 rfl av_ ?_
      refine JA_done (by kernel_rfl) (gl_ rfl (fun _ h => h.keepN 5 [false, true, true, true, true] rfl)) ?_
      refine n_ (q_ (g_ (s_ mv_ (s_ mv_ (s_ (lnS Tryz.underlying22) (s_ (x_lss_i rfl rfl) (z_ (xk_ [0, 2, 6, 7, 8, 9, 10, 12, 95] ?_))))))))
      refine n_ ?_
      refine ifd (fun h40w h40 => ?_) (fun h40w h40 => ?_)
      ·refine q_ (g_ (s_ mv_ (s_ mv_ (r_ (ixM (cells_ro rsR) Tryz.underlying22 Ty.sz9) (r_ (ldM vS [] (cells_ro rsR) Ty.sc9) (s_ mv_ (s_ mv_ (js_ (vG [vS (rs.getD next []), vI ((rws.length : Nat) : Int), vI ((next : Nat) : Int)]) (x_build (by kernel_rfl)) (o_ (al_ Ty.ze73 fun b41 => ?_))))))))))
       refine o_ (stG 0 Ty.sz73 ?_)
       refine z_ (n_ (q_ (q_ (g_ (s_ (fA 0 Ty.fi73_0) (r_ (ld_ 0 Ty.sc9) (s_ (fA 0 Ty.fi73_0) (r_ (ld_ 3 Ty.sc9) (s_ mv_ (c0 (cl_ Ty.ca24) (fun w hS => f24_ok _ _ l lA lC w (rno lR hS) hy_ hy_ hy_) ?_))))))))))
       have ha42 := R44.cmpV_bd l (rs.getD next []) ((ms.getD k27 default).s)
       try simp only [List.length_cons, List.length_nil, Nat.zero_add, Nat.reduceAdd, Nat.reduceMul] at ha42
       refine s_ (x_lss_i rfl rfl) (z_ (xk_ [0, 2, 6, 7, 8, 9, 10, 13, 109] ?_))
       refine n_ ?_
       refine J_cutK (X := Nat) (fun (m43 : Nat) => m43 = (if R44.cmpV l (rs.getD next []) ((ms.getD k27 default).s) < 0 then rws.length + 1 else rws.length)) (fun (m43 : Nat) => [(0, vL rsA rs.length rsC), (2, vL lA l.length lC), (6, vL none 0 0), (7, vL A38 (((([] : List item) ++ ((ms.drop 0).take (k27 - 0))) ++ ((ms.drop (k27 + 1)).take (ms.length - (k27 + 1)))).length) c39), (8, vI ((next : Nat) : Int)), (9, vL rwsA ((rws.set (rws.length - 1) (Rw.mk (((rws.getD (rws.length - 1) default).s) ++ [(ms.getD k27 default).s]) A33 c34)).length) rwsC), (13, pB b41 0)]) (fun (m43 : Nat) => (Ent.blk b41 73 [vS (rs.getD next []), vI ((m43 : Nat) : Int), vI ((next : Nat) : Int)] :: Ent.row (.slice A38 ((([] : List item) ++ ((ms.drop 0).take (k27 - 0))) ++ ((ms.drop (k27 + 1)).take (ms.length - (k27 + 1)))).length c39) 73 3 ((([] : List item) ++ ((ms.drop 0).take (k27 - 0))) ++ ((ms.drop (k27 + 1)).take (ms.length - (k27 + 1)))).length (((([] : List item) ++ ((ms.drop 0).take (k27 - 0))) ++ ((ms.drop (k27 + 1)).take (ms.length - (k27 + 1)))).flatMap item.enc) :: Ent.row (.slice A33 (((rws.getD (rws.length - 1) default).s) ++ [(ms.getD k27 default).s]).length c34) 9 1 (((rws.getD (rws.length - 1) default).s) ++ [(ms.getD k27 default).s]).length ((((rws.getD (rws.length - 1) default).s) ++ [(ms.getD k27 default).s]).map vS) :: Ent.blk b28 73 [vS ((ms.getD k27 default).s), vI ((ms.getD k27 default).run), vI ((ms.getD k27 default).no)] :: Ent.row (.slice msA ms.length msC) 73 3 ms.length (ms.flatMap item.enc) :: Ent.row (.slice rwsA (rws.set (rws.length - 1) (Rw.mk (((rws.getD (rws.length - 1) default).s) ++ [(ms.getD k27 default).s]) A33 c34)).length rwsC) 22 1 (rws.set (rws.length - 1) (Rw.mk (((rws.getD (rws.length - 1) default).s) ++ [(ms.getD k27 default).s]) A33 c34)).length ((rws.set (rws.length - 1) (Rw.mk (((rws.getD (rws.length - 1) default).s) ++ [(ms.getD k27 default).s]) A33 c34)).flatMap Rw.enc) :: ((rws.eraseIdx (rws.length - 1)).map (RwE 9) ++ []))) ?_ ?_
       ·refine if_ (fun h44 => ?_) (fun h44 => ?_)
        ·have h44r := h44
         have h44r := of_decide_eq_true h44r
         have h44 : (R44.cmpV l (rs.getD next []) ((ms.getD k27 default).s) < 0) := by exact h44r
         refine g_ (s_ mv_ (s_ (x_add_n (a := rws.length) (b := 1) rfl rfl (by omega)) (s_ (fA 1 Ty.fi73_1) (o_ (st1 0 Ty.sz3 ?_)))))
         refine z_ ?_
         exact JX_cut (rws.length + 1) (if_pos h44).symm ⟨rfl, rfl, rfl, rfl, rfl, rfl, rfl, trivial⟩ (fun _ h => h)
        ·have h44r := h44
         have h44r := of_decide_eq_false h44r
         have h44 : ¬ (R44.cmpV l (rs.getD next []) ((ms.getD k27 default).s) < 0) := by exact h44r
         refine sk_ ?_
         exact JX_cut (rws.length) (if_neg h44).symm ⟨rfl, rfl, rfl, rfl, rfl, rfl, rfl, trivial⟩ (fun _ h => h)
       rintro m43 rfl
       refine n_ (q_ (g_ (s_ mv_ (r_ (ldN 0 [vS (rs.getD next []), vI (((if R44.cmpV l (rs.getD next []) ((ms.getD k27 default).s) < 0 then rws.length + 1 else rws.length) : Nat) : Int), vI ((next : Nat) : Int)] Ty.ag73 Ty.sz73) (o_ (O_buildSlice (cs := [vS (rs.getD next []), vI (((if R44.cmpV l (rs.getD next []) ((ms.getD k27 default).s) < 0 then rws.length + 1 else rws.length) : Nat) : Int), vI ((next : Nat) : Int)]) Tryz.underlying71 Ty.sz73 Ty.ze73 (by decide) (by decide) (by kernel_rfl) fun b45 => ?_))))))
       refine o_ (O_append_f 2 item.enc 3 ((([] : List item) ++ ((ms.drop 0).take (k27 - 0))) ++ ((ms.drop (k27 + 1)).take (ms.length - (k27 + 1)))) [(item.mk (rs.getD next []) (((if R44.cmpV l (rs.getD next []) ((ms.getD k27 default).s) < 0 then rws.length + 1 else rws.length) : Nat) : Int) ((next : Nat) : Int))] Tryz.underlying71 Ty.sz73 Ty.by73 Ty.ze73 rfl (by decide) rfl rfl rfl rfl item.enc_len item.enc_one (cells_blk 0 (off := 0) (m := 3) rfl rfl) lt_ lt_ fun A46 c47 => ?_)
       refine s_ av_ (z_ (n_ (g_ (s_ mv_ (s_ (x_add_n (a := next) (b := 1) rfl rfl (by omega)) (s_ av_ (z_ (kx_ ?_))))))))
       refine JX_round ((((([] : List item) ++ ((ms.drop 0).take (k27 - 0))) ++ ((ms.drop (k27 + 1)).take (ms.length - (k27 + 1)))) ++ [(item.mk (rs.getD next []) (((if R44.cmpV l (rs.getD next []) ((ms.getD k27 default).s) < 0 then rws.length + 1 else rws.length) : Nat) : Int) ((next : Nat) : Int))], A46, c47, next + 1, (rws.set (rws.length - 1) (Rw.mk (((rws.getD (rws.length - 1) default).s) ++ [(ms.getD k27 default).s]) A33 c34)), rwsA, rwsC) : (List item) × (Option Addr) × Nat × Nat × (List Rw) × (Option Addr) × Nat) ?_ ?_ ⟨rfl, rfl, rfl, rfl, rfl, rfl, trivial⟩ (fun _ h => (seg_put 6 (X := rws) (k := (rws.length - 1)) (x := (Rw.mk (((rws.getD (rws.length - 1) default).s) ++ [(ms.getD k27 default).s]) A33 c34)) (f := RwE 9) (h.front 3 _ rfl) rfl rfl lt_).keepN 6 [false, false, true, false, false, true] rfl)
       ·try dsimp only
        refine ⟨?_, ?_⟩
        ·exact c44g1_
        ·first | rfl | omega | (simp_all; done) | (simp_all; omega)
       ·try dsimp only
        exact c44g2_
      ·refine sk_ (kx_ ?_)
       refine JX_round (((([] : List item) ++ ((ms.drop 0).take (k27 - 0))) ++ ((ms.drop (k27 + 1)).take (ms.length - (k27 + 1))), A38, c39, next, (rws.set (rws.length - 1) (Rw.mk (((rws.getD (rws.length - 1) default).s) ++ [(ms.getD k27 default).s]) A33 c34)), rwsA, rwsC) : (List item) × (Option Addr) × Nat × Nat × (List Rw) × (Option Addr) × Nat) ?_ ?_ ⟨rfl, rfl, rfl, rfl, rfl, rfl, trivial⟩ (fun _ h => (seg_put 4 (X := rws) (k := (rws.length - 1)) (x := (Rw.mk (((rws.getD (rws.length - 1) default).s) ++ [(ms.getD k27 default).s]) A33 c34)) (f := RwE 9) (h.front 1 _ rfl) rfl rfl lt_).keepN 4 [true, false, false, true] rfl)
       ·try dsimp only
        refine ⟨?_, ?_⟩
        ·exact c44g1_
        ·first | rfl | omega | (simp_all; done) | (simp_all; omega)
       ·try dsimp only
        exact c44g2_
     ·refine JA_ready (rs := [6, 10]) (by kernel_rfl) (by decide) (fun _ h => ⟨(h.headN 3 rfl).keep [true, true, false] rfl, fun _ => h⟩) (List.forall_mem_cons.2 ⟨?_, (List.forall_mem_cons.2 ⟨?_, all_nil⟩)⟩)
      ·refine jir_ rfl (ixF (k := (rws.length - 1)) (hy := (ix_nat rfl (by omega))) Rw.enc_len (cells_row 2 rfl) Tryz.underlying23 Ty.sz22) ?_
       refine JA_early 7 (vL ((rws.getD (rws.length - 1) default).sA) ((rws.getD (rws.length - 1) default).s.length) ((rws.getD (rws.length - 1) default).sC)) rfl (by kernel_rfl) (by kernel_rfl) (by kernel_rfl) rfl (by kernel_rfl) (fun _ _ _ h => h) rfl trivial (x_load_at (cells_row 2 rfl) rfl Ty.sc22 (flat_at Rw.enc 1 Rw.enc_len rws default (rws.length - 1) 0 lt_ (by decide))) ?_
       refine j1_ 10 (jio_ rfl (O_buildSlice (cs := [vS ((ms.getD k27 default).s)]) Tryz.underlying22 Ty.sz9 Ty.ze9 (by decide) (by decide) (by kernel_rfl) fun b49 => ?_)) (fun _ h => ⟨(h.headN 3 rfl).keep [true, true, false] rfl, fun _ => h⟩)
       refine j1_ 11 ?_ (fun _ h => ⟨(h.headN 4 rfl).keep [false, true, true, false] rfl, fun _ => h.keepN 4 [false, true, true, true] rfl⟩)
       refine jio_ rfl (oL_ (L' := (Ent.row (.slice (rws.getD (rws.length - 1) default).sA ((rws.getD (rws.length - 1) default).s).length ((rws.getD (rws.length - 1) default).sC)) 9 1 ((rws.getD (rws.length - 1) default).s).length (((rws.getD (rws.length - 1) default).s).map vS) :: Ent.blk b49 9 [vS ((ms.getD k27 default).s)] :: Ent.blk b28 73 [vS ((ms.getD k27 default).s), vI ((ms.getD k27 default).run), vI ((ms.getD k27 default).no)] :: Ent.row (.slice msA ms.length msC) 73 3 ms.length (ms.flatMap item.enc) :: Ent.row (.slice rwsA rws.length rwsC) 22 1 rws.length (rws.flatMap Rw.enc) :: ((rws.eraseIdx (rws.length - 1)).map (RwE 9) ++ []))) (fun _ h => seg_take 4 (X := rws) (f := RwE 9) (k := (rws.length - 1)) h rfl lt_) (O_append_m 0 vS ((rws.getD (rws.length - 1) default).s) [(ms.getD k27 default).s] Tryz.underlying22 Ty.sz9 Ty.by9 Ty.ze9 rfl rfl rfl rfl rfl (fun _ => rfl) (cells_blk 1 (off := 0) (m := 1) rfl rfl) lt_ lt_ fun A52 c53 => ?_))
       refine j1_ 12 (jir_ rfl (ixF (k := (rws.length - 1)) (hy := (ix_nat rfl (by omega))) Rw.enc_len (cells_row 4 rfl) Tryz.underlying23 Ty.sz22) (j1_ 13 ?_ (gl_ rfl (fun _ h => (h.headN 5 rfl).keep [false, false, true, true, false] rfl)))) (gl_ rfl (fun _ h => (h.headN 5 rfl).keep [false, false, true, true, false] rfl))
       refine jio_ rfl (O_store_row_g (a := (Rw.mk (((rws.getD (rws.length - 1) default).s) ++ [(ms.getD k27 default).s]) A52 c53)) (xs := rws) (k := (rws.length - 1)) 4 Rw.enc (Ent.row (.slice A52 (((rws.getD (rws.length - 1) default).s) ++ [(ms.getD k27 default).s]).length c53) 9 1 (((rws.getD (rws.length - 1) default).s) ++ [(ms.getD k27 default).s]).length ((((rws.getD (rws.length - 1) default).s) ++ [(ms.getD k27 default).s]).map vS) :: Ent.blk b49 9 [vS ((ms.getD k27 default).s)] :: Ent.blk b28 73 [vS ((ms.getD k27 default).s), vI ((ms.getD k27 default).run), vI ((ms.getD k27 default).no)] :: Ent.row (.slice msA ms.length msC) 73 3 ms.length (ms.flatMap item.enc) :: Ent.row (.slice rwsA (rws.set (rws.length - 1) (Rw.mk (((rws.getD (rws.length - 1) default).s) ++ [(ms.getD k27 default).s]) A52 c53)).length rwsC) 22 1 (rws.set (rws.length - 1) (Rw.mk (((rws.getD (rws.length - 1) default).s) ++ [(ms.getD k27 default).s]) A52 c53)).length ((rws.set (rws.length - 1) (Rw.mk (((rws.getD (rws.length - 1) default).s) ++ [(ms.getD k27 default).s]) A52 c53)).flatMap Rw.enc) :: ((rws.eraseIdx (rws.length - 1)).map (RwE 9) ++ [])) rfl rfl rfl rfl Ty.sz22 Rw.enc_len Rw.enc_one lt_ rfl ?_)
       refine JA_weaken (E' := [(0, vL rsA rs.length rsC), (2, vL lA l.length lC), (6, vL none 0 0), (7, vL msA ms.length msC), (8, vI ((next : Nat) : Int)), (9, vL rwsA ((rws.set (rws.length - 1) (Rw.mk (((rws.getD (rws.length - 1) default).s) ++ [(ms.getD k27 default).s]) A52 c53)).length) rwsC), (10, vI ((rws.length : Nat) : Int)), (11, vI ((k27 : Nat) : Int)), (12, pB b28 0), (69, vL rwsA ((rws.set (rws.length - 1) (Rw.mk (((rws.getD (rws.length - 1) default).s) ++ [(ms.getD k27 default).s]) A52 c53)).length) rwsC), (70, vI ((rws.length : Nat) : Int)), (71, vI (((rws.length : Nat) : Int) - 1)), (72, vL rwsA ((rws.set (rws.length - 1) (Rw.mk (((rws.getD (rws.length - 1) default).s) ++ [(ms.getD k27 default).s]) A52 c53)).length) rwsC), (73, vI ((rws.length : Nat) : Int)), (74, vI (((rws.length : Nat) : Int) - 1)), (77, pB b28 0), (78, vS ((ms.getD k27 default).s)), (75, pA rwsA ((rws.length - 1) * 1)), (76, vL ((rws.getD (rws.length - 1) default).sA) ((rws.getD (rws.length - 1) default).s.length) ((rws.getD (rws.length - 1) default).sC)), (79, vL (some ⟨b49, 0, none⟩) 1 1), (80, vL A52 ((((rws.getD (rws.length - 1) default).s) ++ [(ms.getD k27 default).s]).length) c53), (81, pA rwsA ((rws.length - 1) * 1))]) (L' := (Ent.row (.slice A52 (((rws.getD (rws.length - 1) default).s) ++ [(ms.getD k27 default).s]).length c53) 9 1 (((rws.getD (rws.length - 1) default).s) ++ [(ms.getD k27 default).s]).length ((((rws.getD (rws.length - 1) default).s) ++ [(ms.getD k27 default).s]).map vS) :: Ent.blk b49 9 [vS ((ms.getD k27 default).s)] :: Ent.blk b28 73 [vS ((ms.getD k27 default).s), vI ((ms.getD k27 default).run), vI ((ms.getD k27 default).no)] :: Ent.row (.slice msA ms.length msC) 73 3 ms.length (ms.flatMap item.enc) :: Ent.row (.slice rwsA (rws.set (rws.length - 1) (Rw.mk (((rws.getD (rws.length - 1) default).s) ++ [(ms.getD k27 default).s]) A52 c53)).length rwsC) 22 1 (rws.set (rws.length - 1) (Rw.mk (((rws.getD (rws.length - 1) default).s) ++ [(ms.getD k27 default).s]) A52 c53)).length ((rws.set (rws.length - 1) (Rw.mk (((rws.getD (rws.length - 1) default).s) ++ [(ms.getD k27 default).s]) A52 c53)).flatMap Rw.enc) :: ((rws.eraseIdx (rws.length - 1)).map (RwE 9) ++ []))) ⟨rfl, rfl, rfl, rfl, rfl, (congrArg (fun n : Nat => some (Value.slice rwsA n rwsC)) (set_len rws (rws.length - 1) (Rw.mk (((rws.getD (rws.length - 1) default).s) ++ [(ms.getD k27 default).s]) A52 c53)).symm), rfl, rfl, rfl, (congrArg (fun n : Nat => some (Value.slice rwsA n rwsC)) (set_len rws (rws.length - 1) (Rw.mk (((rws.getD (rws.length - 1) default).s) ++ [(ms.getD k27 default).s]) A52 c53)).symm), rfl, rfl, (congrArg (fun n : Nat => some (Value.slice rwsA n rwsC)) (set_len rws (rws.length - 1) (Rw.mk (((rws.getD (rws.length - 1) default).s) ++ [(ms.getD k27 default).s]) A52 c53)).symm), rfl, rfl, rfl, rfl, rfl, rfl, rfl, rfl, rfl, trivial⟩ (fun _ h => h) ?_
       exact JA_done (by kernel_rfl) (gl_ rfl (fun _ h => (h.headN 5 rfl).keep [false, false, true, true, false] rfl)) (JX_weaken (E' := [(0, vL rsA rs.length rsC), (2, vL lA l.length lC), (6, vL none 0 0), (7, vL msA ms.length msC), (8, vI ((next : Nat) : Int)), (9, vL rwsA ((rws.set (rws.length - 1) (Rw.mk (((rws.getD (rws.length - 1) default).s) ++ [(ms.getD k27 default).s]) A52 c53)).length) rwsC), (10, vI ((rws.length : Nat) : Int)), (11, vI ((k27 : Nat) : Int)), (12, pB b28 0)]) (L' := (Ent.row (.slice A52 (((rws.getD (rws.length - 1) default).s) ++ [(ms.getD k27 default).s]).length c53) 9 1 (((rws.getD (rws.length - 1) default).s) ++ [(ms.getD k27 default).s]).length ((((rws.getD (rws.length - 1) default).s) ++ [(ms.getD k27 default).s]).map vS) :: Ent.blk b28 73 [vS ((ms.getD k27 default).s), vI ((ms.getD k27 default).run), vI ((ms.getD k27 default).no)] :: Ent.row (.slice msA ms.length msC) 73 3 ms.length (ms.flatMap item.enc) :: Ent.row (.slice rwsA (rws.set (rws.length - 1) (Rw.mk (((rws.getD (rws.length - 1) default).s) ++ [(ms.getD k27 default).s]) A52 c53)).length rwsC) 22 1 (rws.set (rws.length - 1) (Rw.mk (((rws.getD (rws.length - 1) default).s) ++ [(ms.getD k27 default).s]) A52 c53)).length ((rws.set (rws.length - 1) (Rw.mk (((rws.getD (rws.length - 1) default).s) ++ [(ms.getD k27 default).s]) A52 c53)).flatMap Rw.enc) :: ((rws.eraseIdx (rws.length - 1)).map (RwE 9) ++ []))) ⟨rfl, rfl, rfl, rfl, rfl, rfl, rfl, rfl, rfl, trivial⟩ (fun _ h => h.keepN 5 [true, false, true, true, true] rfl) (key29 (A52, c53)))
      ·refine jio_ rfl (O_buildSlice (cs := [vS ((ms.getD k27 default).s)]) Tryz.underlying22 Ty.sz9 Ty.ze9 (by decide) (by decide) (by kernel_rfl) fun b54 => ?_)
       refine j1_ 6 (jir_ rfl (ixF (k := (rws.length - 1)) (hy := (ix_nat rfl (by omega))) Rw.enc_len (cells_row 3 rfl) Tryz.underlying23 Ty.sz22) ?_) (fun _ h => ⟨(h.headN 4 rfl).keep [false, true, true, false] rfl, fun _ => h.keepN 4 [false, true, true, true] rfl⟩)
       refine JA_early 7 (vL ((rws.getD (rws.length - 1) default).sA) ((rws.getD (rws.length - 1) default).s.length) ((rws.getD (rws.length - 1) default).sC)) rfl (by kernel_rfl) (by kernel_rfl) (by kernel_rfl) rfl (by kernel_rfl) (fun _ _ _ h => h) rfl trivial (x_load_at (cells_row 2 rfl) rfl Ty.sc22 (flat_at Rw.enc 1 Rw.enc_len rws default (rws.length - 1) 0 lt_ (by decide))) ?_
       refine j1_ 11 ?_ (fun _ h => ⟨(h.headN 4 rfl).keep [false, true, true, false] rfl, fun _ => h.keepN 4 [false, true, true, true] rfl⟩)
       refine jio_ rfl (oL_ (L' := (Ent.row (.slice (rws.getD (rws.length - 1) default).sA ((rws.getD (rws.length - 1) default).s).length ((rws.getD (rws.length - 1) default).sC)) 9 1 ((rws.getD (rws.length - 1) default).s).length (((rws.getD (rws.length - 1) default).s).map vS) :: Ent.blk b54 9 [vS ((ms.getD k27 default).s)] :: Ent.blk b28 73 [vS ((ms.getD k27 default).s), vI ((ms.getD k27 default).run), vI ((ms.getD k27 default).no)] :: Ent.row (.slice msA ms.length msC) 73 3 ms.length (ms.flatMap item.enc) :: Ent.row (.slice rwsA rws.length rwsC) 22 1 rws.length (rws.flatMap Rw.enc) :: ((rws.eraseIdx (rws.length - 1)).map (RwE 9) ++ []))) (fun _ h => seg_take 4 (X := rws) (f := RwE 9) (k := (rws.length - 1)) h rfl lt_) (O_append_m 0 vS ((rws.getD (rws.length - 1) default).s) [(ms.getD k27 default).s] Tryz.underlying22 Ty.sz9 Ty.by9 Ty.ze9 rfl rfl rfl rfl rfl (fun _ => rfl) (cells_blk 1 (off := 0) (m := 1) rfl rfl) lt_ lt_ fun A57 c58 => ?_))
       refine j1_ 12 (jir_ rfl (ixF (k := (rws.length - 1)) (hy := (ix_nat rfl (by omega))) Rw.enc_len (cells_row 4 rfl) Tryz.underlying23 Ty.sz22) (j1_ 13 ?_ (gl_ rfl (fun _ h => (h.headN 5 rfl).keep [false, false, true, true, false] rfl)))) (gl_ rfl (fun _ h => (h.headN 5 rfl).keep [false, false, true, true, false] rfl))
       refine jio_ rfl (O_store_row_g (a := (Rw.mk (((rws.getD (rws.length - 1) default).s) ++ [(ms.getD k27 default).s]) A57 c58)) (xs := rws) (k := (rws.length - 1)) 4 Rw.enc (Ent.row (.slice A57 (((rws.getD (rws.length - 1) default).s) ++ [(ms.getD k27 default).s]).length c58) 9 1 (((rws.getD (rws.length - 1) default).s) ++ [(ms.getD k27 default).s]).length ((((rws.getD (rws.length - 1) default).s) ++ [(ms.getD k27 default).s]).map vS) :: Ent.blk b54 9 [vS ((ms.getD k27 default).s)] :: Ent.blk b28 73 [vS ((ms.getD k27 default).s), vI ((ms.getD k27 default).run), vI ((ms.getD k27 default).no)] :: Ent.row (.slice msA ms.length msC) 73 3 ms.length (ms.flatMap item.enc) :: Ent.row (.slice rwsA (rws.set (rws.length - 1) (Rw.mk (((rws.getD (rws.length - 1) default).s) ++ [(ms.getD k27 default).s]) A57 c58)).length rwsC) 22 1 (rws.set (rws.length - 1) (Rw.mk (((rws.getD (rws.length - 1) default).s) ++ [(ms.getD k27 default).s]) A57 c58)).length ((rws.set (rws.length - 1) (Rw.mk (((rws.getD (rws.length - 1) default).s) ++ [(ms.getD k27 default).s]) A57 c58)).flatMap Rw.enc) :: ((rws.eraseIdx (rws.length - 1)).map (RwE 9) ++ [])) rfl rfl rfl rfl Ty.sz22 Rw.enc_len Rw.enc_one lt_ rfl ?_)
       refine JA_weaken (E' := [(0, vL rsA rs.length rsC), (2, vL lA l.length lC), (6, vL none 0 0), (7, vL msA ms.length msC), (8, vI ((next : Nat) : Int)), (9, vL rwsA ((rws.set (rws.length - 1) (Rw.mk (((rws.getD (rws.length - 1) default).s) ++ [(ms.getD k27 default).s]) A57 c58)).length) rwsC), (10, vI ((rws.length : Nat) : Int)), (11, vI ((k27 : Nat) : Int)), (12, pB b28 0), (69, vL rwsA ((rws.set (rws.length - 1) (Rw.mk (((rws.getD (rws.length - 1) default).s) ++ [(ms.getD k27 default).s]) A57 c58)).length) rwsC), (70, vI ((rws.length : Nat) : Int)), (71, vI (((rws.length : Nat) : Int) - 1)), (72, vL rwsA ((rws.set (rws.length - 1) (Rw.mk (((rws.getD (rws.length - 1) default).s) ++ [(ms.getD k27 default).s]) A57 c58)).length) rwsC), (73, vI ((rws.length : Nat) : Int)), (74, vI (((rws.length : Nat) : Int) - 1)), (77, pB b28 0), (78, vS ((ms.getD k27 default).s)), (79, vL (some ⟨b54, 0, none⟩) 1 1), (75, pA rwsA ((rws.length - 1) * 1)), (76, vL ((rws.getD (rws.length - 1) default).sA) ((rws.getD (rws.length - 1) default).s.length) ((rws.getD (rws.length - 1) default).sC)), (80, vL A57 ((((rws.getD (rws.length - 1) default).s) ++ [(ms.getD k27 default).s]).length) c58), (81, pA rwsA ((rws.length - 1) * 1))]) (L' := (Ent.row (.slice A57 (((rws.getD (rws.length - 1) default).s) ++ [(ms.getD k27 default).s]).length c58) 9 1 (((rws.getD (rws.length - 1) default).s) ++ [(ms.getD k27 default).s]).length ((((rws.getD (rws.length - 1) default).s) ++ [(ms.getD k27 default).s]).map vS) :: Ent.blk b54 9 [vS ((ms.getD k27 default).s)] :: Ent.blk b28 73 [vS ((ms.getD k27 default).s), vI ((ms.getD k27 default).run), vI ((ms.getD k27 default).no)] :: Ent.row (.slice msA ms.length msC) 73 3 ms.length (ms.flatMap item.enc) :: Ent.row (.slice rwsA (rws.set (rws.length - 1) (Rw.mk (((rws.getD (rws.length - 1) default).s) ++ [(ms.getD k27 default).s]) A57 c58)).length rwsC) 22 1 (rws.set (rws.length - 1) (Rw.mk (((rws.getD (rws.length - 1) default).s) ++ [(ms.getD k27 default).s]) A57 c58)).length ((rws.set (rws.length - 1) (Rw.mk (((rws.getD (rws.length - 1) default).s) ++ [(ms.getD k27 default).s]) A57 c58)).flatMap Rw.enc) :: ((rws.eraseIdx (rws.length - 1)).map (RwE 9) ++ []))) ⟨rfl, rfl, rfl, rfl, rfl, (congrArg (fun n : Nat => some (Value.slice rwsA n rwsC)) (set_len rws (rws.length - 1) (Rw.mk (((rws.getD (rws.length - 1) default).s) ++ [(ms.getD k27 default).s]) A57 c58)).symm), rfl, rfl, rfl, (congrArg (fun n : Nat => some (Value.slice rwsA n rwsC)) (set_len rws (rws.length - 1) (Rw.mk (((rws.getD (rws.length - 1) default).s) ++ [(ms.getD k27 default).s]) A57 c58)).symm), rfl, rfl, (congrArg (fun n : Nat => some (Value.slice rwsA n rwsC)) (set_len rws (rws.length - 1) (Rw.mk (((rws.getD (rws.length - 1) default).s) ++ [(ms.getD k27 default).s]) A57 c58)).symm), rfl, rfl, rfl, rfl, rfl, rfl, rfl, rfl, rfl, trivial⟩ (fun _ h => h) ?_
       exact JA_done (by kernel_rfl) (gl_ rfl (fun _ h => (h.headN 5 rfl).keep [false, false, true, true, false] rfl)) (JX_weaken (E' := [(0, vL rsA rs.length rsC), (2, vL lA l.length lC), (6, vL none 0 0), (7, vL msA ms.length msC), (8, vI ((next : Nat) : Int)), (9, vL rwsA ((rws.set (rws.length - 1) (Rw.mk (((rws.getD (rws.length - 1) default).s) ++ [(ms.getD k27 default).s]) A57 c58)).length) rwsC), (10, vI ((rws.length : Nat) : Int)), (11, vI ((k27 : Nat) : Int)), (12, pB b28 0)]) (L' := (Ent.row (.slice A57 (((rws.getD (rws.length - 1) default).s) ++ [(ms.getD k27 default).s]).length c58) 9 1 (((rws.getD (rws.length - 1) default).s) ++ [(ms.getD k27 default).s]).length ((((rws.getD (rws.length - 1) default).s) ++ [(ms.getD k27 default).s]).map vS) :: Ent.blk b28 73 [vS ((ms.getD k27 default).s), vI ((ms.getD k27 default).run), vI ((ms.getD k27 default).no)] :: Ent.row (.slice msA ms.length msC) 73 3 ms.length (ms.flatMap item.enc) :: Ent.row (.slice rwsA (rws.set (rws.length - 1) (Rw.mk (((rws.getD (rws.length - 1) default).s) ++ [(ms.getD k27 default).s]) A57 c58)).length rwsC) 22 1 (rws.set (rws.length - 1) (Rw.mk (((rws.getD (rws.length - 1) default).s) ++ [(ms.getD k27 default).s]) A57 c58)).length ((rws.set (rws.length - 1) (Rw.mk (((rws.getD (rws.length - 1) default).s) ++ [(ms.getD k27 default).s]) A57 c58)).flatMap Rw.enc) :: ((rws.eraseIdx (rws.length - 1)).map (RwE 9) ++ []))) ⟨rfl, rfl, rfl, rfl, rfl, rfl, rfl, rfl, rfl, trivial⟩ (fun _ h => h.keepN 5 [true, false, true, true, true] rfl) (key29 (A57, c58)))
   ·refine J_exit (ne_ (re_ (kh_ (n_ (q_ ?_)))))
    refine g_ (s_ mv_ (s_ av_ (z_ (n_ (rt_ ?_)))))
    refine JX_retsD [_] _ Tryz.results14 (fun w h => ⟨rfl, trivial⟩) rfl [] (fun _ h => (h.headN 2 rfl).keep [false, false] rfl) (fun _ _ h => h) (fun wx hw => ⟨rws, rwsA, rwsC, ?_, ?_, (RO.of_rowF (Lc := []) hw hw 1 rfl), (ron_segF (Lc := []) hw hw (seg_mem 2 (X := rws) (f := RwE 9) rfl)), ?_⟩)
    ·rfl
    ·rfl
    ·first | exact R44.runsV_nil (by simp_all) | exact i2_0.fin (by omega) (by omega)
end Go.Proofs.YtnfglkgahlaofaaGreatDoor
