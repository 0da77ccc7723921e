/- C27d, GvW, C27e in one text. -/
import Derived.Test.YtmbinhhlfbgiaaaGreatC27c
import Derived.Test.YtmbinhhlfbgiaaaGreatUpgradeUnique8
namespace Go.Proofs.YtmbinhhlfbgiaaaGreat
open Go.GV
set_option linter.unusedVariables false
set_option linter.unusedSimpArgs false
theorem c27d0_ {p : Prop} (h : p := by first | exact R27.ic_1 (by assumption) | exact R27.ic_2 (by assumption) (by assumption) | exact R27.ic_03 (by assumption) (by assumption) (by assumption) | exact R27.ic_0 q0 (by assumption) (by assumption) (by assumption) (by assumption) | exact R27.ic_k1 q0 (by assumption) (by assumption) (by assumption) | exact R27.ic_k2 (by assumption) (by assumption) | exact R27.ic_k3 (by assumption) (by assumption) | exact R27.ic_no (by assumption) (by assumption) (by assumption) (by assumption) (by assumption)) : p := h
set_option maxRecDepth 20000 in
theorem f13_ok (d : DataSet) (c : Change) (w : World) (q0 : R16.valid d = true) (q1 : c.Record.length ≤ 1000000) (q2 : c.Key.length ≤ 1000000) : Calls Tryz.prog 13 #[vG (DataSet.enc d), vG (Change.enc c)] w (Gives [] w fun v L => v = vB (R27.isChange d c) ∧ L = []) := by
 have hv := R16.valid_facts q0
 refine calls_J [] 144 Tryz.func13 rfl Tryz.ntmps13 [(0, _), (1, _)] rfl rfl (Give.nil w) ?_
 refine q_ (g_ (o_ (bxG fun b1 => ?_)))
 refine o_ (bxG fun b2 => ?_)
 refine s_ av_ (z_ (n_ (q_ (q_ (g_ (s_ (fA 1 Ty.fi27_1) (r_ (ld_ 0 Ty.sc3) (s_ (fA 0 Ty.fi23_0) (r_ (ld_ 1 Ty.sc3) (s_ (x_neq_i rfl rfl) (s_ mv_ ?_)))))))))))
 refine or_ 3 (decide (c.Volume ≠ ([] : Bytes))) (fun g3 => ?_) ?_
 ·have g3r := g3
  have g3r := of_decide_eq_false g3r
  refine sg_ g3 (fA 4 Ty.fi27_4) (rg_ g3 (ld_ 0 Ty.sc9) (jg_ g3 (vB (decide (c.Volume ≠ ([] : Bytes)))) (x_neq_s rfl rfl) ?_))
  exact cr_
 refine z_ (n_ ?_)
 refine if_ (fun h4 => ?_) (fun h4 => ?_)
 ·have h4w := h4
  simp only [Bool.and_eq_true, Bool.or_eq_true, Bool.and_eq_false_iff, Bool.or_eq_false_iff, Bool.not_eq_true', Bool.not_eq_false', decide_eq_true_eq, decide_eq_false_iff_not] at h4
  refine q_ (g_ (s_ av_ (z_ (n_ (rt_ (nr_ ?_))))))
  exact p1 Tryz.results13 rfl ⟨(eB c27d0_), rfl⟩
 ·have h4w := h4
  have ⟨h4, h5⟩ := bor_false h4
  have h4 := of_decide_eq_false h4
  have h5 := of_decide_eq_false h5
  refine sk_ (n_ (q_ (g_ (s_ av_ (z_ (n_ (q_ (q_ (g_ (s_ (fA 1 Ty.fi23_1) (r_ (ld_ 1 Ty.sc3) (s_ (x_eql_i rfl rfl) (z_ (n_ ?_))))))))))))))
  refine J_cutK (X := Int) (fun (m6 : Int) => m6 = (if d.Org = 3 then d.KeyLength else (8 : Int))) (fun (m6 : Int) => [(2, pB b1 0), (3, pB b2 0), (4, vB false), (5, vI m6)]) (fun (m6 : Int) => [Ent.blk b2 27 (Change.enc c), Ent.blk b1 23 (DataSet.enc d)]) ?_ ?_
  ·refine if_ (fun h7 => ?_) (fun h7 => ?_)
   ·have h7r := h7
    have h7r := of_decide_eq_true h7r
    have h7 : (d.Org = 3) := by exact h7r
    refine g_ (s_ (fA 6 Ty.fi23_6) (r_ (ld_ 1 Ty.sc3) (s_ av_ (z_ ?_))))
    exact JX_cut (d.KeyLength) (if_pos h7).symm ⟨rfl, rfl, rfl, rfl, trivial⟩ (fun _ h => h)
   ·have h7r := h7
    have h7r := of_decide_eq_false h7r
    have h7 : ¬ (d.Org = 3) := by exact h7r
    refine sk_ ?_
    exact JX_cut ((8 : Int)) (if_neg h7).symm ⟨rfl, rfl, rfl, rfl, trivial⟩ (fun _ h => h)
  rintro m6 rfl
  refine n_ (q_ (q_ (g_ (s_ (fA 2 Ty.fi27_2) (r_ (ld_ 0 Ty.sc9) (c0 (cl_ Ty.ca38) (fun w hS => f38_ok _ w hy_) (s_ mv_ (s_ (ex_ 0) (s_ (ex_ 1) (s_ av_ (s_ av_ (z_ (n_ (q_ (g_ ?_)))))))))))))))
  refine s_ (fA 1 Ty.fi23_1) (r_ (ld_ 1 Ty.sc3) (s_ (x_eql_i rfl rfl) (s_ mv_ ?_)))
  refine and_ 3 (decide (c.Kind ≠ 3)) (fun g8 => ?_) ?_
  ·have g8r := g8
   have g8r := of_decide_eq_true g8r
   refine sg_ g8 (fA 0 Ty.fi27_0) (rg_ g8 (ld_ 0 Ty.sc3) (sg_ g8 (x_neq_i rfl rfl) ?_))
   exact cr_
  refine s_ mv_ ?_
  refine and_ 10 (((!((R27.number c.Key).2)) || (decide ((R27.number c.Key).1 < 1))) || (decide ((65536 : Int) < (R27.number c.Key).1))) (fun g9 => ?_) ?_
  ·have g9r := g9
   have ⟨g9r, h10⟩ := band_true g9r
   have g9r := of_decide_eq_true g9r
   have h10 := of_decide_eq_true h10
   refine sg_ g9 mv_ (sg_ g9 (x_not rfl) (sg_ g9 mv_ ?_))
   refine or_ 2 (decide ((R27.number c.Key).1 < 1)) (fun g11 => ?_) ?_ (hw := by exact ⟨_, rfl, g9⟩)
   ·have g11r := g11
    have g11r : ((R27.number c.Key).2) = true := bnot_false g11r
    refine sg_ g11 mv_ (sg_ g11 (x_lss_i rfl rfl) ?_)
    exact cr_
   refine sg_ g9 mv_ ?_
   refine or_ 2 (decide ((65536 : Int) < (R27.number c.Key).1)) (fun g12 => ?_) ?_ (hw := by exact ⟨_, rfl, g9⟩)
   ·have g12r := g12
    have ⟨g12r, h13⟩ := bor_false g12r
    have g12r : ((R27.number c.Key).2) = true := bnot_false g12r
    have h13 := of_decide_eq_false h13
    refine sg_ g12 mv_ (sg_ g12 (x_gtr_i rfl rfl) ?_)
    exact cr_
   exact cr_
  refine z_ (n_ ?_)
  refine if_ (fun h14 => ?_) (fun h14 => ?_)
  ·have h14w := h14
   have ⟨h14, h15⟩ := band_true h14
   have ⟨h14, h16⟩ := band_true h14
   have h14 := of_decide_eq_true h14
   have h16 := of_decide_eq_true h16
   simp only [Bool.and_eq_true, Bool.or_eq_true, Bool.and_eq_false_iff, Bool.or_eq_false_iff, Bool.not_eq_true', Bool.not_eq_false', decide_eq_true_eq, decide_eq_false_iff_not] at h15
   refine q_ (g_ (s_ av_ (z_ (n_ (rt_ (nr_ ?_))))))
   exact p1 Tryz.results13 rfl ⟨(eB c27d0_), rfl⟩
  ·have h14w := h14
   simp only [Bool.and_eq_true, Bool.or_eq_true, Bool.and_eq_false_iff, Bool.or_eq_false_iff, Bool.not_eq_true', Bool.not_eq_false', decide_eq_true_eq, decide_eq_false_iff_not] at h14
   refine sk_ (n_ (q_ (q_ (g_ (s_ (fA 0 Ty.fi27_0) (r_ (ld_ 0 Ty.sc3) (z_ (xk_ [2, 3, 4, 5, 52] ?_))))))))
   refine n_ (k_ (q_ (g_ (s_ (x_eql_i rfl rfl) (s_ av_ (z_ (n_ ?_)))))))
   refine ifd (fun h17w h17 => ?_) (fun h17w h17 => ?_)
   ·refine q_ (q_ (g_ (s_ (fA 1 Ty.fi23_1) (r_ (ld_ 1 Ty.sc3) (s_ (x_eql_i rfl rfl) (z_ (n_ ?_)))))))
    refine ifd (fun h18w h18 => ?_) (fun h18w h18 => ?_)
    ·refine q_ (g_ (r_ (ldN 1 (DataSet.enc d) Ty.ag23 Ty.sz23) (s_ (fA 3 Ty.fi27_3) (r_ (ld_ 0 Ty.sc9) (c0 (cl_ Ty.ca39) (fun w hS => f39_ok d _ w hy_) (s_ mv_ (s_ (ex_ 0) (s_ (ex_ 1) (s_ av_ (s_ av_ ?_))))))))))
     refine z_ (n_ (q_ (g_ (s_ mv_ (s_ (x_eql_i rfl rfl) (s_ mv_ ?_))))))
     refine and_ 4 (decide ((R27.ofK d c.Record).1 = c.Key)) (fun g19 => ?_) ?_
     ·have g19r := g19
      have g19r := of_decide_eq_true g19r
      refine sg_ g19 mv_ (sg_ g19 (fA 2 Ty.fi27_2) (rg_ g19 (ld_ 0 Ty.sc9) (sg_ g19 (x_eql_s rfl rfl) ?_)))
      exact cr_
     refine s_ av_ (z_ (xk_ [2, 3, 4, 5] ?_))
     refine n_ (rt_ (nr_ (kq_ (nr_ ?_))))
     exact p1 Tryz.results13 rfl ⟨(eB c27d0_), rfl⟩
    ·refine sk_ (n_ (q_ (g_ (s_ (fA 1 Ty.fi23_1) (r_ (ld_ 1 Ty.sc3) (s_ (x_eql_i rfl rfl) (s_ mv_ ?_)))))))
     refine and_ 5 (decide (((c.Key.length : Nat) : Int) = (if d.Org = 3 then d.KeyLength else (8 : Int)))) (fun g20 => ?_) ?_
     ·have g20r := g20
      have g20r := of_decide_eq_true g20r
      refine sg_ g20 (fA 2 Ty.fi27_2) (rg_ g20 (ld_ 0 Ty.sc9) (sg_ g20 (x_len_s rfl Tryz.underlying9) (sg_ g20 mv_ (sg_ g20 (x_eql_i rfl rfl) ?_))))
      exact cr_
     refine s_ mv_ ?_
     refine and_ 6 (decide (((c.Record.length : Nat) : Int) = d.Length)) (fun g21 => ?_) ?_
     ·have g21r := g21
      have ⟨g21r, h22⟩ := band_true g21r
      have g21r := of_decide_eq_true g21r
      have h22 := of_decide_eq_true h22
      refine sg_ g21 (fA 3 Ty.fi27_3) (rg_ g21 (ld_ 0 Ty.sc9) (sg_ g21 (x_len_s rfl Tryz.underlying9) (sg_ g21 (fA 3 Ty.fi23_3) (rg_ g21 (ld_ 1 Ty.sc3) (sg_ g21 (x_eql_i rfl rfl) ?_)))))
      exact cr_
     refine s_ av_ (z_ (n_ (rt_ (kq_ (nr_ ?_)))))
     exact p1 Tryz.results13 rfl ⟨(eB c27d0_), rfl⟩
   ·refine q_ (g_ (s_ (x_eql_i rfl rfl) (s_ av_ (z_ (n_ ?_)))))
    refine ifd (fun h23w h23 => ?_) (fun h23w h23 => ?_)
    ·refine q_ (g_ (s_ (fA 1 Ty.fi23_1) (r_ (ld_ 1 Ty.sc3) (s_ (x_neq_i rfl rfl) (s_ mv_ ?_)))))
     refine and_ 5 (decide (((c.Key.length : Nat) : Int) = (if d.Org = 3 then d.KeyLength else (8 : Int)))) (fun g24 => ?_) ?_
     ·have g24r := g24
      have g24r := of_decide_eq_true g24r
      refine sg_ g24 (fA 2 Ty.fi27_2) (rg_ g24 (ld_ 0 Ty.sc9) (sg_ g24 (x_len_s rfl Tryz.underlying9) (sg_ g24 mv_ (sg_ g24 (x_eql_i rfl rfl) ?_))))
      exact cr_
     refine s_ mv_ ?_
     refine and_ 3 (decide (c.Record = ([] : Bytes))) (fun g25 => ?_) ?_
     ·have g25r := g25
      have ⟨g25r, h26⟩ := band_true g25r
      have g25r := of_decide_eq_true g25r
      have h26 := of_decide_eq_true h26
      refine sg_ g25 (fA 3 Ty.fi27_3) (rg_ g25 (ld_ 0 Ty.sc9) (jg_ g25 (vB (decide (c.Record = ([] : Bytes)))) (x_eql_s rfl rfl) ?_))
      exact cr_
     refine s_ av_ (z_ (n_ (rt_ (kq_ (nr_ ?_)))))
     exact p1 Tryz.results13 rfl ⟨(eB c27d0_), rfl⟩
    ·refine q_ (g_ (s_ (x_eql_i rfl rfl) (s_ av_ (z_ (n_ ?_)))))
     refine ifd (fun h27w h27 => ?_) (fun h27w h27 => ?_)
     ·refine q_ (g_ (s_ (fA 1 Ty.fi23_1) (r_ (ld_ 1 Ty.sc3) (s_ (x_eql_i rfl rfl) (s_ mv_ ?_)))))
      refine and_ 5 (decide (((c.Key.length : Nat) : Int) = (if d.Org = 3 then d.KeyLength else (8 : Int)))) (fun g28 => ?_) ?_
      ·have g28r := g28
       have g28r := of_decide_eq_true g28r
       refine sg_ g28 (fA 2 Ty.fi27_2) (rg_ g28 (ld_ 0 Ty.sc9) (sg_ g28 (x_len_s rfl Tryz.underlying9) (sg_ g28 mv_ (sg_ g28 (x_eql_i rfl rfl) ?_))))
       exact cr_
      refine s_ mv_ ?_
      refine and_ 4 (decide ((1 : Int) ≤ ((c.Record.length : Nat) : Int))) (fun g29 => ?_) ?_
      ·have g29r := g29
       have ⟨g29r, h30⟩ := band_true g29r
       have g29r := of_decide_eq_true g29r
       have h30 := of_decide_eq_true h30
       refine sg_ g29 (fA 3 Ty.fi27_3) (rg_ g29 (ld_ 0 Ty.sc9) (sg_ g29 (x_len_s rfl Tryz.underlying9) (sg_ g29 (x_geq_i rfl rfl) ?_)))
       exact cr_
      refine s_ mv_ ?_
      refine and_ 6 (decide (((c.Record.length : Nat) : Int) ≤ d.Length)) (fun g31 => ?_) ?_
      ·have g31r := g31
       have ⟨g31r, h32⟩ := band_true g31r
       have ⟨g31r, h33⟩ := band_true g31r
       have g31r := of_decide_eq_true g31r
       have h33 := of_decide_eq_true h33
       have h32 := of_decide_eq_true h32
       refine sg_ g31 (fA 3 Ty.fi27_3) (rg_ g31 (ld_ 0 Ty.sc9) (sg_ g31 (x_len_s rfl Tryz.underlying9) (sg_ g31 (fA 3 Ty.fi23_3) (rg_ g31 (ld_ 1 Ty.sc3) (sg_ g31 (x_leq_i rfl rfl) ?_)))))
       exact cr_
      refine s_ av_ (z_ (n_ (rt_ (kq_ (nr_ ?_)))))
      exact p1 Tryz.results13 rfl ⟨(eB c27d0_), rfl⟩
     ·refine q_ (g_ (s_ (x_eql_i rfl rfl) (s_ av_ (z_ (n_ ?_)))))
      refine ifd (fun h34w h34 => ?_) (fun h34w h34 => ?_)
      ·refine q_ (g_ (s_ (fA 2 Ty.fi27_2) (r_ (ld_ 0 Ty.sc9) (js_ (vB (decide (c.Key = ([] : Bytes)))) (x_eql_s rfl rfl) (s_ mv_ ?_)))))
       refine and_ 3 (decide (c.Record = ([] : Bytes))) (fun g35 => ?_) ?_
       ·have g35r := g35
        have g35r := of_decide_eq_true g35r
        refine sg_ g35 (fA 3 Ty.fi27_3) (rg_ g35 (ld_ 0 Ty.sc9) (jg_ g35 (vB (decide (c.Record = ([] : Bytes)))) (x_eql_s rfl rfl) ?_))
        exact cr_
       refine s_ av_ (z_ (n_ (rt_ (kq_ (nr_ ?_)))))
       exact p1 Tryz.results13 rfl ⟨(eB c27d0_), rfl⟩
      ·refine sk_ (kx_ (n_ (q_ (g_ (s_ av_ (z_ (n_ (rt_ ?_))))))))
       exact p1 Tryz.results13 rfl ⟨(eB c27d0_), rfl⟩
theorem Tf24_ok_ {p : Prop} (h : p := by first | (have hd := R27.sph_or (k := k) (base := base) (by omega) i1_1 (by assumption); (rw [hd])) | (have hd := R27.sph_all i1_2 i1_0 (by assumption); (rw [hd]))) : p := h
set_option maxRecDepth 20000 in
theorem f24_ok (base : DataSet) (alts : List DataSet) (altsA : Option Addr) (altsC : Nat) (w : World) (altsR : RO [] w altsA (alts.flatMap DataSet.enc)) (q0 : alts.length ≤ 1000000) : Calls Tryz.prog 24 #[vG (DataSet.enc base), vL altsA alts.length altsC] w (Gives [] w fun v L => v = vB (R27.isSphere base alts) ∧ L = []) := by
 refine calls_J [] 36 Tryz.func24 rfl Tryz.ntmps24 [(0, _), (1, _)] rfl rfl (Give.nil w) ?_
 refine q_ (g_ (o_ (bxG fun b1 => ?_)))
 refine s_ av_ (z_ (n_ (q_ (g_ (o_ (O_makeMap vI fun b2 => ?_))))))
 refine s_ av_ (z_ (n_ (q_ (q_ (g_ (s_ mv_ (s_ (lnS Tryz.underlying24) (s_ mv_ (z_ (n_ (k_ ?_)))))))))))
 refine J_loop (X := Nat × (List Int)) (fun (⟨k, ids⟩ : Nat × (List Int)) => (k ≤ alts.length) ∧ (ids = (alts.take k).map (·.Id)) ∧ (R27.Sph base alts k)) (fun (⟨k, ids⟩ : Nat × (List Int)) => [(1, vL altsA alts.length altsC), (2, pB b1 0), (5, Value.map (some b2)), (9, vL altsA alts.length altsC), (10, vI ((alts.length : Nat) : Int)), (11, vI ((k : Nat) : Int))]) (fun (⟨k, ids⟩ : Nat × (List Int)) => [Ent.mp vI b2 (ids.map kT), Ent.blk b1 23 (DataSet.enc base)]) (fun (⟨k, ids⟩ : Nat × (List Int)) => alts.length - k) ((0, ([] : List Int)) : Nat × (List Int)) ?_ ⟨rfl, rfl, rfl, rfl, rfl, rfl, trivial⟩ (fun _ h => h) ?_
 ·try dsimp only
  refine ⟨?_, ?_, ?_⟩
  ·first | rfl | omega | (simp_all; done) | (simp_all; omega)
  ·rfl
  ·exact R27.sph_zero
 rintro ⟨k, ids⟩ hI1
 obtain ⟨i1_0, i1_1, i1_2⟩ := hI1
 try dsimp only at i1_0
 try dsimp only at i1_1
 try dsimp only at i1_2
 try dsimp only
 refine q_ (g_ (s_ (x_lss_i rfl rfl) (z_ (n_ (q_ ?_)))))
 refine ifd (fun h3w h3 => ?_) (fun h3w h3 => ?_)
 ·refine sk_ (n_ (q_ (k_ (q_ (g_ (r_ (ixF DataSet.enc_len (cells_ro altsR) Tryz.underlying24 Ty.sz23) (r_ (ldFN DataSet.enc_len (cells_ro altsR) Ty.ag23 Ty.sz23) (o_ (al_ Ty.ze23 fun b4 => ?_)))))))))
  refine o_ (stG 0 Ty.sz23 ?_)
  refine z_ (n_ (q_ (q_ (g_ (s_ mv_ (s_ (fA 0 Ty.fi23_0) (r_ (ld_ 0 Ty.sc3) ?_)))))))
  refine JO_read (vB (hasK ids ((alts.getD k default).Id))) rfl trivial (x_lookup_v 1 (f := vI) (k := (alts.getD k default).Id) rfl rfl rfl Tryz.underlying101 (mapK_i Tryz.underlying3) Ty.ze4 rfl (lk_kT_v ids ((alts.getD k default).Id))) ?_
  refine s_ mv_ ?_
  refine or_ 4 (!(R26.valid base (alts.getD k default))) (fun g5 => ?_) ?_
  ·have g5r := g5
   refine rg_ g5 (ldN 2 (DataSet.enc base) Ty.ag23 Ty.sz23) (rg_ g5 (ldN 0 (DataSet.enc (alts.getD k default)) Ty.ag23 Ty.sz23) (c0g g5 (cl_ Ty.ca50) (fun w hS => f50_ok base _ w) (sg_ g5 (x_not rfl) ?_)))
   exact cr_
  refine z_ (n_ ?_)
  refine if_ (fun h6 => ?_) (fun h6 => ?_)
  ·have h6w := h6
   simp only [Bool.and_eq_true, Bool.or_eq_true, Bool.and_eq_false_iff, Bool.or_eq_false_iff, Bool.not_eq_true', Bool.not_eq_false', decide_eq_true_eq, decide_eq_false_iff_not] at h6
   refine q_ (g_ (s_ av_ (z_ (n_ (rt_ (nr_ (kq_ (nr_ (rr_ (kq_ (nr_ ?_)))))))))))
   exact p1 Tryz.results24 rfl ⟨(eB (Tf24_ok_)), rfl⟩
  ·have h6w := h6
   have ⟨h6, h7⟩ := bor_false h6
   have h7 : (R26.valid base (alts.getD k default)) = true := bnot_false h7
   have hi8 := R26.valid_facts h7
   refine sk_ (n_ (g_ (s_ mv_ (s_ (fA 0 Ty.fi23_0) (r_ (ld_ 0 Ty.sc3) (o_ (O_mapUpdate 1 (f := vI) (k := (alts.getD k default).Id) ((addK ids ((alts.getD k default).Id)).map kT) [Ent.blk b4 23 (DataSet.enc (alts.getD k default)), Ent.mp vI b2 ((addK ids ((alts.getD k default).Id)).map kT), Ent.blk b1 23 (DataSet.enc base)] rfl rfl rfl rfl Tryz.underlying101 (mapK_i Tryz.underlying3) (upd_kT ids ((alts.getD k default).Id)) rfl ?_)))))))
   refine z_ (kx_ (n_ (g_ (s_ (x_add_n (a := k) (b := 1) rfl rfl (by omega)) (s_ mv_ (z_ ?_))))))
   refine JX_round ((k + 1, (addK ids ((alts.getD k default).Id))) : Nat × (List Int)) ?_ ?_ ⟨rfl, rfl, rfl, rfl, rfl, rfl, trivial⟩ (fun _ h => h.keep [false, true, true] rfl)
   ·try dsimp only
    refine ⟨?_, ?_, ?_⟩
    ·first | rfl | omega | (simp_all; done) | (simp_all; omega)
    ·rw [R27.take_ids (by omega), i1_1]; exact addK_new (by rw [← i1_1]; exact hasK_not (R27.orf1 (by assumption)))
    ·exact R27.sph_step (by omega) i1_2 (by rw [← i1_1]; exact hasK_not (R27.orf1 (by assumption))) (R27.orf2 (by assumption))
   ·try dsimp only
    first | omega | (simp; omega) | (simp_all; omega)
 ·refine J_exit (ne_ (re_ (kh_ (n_ (q_ ?_)))))
  refine g_ (r_ (ldN 1 (DataSet.enc base) Ty.ag23 Ty.sz23) (c0 (cl_ Ty.ca51) (fun w hS => f51_ok base w) (s_ mv_ ?_)))
  refine and_ 3 (decide (((alts.length : Nat) : Int) ≤ 4)) (fun g9 => ?_) ?_
  ·have g9r := g9
   refine sg_ g9 mv_ (sg_ g9 (lnS Tryz.underlying24) (sg_ g9 (x_leq_i rfl rfl) ?_))
   exact cr_
  refine s_ av_ (z_ (n_ (rt_ ?_)))
  exact p1 Tryz.results24 rfl ⟨(eB (Tf24_ok_)), rfl⟩
theorem Tf21_ok_ {p : Prop} (h : p := by first | (have hd := R27.sph_base (base := base) (alts := alts) (by assumption); (rw [hd])) | (have hd := R27.sph_valid (k := k) (base := base) (alts := alts) (by omega) (R27.not_t (by assumption)); (rw [hd])) | (have hd := R27.sph_twice (k := k) (base := base) (alts := alts) (by omega) (R27.ids_at (i := j) (by omega) (by omega) (by assumption)); (rw [hd])) | (have hd := (R27.sph_all i1_1 i1_0 (by assumption)).trans i1_2; (rw [hd]))) : p := h
set_option maxRecDepth 20000 in
theorem f21_ok (base : DataSet) (alts : List DataSet) (altsA : Option Addr) (altsC : Nat) (w : World) (altsR : RO [] w altsA (alts.flatMap DataSet.enc)) (q0 : alts.length ≤ 9223372036854775807) : Calls Tryz.prog 21 #[vG (DataSet.enc base), vL altsA alts.length altsC] w (Gives [] w fun v L => v = vB (R27.isSphere base alts) ∧ L = []) := by
 refine calls_J [] 59 Tryz.func21 rfl Tryz.ntmps21 [(0, _), (1, _)] rfl rfl (Give.nil w) ?_
 refine q_ (g_ (o_ (bxG fun b1 => ?_)))
 refine s_ av_ (z_ (n_ (q_ (q_ (g_ (r_ (ldN 0 (DataSet.enc base) Ty.ag23 Ty.sz23) (c0 (cl_ Ty.ca48) (fun w hS => f48_ok base w) (s_ (x_not rfl) (s_ mv_ ?_)))))))))
 refine or_ 3 (decide (base.Id < 1)) (fun g2 => ?_) ?_
 ·have g2r := g2
  have g2r : (R16.valid base) = true := bnot_false g2r
  have hi3 := R16.valid_facts g2r
  refine sg_ g2 (fA 0 Ty.fi23_0) (rg_ g2 (ld_ 0 Ty.sc3) (sg_ g2 (x_lss_i rfl rfl) ?_))
  exact cr_
 refine s_ mv_ ?_
 refine or_ 3 (decide ((1099511627776 : Int) < base.Id)) (fun g4 => ?_) ?_
 ·have g4r := g4
  have ⟨g4r, h5⟩ := bor_false g4r
  have g4r : (R16.valid base) = true := bnot_false g4r
  have hi6 := R16.valid_facts g4r
  have h5 := of_decide_eq_false h5
  refine sg_ g4 (fA 0 Ty.fi23_0) (rg_ g4 (ld_ 0 Ty.sc3) (sg_ g4 (x_gtr_i rfl rfl) ?_))
  exact cr_
 refine s_ mv_ ?_
 refine or_ 3 (decide (base.Base ≠ 0)) (fun g7 => ?_) ?_
 ·have g7r := g7
  have ⟨g7r, h8⟩ := bor_false g7r
  have ⟨g7r, h9⟩ := bor_false g7r
  have g7r : (R16.valid base) = true := bnot_false g7r
  have hi10 := R16.valid_facts g7r
  have h9 := of_decide_eq_false h9
  have h8 := of_decide_eq_false h8
  refine sg_ g7 (fA 11 Ty.fi23_11) (rg_ g7 (ld_ 0 Ty.sc3) (sg_ g7 (x_neq_i rfl rfl) ?_))
  exact cr_
 refine s_ mv_ ?_
 refine or_ 3 (decide ((4 : Int) < ((alts.length : Nat) : Int))) (fun g11 => ?_) ?_
 ·have g11r := g11
  have ⟨g11r, h12⟩ := bor_false g11r
  have ⟨g11r, h13⟩ := bor_false g11r
  have ⟨g11r, h14⟩ := bor_false g11r
  have g11r : (R16.valid base) = true := bnot_false g11r
  have hi15 := R16.valid_facts g11r
  have h14 := of_decide_eq_false h14
  have h13 := of_decide_eq_false h13
  have h12 := of_decide_eq_false h12
  refine sg_ g11 mv_ (sg_ g11 (lnS Tryz.underlying24) (sg_ g11 (x_gtr_i rfl rfl) ?_))
  exact cr_
 refine z_ (n_ ?_)
 refine if_ (fun h16 => ?_) (fun h16 => ?_)
 ·have h16w := h16
  simp only [Bool.and_eq_true, Bool.or_eq_true, Bool.and_eq_false_iff, Bool.or_eq_false_iff, Bool.not_eq_true', Bool.not_eq_false', decide_eq_true_eq, decide_eq_false_iff_not] at h16
  refine q_ (g_ (s_ av_ (z_ (n_ (rt_ (nr_ ?_))))))
  exact p1 Tryz.results21 rfl ⟨(eB (Tf21_ok_)), rfl⟩
 ·have h16w := h16
  have ⟨h16, h17⟩ := bor_false h16
  have ⟨h16, h18⟩ := bor_false h16
  have ⟨h16, h19⟩ := bor_false h16
  have ⟨h16, h20⟩ := bor_false h16
  have h16 : (R16.valid base) = true := bnot_false h16
  have hi21 := R16.valid_facts h16
  have h20 := of_decide_eq_false h20
  have h19 := of_decide_eq_false h19
  have h18 := of_decide_eq_false h18
  have h17 := of_decide_eq_false h17
  refine sk_ (n_ (q_ (q_ (g_ (s_ av_ (z_ (n_ (k_ ?_))))))))
  refine J_loop (X := Nat) (fun (k : Nat) => (k ≤ alts.length) ∧ (R27.Sph base alts k) ∧ ((R27.isBase base && decide (((alts.length : Nat) : Int) ≤ 4)) = true)) (fun (k : Nat) => [(1, vL altsA alts.length altsC), (2, pB b1 0), (5, vI ((k : Nat) : Int))]) (fun (k : Nat) => [Ent.blk b1 23 (DataSet.enc base)]) (fun (k : Nat) => alts.length - k) (0 : Nat) ?_ ⟨rfl, rfl, rfl, trivial⟩ (fun _ h => h) ?_
  ·try dsimp only
   refine ⟨?_, ?_, ?_⟩
   ·first | rfl | omega | (simp_all; done) | (simp_all; omega)
   ·exact R27.sph_zero
   ·exact R27.sph_good (by assumption)
  intro k hI1
  obtain ⟨i1_0, i1_1, i1_2⟩ := hI1
  try dsimp only at i1_0
  try dsimp only at i1_1
  try dsimp only at i1_2
  try dsimp only
  refine q_ (q_ (g_ (s_ mv_ (s_ mv_ (s_ (lnS Tryz.underlying24) (s_ (x_lss_i rfl rfl) (z_ (n_ ?_))))))))
  refine ifd (fun h22w h22 => ?_) (fun h22w h22 => ?_)
  ·refine sk_ (n_ (q_ (k_ (q_ (q_ ?_)))))
   refine drB [] 7 Ty.mixed ?_
   refine jq_ 0 rfl (ldN 0 (DataSet.enc base) Ty.ag23 Ty.sz23) (jp_ 1 rfl mv_ (jp_ 2 rfl mv_ (jq_ 3 rfl (ixF DataSet.enc_len (cells_ro altsR) Tryz.underlying24 Ty.sz23) (jq_ 4 rfl (ldFN DataSet.enc_len (cells_ro altsR) Ty.ag23 Ty.sz23) (j1_ 5 (jc0_ rfl (cl_ Ty.ca49) (fun w hS => f49_ok base _ w) (jp_ 6 rfl (x_not rfl) ?_)) gm_)))))
   refine JA_done (by kernel_rfl) gm_ ?_
   refine n_ ?_
   refine if_ (fun h23 => ?_) (fun h23 => ?_)
   ·have h23w := h23
    have h23 : (R26.valid base (alts.getD k default)) = false := bnot_true h23
    refine q_ (g_ (s_ av_ (z_ (n_ (rt_ (nr_ (kq_ (nr_ (rr_ (kq_ (nr_ ?_)))))))))))
    exact p1 Tryz.results21 rfl ⟨(eB (Tf21_ok_)), rfl⟩
   ·have h23w := h23
    have h23 : (R26.valid base (alts.getD k default)) = true := bnot_false h23
    have hi24 := R26.valid_facts h23
    refine sk_ (n_ (q_ (g_ (s_ av_ (z_ (n_ (k_ ?_)))))))
    refine J_loop (X := Nat) (fun (j : Nat) => (j ≤ k) ∧ (∀ i, i < j → (alts.getD i default).Id ≠ (alts.getD k default).Id)) (fun (j : Nat) => [(1, vL altsA alts.length altsC), (2, pB b1 0), (5, vI ((k : Nat) : Int)), (6, vI ((j : Nat) : Int))]) (fun (j : Nat) => [Ent.blk b1 23 (DataSet.enc base)]) (fun (j : Nat) => k - j) (0 : Nat) ?_ ⟨rfl, rfl, rfl, rfl, trivial⟩ (fun _ h => h) ?_
    ·try dsimp only
     refine ⟨?_, ?_⟩
     ·first | rfl | omega | (simp_all; done) | (simp_all; omega)
     ·intro i hi; omega
    intro j hI2
    obtain ⟨i2_0, i2_1⟩ := hI2
    try dsimp only at i2_0
    try dsimp only at i2_1
    try dsimp only
    refine q_ (q_ (g_ (s_ mv_ (s_ mv_ (s_ (x_lss_i rfl rfl) (z_ (n_ ?_)))))))
    refine ifd (fun h25w h25 => ?_) (fun h25w h25 => ?_)
    ·refine sk_ (n_ (q_ (k_ (q_ ?_))))
     refine drB [] 11 Ty.mixed ?_
     refine jp_ 0 rfl mv_ (jp_ 1 rfl mv_ (jq_ 2 rfl (ixF DataSet.enc_len (cells_ro altsR) Tryz.underlying24 Ty.sz23) (jp_ 3 rfl (fB0 Ty.fi23_0) (jq_ 4 rfl (ldF0 DataSet.enc_len (cells_ro altsR) Ty.sc3) (jp_ 5 rfl mv_ (jp_ 6 rfl mv_ (jq_ 7 rfl (ixF DataSet.enc_len (cells_ro altsR) Tryz.underlying24 Ty.sz23) (jp_ 8 rfl (fB0 Ty.fi23_0) (jq_ 9 rfl (ldF0 DataSet.enc_len (cells_ro altsR) Ty.sc3) ?_)))))))))
     refine jp_ 10 rfl (x_eql_i rfl rfl) ?_
     refine JA_done (by kernel_rfl) gm_ ?_
     refine n_ ?_
     refine ifd (fun h26w h26 => ?_) (fun h26w h26 => ?_)
     ·refine q_ (g_ (s_ av_ (z_ (n_ (rt_ (kq_ (nr_ (rr_ (kq_ (kq_ (nr_ (rr_ (kq_ (nr_ ?_))))))))))))))
      exact p1 Tryz.results21 rfl ⟨(eB (Tf21_ok_)), rfl⟩
     ·refine sk_ (kx_ (n_ (g_ (s_ mv_ (s_ (x_add_n (a := j) (b := 1) rfl rfl (by omega)) (s_ av_ (z_ ?_)))))))
      refine JX_round (j + 1 : Nat) ?_ ?_ ⟨rfl, rfl, rfl, rfl, trivial⟩ (fun _ h => h)
      ·try dsimp only
       refine ⟨?_, ?_⟩
       ·first | rfl | omega | (simp_all; done) | (simp_all; omega)
       ·intro i hi; by_cases hij : i = j
        ·subst hij; assumption
        ·exact i2_1 i (by omega)
      ·try dsimp only
       first | omega | (simp; omega) | (simp_all; omega)
    ·refine J_exit (ne_ (re_ (kh_ (kx_ (n_ ?_)))))
     refine g_ (s_ mv_ (s_ (x_add_n (a := k) (b := 1) rfl rfl (by omega)) (s_ av_ (z_ ?_))))
     refine JX_round (k + 1 : Nat) ?_ ?_ ⟨rfl, rfl, rfl, trivial⟩ (fun _ h => h)
     ·try dsimp only
      refine ⟨?_, ?_, ?_⟩
      ·first | rfl | omega | (simp_all; done) | (simp_all; omega)
      ·exact R27.sph_step (by omega) i1_1 (fun hm => by obtain ⟨i, hi, e⟩ := R27.mem_ids (by omega) hm; exact i2_1 i (by omega) e) (R27.not_f (by assumption))
      ·exact i1_2
     ·try dsimp only
      first | omega | (simp; omega) | (simp_all; omega)
  ·refine J_exit (ne_ (re_ (kh_ (n_ (q_ ?_)))))
   refine g_ (s_ av_ (z_ (n_ (rt_ ?_))))
   exact p1 Tryz.results21 rfl ⟨(eB (Tf21_ok_)), rfl⟩
end Go.Proofs.YtmbinhhlfbgiaaaGreat

namespace Go.GV
open Go.RowKit
section
variable {E : Env} {P : Program} {x y : Operand} {dst : Option Nat} {t ty : TypeId} {pos : String} {af : Array Edge} {g : Option (Nat × Bool)}
end
end Go.GV

namespace Go.Proofs.YtmbinhhlfbgiaaaGreat
open Go.GV
set_option linter.unusedVariables false
set_option linter.unusedSimpArgs false
theorem c27e0_ {p : Prop} (h : p := by first | exact R27.begA (by assumption) | exact R27.begB (by assumption)) : p := h
theorem c27e1_ {p : Prop} (h : p := by first | exact R27.dup_nf i1_1 (by assumption) | exact R27.dup_er (by assumption) (by assumption) | exact R27.dup_stopA i1_1 (by assumption) (by assumption) | exact R27.dup_stopB i1_1 (by assumption) (by assumption) | exact R27.dup_two i1_1 (by assumption) (by first | exact R27.begA (by assumption) | exact R27.begB (by assumption)) (by assumption)) : p := h
theorem Tf29_ok_ {p : Prop} (h : p := by first | (have hd := R27.side_no (a := a) (r := r) (t := t) (by assumption); (rw [hd])) | (have hd := R27.side_yes (a := a) (r := r) (t := t) (by assumption); (rw [hd]))) : p := h
set_option maxRecDepth 20000 in
theorem f29_ok (a : DataSet) (r : Bytes) (t : Bool) (w : World) : Calls Tryz.prog 29 #[vG (DataSet.enc a), vS r, vB t] w (Gives [] w fun v L => v = vG [vS ((R27.sideV a r t).key), vB ((R27.sideV a r t).has)] ∧ L = []) := by
 refine calls_J [] 24 Tryz.func29 rfl Tryz.ntmps29 [(0, _), (1, _), (2, _)] rfl rfl (Give.nil w) ?_
 refine q_ (g_ (o_ (bxG fun b1 => ?_)))
 refine o_ (al_ Ty.ze70 fun b2 => ?_)
 refine z_ (n_ (q_ (g_ (r_ (ldN 1 (DataSet.enc a) Ty.ag23 Ty.sz23) (s_ mv_ (c0 (cl_ Ty.ca53) (fun w hS => f53_ok a r w) (s_ mv_ (s_ (ex_ 0) (s_ (ex_ 1) (s_ av_ (s_ av_ (z_ (n_ (q_ (q_ (g_ ?_))))))))))))))))
 refine s_ mv_ (s_ (x_not rfl) (s_ mv_ ?_))
 refine or_ 2 (!t) (fun g3 => ?_) ?_
 ·have g3r := g3
  have g3r : ((R26.key a r).2) = true := bnot_false g3r
  have hi4 := R26.key_facts g3r
  refine sg_ g3 mv_ (sg_ g3 (x_not rfl) ?_)
  exact cr_
 refine z_ (n_ ?_)
 refine if_ (fun h5 => ?_) (fun h5 => ?_)
 ·have h5w := h5
  simp only [Bool.and_eq_true, Bool.or_eq_true, Bool.and_eq_false_iff, Bool.or_eq_false_iff, Bool.not_eq_true', Bool.not_eq_false', decide_eq_true_eq, decide_eq_false_iff_not] at h5
  refine q_ (g_ (js_ (vG [vS [], vB false]) (x_build (by kernel_rfl)) (o_ (stG 0 Ty.sz70 ?_))))
  refine z_ (n_ (rt_ (nr_ ?_)))
  refine JX_rets [_] _ Tryz.results29 (fun w h => ⟨⟨_, rfl, load_blkN 0 [vS [], vB false] h rfl Ty.ag70 Ty.sz70 rfl⟩, trivial⟩) rfl _ (fun _ h => h.keep [false, false] rfl) ⟨?_, ?_⟩
  ·have e_x0 : ([] : Bytes) = ((R27.sideV a r t).key) := Tf29_ok_
   have e_x1 : (false : Bool) = ((R27.sideV a r t).has) := Tf29_ok_
   have e_all := (congr (congrArg (fun (x0 : Bytes) (x1 : Bool) => vG [vS x0, vB x1]) e_x0) e_x1)
   exact e_all
  ·rfl
 ·have h5w := h5
  have ⟨h5, h6⟩ := bor_false h5
  have h5 : ((R26.key a r).2) = true := bnot_false h5
  have hi7 := R26.key_facts h5
  have h6 : (t) = true := bnot_false h6
  refine sk_ (n_ (q_ (g_ (s_ mv_ (js_ (vG [vS ((R26.key a r).1), vB true]) (x_build (by kernel_rfl)) (o_ (stG 0 Ty.sz70 ?_)))))))
  refine z_ (n_ (rt_ ?_))
  refine JX_rets [_] _ Tryz.results29 (fun w h => ⟨⟨_, rfl, load_blkN 0 [vS ((R26.key a r).1), vB true] h rfl Ty.ag70 Ty.sz70 rfl⟩, trivial⟩) rfl _ (fun _ h => h.keep [false, false] rfl) ⟨?_, ?_⟩
  ·have e_x0 : ((R26.key a r).1 : Bytes) = ((R27.sideV a r t).key) := Tf29_ok_
   have e_x1 : (true : Bool) = ((R27.sideV a r t).has) := Tf29_ok_
   have e_all := (congr (congrArg (fun (x0 : Bytes) (x1 : Bool) => vG [vS x0, vB x1]) e_x0) e_x1)
   exact e_all
  ·rfl
set_option maxRecDepth 20000 in
theorem f30_ok (ds : List Data) (dsA : Option Addr) (dsC : Nat) (a : DataSet) (k : Bytes) (base : Bytes) (w : World) (dsR : RO [] w dsA (ds.flatMap Data.enc)) (dsN : ∀ i : Nat, RO [] w (ds.getD i default).PairsA (((ds.getD i default).Pairs).flatMap Pair.enc)) (q0 : ds.length ≤ 1000) (q1 : ∀ i, (ds.getD i default).Pairs.length ≤ 1000) (q2 : k.length ≤ 1000) (q3 : base.length ≤ 1000) : Calls Tryz.prog 30 #[Value.iface 33 (vG [vL dsA ds.length dsC, Value.pointer none]), vG (DataSet.enc a), vS k, vS base] w (Gives [] w fun v L => v = vI (R27.dup (R27.ofD ds a.Id).Pairs k base) ∧ L = []) := by
 refine calls_J [] 47 Tryz.func30 rfl Tryz.ntmps30 [(0, _), (1, _), (2, _), (3, _)] rfl rfl (Give.nil w) ?_
 refine q_ (g_ (o_ (bxG fun b1 => ?_)))
 refine s_ av_ (z_ (n_ (q_ (g_ (s_ mv_ (s_ av_ (z_ (n_ (k_ ?_)))))))))
 refine J_loop (X := Bytes × Nat) (fun (⟨cur, j⟩ : Bytes × Nat) => (j ≤ 1) ∧ (R27.DupAt (R27.ofD ds a.Id).Pairs k base j cur)) (fun (⟨cur, j⟩ : Bytes × Nat) => [(0, Value.iface 33 (vG [vL dsA ds.length dsC, Value.pointer none])), (2, vS k), (3, vS base), (5, pB b1 0), (9, vS cur)]) (fun (⟨cur, j⟩ : Bytes × Nat) => [Ent.blk b1 23 (DataSet.enc a)]) (fun (⟨cur, j⟩ : Bytes × Nat) => 1 - j) ((k, 0) : Bytes × Nat) ?_ ⟨rfl, rfl, rfl, rfl, rfl, trivial⟩ (fun _ h => h) ?_
 ·try dsimp only
  refine ⟨?_, ?_⟩
  ·first | rfl | omega | (simp_all; done) | (simp_all; omega)
  ·exact .inl ⟨rfl, rfl⟩
 rintro ⟨cur, j⟩ hI1
 obtain ⟨i1_0, i1_1⟩ := hI1
 try dsimp only at i1_0
 try dsimp only at i1_1
 try dsimp only
 refine k_ (q_ (g_ (s_ mv_ (s_ (fA 0 Ty.fi23_0) (r_ (ld_ 0 Ty.sc3) (s_ mv_ (c0 (x_invoke rfl Ty.mt129 Ty.ca129 Ty.mtd rfl) (fun w hS => f129_ok ds dsA dsC a.Id cur w (rno dsR hS) (fun i => (dsN i).on hS (fun _ h => by cases h)) hy_ hy_) ?_)))))))
 have ha2 := R27.next_err (R27.ofD ds a.Id).Pairs cur
 refine s_ mv_ (s_ (ex_ 0) (s_ (ex_ 1) (s_ (ex_ 2) (s_ av_ (s_ av_ (s_ av_ (z_ (n_ (q_ (k_ (q_ (g_ (s_ mv_ (s_ (x_eql_i rfl rfl) ?_))))))))))))))
 refine s_ av_ (z_ (n_ ?_))
 refine ifd (fun h3w h3 => ?_) (fun h3w h3 => ?_)
 ·refine q_ (g_ (s_ av_ (z_ (xk_ [0, 2, 3, 5, 9, 10, 8] ?_))))
  refine n_ (rt_ (kq_ (nr_ (kq_ (rr_ (kq_ ?_))))))
  exact p1 Tryz.results30 rfl ⟨(eI c27e1_), rfl⟩
 ·refine q_ (g_ (s_ mv_ (s_ (x_neq_i rfl rfl) (s_ av_ (z_ (xk_ [0, 2, 3, 5, 9, 10, 12, 26] ?_))))))
  refine n_ ?_
  refine ifd (fun h4w h4 => ?_) (fun h4w h4 => ?_)
  ·refine q_ (g_ (s_ mv_ (s_ av_ (z_ (n_ (rt_ (kq_ (nr_ (kq_ (rr_ (kq_ ?_)))))))))))
   exact p1 Tryz.results30 rfl ⟨(eI c27e1_), rfl⟩
  ·refine q_ (g_ (s_ mv_ (s_ mv_ (s_ (x_leq_s rfl rfl) (s_ mv_ ?_)))))
   refine or_ 4 (!(R27.begins ((R27.nextR (R27.ofD ds a.Id).Pairs cur).1) k)) (fun g5 => ?_) ?_
   ·have g5r := g5
    have ⟨g5r, h6⟩ := bor_false g5r
    have h6 := of_decide_eq_false h6
    refine sg_ g5 mv_ (sg_ g5 mv_ (c0g g5 (cl_ Ty.ca47) (fun w hS => f47_ok _ k w) (sg_ g5 (x_not rfl) ?_)))
    exact cr_
   refine s_ av_ (z_ (n_ ?_))
   refine if_ (fun h7 => ?_) (fun h7 => ?_)
   ·have h7w := h7
    simp only [Bool.and_eq_true, Bool.or_eq_true, Bool.and_eq_false_iff, Bool.or_eq_false_iff, Bool.not_eq_true', Bool.not_eq_false', decide_eq_true_eq, decide_eq_false_iff_not] at h7
    refine q_ (g_ (s_ av_ (z_ (n_ (rt_ (kq_ (nr_ (kq_ (rr_ (kq_ ?_))))))))))
    exact p1 Tryz.results30 rfl ⟨(eI c27e1_), rfl⟩
   ·have h7w := h7
    have ⟨h7, h8⟩ := bor_false h7
    have ⟨h7, h9⟩ := bor_false h7
    have h9 := of_decide_eq_false h9
    have h8 : (R27.begins ((R27.nextR (R27.ofD ds a.Id).Pairs cur).1) k) = true := bnot_false h8
    have hi10 := R27.begins_len h8
    refine q_ (g_ (s_ mv_ (s_ mv_ (s_ mv_ (s_ (x_cat_s rfl rfl (by first | omega | (simp only [List.length_append, List.length_cons, List.length_nil]; omega) | (simp; omega) | (simp_all; omega))) (s_ (x_neq_s rfl rfl) (s_ av_ (z_ (n_ ?_)))))))))
    refine ifd (fun h11w h11 => ?_) (fun h11w h11 => ?_)
    ·refine q_ (g_ (s_ av_ (z_ (xk_ [0, 2, 3, 5, 9, 10, 8] ?_))))
     refine n_ (rt_ (kq_ (nr_ (kq_ (rr_ (kq_ ?_))))))
     exact p1 Tryz.results30 rfl ⟨(eI c27e1_), rfl⟩
    ·refine sk_ (kx_ (n_ (g_ (s_ mv_ (s_ av_ (z_ (kx_ ?_)))))))
     refine JX_round (((R27.nextR (R27.ofD ds a.Id).Pairs cur).1, 1) : Bytes × Nat) ?_ ?_ ⟨rfl, rfl, rfl, rfl, rfl, trivial⟩ (fun _ h => h)
     ·try dsimp only
      refine ⟨?_, ?_⟩
      ·first | rfl | omega | (simp_all; done) | (simp_all; omega)
      ·exact (R27.dup_next i1_1 (by assumption) c27e0_ (by assumption)).1
     ·try dsimp only
      have hj := (R27.dup_next i1_1 (by assumption) c27e0_ (by assumption)).2; omega
set_option maxRecDepth 20000 in
theorem f27_ok (a : DataSet) (o : Nat) (xs : List Change) (xsA : Option Addr) (xsC : Nat) (xsN : Nat) (w : World) (xsQ : xsN = xs.length) (q0 : xs.length ≤ 1000) (hg : Give (Lown [Ent.blk o 25 [vL xsA xsN xsC], Ent.row (.slice xsA xsN xsC) 27 5 xsN (xs.flatMap Change.enc)]) w [Ent.blk o 25 [vL xsA xsN xsC], Ent.row (.slice xsA xsN xsC) 27 5 xsN (xs.flatMap Change.enc)]) : Calls Tryz.prog 27 #[vG (DataSet.enc a), pB o 0] w (Gives (Lown [Ent.blk o 25 [vL xsA xsN xsC], Ent.row (.slice xsA xsN xsC) 27 5 xsN (xs.flatMap Change.enc)]) w fun v L => ∃ A2 : Option Addr, ∃ c2 : Nat, v = vI 0 ∧ L = [Ent.blk o 25 [vL A2 ((xs ++ [(Change.mk 3 a.Id [] [] [])]).length) c2], Ent.row (.slice A2 (xs ++ [(Change.mk 3 a.Id [] [] [])]).length c2) 27 5 (xs ++ [(Change.mk 3 a.Id [] [] [])]).length ((xs ++ [(Change.mk 3 a.Id [] [] [])]).flatMap Change.enc)]) := by
 subst xsQ
 refine calls_J (Lown [Ent.blk o 25 [vL xsA xs.length xsC], Ent.row (.slice xsA xs.length xsC) 27 5 xs.length (xs.flatMap Change.enc)]) 10 Tryz.func27 rfl Tryz.ntmps27 [(0, _), (1, _)] rfl rfl hg ?_
 refine q_ (g_ (o_ (bxG fun b1 => ?_)))
 refine s_ av_ (z_ (n_ (q_ (g_ (r_ (ld_ 1 Ty.sc25) (s_ (fA 0 Ty.fi23_0) (r_ (ld_ 0 Ty.sc3) (js_ (vG [vI 3, vI a.Id, vS [], vS [], vS []]) (x_build (by kernel_rfl)) (o_ (O_buildSlice (cs := [vI 3, vI a.Id, vS [], vS [], vS []]) Tryz.underlying25 Ty.sz27 Ty.ze27 (by decide) (by decide) (by kernel_rfl) fun b2 => ?_))))))))))
 refine o_ (O_append_f 3 Change.enc 5 xs [(Change.mk 3 a.Id [] [] [])] Tryz.underlying25 Ty.sz27 Ty.by27 Ty.ze27 rfl (by decide) rfl rfl rfl rfl Change.enc_len Change.enc_one (cells_blk 0 (off := 0) (m := 5) rfl rfl) lt_ lt_ fun A3 c4 => ?_)
 refine o_ (st1 2 Ty.sz25 ?_)
 refine z_ (n_ (q_ (g_ (s_ av_ (z_ (n_ (rt_ ?_)))))))
 refine JX_rets [_] _ Tryz.results27 (fun w h => ⟨rfl, trivial⟩) rfl _ (fun _ h => h.keep [false, false, true, true] rfl) ⟨A3, c4, ?_, ?_⟩
 ·rfl
 ·rfl
set_option maxRecDepth 20000 in
theorem f25_okA (alts : List DataSet) (altsA : Option Addr) (altsC : Nat) (al : Nat) (o : Nat) (xs : List Change) (xsA : Option Addr) (xsC : Nat) (xsN : Nat) (w : World) (altsR : RO (Lown [Ent.blk al 24 [vL altsA alts.length altsC], Ent.blk o 25 [vL xsA xsN xsC], Ent.row (.slice xsA xsN xsC) 27 5 xsN (xs.flatMap Change.enc)]) w altsA (alts.flatMap DataSet.enc)) (xsQ : xsN = xs.length) (q0 : xs.length ≤ 100) (q1 : alts.length ≤ 100) (hg : Give (Lown [Ent.blk al 24 [vL altsA alts.length altsC], Ent.blk o 25 [vL xsA xsN xsC], Ent.row (.slice xsA xsN xsC) 27 5 xsN (xs.flatMap Change.enc)]) w [Ent.blk al 24 [vL altsA alts.length altsC], Ent.blk o 25 [vL xsA xsN xsC], Ent.row (.slice xsA xsN xsC) 27 5 xsN (xs.flatMap Change.enc)]) : Calls Tryz.prog 26 #[Value.func (.func 27) #[] #[pB o 0], pB al 0] w (Gives (Lown [Ent.blk al 24 [vL altsA alts.length altsC], Ent.blk o 25 [vL xsA xsN xsC], Ent.row (.slice xsA xsN xsC) 27 5 xsN (xs.flatMap Change.enc)]) w fun v L => ∃ A2 : Option Addr, ∃ c2 : Nat, v = vI 0 ∧ L = [Ent.blk al 24 [vL altsA alts.length altsC], Ent.blk o 25 [vL A2 ((xs ++ (alts.map fun a => Change.mk 3 a.Id [] [] [])).length) c2], Ent.row (.slice A2 (xs ++ (alts.map fun a => Change.mk 3 a.Id [] [] [])).length c2) 27 5 (xs ++ (alts.map fun a => Change.mk 3 a.Id [] [] [])).length ((xs ++ (alts.map fun a => Change.mk 3 a.Id [] [] [])).flatMap Change.enc)]) := by
 subst xsQ
 refine calls_J (Lown [Ent.blk al 24 [vL altsA alts.length altsC], Ent.blk o 25 [vL xsA xs.length xsC], Ent.row (.slice xsA xs.length xsC) 27 5 xs.length (xs.flatMap Change.enc)]) 20 Tryz.func26 rfl Tryz.ntmps26 [(0, _), (1, _)] rfl rfl hg ?_
 refine q_ (g_ (s_ av_ (z_ (n_ (q_ (q_ (g_ (r_ (ld_ 0 Ty.sc24) (s_ (lnS Tryz.underlying24) (s_ mv_ (z_ (n_ (k_ ?_)))))))))))))
 refine J_loop (X := Nat × (List Change) × (Option Addr) × Nat) (fun (⟨k, xs2, xs2A, xs2C⟩ : Nat × (List Change) × (Option Addr) × Nat) => (k ≤ alts.length) ∧ (xs2 = xs ++ ((alts.take k).map fun a => Change.mk 3 a.Id [] [] [])) ∧ (xs2.length ≤ xs.length + k)) (fun (⟨k, xs2, xs2A, xs2C⟩ : Nat × (List Change) × (Option Addr) × Nat) => [(0, Value.func (.func 27) #[] #[pB o 0]), (7, vL altsA alts.length altsC), (8, vI ((alts.length : Nat) : Int)), (9, vI ((k : Nat) : Int))]) (fun (⟨k, xs2, xs2A, xs2C⟩ : Nat × (List Change) × (Option Addr) × Nat) => [Ent.blk al 24 [vL altsA alts.length altsC], Ent.blk o 25 [vL xs2A xs2.length xs2C], Ent.row (.slice xs2A xs2.length xs2C) 27 5 xs2.length (xs2.flatMap Change.enc)]) (fun (⟨k, xs2, xs2A, xs2C⟩ : Nat × (List Change) × (Option Addr) × Nat) => alts.length - k) ((0, xs, xsA, xsC) : Nat × (List Change) × (Option Addr) × Nat) ?_ ⟨rfl, rfl, rfl, rfl, trivial⟩ (fun _ h => h) ?_
 ·try dsimp only
  refine ⟨?_, ?_, ?_⟩
  ·first | rfl | omega | (simp_all; done) | (simp_all; omega)
  ·simp
  ·exact Nat.le_refl _
 rintro ⟨k, xs2, xs2A, xs2C⟩ hI1
 obtain ⟨i1_0, i1_1, i1_2⟩ := hI1
 try dsimp only at i1_0
 try dsimp only at i1_1
 try dsimp only at i1_2
 try dsimp only
 refine q_ (g_ (s_ (x_lss_i rfl rfl) (z_ (n_ (q_ ?_)))))
 refine ifd (fun h1w h1 => ?_) (fun h1w h1 => ?_)
 ·refine sk_ (n_ (q_ (k_ (q_ (g_ (r_ (ixF DataSet.enc_len (cells_ro altsR) Tryz.underlying24 Ty.sz23) (r_ (ldFN DataSet.enc_len (cells_ro altsR) Ty.ag23 Ty.sz23) (o_ (al_ Ty.ze23 fun b2 => ?_)))))))))
  refine o_ (stG 0 Ty.sz23 ?_)
  refine z_ (n_ (q_ (g_ (s_ mv_ (r_ (ldN 0 (DataSet.enc (alts.getD k default)) Ty.ag23 Ty.sz23) ?_)))))
  refine JO_call (Lown [Ent.blk o 25 [vL xs2A xs2.length xs2C], Ent.row (.slice xs2A xs2.length xs2C) 27 5 xs2.length (xs2.flatMap Change.enc)]) [Ent.blk o 25 [vL xs2A xs2.length xs2C], Ent.row (.slice xs2A xs2.length xs2C) 27 5 xs2.length (xs2.flatMap Change.enc)] [Ent.blk b2 23 (DataSet.enc (alts.getD k default)), Ent.blk al 24 [vL altsA alts.length altsC]] rfl trivial (fun _ => x_callv (first := []) (caps := [pB o 0]) rfl Ty.ca27 rfl) (fun _ h => ((((h.front 1 _ rfl).front 1 _ rfl).front 3 _ rfl).front 3 _ rfl).keep [true, true, true, true] rfl) lown_mem (fun w hS => f27_ok (alts.getD k default) o xs2 xs2A xs2C xs2.length w hy_ hy_ (hS.give lown_in)) ?_
  rintro _ _ ⟨e3, e4, rfl, rfl⟩
  refine s_ av_ (z_ (n_ (q_ (g_ (s_ mv_ (jr_ (vB false) (z_ (n_ (iff_ (sk_ (kx_ (n_ (g_ (s_ (x_add_n (a := k) (b := 1) rfl rfl (by omega)) (s_ mv_ (z_ ?_))))))))))))))))
  refine JX_round ((k + 1, (xs2 ++ [(Change.mk 3 (alts.getD k default).Id [] [] [])]), e3, e4) : Nat × (List Change) × (Option Addr) × Nat) ?_ ?_ ⟨rfl, rfl, rfl, rfl, trivial⟩ (fun _ h => (((h.front 1 _ rfl).front 1 _ rfl).front 3 _ rfl).keep [true, true, true, false] rfl)
  ·try dsimp only
   refine ⟨?_, ?_, ?_⟩
   ·first | rfl | omega | (simp_all; done) | (simp_all; omega)
   ·rw [i1_1]; exact R27.emp_step (by omega)
   ·rw [List.length_append]; simp only [List.length_cons, List.length_nil]; omega
  ·try dsimp only
   first | omega | (simp; omega) | (simp_all; omega)
 ·refine J_exit (ne_ (re_ (kh_ (n_ (q_ ?_)))))
  refine g_ (s_ av_ (z_ (n_ (rt_ ?_))))
  refine JX_rets [_] _ Tryz.results26 (fun w h => ⟨rfl, trivial⟩) rfl _ (fun _ h => h) ⟨xs2A, xs2C, ?_, ?_⟩
  ·rfl
  ·have e_y0 : (xs2 : List Change) = (xs ++ (alts.map fun a => Change.mk 3 a.Id [] [] [])) := by
    first | rfl | (rw [i1_1, List.take_of_length_le (by omega)])
   have e_all := (congrArg (fun (y0 : List Change) => [Ent.blk al 24 [vL altsA alts.length altsC], Ent.blk o 25 [vL xs2A y0.length xs2C], Ent.row (.slice xs2A y0.length xs2C) 27 5 y0.length (y0.flatMap Change.enc)]) e_y0)
   exact e_all
end Go.Proofs.YtmbinhhlfbgiaaaGreat
