/- contracts C45v -/
import Derived.Test.YtggobegaiijhhaaGreatDoorUtilityCopies15
set_option linter.unusedVariables false
set_option linter.unusedSimpArgs false
namespace Go.Proofs.YtggobegaiijhhaaGreatDoor
open Go.GV
set_option linter.unusedVariables false
set_option linter.unusedSimpArgs false
theorem c45v0_ {p : Prop} (h : p := by intro i; first | exact R45.all_end (p := fun x : Bytes => x.length ≤ 60) (Nat.zero_le _) (by assumption) (by omega) i) : p := h
theorem c45v1_ {p : Prop} (h : p := by first | rfl | exact decide_eq_true rfl | omega | (simp_all; done)) : p := h
theorem c45v3_ {p : Prop} (h : p := by first | omega | (simp only [List.length_append, List.length_cons, List.length_nil]; omega) | (simp; omega) | (simp_all; omega)) : p := h
theorem c45v4_ {p : Prop} (h : p := by first | exact (R45.cp_badO (xs := l) (j := j) (by omega) (by assumption)).elim | exact (R45.cp_badN (xs := l) (j := j) (by omega) (by assumption)).elim) : p := h
theorem c45v5_ {p : Prop} (h : p := by rw [i2_1]; first | (rw [R45.cp_at (by omega)]; exact (R45.take_snoc (by omega)).symm) | (rw [R45.cp_elO (by omega)]; exact (R45.take_snoc (by omega)).symm)) : p := h
theorem cp_new (s : Nat) (rows : List SRow) (rowsA : Option Addr) (rowsC : Nat) (calls : Nat) (l : List Binding) (lA : Option Addr) (lC : Nat) (xs : List Bytes) (w : World) (rowsR : RO [s] w rowsA (rows.flatMap SRow.enc)) (lR : RO [s] w lA (l.flatMap Binding.enc)) (lN : Kp [s] w (okL Binding.ok l)) (hT : Tab [s] w) (q0 : rows = [⟨200, [107], [98, 101, 102, 111, 114, 101]⟩]) (q1 : calls ≤ 890000) (q2 : ∃ A c, l = [R45.inlineB [73, 78] xs A c, R45.freshB [79, 85, 84] 200]) (q3 : xs.length ≤ 40) (q4 : ∀ i, (xs.getD i []).length ≤ 60) (hg : Give [s] w [Ent.blk s 52 [vL rowsA rows.length rowsC, vI 0, vI 0, vI ((calls : Nat) : Int)]]) : Calls Tryz.prog 15 #[Value.iface 41 (pB s 0), vS [99, 111, 112, 121], vS [], vL lA l.length lC] w (Gives [s] w fun v L => ∃ chA : Option Addr, ∃ chC : Nat, ∃ ln : List Bytes, ∃ lnA : Option Addr, ∃ lnC : Nat, v = Value.tuple #[vG [vI 0, vB false, vL chA ((xs.map R45.cpC).length) chC, vL lnA ln.length lnC], vI 0] ∧ L = [Ent.row (.slice chA (xs.map R45.cpC).length chC) 60 5 (xs.map R45.cpC).length ((xs.map R45.cpC).flatMap Change.enc), Ent.row (.slice lnA ln.length lnC) 9 1 ln.length (ln.map vS)]) := by
 obtain ⟨A, c, rfl⟩ := q2
 subst q0
 refine (run_copy (s := s) (parm := []) (rows := ([⟨200, [107], [98, 101, 102, 111, 114, 101]⟩] : List SRow)) (rowsA := rowsA) (rowsC := rowsC) (calls := calls) (l := [R45.inlineB [73, 78] xs A c, R45.freshB [79, 85, 84] 200]) (lA := lA) (lC := lC) (w := w) rowsR lR lN hT (by decide) q1 (List.pairwise_singleton _ _) (by intro x hx; rw [List.mem_singleton.1 hx]; show (1 : Nat) ≤ _; decide) (by intro x hx; rw [List.mem_singleton.1 hx]; show (6 : Nat) ≤ _; decide) (by decide) (by show 2 ≤ 1000; decide) (R45.lines_two (show xs.length ≤ 1000 by omega) (Nat.zero_le _)) (R45.lines_each2 (a := R45.inlineB [73, 78] xs A c) (b := R45.freshB [79, 85, 84] 200) (fun i => Nat.le_trans (q4 i) (by decide)) (fun i => by show (([] : List Bytes).getD i []).length ≤ _; simp)) hg).mono ?_
 rintro e w' ⟨v, L', h1, ⟨cd, fd, ch, chA, chC, ln, lnA, lnC, hv, hL, hf⟩, hS⟩
 obtain ⟨rfl, rfl, rfl⟩ := R45.cp_new q3 hf
 exact ⟨v, L', h1, ⟨chA, chC, ln, lnA, lnC, hv, hL⟩, hS⟩
theorem cp_old (s : Nat) (rows : List SRow) (rowsA : Option Addr) (rowsC : Nat) (calls : Nat) (l : List Binding) (lA : Option Addr) (lC : Nat) (xs : List Bytes) (w : World) (rowsR : RO [s] w rowsA (rows.flatMap SRow.enc)) (lR : RO [s] w lA (l.flatMap Binding.enc)) (lN : Kp [s] w (okL Binding.ok l)) (hT : Tab [s] w) (q0 : rows = [⟨200, [107], [98, 101, 102, 111, 114, 101]⟩]) (q1 : calls ≤ 890000) (q2 : ∃ A c, l = [R45.inlineB [73, 78] xs A c, R45.oldB]) (q3 : xs.length ≤ 40) (q4 : ∀ i, (xs.getD i []).length ≤ 60) (hg : Give [s] w [Ent.blk s 52 [vL rowsA rows.length rowsC, vI 0, vI 0, vI ((calls : Nat) : Int)]]) : Calls Tryz.prog 15 #[Value.iface 41 (pB s 0), vS [99, 111, 112, 121], vS [], vL lA l.length lC] w (Gives [s] w fun v L => ∃ chA : Option Addr, ∃ chC : Nat, ∃ ln : List Bytes, ∃ lnA : Option Addr, ∃ lnC : Nat, v = Value.tuple #[vG [vI 0, vB false, vL chA ((R45.cpO xs).length) chC, vL lnA ln.length lnC], vI 0] ∧ L = [Ent.row (.slice chA (R45.cpO xs).length chC) 60 5 (R45.cpO xs).length ((R45.cpO xs).flatMap Change.enc), Ent.row (.slice lnA ln.length lnC) 9 1 ln.length (ln.map vS)]) := by
 obtain ⟨A, c, rfl⟩ := q2
 subst q0
 refine (run_copy (s := s) (parm := []) (rows := ([⟨200, [107], [98, 101, 102, 111, 114, 101]⟩] : List SRow)) (rowsA := rowsA) (rowsC := rowsC) (calls := calls) (l := [R45.inlineB [73, 78] xs A c, R45.oldB]) (lA := lA) (lC := lC) (w := w) rowsR lR lN hT (by decide) q1 (List.pairwise_singleton _ _) (by intro x hx; rw [List.mem_singleton.1 hx]; show (1 : Nat) ≤ _; decide) (by intro x hx; rw [List.mem_singleton.1 hx]; show (6 : Nat) ≤ _; decide) (by decide) (by show 2 ≤ 1000; decide) (R45.lines_two (show xs.length ≤ 1000 by omega) (Nat.zero_le _)) (R45.lines_each2 (a := R45.inlineB [73, 78] xs A c) (b := R45.oldB) (fun i => Nat.le_trans (q4 i) (by decide)) (fun i => by show (([] : List Bytes).getD i []).length ≤ _; simp)) hg).mono ?_
 rintro e w' ⟨v, L', h1, ⟨cd, fd, ch, chA, chC, ln, lnA, lnC, hv, hL, hf⟩, hS⟩
 obtain ⟨rfl, rfl, rfl⟩ := R45.cp_old q3 hf
 exact ⟨v, L', h1, ⟨chA, chC, ln, lnA, lnC, hv, hL⟩, hS⟩
theorem cp_same (s : Nat) (rows : List SRow) (rowsA : Option Addr) (rowsC : Nat) (calls : Nat) (l : List Binding) (lA : Option Addr) (lC : Nat) (xs : List Bytes) (w : World) (rowsR : RO [s] w rowsA (rows.flatMap SRow.enc)) (lR : RO [s] w lA (l.flatMap Binding.enc)) (lN : Kp [s] w (okL Binding.ok l)) (hT : Tab [s] w) (q0 : rows = []) (q1 : calls ≤ 890000) (q2 : ∃ A C c d, l = [R45.inlineB [73, 78, 49] xs A c, R45.inlineB [73, 78, 50] xs C d]) (q3 : xs.length ≤ 40) (hg : Give [s] w [Ent.blk s 52 [vL rowsA rows.length rowsC, vI 0, vI 0, vI ((calls : Nat) : Int)]]) : Calls Tryz.prog 15 #[Value.iface 41 (pB s 0), vS [99, 111, 109, 112, 97, 114, 101], vS [], vL lA l.length lC] w (Gives [s] w fun v L => ∃ ch : List Change, ∃ chA : Option Addr, ∃ chC : Nat, ∃ ln : List Bytes, ∃ lnA : Option Addr, ∃ lnC : Nat, v = Value.tuple #[vG [vI 0, vB false, vL chA ch.length chC, vL lnA ln.length lnC], vI 0] ∧ L = [Ent.row (.slice chA ch.length chC) 60 5 ch.length (ch.flatMap Change.enc), Ent.row (.slice lnA ln.length lnC) 9 1 ln.length (ln.map vS)]) := by
 obtain ⟨A, C, c, d, rfl⟩ := q2
 subst q0
 refine (run_compare (s := s) (parm := []) (rows := ([] : List SRow)) (rowsA := rowsA) (rowsC := rowsC) (calls := calls) (l := [R45.inlineB [73, 78, 49] xs A c, R45.inlineB [73, 78, 50] xs C d]) (lA := lA) (lC := lC) (w := w) rowsR lR lN hT (by decide) q1 R45.dist_nil (by simp) (by decide) (by show 2 ≤ 1000; decide) (R45.lines_two (show xs.length ≤ 1000 by omega) (show xs.length ≤ 1000 by first | omega | (rw [List.length_set]; omega))) hg).mono ?_
 rintro e w' ⟨v, L', h1, ⟨cd, fd, ch, chA, chC, ln, lnA, lnC, hv, hL, hf⟩, hS⟩
 obtain ⟨rfl, h2, rfl, h4⟩ := R45.cmp_two hf
 obtain rfl := h2.trans (R45.cmp_same xs).1
 exact ⟨v, L', h1, ⟨[], chA, chC, ln, lnA, lnC, hv, hL⟩, hS⟩
theorem cp_diff (s : Nat) (rows : List SRow) (rowsA : Option Addr) (rowsC : Nat) (calls : Nat) (l : List Binding) (lA : Option Addr) (lC : Nat) (xs : List Bytes) (k : Nat) (o : Bytes) (w : World) (rowsR : RO [s] w rowsA (rows.flatMap SRow.enc)) (lR : RO [s] w lA (l.flatMap Binding.enc)) (lN : Kp [s] w (okL Binding.ok l)) (hT : Tab [s] w) (q0 : rows = []) (q1 : calls ≤ 890000) (q2 : ∃ A C c d, l = [R45.inlineB [73, 78, 49] xs A c, R45.inlineB [73, 78, 50] (xs.set k o) C d]) (q3 : xs.length ≤ 40) (q4 : k < xs.length) (q5 : xs.getD k [] ≠ o) (hg : Give [s] w [Ent.blk s 52 [vL rowsA rows.length rowsC, vI 0, vI 0, vI ((calls : Nat) : Int)]]) : Calls Tryz.prog 15 #[Value.iface 41 (pB s 0), vS [99, 111, 109, 112, 97, 114, 101], vS [], vL lA l.length lC] w (Gives [s] w fun v L => ∃ ch : List Change, ∃ chA : Option Addr, ∃ chC : Nat, ∃ lnA : Option Addr, ∃ lnC : Nat, v = Value.tuple #[vG [vI 4, vB false, vL chA ch.length chC, vL lnA ([R45.diffS k].length) lnC], vI 0] ∧ L = [Ent.row (.slice chA ch.length chC) 60 5 ch.length (ch.flatMap Change.enc), Ent.row (.slice lnA [R45.diffS k].length lnC) 9 1 [R45.diffS k].length ([R45.diffS k].map vS)]) := by
 obtain ⟨A, C, c, d, rfl⟩ := q2
 subst q0
 refine (run_compare (s := s) (parm := []) (rows := ([] : List SRow)) (rowsA := rowsA) (rowsC := rowsC) (calls := calls) (l := [R45.inlineB [73, 78, 49] xs A c, R45.inlineB [73, 78, 50] (xs.set k o) C d]) (lA := lA) (lC := lC) (w := w) rowsR lR lN hT (by decide) q1 R45.dist_nil (by simp) (by decide) (by show 2 ≤ 1000; decide) (R45.lines_two (show xs.length ≤ 1000 by omega) (show (xs.set k o).length ≤ 1000 by first | omega | (rw [List.length_set]; omega))) hg).mono ?_
 rintro e w' ⟨v, L', h1, ⟨cd, fd, ch, chA, chC, ln, lnA, lnC, hv, hL, hf⟩, hS⟩
 obtain ⟨rfl, h2, rfl, h4⟩ := R45.cmp_two hf
 obtain rfl := h2.trans (R45.cmp_diff q4 q5).1
 obtain rfl := h4.trans (R45.cmp_diff q4 q5).2
 exact ⟨v, L', h1, ⟨[], chA, chC, lnA, lnC, hv, hL⟩, hS⟩
set_option maxHeartbeats 1000000 in
set_option maxRecDepth 20000 in
theorem copies_t (l : List Bytes) (lA : Option Addr) (lC : Nat) (a8 : UInt8) (other : Bytes) (w : World) (lR : RO [] w lA (l.map vS)) (hT : Tab [] w) (q0 : l.length ≤ 9223372036854775807) (q1 : other.length ≤ 9223372036854775807) : Calls Tryz.prog 5 #[vL lA l.length lC, vB true, vU8 a8, vS other] w (Gives [] w fun v L => v = vB true ∧ L = []) := by
 have ha8 := a8.toNat_lt
 have hmd : 0 < l.length → a8.toNat % l.length < l.length := fun h => Nat.mod_lt _ h
 have hol := R45.cpO_len l
 have hnl : (l.map R45.cpC).length = l.length := List.length_map ..
 refine calls_J [] 198 Tryz.func5 rfl Tryz.ntmps5 [(0, _), (1, _), (2, _), (3, _)] rfl rfl (Give.nil w) ?_
 refine q_ (g_ (s_ av_ (z_ (n_ (q_ (q_ (g_ (c0 (cl_ Ty.ca8) (fun w hS => f8_ok w (hT.on hS (fun _ h => by cases h))) (jr_ (vB false) (z_ (n_ (iff_ (sk_ (n_ (q_ (q_ (g_ (s_ mv_ (s_ (lnS Tryz.underlying25) (s_ (x_gtr_i rfl rfl) ?_))))))))))))))))))))
 refine z_ (n_ ?_)
 refine ifd (fun h1w h1 => ?_) (fun h1w h1 => ?_)
 ·refine q_ (g_ (s_ av_ (z_ (n_ (rt_ (nr_ ?_))))))
  exact p1 Tryz.results5 rfl ⟨rfl, rfl⟩
 ·refine sk_ (n_ (q_ (q_ (g_ (s_ mv_ (s_ (lnS Tryz.underlying25) (s_ mv_ (z_ (n_ (k_ ?_))))))))))
  refine J_loop (X := Nat) (fun (i : Nat) => (i ≤ l.length) ∧ (∀ j, j < i → (l.getD j []).length ≤ 60)) (fun (i : Nat) => [(0, vL lA l.length lC), (1, vB true), (2, vU8 a8), (3, vS other), (27, vL lA l.length lC), (28, vI ((l.length : Nat) : Int)), (29, vI ((i : Nat) : Int))]) (fun (i : Nat) => []) (fun (i : Nat) => l.length - i) (0 : Nat) ?_ ⟨rfl, rfl, rfl, rfl, rfl, rfl, rfl, trivial⟩ (fun _ h => h) ?_
  ·try dsimp only
   refine ⟨?_, ?_⟩
   ·first | rfl | omega | (simp_all; done) | (simp_all; omega)
   ·intro j hj; omega
  intro i hI1
  obtain ⟨i1_0, i1_1⟩ := hI1
  try dsimp only at i1_0
  try dsimp only at i1_1
  try dsimp only
  refine q_ (g_ (s_ (x_lss_i rfl rfl) (z_ (n_ (q_ ?_)))))
  refine ifd (fun h2w h2 => ?_) (fun h2w h2 => ?_)
  ·refine sk_ (n_ (q_ (k_ (q_ (g_ (r_ (ixM (cells_ro lR) Tryz.underlying25 Ty.sz9) (r_ (ldM vS [] (cells_ro lR) Ty.sc9) (s_ av_ (z_ (n_ (q_ (g_ (s_ mv_ (s_ (x_len_s rfl Tryz.underlying9) (s_ (x_gtr_i rfl rfl) (z_ (n_ ?_)))))))))))))))))
   refine ifd (fun h3w h3 => ?_) (fun h3w h3 => ?_)
   ·refine q_ (g_ (s_ av_ (z_ (n_ (rt_ (kq_ (nr_ (rr_ (kq_ (nr_ ?_))))))))))
    exact p1 Tryz.results5 rfl ⟨rfl, rfl⟩
   ·refine sk_ (kx_ (n_ (g_ (s_ (x_add_n (a := i) (b := 1) rfl rfl (by omega)) (s_ mv_ (z_ ?_))))))
    refine JX_round (i + 1 : Nat) ?_ ?_ ⟨rfl, rfl, rfl, rfl, rfl, rfl, rfl, trivial⟩ (fun _ h => h)
    ·try dsimp only
     refine ⟨?_, ?_⟩
     ·first | rfl | omega | (simp_all; done) | (simp_all; omega)
     ·intro j hj
      by_cases hji : j = i
      ·subst hji; omega
      ·exact i1_1 j (by omega)
    ·try dsimp only
     first | omega | (simp; omega) | (simp_all; omega)
  ·refine J_exit (ne_ (re_ (kh_ (n_ (q_ ?_)))))
   refine g_ (c0 (cl_ Ty.ca17) (fun w hS => f17_ok [79, 85, 84] 200 w) (o_ (al_ Ty.ze33 fun b4 => ?_)))
   refine o_ (stG 0 Ty.sz33 ?_)
   refine z_ (n_ (q_ (q_ (g_ (s_ mv_ (z_ (n_ (ift (g_ (js_ (vG [vS [79, 85, 84], vS [], vB false, vI 0, vS [], vS [], vI 1, vI 0, vI 0, vI 0, vI 0, vI 0, vI 0, vI 0, vI 0, vI 0, vI 0, vI 0, vI 0, vI 0, vI 0, vI 0, vI 0, vB false, vI 0, vS [], vS [], vI 0, vI 0, vB false, vI 0, vI 0, vB false, vL none 0 0, vB false]) (x_build (by kernel_rfl)) (js_ (vG [vI 200, vI 0, vI 0, vI 0, vI 0, vI 0, vI 0, vI 0, vI 0, vI 0, vI 0, vI 0, vI 0, vI 0, vB false, vI 0, vS [], vS [], vI 0, vI 0, vB false]) (x_build (by kernel_rfl)) (js_ (vG [vI 0, vS [65], vI 200, vI 0, vI 0, vI 0, vI 0, vI 0, vI 0, vI 0, vI 0, vI 0, vI 0, vI 0, vI 0, vI 0, vB false, vI 0, vS [], vS [], vI 0, vI 0, vB false, vL none 0 0, vI 0, vI 0, vI 0, vB false, vS [], vS [], vI 0, vI 0, vL none 0 0]) (x_build (by kernel_rfl)) ?_))))))))))))
   refine js_ (vG [vS [79, 85, 84], vS [], vB false, vI 0, vS [], vS [], vI 1, vI 0, vI 0, vI 0, vI 0, vI 0, vI 0, vI 0, vI 0, vI 0, vI 0, vI 0, vI 0, vI 0, vI 0, vI 0, vI 0, vB false, vI 0, vS [], vS [], vI 0, vI 0, vB false, vI 0, vI 0, vB false, vL none 0 0, vB false, vS [], vI 0, vS [65], vI 200, vI 0, vI 0, vI 0, vI 0, vI 0, vI 0, vI 0, vI 0, vI 0, vI 0, vI 0, vI 0, vI 0, vB false, vI 0, vS [], vS [], vI 0, vI 0, vB false, vL none 0 0, vI 0, vI 0, vI 0, vB false, vS [], vS [], vI 0, vI 0, vL none 0 0, vB false, vI 0, vI 0, vI 0, vI 0, vI 0, vI 0, vI 0, vI 0, vI 0, vI 0, vI 0, vI 0, vI 0, vI 0, vB false, vI 0, vS [], vS [], vI 0, vI 0, vB false]) (x_build (by kernel_rfl)) (o_ (stG 0 Ty.sz33 ?_))
   refine z_ (n_ (q_ ?_))
   refine drU [] [8, 13] 15 Ty.mixed ?_
   refine jt_ 0 (vG [vI 200, vS [107], vS [98, 101, 102, 111, 114, 101]]) rfl (fun _ _ => x_build (by kernel_rfl)) ?_
   refine jp_ 4 rfl mv_ ?_
   refine JA_earlyT 6 (vG [vS [79, 85, 84], vS [], vB false, vI 0, vS [], vS [], vI 1, vI 0, vI 0, vI 0, vI 0, vI 0, vI 0, vI 0, vI 0, vI 0, vI 0, vI 0, vI 0, vI 0, vI 0, vI 0, vI 0, vB false, vI 0, vS [], vS [], vI 0, vI 0, vB false, vI 0, vI 0, vB false, vL none 0 0, vB false, vS [], vI 0, vS [65], vI 200, vI 0, vI 0, vI 0, vI 0, vI 0, vI 0, vI 0, vI 0, vI 0, vI 0, vI 0, vI 0, vI 0, vB false, vI 0, vS [], vS [], vI 0, vI 0, vB false, vL none 0 0, vI 0, vI 0, vI 0, vB false, vS [], vS [], vI 0, vI 0, vL none 0 0, vB false, vI 0, vI 0, vI 0, vI 0, vI 0, vI 0, vI 0, vI 0, vI 0, vI 0, vI 0, vI 0, vI 0, vI 0, vB false, vI 0, vS [], vS [], vI 0, vI 0, vB false]) rfl (by kernel_rfl) (by kernel_rfl) (by kernel_rfl) rfl (by kernel_rfl) (fun _ _ _ h => h) rfl trivial (x_loadN 0 [vS [79, 85, 84], vS [], vB false, vI 0, vS [], vS [], vI 1, vI 0, vI 0, vI 0, vI 0, vI 0, vI 0, vI 0, vI 0, vI 0, vI 0, vI 0, vI 0, vI 0, vI 0, vI 0, vI 0, vB false, vI 0, vS [], vS [], vI 0, vI 0, vB false, vI 0, vI 0, vB false, vL none 0 0, vB false, vS [], vI 0, vS [65], vI 200, vI 0, vI 0, vI 0, vI 0, vI 0, vI 0, vI 0, vI 0, vI 0, vI 0, vI 0, vI 0, vI 0, vB false, vI 0, vS [], vS [], vI 0, vI 0, vB false, vL none 0 0, vI 0, vI 0, vI 0, vB false, vS [], vS [], vI 0, vI 0, vL none 0 0, vB false, vI 0, vI 0, vI 0, vI 0, vI 0, vI 0, vI 0, vI 0, vI 0, vI 0, vI 0, vI 0, vI 0, vI 0, vB false, vI 0, vS [], vS [], vI 0, vI 0, vB false] rfl rfl Ty.ag33 Ty.sz33 rfl) ?_
   refine JA_finX (X := Nat × (Option Addr) × Nat × (Option Addr) × (List Bytes) × Nat) (fun ⟨b14, chA8, chC9, lnA11, ln10, lnC12⟩ => [(0, vL lA l.length lC), (1, vB true), (2, vU8 a8), (3, vS other), (12, pB b14 0), (13, vI 0)]) (fun ⟨b14, chA8, chC9, lnA11, ln10, lnC12⟩ => [Ent.blk b14 48 [vI 0, vB false, vL chA8 ((R45.cpO l).length) chC9, vL lnA11 ln10.length lnC12], Ent.row (.slice chA8 (R45.cpO l).length chC9) 60 5 (R45.cpO l).length ((R45.cpO l).flatMap Change.enc), Ent.row (.slice lnA11 ln10.length lnC12) 9 1 ln10.length (ln10.map vS)]) ?_ (fun key5 => ?_)
   ·rintro ⟨b14, chA8, chC9, lnA11, ln10, lnC12⟩
    show JX _ _ _ _ _ [(0, vL lA l.length lC), (1, vB true), (2, vU8 a8), (3, vS other), (12, pB b14 0), (13, vI 0)] [Ent.blk b14 48 [vI 0, vB false, vL chA8 ((R45.cpO l).length) chC9, vL lnA11 ln10.length lnC12], Ent.row (.slice chA8 (R45.cpO l).length chC9) 60 5 (R45.cpO l).length ((R45.cpO l).flatMap Change.enc), Ent.row (.slice lnA11 ln10.length lnC12) 9 1 ln10.length (ln10.map vS)]
    refine n_ (q_ (q_ (g_ (s_ mv_ (jr_ (vB false) (s_ mv_ (sg_ rfl (fA 1 Ty.fi48_1) (rg_ rfl (ld_ 0 Ty.sc4) (jr_ (vB false) (s_ mv_ (sg_ rfl (fA 0 Ty.fi48_0) (rg_ rfl (ld_ 0 Ty.sc3) ?_))))))))))))
    refine jg_ rfl (vB false) (rfl) (jr_ (vB false) (z_ (n_ (iff_ (sk_ (n_ (q_ (g_ (s_ (fA 2 Ty.fi48_2) (r_ (ld_ 0 Ty.sc46) (s_ av_ (z_ (n_ (q_ (q_ (g_ (s_ mv_ (z_ ?_))))))))))))))))))
    refine xk_ [0, 2, 3, 13, 14, 68] ?_
    refine n_ (ift (q_ (q_ (g_ (s_ mv_ (s_ (lnS Tryz.underlying46) (s_ (x_eql_i rfl rfl) (s_ mv_ ?_))))))))
    refine or_ 5 (!(decide ((((R45.cpO l).getD 0 default) : Change) = (Change.mk 3 200 [] [] [])))) (fun g15 => ?_) ?_
    ·have g15r := g15
     have g15r := of_decide_eq_false g15r
     refine sg_ g15 mv_ (rg_ g15 (ixF (k := 0) Change.enc_len (cells_row 1 rfl) Tryz.underlying46 Ty.sz60) (rg_ g15 (ldFN (k := 0) Change.enc_len (cells_row 1 rfl) Ty.ag60 Ty.sz60) (jg_ g15 (vG [vI 3, vI 200, vS [], vS [], vS []]) (x_build (by kernel_rfl)) (sg_ g15 (x_neq_agg rfl rfl Ty.eg60 (Ty.eq60 9998 ((R45.cpO l).getD 0 default) (Change.mk 3 200 [] [] []))) ?_))))
     exact cr_
    refine z_ (n_ ?_)
    refine if_ (fun h16 => ?_) (fun h16 => ?_)
    ·have h16w := h16
     simp only [Bool.and_eq_true, Bool.or_eq_true, Bool.and_eq_false_iff, Bool.or_eq_false_iff, Bool.not_eq_true', Bool.not_eq_false', decide_eq_true_eq, decide_eq_false_iff_not] at h16
     exact (R45.cp_bad0 (xs := l) (by assumption)).elim
    ·have h16w := h16
     have ⟨h16, h17⟩ := bor_false h16
     have h16 := of_decide_eq_false h16
     have h17 : (decide ((((R45.cpO l).getD 0 default) : Change) = (Change.mk 3 200 [] [] []))) = true := bnot_false h17
     have h17 := of_decide_eq_true h17
     refine sk_ (n_ (g_ (s_ mv_ (r_ (x_subrow_row 1 (lo := 1) (hi := (R45.cpO l).length) rfl rfl Tryz.underlying46 Ty.sz60 (.inl rfl) (.inr ⟨rfl, rfl⟩) lt_ lt_) (s_ av_ (z_ (n_ (q_ (g_ (s_ av_ (z_ (n_ (q_ (q_ (g_ (s_ mv_ (s_ (lnS Tryz.underlying46) (s_ mv_ ?_))))))))))))))))))
     refine z_ (n_ (k_ ?_))
     refine J_loop (X := Nat × (List Bytes) × (Option Addr) × Nat) (fun (⟨j, wr, wrA, wrC⟩ : Nat × (List Bytes) × (Option Addr) × Nat) => (j ≤ l.length) ∧ (wr = l.take j)) (fun (⟨j, wr, wrA, wrC⟩ : Nat × (List Bytes) × (Option Addr) × Nat) => [(0, vL lA l.length lC), (2, vU8 a8), (3, vS other), (13, vI 0), (15, vL wrA wr.length wrC), (81, vL (subA chA8 chC9 1 5) (((R45.cpO l).length) - 1) (chC9 - 1)), (82, vI ((((R45.cpO l).length) - 1 : Nat) : Int)), (83, vI ((j : Nat) : Int))]) (fun (⟨j, wr, wrA, wrC⟩ : Nat × (List Bytes) × (Option Addr) × Nat) => [Ent.row (.slice chA8 (R45.cpO l).length chC9) 60 5 (R45.cpO l).length ((R45.cpO l).flatMap Change.enc), Ent.row (.slice wrA wr.length wrC) 9 1 wr.length (wr.map vS)]) (fun (⟨j, wr, wrA, wrC⟩ : Nat × (List Bytes) × (Option Addr) × Nat) => l.length - j) ((0, ([] : List Bytes), none, 0) : Nat × (List Bytes) × (Option Addr) × Nat) ?_ ⟨rfl, rfl, rfl, rfl, rfl, rfl, rfl, rfl, trivial⟩ (fun _ h => ((h.nilrow 9 1).front 2 _ rfl).keep [true, true, false, false] rfl) ?_
     ·try dsimp only
      refine ⟨?_, ?_⟩
      ·first | rfl | omega | (simp_all; done) | (simp_all; omega)
      ·rfl
     rintro ⟨j, wr, wrA, wrC⟩ hI2
     obtain ⟨i2_0, i2_1⟩ := hI2
     try dsimp only at i2_0
     try dsimp only at i2_1
     try dsimp only
     refine q_ (g_ (s_ (x_lss_i rfl rfl) (z_ (n_ (q_ ?_)))))
     refine ifd (fun h18w h18 => ?_) (fun h18w h18 => ?_)
     ·refine sk_ (n_ (q_ (k_ (q_ (g_ (r_ (x_indexAddr_at (k := j) (off := j * 5) (cells_subR 0 rfl Change.enc_len 1 (((R45.cpO l).length) - 1) lt_) Tryz.underlying46 Ty.sz60 rfl rfl lt_ (by rw [flat_length Change.enc 5 Change.enc_len]; first | omega | (simp only [List.length_append, List.length_cons, List.length_nil]; omega) | (simp; omega) | (simp_all; omega) | (simp_all; done)) rfl) (r_ (ldFN Change.enc_len (cells_subR 0 rfl Change.enc_len 1 (((R45.cpO l).length) - 1) lt_) Ty.ag60 Ty.sz60) (o_ (al_ Ty.ze60 fun b19 => ?_)))))))))
      refine o_ (stG 0 Ty.sz60 ?_)
      refine z_ (n_ (q_ (q_ (g_ (s_ (fA 0 Ty.fi60_0) (r_ (ld_ 0 Ty.sc3) (s_ (x_neq_i rfl rfl) (s_ mv_ ?_))))))))
      refine or_ 3 (decide (((((R45.cpO l).drop 1).take (((R45.cpO l).length) - 1)).getD j default).Id ≠ 200)) (fun g20 => ?_) ?_
      ·have g20r := g20
       have g20r := of_decide_eq_false g20r
       refine sg_ g20 (fA 1 Ty.fi60_1) (rg_ g20 (ld_ 0 Ty.sc3) (sg_ g20 (x_neq_i rfl rfl) ?_))
       exact cr_
      refine s_ mv_ ?_
      refine or_ 3 (decide (((((R45.cpO l).drop 1).take (((R45.cpO l).length) - 1)).getD j default).Key ≠ ([] : Bytes))) (fun g21 => ?_) ?_
      ·have g21r := g21
       have ⟨g21r, h22⟩ := bor_false g21r
       have g21r := of_decide_eq_false g21r
       have h22 := of_decide_eq_false h22
       refine sg_ g21 (fA 2 Ty.fi60_2) (rg_ g21 (ld_ 0 Ty.sc9) (jg_ g21 (vB (decide (((((R45.cpO l).drop 1).take (((R45.cpO l).length) - 1)).getD j default).Key ≠ ([] : Bytes)))) (x_neq_s rfl rfl) ?_))
       exact cr_
      refine s_ mv_ ?_
      refine or_ 3 (decide (((((R45.cpO l).drop 1).take (((R45.cpO l).length) - 1)).getD j default).Volume ≠ ([] : Bytes))) (fun g23 => ?_) ?_
      ·have g23r := g23
       have ⟨g23r, h24⟩ := bor_false g23r
       have ⟨g23r, h25⟩ := bor_false g23r
       have g23r := of_decide_eq_false g23r
       have h25 := of_decide_eq_false h25
       have h24 := of_decide_eq_false h24
       refine sg_ g23 (fA 4 Ty.fi60_4) (rg_ g23 (ld_ 0 Ty.sc9) (jg_ g23 (vB (decide (((((R45.cpO l).drop 1).take (((R45.cpO l).length) - 1)).getD j default).Volume ≠ ([] : Bytes)))) (x_neq_s rfl rfl) ?_))
       exact cr_
      refine z_ (xk_ [0, 2, 3, 13, 15, 81, 82, 83, 17, 104] ?_)
      refine n_ ?_
      refine if_ (fun h26 => ?_) (fun h26 => ?_)
      ·have h26w := h26
       simp only [Bool.and_eq_true, Bool.or_eq_true, Bool.and_eq_false_iff, Bool.or_eq_false_iff, Bool.not_eq_true', Bool.not_eq_false', decide_eq_true_eq, decide_eq_false_iff_not] at h26
       exact c45v4_
      ·have h26w := h26
       have ⟨h26, h27⟩ := bor_false h26
       have ⟨h26, h28⟩ := bor_false h26
       have ⟨h26, h29⟩ := bor_false h26
       have h26 := of_decide_eq_false h26
       have h29 := of_decide_eq_false h29
       have h28 := of_decide_eq_false h28
       have h27 := of_decide_eq_false h27
       refine sk_ (n_ (g_ (s_ mv_ (s_ (fA 3 Ty.fi60_3) (r_ (ld_ 0 Ty.sc9) (o_ (O_buildSlice (cs := [vS (((((R45.cpO l).drop 1).take (((R45.cpO l).length) - 1)).getD j default).Record)]) Tryz.underlying25 Ty.sz9 Ty.ze9 (by decide) (by decide) (by kernel_rfl) fun b30 => ?_)))))))
       refine o_ (O_append_m 3 vS wr [((((R45.cpO l).drop 1).take (((R45.cpO l).length) - 1)).getD j default).Record] Tryz.underlying25 Ty.sz9 Ty.by9 Ty.ze9 rfl rfl rfl rfl rfl (fun _ => rfl) (cells_blk 0 (off := 0) (m := 1) rfl rfl) lt_ lt_ fun A31 c32 => ?_)
       refine s_ av_ (z_ (kx_ (n_ (g_ (s_ (x_add_n (a := j) (b := 1) rfl rfl (by omega)) (s_ mv_ (z_ ?_)))))))
       refine JX_round ((j + 1, wr ++ [((((R45.cpO l).drop 1).take (((R45.cpO l).length) - 1)).getD j default).Record], A31, c32) : Nat × (List Bytes) × (Option Addr) × Nat) ?_ ?_ ⟨rfl, rfl, rfl, rfl, rfl, rfl, rfl, rfl, trivial⟩ (fun _ h => h.keep [false, false, true, true] rfl)
       ·try dsimp only
        refine ⟨?_, ?_⟩
        ·first | rfl | omega | (simp_all; done) | (simp_all; omega)
        ·exact c45v5_
       ·try dsimp only
        first | omega | (simp; omega) | (simp_all; omega)
     ·refine J_exit (ne_ (re_ (kh_ (n_ (q_ ?_)))))
      refine g_ ?_
      refine c1 (cl_ Ty.ca12) (fun w hS => f12_ok ([] : List SRow) none 0 w RO.nil) ?_
      rintro _ _ ⟨s33, rfl, rfl⟩
      refine js_ (Value.iface 41 (pB s33 0)) (x_iface rfl (by kernel_rfl)) (s_ mv_ (c0 (cl_ Ty.ca18) (fun w hS => f18_ok [73, 78, 49] l lA lC w (rno lR hS)) (s_ mv_ (c0 (cl_ Ty.ca18) (fun w hS => f18_ok [73, 78, 50] wr wrA wrC w (RO.of_row hS 2 rfl)) (o_ (O_buildSlice (cs := (Binding.enc (R45.inlineB [73, 78, 49] l lA lC) ++ Binding.enc (R45.inlineB [73, 78, 50] wr wrA wrC))) Tryz.underlying36 Ty.sz33 Ty.ze33 (by decide) (by decide) (by kernel_rfl) fun b34 => ?_))))))
      refine JO_call [s33] [Ent.blk s33 52 [vL none (([] : List SRow).length) 0, vI 0, vI 0, vI ((0 : Nat) : Int)]] [Ent.blk b34 33 (Binding.enc (R45.inlineB [73, 78, 49] l lA lC) ++ Binding.enc (R45.inlineB [73, 78, 50] wr wrA wrC)), Ent.row (.slice chA8 (R45.cpO l).length chC9) 60 5 (R45.cpO l).length ((R45.cpO l).flatMap Change.enc), Ent.row (.slice wrA wr.length wrC) 9 1 wr.length (wr.map vS)] rfl trivial (fun _ => x_call Ty.ca15 rfl) (fun _ h => ((((h.front 3 _ rfl).front 3 _ rfl).front 2 _ rfl).front 3 _ rfl).keep [true, true, true, true] rfl) (own_mem rfl) (fun w hS => cp_same s33 ([] : List SRow) none 0 0 [(R45.inlineB [73, 78, 49] l lA lC), (R45.inlineB [73, 78, 50] wr wrA wrC)] (some ⟨b34, 0, none⟩) 2 l w RO.nil (RO.of_blkS hS (own_mem rfl) 0 (off := 0) (m := 182) rfl rfl) (okL_cons (inline_kp (lR.on hS (own_mem rfl))) (okL_cons (inline_kp (RO.of_rowS hS (own_mem rfl) 2 rfl)) (Binding.ok_none))) (hT.on hS (own_mem rfl)) (by rfl) hy_ (by refine ⟨lA, wrA, lC, wrC, ?_⟩; rw [R45.take_all i2_1 (by omega)]) hy_ (hS.give (own_in rfl))) ?_
      rintro _ _ ⟨ch35, chA36, chC37, ln38, lnA39, lnC40, rfl, rfl⟩
      refine s_ mv_ (s_ (ex_ 0) (s_ (ex_ 1) (o_ (al_ Ty.ze48 fun b41 => ?_))))
      refine o_ (stG 0 Ty.sz48 ?_)
      refine s_ av_ (z_ (xk_ [0, 2, 3, 13, 15, 18] ?_))
      refine n_ (q_ (q_ ?_))
      refine J_weaken (E' := [(0, vL lA l.length lC), (2, vU8 a8), (3, vS other), (13, vI 0), (15, vL wrA wr.length wrC), (18, pB b41 0)]) (L' := [Ent.blk b41 48 [vI 0, vB false, vL chA36 ch35.length chC37, vL lnA39 ln38.length lnC40], Ent.row (.slice chA36 ch35.length chC37) 60 5 ch35.length (ch35.flatMap Change.enc), Ent.row (.slice lnA39 ln38.length lnC40) 9 1 ln38.length (ln38.map vS), Ent.row (.slice chA8 (R45.cpO l).length chC9) 60 5 (R45.cpO l).length ((R45.cpO l).flatMap Change.enc), Ent.row (.slice wrA wr.length wrC) 9 1 wr.length (wr.map vS)]) ⟨rfl, rfl, rfl, rfl, rfl, rfl, trivial⟩ (fun _ h => h.keep [true, true, true, false, true, true] rfl) ?_
      refine g_ (s_ mv_ (jr_ (vB false) (s_ mv_ (sg_ rfl (fA 0 Ty.fi48_0) (rg_ rfl (ld_ 0 Ty.sc3) (jg_ rfl (vB false) (rfl) (jr_ (vB false) (s_ mv_ (sg_ rfl mv_ ?_)))))))))
      refine sg_ rfl (lnS Tryz.underlying25) (sg_ rfl mv_ (sg_ rfl (lnS Tryz.underlying25) (sg_ rfl (x_neq_i rfl rfl) (jr_ (vB (decide (((wr.length : Nat) : Int) ≠ ((l.length : Nat) : Int)))) (z_ (n_ ?_))))))
      refine ifd (fun h42w h42 => ?_) (fun h42w h42 => ?_)
      ·exfalso; have := congrArg List.length i2_1; rw [List.length_take] at this; omega
      ·refine sk_ (n_ (q_ (q_ (g_ (s_ mv_ (s_ (lnS Tryz.underlying25) (s_ (x_eql_i rfl rfl) (s_ mv_ ?_))))))))
       refine or_ 10 (decide ((l.getD (a8.toNat % l.length) []) = other)) (fun g43 => ?_) ?_
       ·have g43r := g43
        have g43r := of_decide_eq_false g43r
        refine sg_ g43 mv_ (sg_ g43 mv_ (sg_ g43 (x_conv_u8_i64 rfl Tryz.underlying5 Tryz.underlying3) (sg_ g43 mv_ (sg_ g43 (lnS Tryz.underlying25) (sg_ g43 (x_rem_n (a := a8.toNat) (b := l.length) rfl rfl (by omega) (by omega)) (rg_ g43 (ixM (cells_ro lR) Tryz.underlying25 Ty.sz9) (rg_ g43 (ldM vS [] (cells_ro lR) Ty.sc9) (sg_ g43 mv_ (sg_ g43 (x_eql_s rfl rfl) ?_)))))))))
        exact cr_
       refine z_ (xk_ [0, 2, 3, 13, 150] ?_)
       refine n_ ?_
       refine if_ (fun h44 => ?_) (fun h44 => ?_)
       ·have h44w := h44
        simp only [Bool.and_eq_true, Bool.or_eq_true, Bool.and_eq_false_iff, Bool.or_eq_false_iff, Bool.not_eq_true', Bool.not_eq_false', decide_eq_true_eq, decide_eq_false_iff_not] at h44
        refine q_ (g_ (s_ av_ (z_ (n_ (rt_ (nr_ ?_))))))
        exact p1 Tryz.results5 rfl ⟨rfl, rfl⟩
       ·have h44w := h44
        have ⟨h44, h45⟩ := bor_false h44
        have h44 := of_decide_eq_false h44
        have h45 := of_decide_eq_false h45
        refine sk_ (n_ (q_ (g_ (s_ mv_ (s_ (x_conv_u8_i64 rfl Tryz.underlying5 Tryz.underlying3) (s_ mv_ (s_ (lnS Tryz.underlying25) (s_ (x_rem_n (a := a8.toNat) (b := l.length) rfl rfl (by omega) (by omega)) (s_ av_ (z_ (n_ (q_ (g_ (o_ (O_buildSlice0 Tryz.underlying25 Ty.sz9 fun b46 => ?_)))))))))))))))
        refine s_ mv_ ?_
        refine JO_weaken (E' := [(0, vL lA l.length lC), (2, vU8 a8), (3, vS other), (13, vI 0), (150, vB ((decide (((l.length : Nat) : Int) = 0)) || (decide ((l.getD (a8.toNat % l.length) []) = other)))), (151, vU8 a8), (152, vI ((a8.toNat : Nat) : Int)), (153, vL lA l.length lC), (154, vI ((l.length : Nat) : Int)), (155, vI ((a8.toNat % l.length : Nat) : Int)), (19, vI ((a8.toNat % l.length : Nat) : Int)), (156, vL (some ⟨b46, 0, none⟩) ((([] : List Bytes)).length) 0), (157, vL lA l.length lC)]) (L' := [Ent.row (.slice (some ⟨b46, 0, none⟩) ([] : List Bytes).length 0) 9 1 ([] : List Bytes).length (([] : List Bytes).map vS), Ent.blk b41 48 [vI 0, vB false, vL chA36 ch35.length chC37, vL lnA39 ln38.length lnC40], Ent.row (.slice chA36 ch35.length chC37) 60 5 ch35.length (ch35.flatMap Change.enc), Ent.row (.slice lnA39 ln38.length lnC40) 9 1 ln38.length (ln38.map vS), Ent.row (.slice chA8 (R45.cpO l).length chC9) 60 5 (R45.cpO l).length ((R45.cpO l).flatMap Change.enc), Ent.row (.slice wrA wr.length wrC) 9 1 wr.length (wr.map vS)]) ⟨rfl, rfl, rfl, rfl, rfl, rfl, rfl, rfl, rfl, rfl, rfl, rfl, rfl, trivial⟩ (fun _ h => (St.torow (cs := []) ((((((h.front 5 _ rfl).front 5 _ rfl).front 5 _ rfl).front 5 _ rfl).front 5 _ rfl).front 5 _ rfl) 1 0 rfl (by decide)).keep [true, true, true, true, true, true] rfl) ?_
        refine o_ (O_append_m 0 vS ([] : List Bytes) l Tryz.underlying25 Ty.sz9 Ty.by9 Ty.ze9 rfl rfl rfl rfl rfl (fun _ => rfl) (cells_ro lR) lt_ lt_ fun A47 c48 => ?_)
        refine s_ av_ (z_ (n_ (q_ (g_ (s_ mv_ (s_ mv_ (s_ mv_ (r_ (ixM (cells_row 0 rfl) Tryz.underlying25 Ty.sz9) (o_ (O_store_row_1 (a := other) (xs := ([] : List Bytes) ++ l) (k := a8.toNat % l.length) 0 vS [Ent.row (.slice A47 ((([] : List Bytes) ++ l).set (a8.toNat % l.length) other).length c48) 9 1 ((([] : List Bytes) ++ l).set (a8.toNat % l.length) other).length (((([] : List Bytes) ++ l).set (a8.toNat % l.length) other).map vS), Ent.blk b41 48 [vI 0, vB false, vL chA36 ch35.length chC37, vL lnA39 ln38.length lnC40], Ent.row (.slice chA36 ch35.length chC37) 60 5 ch35.length (ch35.flatMap Change.enc), Ent.row (.slice lnA39 ln38.length lnC40) 9 1 ln38.length (ln38.map vS), Ent.row (.slice chA8 (R45.cpO l).length chC9) 60 5 (R45.cpO l).length ((R45.cpO l).flatMap Change.enc), Ent.row (.slice wrA wr.length wrC) 9 1 wr.length (wr.map vS)] rfl rfl rfl Ty.sz9 rfl (fun _ => rfl) lt_ rfl ?_))))))))))
        refine JO_weaken (E' := [(0, vL lA l.length lC), (2, vU8 a8), (3, vS other), (13, vI 0), (150, vB ((decide (((l.length : Nat) : Int) = 0)) || (decide ((l.getD (a8.toNat % l.length) []) = other)))), (151, vU8 a8), (152, vI ((a8.toNat : Nat) : Int)), (153, vL lA l.length lC), (154, vI ((l.length : Nat) : Int)), (155, vI ((a8.toNat % l.length : Nat) : Int)), (19, vI ((a8.toNat % l.length : Nat) : Int)), (156, vL (some ⟨b46, 0, none⟩) ((([] : List Bytes)).length) 0), (157, vL lA l.length lC), (158, vL A47 (((([] : List Bytes) ++ l).set (a8.toNat % l.length) other).length) c48), (20, vL A47 (((([] : List Bytes) ++ l).set (a8.toNat % l.length) other).length) c48), (159, vL A47 (((([] : List Bytes) ++ l).set (a8.toNat % l.length) other).length) c48), (160, vI ((a8.toNat % l.length : Nat) : Int)), (161, vS other), (162, pA A47 (a8.toNat % l.length))]) (L' := [Ent.row (.slice A47 ((([] : List Bytes) ++ l).set (a8.toNat % l.length) other).length c48) 9 1 ((([] : List Bytes) ++ l).set (a8.toNat % l.length) other).length (((([] : List Bytes) ++ l).set (a8.toNat % l.length) other).map vS), Ent.blk b41 48 [vI 0, vB false, vL chA36 ch35.length chC37, vL lnA39 ln38.length lnC40], Ent.row (.slice chA36 ch35.length chC37) 60 5 ch35.length (ch35.flatMap Change.enc), Ent.row (.slice lnA39 ln38.length lnC40) 9 1 ln38.length (ln38.map vS), Ent.row (.slice chA8 (R45.cpO l).length chC9) 60 5 (R45.cpO l).length ((R45.cpO l).flatMap Change.enc), Ent.row (.slice wrA wr.length wrC) 9 1 wr.length (wr.map vS)]) ⟨rfl, rfl, rfl, rfl, rfl, rfl, rfl, rfl, rfl, rfl, rfl, rfl, rfl, (congrArg (fun n : Nat => some (Value.slice A47 n c48)) (set_len (([] : List Bytes) ++ l) (a8.toNat % l.length) other).symm), (congrArg (fun n : Nat => some (Value.slice A47 n c48)) (set_len (([] : List Bytes) ++ l) (a8.toNat % l.length) other).symm), (congrArg (fun n : Nat => some (Value.slice A47 n c48)) (set_len (([] : List Bytes) ++ l) (a8.toNat % l.length) other).symm), rfl, rfl, rfl, trivial⟩ (fun _ h => h) ?_
        refine z_ (n_ (q_ (g_ ?_)))
        refine c1 (cl_ Ty.ca12) (fun w hS => f12_ok ([] : List SRow) none 0 w RO.nil) ?_
        rintro _ _ ⟨s49, rfl, rfl⟩
        refine js_ (Value.iface 41 (pB s49 0)) (x_iface rfl (by kernel_rfl)) (s_ mv_ (c0 (cl_ Ty.ca18) (fun w hS => f18_ok [73, 78, 49] l lA lC w (rno lR hS)) (s_ mv_ (c0 (cl_ Ty.ca18) (fun w hS => f18_ok [73, 78, 50] _ A47 c48 w (RO.of_row hS 1 rfl)) (o_ (O_buildSlice (cs := (Binding.enc (R45.inlineB [73, 78, 49] l lA lC) ++ Binding.enc (R45.inlineB [73, 78, 50] ((([] : List Bytes) ++ l).set (a8.toNat % l.length) other) A47 c48))) Tryz.underlying36 Ty.sz33 Ty.ze33 (by decide) (by decide) (by kernel_rfl) fun b50 => ?_))))))
        refine JO_call [s49] [Ent.blk s49 52 [vL none (([] : List SRow).length) 0, vI 0, vI 0, vI ((0 : Nat) : Int)]] [Ent.blk b50 33 (Binding.enc (R45.inlineB [73, 78, 49] l lA lC) ++ Binding.enc (R45.inlineB [73, 78, 50] ((([] : List Bytes) ++ l).set (a8.toNat % l.length) other) A47 c48)), Ent.row (.slice A47 ((([] : List Bytes) ++ l).set (a8.toNat % l.length) other).length c48) 9 1 ((([] : List Bytes) ++ l).set (a8.toNat % l.length) other).length (((([] : List Bytes) ++ l).set (a8.toNat % l.length) other).map vS), Ent.blk b41 48 [vI 0, vB false, vL chA36 ch35.length chC37, vL lnA39 ln38.length lnC40], Ent.row (.slice chA36 ch35.length chC37) 60 5 ch35.length (ch35.flatMap Change.enc), Ent.row (.slice lnA39 ln38.length lnC40) 9 1 ln38.length (ln38.map vS), Ent.row (.slice chA8 (R45.cpO l).length chC9) 60 5 (R45.cpO l).length ((R45.cpO l).flatMap Change.enc), Ent.row (.slice wrA wr.length wrC) 9 1 wr.length (wr.map vS)] rfl trivial (fun _ => x_call Ty.ca15 rfl) (fun _ h => ((((((((h.front 7 _ rfl).front 7 _ rfl).front 7 _ rfl).front 7 _ rfl).front 7 _ rfl).front 7 _ rfl).front 6 _ rfl).front 7 _ rfl).keep [true, true, true, true, true, true, true, true] rfl) (own_mem rfl) (fun w hS => cp_diff s49 ([] : List SRow) none 0 0 [(R45.inlineB [73, 78, 49] l lA lC), (R45.inlineB [73, 78, 50] ((([] : List Bytes) ++ l).set (a8.toNat % l.length) other) A47 c48)] (some ⟨b50, 0, none⟩) 2 l (a8.toNat % l.length) other w RO.nil (RO.of_blkS hS (own_mem rfl) 0 (off := 0) (m := 182) rfl rfl) (okL_cons (inline_kp (lR.on hS (own_mem rfl))) (okL_cons (inline_kp (RO.of_rowS hS (own_mem rfl) 1 rfl)) (Binding.ok_none))) (hT.on hS (own_mem rfl)) (by rfl) hy_ (by exact ⟨_, _, _, _, rfl⟩) hy_ (by exact Nat.mod_lt _ (by omega)) hy_ (hS.give (own_in rfl))) ?_
        rintro _ _ ⟨ch51, chA52, chC53, lnA54, lnC55, rfl, rfl⟩
        refine s_ mv_ (s_ (ex_ 0) (s_ (ex_ 1) (o_ (al_ Ty.ze48 fun b56 => ?_))))
        refine o_ (stG 0 Ty.sz48 ?_)
        refine s_ av_ (z_ (xk_ [13, 19, 21] ?_))
        refine n_ (q_ ?_)
        refine J_weaken (E' := [(13, vI 0), (19, vI ((a8.toNat % l.length : Nat) : Int)), (21, pB b56 0)]) (L' := [Ent.blk b56 48 [vI 4, vB false, vL chA52 ch51.length chC53, vL lnA54 ([R45.diffS (a8.toNat % l.length)].length) lnC55], Ent.row (.slice chA52 ch51.length chC53) 60 5 ch51.length (ch51.flatMap Change.enc), Ent.row (.slice lnA54 [R45.diffS (a8.toNat % l.length)].length lnC55) 9 1 [R45.diffS (a8.toNat % l.length)].length ([R45.diffS (a8.toNat % l.length)].map vS), Ent.row (.slice A47 ((([] : List Bytes) ++ l).set (a8.toNat % l.length) other).length c48) 9 1 ((([] : List Bytes) ++ l).set (a8.toNat % l.length) other).length (((([] : List Bytes) ++ l).set (a8.toNat % l.length) other).map vS), Ent.blk b41 48 [vI 0, vB false, vL chA36 ch35.length chC37, vL lnA39 ln38.length lnC40], Ent.row (.slice chA36 ch35.length chC37) 60 5 ch35.length (ch35.flatMap Change.enc), Ent.row (.slice lnA39 ln38.length lnC40) 9 1 ln38.length (ln38.map vS), Ent.row (.slice chA8 (R45.cpO l).length chC9) 60 5 (R45.cpO l).length ((R45.cpO l).flatMap Change.enc), Ent.row (.slice wrA wr.length wrC) 9 1 wr.length (wr.map vS)]) ⟨rfl, rfl, rfl, trivial⟩ (fun _ h => h.keep [true, true, true, false, true, true, true, true, true, true] rfl) ?_
        refine drB [] 25 Ty.mixed ?_
        refine jp_ 0 rfl mv_ ?_
        refine jt_ 1 (vB true) rfl (fun _ _ => rfl) ?_
        refine jp_ 2 rfl mv_ (jp_ 3 rfl (fA 0 Ty.fi48_0) (jq_ 4 rfl (ld_ 0 Ty.sc3) ?_ (hw := ⟨_, rfl, rfl⟩)) (hw := ⟨_, rfl, rfl⟩))
        refine JA_take 5 (vB true) rfl (by kernel_rfl) (by kernel_rfl) (by kernel_rfl) rfl (fun _ _ _ h => h) rfl ⟨_, rfl, rfl⟩ (fun _ _ => rfl) ?_
        refine jt_ 6 (vB true) rfl (fun _ _ => rfl) ?_
        refine jp_ 7 rfl mv_ (jp_ 8 rfl (fA 3 Ty.fi48_3) (jq_ 9 rfl (ld_ 0 Ty.sc25) (jp_ 10 rfl (lnS Tryz.underlying25) (jp_ 11 rfl (x_eql_i rfl rfl) ?_ (hw := ⟨_, rfl, rfl⟩)) (hw := ⟨_, rfl, rfl⟩)) (hw := ⟨_, rfl, rfl⟩)) (hw := ⟨_, rfl, rfl⟩))
        refine jt_ 12 (vB (decide ((([R45.diffS (a8.toNat % l.length)].length : Nat) : Int) = 1))) rfl (fun _ _ => rfl) ?_
        refine jp_ 13 rfl mv_ ?_
        refine jb_ 187 (fun h57 => ?_) (fun h57 => ?_)
        ·have h57 := of_decide_eq_true h57
         refine jp_ 14 rfl (fA 3 Ty.fi48_3) (jq_ 15 rfl (ld_ 0 Ty.sc25) (jq_ 16 rfl (ixM (k := 0) (cells_row 2 rfl) Tryz.underlying25 Ty.sz9) (jq_ 17 rfl (ldM vS [] (cells_row 2 rfl) Ty.sc9) (jp_ 18 rfl mv_ (jp_ 19 rfl (x_add_n (a := a8.toNat % l.length) (b := 1) rfl rfl (by omega)) (j1_ 20 (jc0_ rfl (cl_ Ty.ca19) (fun w hS => itoa_ok _ w (hT.on hS (fun _ h => by cases h)) hy_ hy_) ?_ (hw := ⟨_, rfl, rfl⟩)) gm_) (hw := ⟨_, rfl, rfl⟩)) (hw := ⟨_, rfl, rfl⟩)) (hw := ⟨_, rfl, rfl⟩)) (hw := ⟨_, rfl, rfl⟩)) (hw := ⟨_, rfl, rfl⟩)) (hw := ⟨_, rfl, rfl⟩)
         have ha58 := R45.dec_lenI (((a8.toNat % l.length) + 1 : Nat) : Int) (by omega)
         refine JA_take 21 (vS ([100, 105, 102, 102, 101, 114, 101, 110, 116, 32, 97, 116, 32] ++ (Lib.decDigits (((a8.toNat % l.length) + 1 : Nat) : Int).toNat))) rfl (by kernel_rfl) (by kernel_rfl) (by kernel_rfl) rfl (fun _ _ _ h => h) rfl ⟨_, rfl, rfl⟩ (fun _ _ => x_cat_s rfl rfl c45v3_) ?_
         refine jp_ 22 rfl (x_eql_s rfl rfl) ?_ (hw := ⟨_, rfl, rfl⟩)
         refine jt_ 23 (vB (decide (([R45.diffS (a8.toNat % l.length)].getD 0 []) = ([100, 105, 102, 102, 101, 114, 101, 110, 116, 32, 97, 116, 32] ++ (Lib.decDigits (((a8.toNat % l.length) + 1 : Nat) : Int).toNat) : Bytes)))) rfl (fun _ _ => rfl) ?_
         refine jp_ 24 rfl av_ ?_
         refine JA_done (by kernel_rfl) gm_ ?_
         refine n_ (rt_ ?_)
         exact p1 Tryz.results5 rfl ⟨(eB c45v1_), rfl⟩
        ·have h57 := of_decide_eq_false h57
         refine js2_ 14 rfl (js2_ 15 rfl (js2_ 16 rfl (js2_ 17 rfl (js2_ 18 rfl (js2_ 19 rfl (js2_ 20 rfl (js2_ 21 rfl (js2_ 22 rfl ?_))))))))
         refine jt_ 23 (vB false) rfl (fun _ _ => rfl) ?_
         refine jp_ 24 rfl av_ ?_
         refine JA_done (by kernel_rfl) gm_ ?_
         refine n_ (rt_ ?_)
         exact p1 Tryz.results5 rfl ⟨(eB c45v1_), rfl⟩
   ·refine JA_ready (rs := [1, 12]) (by kernel_rfl) (by decide) (fun _ h => ⟨h.keep [false] rfl, fun _ => h⟩) (List.forall_mem_cons.2 ⟨?_, (List.forall_mem_cons.2 ⟨?_, all_nil⟩)⟩)
    ·refine jio_ rfl (O_buildSlice (cs := [vI 200, vS [107], vS [98, 101, 102, 111, 114, 101]]) Tryz.underlying22 Ty.sz57 Ty.ze57 (by decide) (by decide) (by kernel_rfl) fun b59 => ?_)
     refine JA_ready (rs := [2, 12]) (by kernel_rfl) (by decide) (fun _ h => ⟨h.keep [false, false] rfl, fun _ => h.keep [false, true] rfl⟩) (List.forall_mem_cons.2 ⟨?_, (List.forall_mem_cons.2 ⟨?_, all_nil⟩)⟩)
     ·refine jc1_ rfl (cl_ Ty.ca12) (fun w hS => f12_ok [(SRow.mk 200 [107] [98, 101, 102, 111, 114, 101])] _ 1 w (RO.of_blk hS 0 (off := 0) (m := 3) rfl rfl)) ?_
      rintro _ _ ⟨s60, rfl, rfl⟩
      refine jt_ 3 (Value.iface 41 (pB s60 0)) rfl (fun _ _ => x_iface rfl (by kernel_rfl)) ?_
      refine JA_ready (rs := [5, 12]) (by kernel_rfl) (by decide) (fun _ h => ⟨h.keep [false, false, false] rfl, fun _ => h.keep [false, false, true] rfl⟩) (List.forall_mem_cons.2 ⟨?_, (List.forall_mem_cons.2 ⟨?_, all_nil⟩)⟩)
      ·refine jc0_ rfl (cl_ Ty.ca18) (fun w hS => f18_ok [73, 78] l lA lC w (rno lR hS)) ?_
       refine JA_ready (rs := [7, 12]) (by kernel_rfl) (by decide) (fun _ h => ⟨h.keep [false, false, false] rfl, fun _ => h.keep [false, false, true] rfl⟩) (List.forall_mem_cons.2 ⟨?_, (List.forall_mem_cons.2 ⟨?_, all_nil⟩)⟩)
       ·refine jio_ rfl (O_buildSlice (cs := (Binding.enc (R45.inlineB [73, 78] l lA lC) ++ [vS [79, 85, 84], vS [], vB false, vI 0, vS [], vS [], vI 1, vI 0, vI 0, vI 0, vI 0, vI 0, vI 0, vI 0, vI 0, vI 0, vI 0, vI 0, vI 0, vI 0, vI 0, vI 0, vI 0, vB false, vI 0, vS [], vS [], vI 0, vI 0, vB false, vI 0, vI 0, vB false, vL none 0 0, vB false, vS [], vI 0, vS [65], vI 200, vI 0, vI 0, vI 0, vI 0, vI 0, vI 0, vI 0, vI 0, vI 0, vI 0, vI 0, vI 0, vI 0, vB false, vI 0, vS [], vS [], vI 0, vI 0, vB false, vL none 0 0, vI 0, vI 0, vI 0, vB false, vS [], vS [], vI 0, vI 0, vL none 0 0, vB false, vI 0, vI 0, vI 0, vI 0, vI 0, vI 0, vI 0, vI 0, vI 0, vI 0, vI 0, vI 0, vI 0, vI 0, vB false, vI 0, vS [], vS [], vI 0, vI 0, vB false])) Tryz.underlying36 Ty.sz33 Ty.ze33 (by decide) (by decide) (by kernel_rfl) fun b61 => ?_)
        refine JA_ready (rs := [8, 12]) (by kernel_rfl) (by decide) (fun _ h => ⟨h.keep [false, false, false, false] rfl, fun _ => h.keep [false, false, false, true] rfl⟩) (List.forall_mem_cons.2 ⟨?_, (List.forall_mem_cons.2 ⟨?_, all_nil⟩)⟩)
        ·refine JI_call [s60] [Ent.blk s60 52 [vL (some ⟨b59, 0, none⟩) ([(SRow.mk 200 [107] [98, 101, 102, 111, 114, 101])].length) 1, vI 0, vI 0, vI ((0 : Nat) : Int)]] [Ent.blk b61 33 (Binding.enc (R45.inlineB [73, 78] l lA lC) ++ [vS [79, 85, 84], vS [], vB false, vI 0, vS [], vS [], vI 1, vI 0, vI 0, vI 0, vI 0, vI 0, vI 0, vI 0, vI 0, vI 0, vI 0, vI 0, vI 0, vI 0, vI 0, vI 0, vI 0, vB false, vI 0, vS [], vS [], vI 0, vI 0, vB false, vI 0, vI 0, vB false, vL none 0 0, vB false, vS [], vI 0, vS [65], vI 200, vI 0, vI 0, vI 0, vI 0, vI 0, vI 0, vI 0, vI 0, vI 0, vI 0, vI 0, vI 0, vI 0, vB false, vI 0, vS [], vS [], vI 0, vI 0, vB false, vL none 0 0, vI 0, vI 0, vI 0, vB false, vS [], vS [], vI 0, vI 0, vL none 0 0, vB false, vI 0, vI 0, vI 0, vI 0, vI 0, vI 0, vI 0, vI 0, vI 0, vI 0, vI 0, vI 0, vI 0, vI 0, vB false, vI 0, vS [], vS [], vI 0, vI 0, vB false]), Ent.blk b59 57 [vI 200, vS [107], vS [98, 101, 102, 111, 114, 101]], Ent.blk b4 33 [vS [79, 85, 84], vS [], vB false, vI 0, vS [], vS [], vI 1, vI 0, vI 0, vI 0, vI 0, vI 0, vI 0, vI 0, vI 0, vI 0, vI 0, vI 0, vI 0, vI 0, vI 0, vI 0, vI 0, vB false, vI 0, vS [], vS [], vI 0, vI 0, vB false, vI 0, vI 0, vB false, vL none 0 0, vB false, vS [], vI 0, vS [65], vI 200, vI 0, vI 0, vI 0, vI 0, vI 0, vI 0, vI 0, vI 0, vI 0, vI 0, vI 0, vI 0, vI 0, vB false, vI 0, vS [], vS [], vI 0, vI 0, vB false, vL none 0 0, vI 0, vI 0, vI 0, vB false, vS [], vS [], vI 0, vI 0, vL none 0 0, vB false, vI 0, vI 0, vI 0, vI 0, vI 0, vI 0, vI 0, vI 0, vI 0, vI 0, vI 0, vI 0, vI 0, vI 0, vB false, vI 0, vS [], vS [], vI 0, vI 0, vB false]] rfl rfl trivial (fun _ => x_call Ty.ca15 rfl) (fun _ h => ((((h.front 3 _ rfl).front 3 _ rfl).front 2 _ rfl).front 3 _ rfl).keep [true, true, true, true] rfl) (own_mem rfl) (fun w hS => cp_old s60 [(SRow.mk 200 [107] [98, 101, 102, 111, 114, 101])] (some ⟨b59, 0, none⟩) 1 0 [(R45.inlineB [73, 78] l lA lC), (Binding.mk [79, 85, 84] [] false 0 [] [] 1 0 0 (DataSet.mk 0 0 0 0 0 0 0 0 0 0 0 0 0 0 false 0 [] [] 0 0 false) 0 0 false ([] : List Bytes) none 0 false [] 0 [65] (DataSet.mk 200 0 0 0 0 0 0 0 0 0 0 0 0 0 false 0 [] [] 0 0 false) none 0 0 0 0 0 false [] [] 0 0 none 0 0 false (DataSet.mk 0 0 0 0 0 0 0 0 0 0 0 0 0 0 false 0 [] [] 0 0 false))] (some ⟨b61, 0, none⟩) 2 l w (RO.of_blkS hS (own_mem rfl) 1 (off := 0) (m := 3) rfl rfl) (RO.of_blkS hS (own_mem rfl) 0 (off := 0) (m := 182) rfl rfl) (okL_cons (inline_kp (lR.on hS (own_mem rfl))) (okL_cons kp_cnil (Binding.ok_none))) (hT.on hS (own_mem rfl)) (by rfl) hy_ (by exact ⟨_, _, rfl⟩) hy_ c45v0_ (hS.give (own_in rfl))) ?_
         rintro _ _ ⟨chA62, chC63, ln64, lnA65, lnC66, rfl, rfl⟩
         refine jp_ 9 rfl mv_ (jp_ 10 rfl (ex_ 0) (jp_ 11 rfl (ex_ 1) (j1_ 12 (jio_ rfl (al_ Ty.ze48 fun b68 => ?_)) (gl_ rfl (fun _ h => h.keep [false, false, false, false, false] rfl)))))
         refine j1_ 13 (jio_ rfl (stG 0 Ty.sz48 ?_)) (gl_ rfl (fun _ h => h.keep [false, false, false, false, false, false] rfl))
         refine jp_ 14 rfl av_ ?_
         exact JA_done (by kernel_rfl) (gl_ rfl (fun _ h => h.keep [false, false, false, false, false, false] rfl)) (JX_weaken (E' := [(0, vL lA l.length lC), (1, vB true), (2, vU8 a8), (3, vS other), (12, pB b68 0), (13, vI 0)]) (L' := [Ent.blk b68 48 [vI 0, vB false, vL chA62 ((R45.cpO l).length) chC63, vL lnA65 ln64.length lnC66], Ent.row (.slice chA62 (R45.cpO l).length chC63) 60 5 (R45.cpO l).length ((R45.cpO l).flatMap Change.enc), Ent.row (.slice lnA65 ln64.length lnC66) 9 1 ln64.length (ln64.map vS)]) ⟨rfl, rfl, rfl, rfl, rfl, rfl, trivial⟩ (fun _ h => h.keep [true, true, true, false, false, false] rfl) (key5 (b68, chA62, chC63, lnA65, ln64, lnC66)))
        ·refine jio_ rfl (al_ Ty.ze48 fun b69 => ?_)
         refine j1_ 8 ?_ (fun _ h => ⟨h.keep [false, false, false, false, false] rfl, fun _ => h.keep [false, false, false, false, true] rfl⟩)
         refine JI_call [s60] [Ent.blk s60 52 [vL (some ⟨b59, 0, none⟩) ([(SRow.mk 200 [107] [98, 101, 102, 111, 114, 101])].length) 1, vI 0, vI 0, vI ((0 : Nat) : Int)]] [Ent.blk b69 48 [vI 0, vB false, vL none 0 0, vL none 0 0], Ent.blk b61 33 (Binding.enc (R45.inlineB [73, 78] l lA lC) ++ [vS [79, 85, 84], vS [], vB false, vI 0, vS [], vS [], vI 1, vI 0, vI 0, vI 0, vI 0, vI 0, vI 0, vI 0, vI 0, vI 0, vI 0, vI 0, vI 0, vI 0, vI 0, vI 0, vI 0, vB false, vI 0, vS [], vS [], vI 0, vI 0, vB false, vI 0, vI 0, vB false, vL none 0 0, vB false, vS [], vI 0, vS [65], vI 200, vI 0, vI 0, vI 0, vI 0, vI 0, vI 0, vI 0, vI 0, vI 0, vI 0, vI 0, vI 0, vI 0, vB false, vI 0, vS [], vS [], vI 0, vI 0, vB false, vL none 0 0, vI 0, vI 0, vI 0, vB false, vS [], vS [], vI 0, vI 0, vL none 0 0, vB false, vI 0, vI 0, vI 0, vI 0, vI 0, vI 0, vI 0, vI 0, vI 0, vI 0, vI 0, vI 0, vI 0, vI 0, vB false, vI 0, vS [], vS [], vI 0, vI 0, vB false]), Ent.blk b59 57 [vI 200, vS [107], vS [98, 101, 102, 111, 114, 101]], Ent.blk b4 33 [vS [79, 85, 84], vS [], vB false, vI 0, vS [], vS [], vI 1, vI 0, vI 0, vI 0, vI 0, vI 0, vI 0, vI 0, vI 0, vI 0, vI 0, vI 0, vI 0, vI 0, vI 0, vI 0, vI 0, vB false, vI 0, vS [], vS [], vI 0, vI 0, vB false, vI 0, vI 0, vB false, vL none 0 0, vB false, vS [], vI 0, vS [65], vI 200, vI 0, vI 0, vI 0, vI 0, vI 0, vI 0, vI 0, vI 0, vI 0, vI 0, vI 0, vI 0, vI 0, vB false, vI 0, vS [], vS [], vI 0, vI 0, vB false, vL none 0 0, vI 0, vI 0, vI 0, vB false, vS [], vS [], vI 0, vI 0, vL none 0 0, vB false, vI 0, vI 0, vI 0, vI 0, vI 0, vI 0, vI 0, vI 0, vI 0, vI 0, vI 0, vI 0, vI 0, vI 0, vB false, vI 0, vS [], vS [], vI 0, vI 0, vB false]] rfl rfl trivial (fun _ => x_call Ty.ca15 rfl) (fun _ h => (((((h.front 4 _ rfl).front 4 _ rfl).front 3 _ rfl).front 3 _ rfl).front 4 _ rfl).keep [true, true, true, true, true] rfl) (own_mem rfl) (fun w hS => cp_old s60 [(SRow.mk 200 [107] [98, 101, 102, 111, 114, 101])] (some ⟨b59, 0, none⟩) 1 0 [(R45.inlineB [73, 78] l lA lC), (Binding.mk [79, 85, 84] [] false 0 [] [] 1 0 0 (DataSet.mk 0 0 0 0 0 0 0 0 0 0 0 0 0 0 false 0 [] [] 0 0 false) 0 0 false ([] : List Bytes) none 0 false [] 0 [65] (DataSet.mk 200 0 0 0 0 0 0 0 0 0 0 0 0 0 false 0 [] [] 0 0 false) none 0 0 0 0 0 false [] [] 0 0 none 0 0 false (DataSet.mk 0 0 0 0 0 0 0 0 0 0 0 0 0 0 false 0 [] [] 0 0 false))] (some ⟨b61, 0, none⟩) 2 l w (RO.of_blkS hS (own_mem rfl) 2 (off := 0) (m := 3) rfl rfl) (RO.of_blkS hS (own_mem rfl) 1 (off := 0) (m := 182) rfl rfl) (okL_cons (inline_kp (lR.on hS (own_mem rfl))) (okL_cons kp_cnil (Binding.ok_none))) (hT.on hS (own_mem rfl)) (by rfl) hy_ (by exact ⟨_, _, rfl⟩) hy_ c45v0_ (hS.give (own_in rfl))) ?_
         rintro _ _ ⟨chA70, chC71, ln72, lnA73, lnC74, rfl, rfl⟩
         refine jp_ 9 rfl mv_ (jp_ 10 rfl (ex_ 0) (jp_ 11 rfl (ex_ 1) (j1_ 13 (jio_ rfl (stG 2 Ty.sz48 ?_)) (gl_ rfl (fun _ h => h.keep [false, false, false, false, false, false] rfl)))))
         refine jp_ 14 rfl av_ ?_
         exact JA_done (by kernel_rfl) (gl_ rfl (fun _ h => h.keep [false, false, false, false, false, false] rfl)) (JX_weaken (E' := [(0, vL lA l.length lC), (1, vB true), (2, vU8 a8), (3, vS other), (12, pB b69 0), (13, vI 0)]) (L' := [Ent.blk b69 48 [vI 0, vB false, vL chA70 ((R45.cpO l).length) chC71, vL lnA73 ln72.length lnC74], Ent.row (.slice chA70 (R45.cpO l).length chC71) 60 5 (R45.cpO l).length ((R45.cpO l).flatMap Change.enc), Ent.row (.slice lnA73 ln72.length lnC74) 9 1 ln72.length (ln72.map vS)]) ⟨rfl, rfl, rfl, rfl, rfl, rfl, trivial⟩ (fun _ h => (((h.front 1 _ rfl).front 1 _ rfl).front 2 _ rfl).keep [true, true, true, false, false, false] rfl) (key5 (b69, chA70, chC71, lnA73, ln72, lnC74)))
       ·refine jio_ rfl (al_ Ty.ze48 fun b75 => ?_)
        refine j1_ 7 ?_ (fun _ h => ⟨h.keep [false, false, false, false] rfl, fun _ => h.keep [false, false, false, true] rfl⟩)
        refine jio_ rfl (O_buildSlice (cs := (Binding.enc (R45.inlineB [73, 78] l lA lC) ++ [vS [79, 85, 84], vS [], vB false, vI 0, vS [], vS [], vI 1, vI 0, vI 0, vI 0, vI 0, vI 0, vI 0, vI 0, vI 0, vI 0, vI 0, vI 0, vI 0, vI 0, vI 0, vI 0, vI 0, vB false, vI 0, vS [], vS [], vI 0, vI 0, vB false, vI 0, vI 0, vB false, vL none 0 0, vB false, vS [], vI 0, vS [65], vI 200, vI 0, vI 0, vI 0, vI 0, vI 0, vI 0, vI 0, vI 0, vI 0, vI 0, vI 0, vI 0, vI 0, vB false, vI 0, vS [], vS [], vI 0, vI 0, vB false, vL none 0 0, vI 0, vI 0, vI 0, vB false, vS [], vS [], vI 0, vI 0, vL none 0 0, vB false, vI 0, vI 0, vI 0, vI 0, vI 0, vI 0, vI 0, vI 0, vI 0, vI 0, vI 0, vI 0, vI 0, vI 0, vB false, vI 0, vS [], vS [], vI 0, vI 0, vB false])) Tryz.underlying36 Ty.sz33 Ty.ze33 (by decide) (by decide) (by kernel_rfl) fun b77 => ?_)
        refine j1_ 8 ?_ (fun _ h => ⟨h.keep [false, false, false, false, false] rfl, fun _ => h.keep [false, false, false, false, true] rfl⟩)
        refine JI_call [s60] [Ent.blk s60 52 [vL (some ⟨b59, 0, none⟩) ([(SRow.mk 200 [107] [98, 101, 102, 111, 114, 101])].length) 1, vI 0, vI 0, vI ((0 : Nat) : Int)]] [Ent.blk b77 33 (Binding.enc (R45.inlineB [73, 78] l lA lC) ++ [vS [79, 85, 84], vS [], vB false, vI 0, vS [], vS [], vI 1, vI 0, vI 0, vI 0, vI 0, vI 0, vI 0, vI 0, vI 0, vI 0, vI 0, vI 0, vI 0, vI 0, vI 0, vI 0, vI 0, vB false, vI 0, vS [], vS [], vI 0, vI 0, vB false, vI 0, vI 0, vB false, vL none 0 0, vB false, vS [], vI 0, vS [65], vI 200, vI 0, vI 0, vI 0, vI 0, vI 0, vI 0, vI 0, vI 0, vI 0, vI 0, vI 0, vI 0, vI 0, vB false, vI 0, vS [], vS [], vI 0, vI 0, vB false, vL none 0 0, vI 0, vI 0, vI 0, vB false, vS [], vS [], vI 0, vI 0, vL none 0 0, vB false, vI 0, vI 0, vI 0, vI 0, vI 0, vI 0, vI 0, vI 0, vI 0, vI 0, vI 0, vI 0, vI 0, vI 0, vB false, vI 0, vS [], vS [], vI 0, vI 0, vB false]), Ent.blk b75 48 [vI 0, vB false, vL none 0 0, vL none 0 0], Ent.blk b59 57 [vI 200, vS [107], vS [98, 101, 102, 111, 114, 101]], Ent.blk b4 33 [vS [79, 85, 84], vS [], vB false, vI 0, vS [], vS [], vI 1, vI 0, vI 0, vI 0, vI 0, vI 0, vI 0, vI 0, vI 0, vI 0, vI 0, vI 0, vI 0, vI 0, vI 0, vI 0, vI 0, vB false, vI 0, vS [], vS [], vI 0, vI 0, vB false, vI 0, vI 0, vB false, vL none 0 0, vB false, vS [], vI 0, vS [65], vI 200, vI 0, vI 0, vI 0, vI 0, vI 0, vI 0, vI 0, vI 0, vI 0, vI 0, vI 0, vI 0, vI 0, vB false, vI 0, vS [], vS [], vI 0, vI 0, vB false, vL none 0 0, vI 0, vI 0, vI 0, vB false, vS [], vS [], vI 0, vI 0, vL none 0 0, vB false, vI 0, vI 0, vI 0, vI 0, vI 0, vI 0, vI 0, vI 0, vI 0, vI 0, vI 0, vI 0, vI 0, vI 0, vB false, vI 0, vS [], vS [], vI 0, vI 0, vB false]] rfl rfl trivial (fun _ => x_call Ty.ca15 rfl) (fun _ h => (((((h.front 4 _ rfl).front 4 _ rfl).front 3 _ rfl).front 3 _ rfl).front 4 _ rfl).keep [true, true, true, true, true] rfl) (own_mem rfl) (fun w hS => cp_old s60 [(SRow.mk 200 [107] [98, 101, 102, 111, 114, 101])] (some ⟨b59, 0, none⟩) 1 0 [(R45.inlineB [73, 78] l lA lC), (Binding.mk [79, 85, 84] [] false 0 [] [] 1 0 0 (DataSet.mk 0 0 0 0 0 0 0 0 0 0 0 0 0 0 false 0 [] [] 0 0 false) 0 0 false ([] : List Bytes) none 0 false [] 0 [65] (DataSet.mk 200 0 0 0 0 0 0 0 0 0 0 0 0 0 false 0 [] [] 0 0 false) none 0 0 0 0 0 false [] [] 0 0 none 0 0 false (DataSet.mk 0 0 0 0 0 0 0 0 0 0 0 0 0 0 false 0 [] [] 0 0 false))] (some ⟨b77, 0, none⟩) 2 l w (RO.of_blkS hS (own_mem rfl) 2 (off := 0) (m := 3) rfl rfl) (RO.of_blkS hS (own_mem rfl) 0 (off := 0) (m := 182) rfl rfl) (okL_cons (inline_kp (lR.on hS (own_mem rfl))) (okL_cons kp_cnil (Binding.ok_none))) (hT.on hS (own_mem rfl)) (by rfl) hy_ (by exact ⟨_, _, rfl⟩) hy_ c45v0_ (hS.give (own_in rfl))) ?_
        rintro _ _ ⟨chA78, chC79, ln80, lnA81, lnC82, rfl, rfl⟩
        refine jp_ 9 rfl mv_ (jp_ 10 rfl (ex_ 0) (jp_ 11 rfl (ex_ 1) (j1_ 13 (jio_ rfl (stG 3 Ty.sz48 ?_)) (gl_ rfl (fun _ h => h.keep [false, false, false, false, false, false] rfl)))))
        refine jp_ 14 rfl av_ ?_
        exact JA_done (by kernel_rfl) (gl_ rfl (fun _ h => h.keep [false, false, false, false, false, false] rfl)) (JX_weaken (E' := [(0, vL lA l.length lC), (1, vB true), (2, vU8 a8), (3, vS other), (12, pB b75 0), (13, vI 0)]) (L' := [Ent.blk b75 48 [vI 0, vB false, vL chA78 ((R45.cpO l).length) chC79, vL lnA81 ln80.length lnC82], Ent.row (.slice chA78 (R45.cpO l).length chC79) 60 5 (R45.cpO l).length ((R45.cpO l).flatMap Change.enc), Ent.row (.slice lnA81 ln80.length lnC82) 9 1 ln80.length (ln80.map vS)]) ⟨rfl, rfl, rfl, rfl, rfl, rfl, trivial⟩ (fun _ h => (((h.front 1 _ rfl).front 1 _ rfl).front 3 _ rfl).keep [true, true, true, false, false, false] rfl) (key5 (b75, chA78, chC79, lnA81, ln80, lnC82)))
      ·refine jio_ rfl (al_ Ty.ze48 fun b83 => ?_)
       refine j1_ 5 (jc0_ rfl (cl_ Ty.ca18) (fun w hS => f18_ok [73, 78] l lA lC w (rno lR hS)) (j1_ 7 ?_ (fun _ h => ⟨h.keep [false, false, false, false] rfl, fun _ => h.keep [false, false, false, true] rfl⟩))) (fun _ h => ⟨h.keep [false, false, false, false] rfl, fun _ => h.keep [false, false, false, true] rfl⟩)
       refine jio_ rfl (O_buildSlice (cs := (Binding.enc (R45.inlineB [73, 78] l lA lC) ++ [vS [79, 85, 84], vS [], vB false, vI 0, vS [], vS [], vI 1, vI 0, vI 0, vI 0, vI 0, vI 0, vI 0, vI 0, vI 0, vI 0, vI 0, vI 0, vI 0, vI 0, vI 0, vI 0, vI 0, vB false, vI 0, vS [], vS [], vI 0, vI 0, vB false, vI 0, vI 0, vB false, vL none 0 0, vB false, vS [], vI 0, vS [65], vI 200, vI 0, vI 0, vI 0, vI 0, vI 0, vI 0, vI 0, vI 0, vI 0, vI 0, vI 0, vI 0, vI 0, vB false, vI 0, vS [], vS [], vI 0, vI 0, vB false, vL none 0 0, vI 0, vI 0, vI 0, vB false, vS [], vS [], vI 0, vI 0, vL none 0 0, vB false, vI 0, vI 0, vI 0, vI 0, vI 0, vI 0, vI 0, vI 0, vI 0, vI 0, vI 0, vI 0, vI 0, vI 0, vB false, vI 0, vS [], vS [], vI 0, vI 0, vB false])) Tryz.underlying36 Ty.sz33 Ty.ze33 (by decide) (by decide) (by kernel_rfl) fun b85 => ?_)
       refine j1_ 8 ?_ (fun _ h => ⟨h.keep [false, false, false, false, false] rfl, fun _ => h.keep [false, false, false, false, true] rfl⟩)
       refine JI_call [s60] [Ent.blk s60 52 [vL (some ⟨b59, 0, none⟩) ([(SRow.mk 200 [107] [98, 101, 102, 111, 114, 101])].length) 1, vI 0, vI 0, vI ((0 : Nat) : Int)]] [Ent.blk b85 33 (Binding.enc (R45.inlineB [73, 78] l lA lC) ++ [vS [79, 85, 84], vS [], vB false, vI 0, vS [], vS [], vI 1, vI 0, vI 0, vI 0, vI 0, vI 0, vI 0, vI 0, vI 0, vI 0, vI 0, vI 0, vI 0, vI 0, vI 0, vI 0, vI 0, vB false, vI 0, vS [], vS [], vI 0, vI 0, vB false, vI 0, vI 0, vB false, vL none 0 0, vB false, vS [], vI 0, vS [65], vI 200, vI 0, vI 0, vI 0, vI 0, vI 0, vI 0, vI 0, vI 0, vI 0, vI 0, vI 0, vI 0, vI 0, vB false, vI 0, vS [], vS [], vI 0, vI 0, vB false, vL none 0 0, vI 0, vI 0, vI 0, vB false, vS [], vS [], vI 0, vI 0, vL none 0 0, vB false, vI 0, vI 0, vI 0, vI 0, vI 0, vI 0, vI 0, vI 0, vI 0, vI 0, vI 0, vI 0, vI 0, vI 0, vB false, vI 0, vS [], vS [], vI 0, vI 0, vB false]), Ent.blk b83 48 [vI 0, vB false, vL none 0 0, vL none 0 0], Ent.blk b59 57 [vI 200, vS [107], vS [98, 101, 102, 111, 114, 101]], Ent.blk b4 33 [vS [79, 85, 84], vS [], vB false, vI 0, vS [], vS [], vI 1, vI 0, vI 0, vI 0, vI 0, vI 0, vI 0, vI 0, vI 0, vI 0, vI 0, vI 0, vI 0, vI 0, vI 0, vI 0, vI 0, vB false, vI 0, vS [], vS [], vI 0, vI 0, vB false, vI 0, vI 0, vB false, vL none 0 0, vB false, vS [], vI 0, vS [65], vI 200, vI 0, vI 0, vI 0, vI 0, vI 0, vI 0, vI 0, vI 0, vI 0, vI 0, vI 0, vI 0, vI 0, vB false, vI 0, vS [], vS [], vI 0, vI 0, vB false, vL none 0 0, vI 0, vI 0, vI 0, vB false, vS [], vS [], vI 0, vI 0, vL none 0 0, vB false, vI 0, vI 0, vI 0, vI 0, vI 0, vI 0, vI 0, vI 0, vI 0, vI 0, vI 0, vI 0, vI 0, vI 0, vB false, vI 0, vS [], vS [], vI 0, vI 0, vB false]] rfl rfl trivial (fun _ => x_call Ty.ca15 rfl) (fun _ h => (((((h.front 4 _ rfl).front 4 _ rfl).front 3 _ rfl).front 3 _ rfl).front 4 _ rfl).keep [true, true, true, true, true] rfl) (own_mem rfl) (fun w hS => cp_old s60 [(SRow.mk 200 [107] [98, 101, 102, 111, 114, 101])] (some ⟨b59, 0, none⟩) 1 0 [(R45.inlineB [73, 78] l lA lC), (Binding.mk [79, 85, 84] [] false 0 [] [] 1 0 0 (DataSet.mk 0 0 0 0 0 0 0 0 0 0 0 0 0 0 false 0 [] [] 0 0 false) 0 0 false ([] : List Bytes) none 0 false [] 0 [65] (DataSet.mk 200 0 0 0 0 0 0 0 0 0 0 0 0 0 false 0 [] [] 0 0 false) none 0 0 0 0 0 false [] [] 0 0 none 0 0 false (DataSet.mk 0 0 0 0 0 0 0 0 0 0 0 0 0 0 false 0 [] [] 0 0 false))] (some ⟨b85, 0, none⟩) 2 l w (RO.of_blkS hS (own_mem rfl) 2 (off := 0) (m := 3) rfl rfl) (RO.of_blkS hS (own_mem rfl) 0 (off := 0) (m := 182) rfl rfl) (okL_cons (inline_kp (lR.on hS (own_mem rfl))) (okL_cons kp_cnil (Binding.ok_none))) (hT.on hS (own_mem rfl)) (by rfl) hy_ (by exact ⟨_, _, rfl⟩) hy_ c45v0_ (hS.give (own_in rfl))) ?_
       rintro _ _ ⟨chA86, chC87, ln88, lnA89, lnC90, rfl, rfl⟩
       refine jp_ 9 rfl mv_ (jp_ 10 rfl (ex_ 0) (jp_ 11 rfl (ex_ 1) (j1_ 13 (jio_ rfl (stG 3 Ty.sz48 ?_)) (gl_ rfl (fun _ h => h.keep [false, false, false, false, false, false] rfl)))))
       refine jp_ 14 rfl av_ ?_
       exact JA_done (by kernel_rfl) (gl_ rfl (fun _ h => h.keep [false, false, false, false, false, false] rfl)) (JX_weaken (E' := [(0, vL lA l.length lC), (1, vB true), (2, vU8 a8), (3, vS other), (12, pB b83 0), (13, vI 0)]) (L' := [Ent.blk b83 48 [vI 0, vB false, vL chA86 ((R45.cpO l).length) chC87, vL lnA89 ln88.length lnC90], Ent.row (.slice chA86 (R45.cpO l).length chC87) 60 5 (R45.cpO l).length ((R45.cpO l).flatMap Change.enc), Ent.row (.slice lnA89 ln88.length lnC90) 9 1 ln88.length (ln88.map vS)]) ⟨rfl, rfl, rfl, rfl, rfl, rfl, trivial⟩ (fun _ h => (((h.front 1 _ rfl).front 1 _ rfl).front 3 _ rfl).keep [true, true, true, false, false, false] rfl) (key5 (b83, chA86, chC87, lnA89, ln88, lnC90)))
     ·refine jio_ rfl (al_ Ty.ze48 fun b91 => ?_)
      refine j1_ 2 ?_ (fun _ h => ⟨h.keep [false, false, false] rfl, fun _ => h.keep [false, false, true] rfl⟩)
      refine jc1_ rfl (cl_ Ty.ca12) (fun w hS => f12_ok [(SRow.mk 200 [107] [98, 101, 102, 111, 114, 101])] _ 1 w (RO.of_blk hS 1 (off := 0) (m := 3) rfl rfl)) ?_
      rintro _ _ ⟨s92, rfl, rfl⟩
      refine jt_ 3 (Value.iface 41 (pB s92 0)) rfl (fun _ _ => x_iface rfl (by kernel_rfl)) ?_
      refine j1_ 5 (jc0_ rfl (cl_ Ty.ca18) (fun w hS => f18_ok [73, 78] l lA lC w (rno lR hS)) (j1_ 7 ?_ (fun _ h => ⟨h.keep [false, false, false, false] rfl, fun _ => h.keep [false, false, false, true] rfl⟩))) (fun _ h => ⟨h.keep [false, false, false, false] rfl, fun _ => h.keep [false, false, false, true] rfl⟩)
      refine jio_ rfl (O_buildSlice (cs := (Binding.enc (R45.inlineB [73, 78] l lA lC) ++ [vS [79, 85, 84], vS [], vB false, vI 0, vS [], vS [], vI 1, vI 0, vI 0, vI 0, vI 0, vI 0, vI 0, vI 0, vI 0, vI 0, vI 0, vI 0, vI 0, vI 0, vI 0, vI 0, vI 0, vB false, vI 0, vS [], vS [], vI 0, vI 0, vB false, vI 0, vI 0, vB false, vL none 0 0, vB false, vS [], vI 0, vS [65], vI 200, vI 0, vI 0, vI 0, vI 0, vI 0, vI 0, vI 0, vI 0, vI 0, vI 0, vI 0, vI 0, vI 0, vB false, vI 0, vS [], vS [], vI 0, vI 0, vB false, vL none 0 0, vI 0, vI 0, vI 0, vB false, vS [], vS [], vI 0, vI 0, vL none 0 0, vB false, vI 0, vI 0, vI 0, vI 0, vI 0, vI 0, vI 0, vI 0, vI 0, vI 0, vI 0, vI 0, vI 0, vI 0, vB false, vI 0, vS [], vS [], vI 0, vI 0, vB false])) Tryz.underlying36 Ty.sz33 Ty.ze33 (by decide) (by decide) (by kernel_rfl) fun b94 => ?_)
      refine j1_ 8 ?_ (fun _ h => ⟨h.keep [false, false, false, false, false] rfl, fun _ => h.keep [false, false, false, false, true] rfl⟩)
      refine JI_call [s92] [Ent.blk s92 52 [vL (some ⟨b59, 0, none⟩) ([(SRow.mk 200 [107] [98, 101, 102, 111, 114, 101])].length) 1, vI 0, vI 0, vI ((0 : Nat) : Int)]] [Ent.blk b94 33 (Binding.enc (R45.inlineB [73, 78] l lA lC) ++ [vS [79, 85, 84], vS [], vB false, vI 0, vS [], vS [], vI 1, vI 0, vI 0, vI 0, vI 0, vI 0, vI 0, vI 0, vI 0, vI 0, vI 0, vI 0, vI 0, vI 0, vI 0, vI 0, vI 0, vB false, vI 0, vS [], vS [], vI 0, vI 0, vB false, vI 0, vI 0, vB false, vL none 0 0, vB false, vS [], vI 0, vS [65], vI 200, vI 0, vI 0, vI 0, vI 0, vI 0, vI 0, vI 0, vI 0, vI 0, vI 0, vI 0, vI 0, vI 0, vB false, vI 0, vS [], vS [], vI 0, vI 0, vB false, vL none 0 0, vI 0, vI 0, vI 0, vB false, vS [], vS [], vI 0, vI 0, vL none 0 0, vB false, vI 0, vI 0, vI 0, vI 0, vI 0, vI 0, vI 0, vI 0, vI 0, vI 0, vI 0, vI 0, vI 0, vI 0, vB false, vI 0, vS [], vS [], vI 0, vI 0, vB false]), Ent.blk b91 48 [vI 0, vB false, vL none 0 0, vL none 0 0], Ent.blk b59 57 [vI 200, vS [107], vS [98, 101, 102, 111, 114, 101]], Ent.blk b4 33 [vS [79, 85, 84], vS [], vB false, vI 0, vS [], vS [], vI 1, vI 0, vI 0, vI 0, vI 0, vI 0, vI 0, vI 0, vI 0, vI 0, vI 0, vI 0, vI 0, vI 0, vI 0, vI 0, vI 0, vB false, vI 0, vS [], vS [], vI 0, vI 0, vB false, vI 0, vI 0, vB false, vL none 0 0, vB false, vS [], vI 0, vS [65], vI 200, vI 0, vI 0, vI 0, vI 0, vI 0, vI 0, vI 0, vI 0, vI 0, vI 0, vI 0, vI 0, vI 0, vB false, vI 0, vS [], vS [], vI 0, vI 0, vB false, vL none 0 0, vI 0, vI 0, vI 0, vB false, vS [], vS [], vI 0, vI 0, vL none 0 0, vB false, vI 0, vI 0, vI 0, vI 0, vI 0, vI 0, vI 0, vI 0, vI 0, vI 0, vI 0, vI 0, vI 0, vI 0, vB false, vI 0, vS [], vS [], vI 0, vI 0, vB false]] rfl rfl trivial (fun _ => x_call Ty.ca15 rfl) (fun _ h => (((((h.front 4 _ rfl).front 4 _ rfl).front 4 _ rfl).front 3 _ rfl).front 4 _ rfl).keep [true, true, true, true, true] rfl) (own_mem rfl) (fun w hS => cp_old s92 [(SRow.mk 200 [107] [98, 101, 102, 111, 114, 101])] (some ⟨b59, 0, none⟩) 1 0 [(R45.inlineB [73, 78] l lA lC), (Binding.mk [79, 85, 84] [] false 0 [] [] 1 0 0 (DataSet.mk 0 0 0 0 0 0 0 0 0 0 0 0 0 0 false 0 [] [] 0 0 false) 0 0 false ([] : List Bytes) none 0 false [] 0 [65] (DataSet.mk 200 0 0 0 0 0 0 0 0 0 0 0 0 0 false 0 [] [] 0 0 false) none 0 0 0 0 0 false [] [] 0 0 none 0 0 false (DataSet.mk 0 0 0 0 0 0 0 0 0 0 0 0 0 0 false 0 [] [] 0 0 false))] (some ⟨b94, 0, none⟩) 2 l w (RO.of_blkS hS (own_mem rfl) 2 (off := 0) (m := 3) rfl rfl) (RO.of_blkS hS (own_mem rfl) 0 (off := 0) (m := 182) rfl rfl) (okL_cons (inline_kp (lR.on hS (own_mem rfl))) (okL_cons kp_cnil (Binding.ok_none))) (hT.on hS (own_mem rfl)) (by rfl) hy_ (by exact ⟨_, _, rfl⟩) hy_ c45v0_ (hS.give (own_in rfl))) ?_
      rintro _ _ ⟨chA95, chC96, ln97, lnA98, lnC99, rfl, rfl⟩
      refine jp_ 9 rfl mv_ (jp_ 10 rfl (ex_ 0) (jp_ 11 rfl (ex_ 1) (j1_ 13 (jio_ rfl (stG 3 Ty.sz48 ?_)) (gl_ rfl (fun _ h => h.keep [false, false, false, false, false, false] rfl)))))
      refine jp_ 14 rfl av_ ?_
      exact JA_done (by kernel_rfl) (gl_ rfl (fun _ h => h.keep [false, false, false, false, false, false] rfl)) (JX_weaken (E' := [(0, vL lA l.length lC), (1, vB true), (2, vU8 a8), (3, vS other), (12, pB b91 0), (13, vI 0)]) (L' := [Ent.blk b91 48 [vI 0, vB false, vL chA95 ((R45.cpO l).length) chC96, vL lnA98 ln97.length lnC99], Ent.row (.slice chA95 (R45.cpO l).length chC96) 60 5 (R45.cpO l).length ((R45.cpO l).flatMap Change.enc), Ent.row (.slice lnA98 ln97.length lnC99) 9 1 ln97.length (ln97.map vS)]) ⟨rfl, rfl, rfl, rfl, rfl, rfl, trivial⟩ (fun _ h => (((h.front 1 _ rfl).front 1 _ rfl).front 3 _ rfl).keep [true, true, true, false, false, false] rfl) (key5 (b91, chA95, chC96, lnA98, ln97, lnC99)))
    ·refine jio_ rfl (al_ Ty.ze48 fun b100 => ?_)
     refine j1_ 1 (jio_ rfl (O_buildSlice (cs := [vI 200, vS [107], vS [98, 101, 102, 111, 114, 101]]) Tryz.underlying22 Ty.sz57 Ty.ze57 (by decide) (by decide) (by kernel_rfl) fun b102 => ?_)) (fun _ h => ⟨h.keep [false, false] rfl, fun _ => h.keep [false, true] rfl⟩)
     refine j1_ 2 ?_ (fun _ h => ⟨h.keep [false, false, false] rfl, fun _ => h.keep [false, false, true] rfl⟩)
     refine jc1_ rfl (cl_ Ty.ca12) (fun w hS => f12_ok [(SRow.mk 200 [107] [98, 101, 102, 111, 114, 101])] _ 1 w (RO.of_blk hS 0 (off := 0) (m := 3) rfl rfl)) ?_
     rintro _ _ ⟨s103, rfl, rfl⟩
     refine jt_ 3 (Value.iface 41 (pB s103 0)) rfl (fun _ _ => x_iface rfl (by kernel_rfl)) ?_
     refine j1_ 5 (jc0_ rfl (cl_ Ty.ca18) (fun w hS => f18_ok [73, 78] l lA lC w (rno lR hS)) (j1_ 7 ?_ (fun _ h => ⟨h.keep [false, false, false, false] rfl, fun _ => h.keep [false, false, false, true] rfl⟩))) (fun _ h => ⟨h.keep [false, false, false, false] rfl, fun _ => h.keep [false, false, false, true] rfl⟩)
     refine jio_ rfl (O_buildSlice (cs := (Binding.enc (R45.inlineB [73, 78] l lA lC) ++ [vS [79, 85, 84], vS [], vB false, vI 0, vS [], vS [], vI 1, vI 0, vI 0, vI 0, vI 0, vI 0, vI 0, vI 0, vI 0, vI 0, vI 0, vI 0, vI 0, vI 0, vI 0, vI 0, vI 0, vB false, vI 0, vS [], vS [], vI 0, vI 0, vB false, vI 0, vI 0, vB false, vL none 0 0, vB false, vS [], vI 0, vS [65], vI 200, vI 0, vI 0, vI 0, vI 0, vI 0, vI 0, vI 0, vI 0, vI 0, vI 0, vI 0, vI 0, vI 0, vB false, vI 0, vS [], vS [], vI 0, vI 0, vB false, vL none 0 0, vI 0, vI 0, vI 0, vB false, vS [], vS [], vI 0, vI 0, vL none 0 0, vB false, vI 0, vI 0, vI 0, vI 0, vI 0, vI 0, vI 0, vI 0, vI 0, vI 0, vI 0, vI 0, vI 0, vI 0, vB false, vI 0, vS [], vS [], vI 0, vI 0, vB false])) Tryz.underlying36 Ty.sz33 Ty.ze33 (by decide) (by decide) (by kernel_rfl) fun b105 => ?_)
     refine j1_ 8 ?_ (fun _ h => ⟨h.keep [false, false, false, false, false] rfl, fun _ => h.keep [false, false, false, false, true] rfl⟩)
     refine JI_call [s103] [Ent.blk s103 52 [vL (some ⟨b102, 0, none⟩) ([(SRow.mk 200 [107] [98, 101, 102, 111, 114, 101])].length) 1, vI 0, vI 0, vI ((0 : Nat) : Int)]] [Ent.blk b105 33 (Binding.enc (R45.inlineB [73, 78] l lA lC) ++ [vS [79, 85, 84], vS [], vB false, vI 0, vS [], vS [], vI 1, vI 0, vI 0, vI 0, vI 0, vI 0, vI 0, vI 0, vI 0, vI 0, vI 0, vI 0, vI 0, vI 0, vI 0, vI 0, vI 0, vB false, vI 0, vS [], vS [], vI 0, vI 0, vB false, vI 0, vI 0, vB false, vL none 0 0, vB false, vS [], vI 0, vS [65], vI 200, vI 0, vI 0, vI 0, vI 0, vI 0, vI 0, vI 0, vI 0, vI 0, vI 0, vI 0, vI 0, vI 0, vB false, vI 0, vS [], vS [], vI 0, vI 0, vB false, vL none 0 0, vI 0, vI 0, vI 0, vB false, vS [], vS [], vI 0, vI 0, vL none 0 0, vB false, vI 0, vI 0, vI 0, vI 0, vI 0, vI 0, vI 0, vI 0, vI 0, vI 0, vI 0, vI 0, vI 0, vI 0, vB false, vI 0, vS [], vS [], vI 0, vI 0, vB false]), Ent.blk b102 57 [vI 200, vS [107], vS [98, 101, 102, 111, 114, 101]], Ent.blk b100 48 [vI 0, vB false, vL none 0 0, vL none 0 0], Ent.blk b4 33 [vS [79, 85, 84], vS [], vB false, vI 0, vS [], vS [], vI 1, vI 0, vI 0, vI 0, vI 0, vI 0, vI 0, vI 0, vI 0, vI 0, vI 0, vI 0, vI 0, vI 0, vI 0, vI 0, vI 0, vB false, vI 0, vS [], vS [], vI 0, vI 0, vB false, vI 0, vI 0, vB false, vL none 0 0, vB false, vS [], vI 0, vS [65], vI 200, vI 0, vI 0, vI 0, vI 0, vI 0, vI 0, vI 0, vI 0, vI 0, vI 0, vI 0, vI 0, vI 0, vB false, vI 0, vS [], vS [], vI 0, vI 0, vB false, vL none 0 0, vI 0, vI 0, vI 0, vB false, vS [], vS [], vI 0, vI 0, vL none 0 0, vB false, vI 0, vI 0, vI 0, vI 0, vI 0, vI 0, vI 0, vI 0, vI 0, vI 0, vI 0, vI 0, vI 0, vI 0, vB false, vI 0, vS [], vS [], vI 0, vI 0, vB false]] rfl rfl trivial (fun _ => x_call Ty.ca15 rfl) (fun _ h => (((((h.front 4 _ rfl).front 4 _ rfl).front 4 _ rfl).front 3 _ rfl).front 4 _ rfl).keep [true, true, true, true, true] rfl) (own_mem rfl) (fun w hS => cp_old s103 [(SRow.mk 200 [107] [98, 101, 102, 111, 114, 101])] (some ⟨b102, 0, none⟩) 1 0 [(R45.inlineB [73, 78] l lA lC), (Binding.mk [79, 85, 84] [] false 0 [] [] 1 0 0 (DataSet.mk 0 0 0 0 0 0 0 0 0 0 0 0 0 0 false 0 [] [] 0 0 false) 0 0 false ([] : List Bytes) none 0 false [] 0 [65] (DataSet.mk 200 0 0 0 0 0 0 0 0 0 0 0 0 0 false 0 [] [] 0 0 false) none 0 0 0 0 0 false [] [] 0 0 none 0 0 false (DataSet.mk 0 0 0 0 0 0 0 0 0 0 0 0 0 0 false 0 [] [] 0 0 false))] (some ⟨b105, 0, none⟩) 2 l w (RO.of_blkS hS (own_mem rfl) 1 (off := 0) (m := 3) rfl rfl) (RO.of_blkS hS (own_mem rfl) 0 (off := 0) (m := 182) rfl rfl) (okL_cons (inline_kp (lR.on hS (own_mem rfl))) (okL_cons kp_cnil (Binding.ok_none))) (hT.on hS (own_mem rfl)) (by rfl) hy_ (by exact ⟨_, _, rfl⟩) hy_ c45v0_ (hS.give (own_in rfl))) ?_
     rintro _ _ ⟨chA106, chC107, ln108, lnA109, lnC110, rfl, rfl⟩
     refine jp_ 9 rfl mv_ (jp_ 10 rfl (ex_ 0) (jp_ 11 rfl (ex_ 1) (j1_ 13 (jio_ rfl (stG 4 Ty.sz48 ?_)) (gl_ rfl (fun _ h => h.keep [false, false, false, false, false, false] rfl)))))
     refine jp_ 14 rfl av_ ?_
     exact JA_done (by kernel_rfl) (gl_ rfl (fun _ h => h.keep [false, false, false, false, false, false] rfl)) (JX_weaken (E' := [(0, vL lA l.length lC), (1, vB true), (2, vU8 a8), (3, vS other), (12, pB b100 0), (13, vI 0)]) (L' := [Ent.blk b100 48 [vI 0, vB false, vL chA106 ((R45.cpO l).length) chC107, vL lnA109 ln108.length lnC110], Ent.row (.slice chA106 (R45.cpO l).length chC107) 60 5 (R45.cpO l).length ((R45.cpO l).flatMap Change.enc), Ent.row (.slice lnA109 ln108.length lnC110) 9 1 ln108.length (ln108.map vS)]) ⟨rfl, rfl, rfl, rfl, rfl, rfl, trivial⟩ (fun _ h => (((h.front 1 _ rfl).front 1 _ rfl).front 4 _ rfl).keep [true, true, true, false, false, false] rfl) (key5 (b100, chA106, chC107, lnA109, ln108, lnC110)))
set_option maxHeartbeats 1000000 in
set_option maxRecDepth 20000 in
theorem copies_f (l : List Bytes) (lA : Option Addr) (lC : Nat) (a8 : UInt8) (other : Bytes) (w : World) (lR : RO [] w lA (l.map vS)) (hT : Tab [] w) (q0 : l.length ≤ 9223372036854775807) (q1 : other.length ≤ 9223372036854775807) : Calls Tryz.prog 5 #[vL lA l.length lC, vB false, vU8 a8, vS other] w (Gives [] w fun v L => v = vB true ∧ L = []) := by
 have ha8 := a8.toNat_lt
 have hmd : 0 < l.length → a8.toNat % l.length < l.length := fun h => Nat.mod_lt _ h
 have hol := R45.cpO_len l
 have hnl : (l.map R45.cpC).length = l.length := List.length_map ..
 refine calls_J [] 198 Tryz.func5 rfl Tryz.ntmps5 [(0, _), (1, _), (2, _), (3, _)] rfl rfl (Give.nil w) ?_
 refine q_ (g_ (s_ av_ (z_ (n_ (q_ (q_ (g_ (c0 (cl_ Ty.ca8) (fun w hS => f8_ok w (hT.on hS (fun _ h => by cases h))) (jr_ (vB false) (z_ (n_ (iff_ (sk_ (n_ (q_ (q_ (g_ (s_ mv_ (s_ (lnS Tryz.underlying25) (s_ (x_gtr_i rfl rfl) ?_))))))))))))))))))))
 refine z_ (n_ ?_)
 refine ifd (fun h1w h1 => ?_) (fun h1w h1 => ?_)
 ·refine q_ (g_ (s_ av_ (z_ (n_ (rt_ (nr_ ?_))))))
  exact p1 Tryz.results5 rfl ⟨rfl, rfl⟩
 ·refine sk_ (n_ (q_ (q_ (g_ (s_ mv_ (s_ (lnS Tryz.underlying25) (s_ mv_ (z_ (n_ (k_ ?_))))))))))
  refine J_loop (X := Nat) (fun (i : Nat) => (i ≤ l.length) ∧ (∀ j, j < i → (l.getD j []).length ≤ 60)) (fun (i : Nat) => [(0, vL lA l.length lC), (1, vB false), (2, vU8 a8), (3, vS other), (27, vL lA l.length lC), (28, vI ((l.length : Nat) : Int)), (29, vI ((i : Nat) : Int))]) (fun (i : Nat) => []) (fun (i : Nat) => l.length - i) (0 : Nat) ?_ ⟨rfl, rfl, rfl, rfl, rfl, rfl, rfl, trivial⟩ (fun _ h => h) ?_
  ·try dsimp only
   refine ⟨?_, ?_⟩
   ·first | rfl | omega | (simp_all; done) | (simp_all; omega)
   ·intro j hj; omega
  intro i hI1
  obtain ⟨i1_0, i1_1⟩ := hI1
  try dsimp only at i1_0
  try dsimp only at i1_1
  try dsimp only
  refine q_ (g_ (s_ (x_lss_i rfl rfl) (z_ (n_ (q_ ?_)))))
  refine ifd (fun h2w h2 => ?_) (fun h2w h2 => ?_)
  ·refine sk_ (n_ (q_ (k_ (q_ (g_ (r_ (ixM (cells_ro lR) Tryz.underlying25 Ty.sz9) (r_ (ldM vS [] (cells_ro lR) Ty.sc9) (s_ av_ (z_ (n_ (q_ (g_ (s_ mv_ (s_ (x_len_s rfl Tryz.underlying9) (s_ (x_gtr_i rfl rfl) (z_ (n_ ?_)))))))))))))))))
   refine ifd (fun h3w h3 => ?_) (fun h3w h3 => ?_)
   ·refine q_ (g_ (s_ av_ (z_ (n_ (rt_ (kq_ (nr_ (rr_ (kq_ (nr_ ?_))))))))))
    exact p1 Tryz.results5 rfl ⟨rfl, rfl⟩
   ·refine sk_ (kx_ (n_ (g_ (s_ (x_add_n (a := i) (b := 1) rfl rfl (by omega)) (s_ mv_ (z_ ?_))))))
    refine JX_round (i + 1 : Nat) ?_ ?_ ⟨rfl, rfl, rfl, rfl, rfl, rfl, rfl, trivial⟩ (fun _ h => h)
    ·try dsimp only
     refine ⟨?_, ?_⟩
     ·first | rfl | omega | (simp_all; done) | (simp_all; omega)
     ·intro j hj
      by_cases hji : j = i
      ·subst hji; omega
      ·exact i1_1 j (by omega)
    ·try dsimp only
     first | omega | (simp; omega) | (simp_all; omega)
  ·refine J_exit (ne_ (re_ (kh_ (n_ (q_ ?_)))))
   refine g_ (c0 (cl_ Ty.ca17) (fun w hS => f17_ok [79, 85, 84] 200 w) (o_ (al_ Ty.ze33 fun b4 => ?_)))
   refine o_ (stG 0 Ty.sz33 ?_)
   refine z_ (n_ (q_ (q_ (g_ (s_ mv_ (z_ (n_ (iff_ (sk_ (n_ (q_ ?_)))))))))))
   refine drU [] [8, 13] 15 Ty.mixed ?_
   refine jt_ 0 (vG [vI 200, vS [107], vS [98, 101, 102, 111, 114, 101]]) rfl (fun _ _ => x_build (by kernel_rfl)) ?_
   refine jp_ 4 rfl mv_ ?_
   refine JA_earlyT 6 (vG (Binding.enc (R45.freshB [79, 85, 84] 200))) rfl (by kernel_rfl) (by kernel_rfl) (by kernel_rfl) rfl (by kernel_rfl) (fun _ _ _ h => h) rfl trivial (x_loadN 0 (Binding.enc (R45.freshB [79, 85, 84] 200)) rfl rfl Ty.ag33 Ty.sz33 rfl) ?_
   refine JA_finX (X := Nat × (Option Addr) × Nat × (Option Addr) × (List Bytes) × Nat) (fun ⟨b14, chA8, chC9, lnA11, ln10, lnC12⟩ => [(0, vL lA l.length lC), (1, vB false), (2, vU8 a8), (3, vS other), (12, pB b14 0), (13, vI 0)]) (fun ⟨b14, chA8, chC9, lnA11, ln10, lnC12⟩ => [Ent.blk b14 48 [vI 0, vB false, vL chA8 ((l.map R45.cpC).length) chC9, vL lnA11 ln10.length lnC12], Ent.row (.slice chA8 (l.map R45.cpC).length chC9) 60 5 (l.map R45.cpC).length ((l.map R45.cpC).flatMap Change.enc), Ent.row (.slice lnA11 ln10.length lnC12) 9 1 ln10.length (ln10.map vS)]) ?_ (fun key5 => ?_)
   ·rintro ⟨b14, chA8, chC9, lnA11, ln10, lnC12⟩
    show JX _ _ _ _ _ [(0, vL lA l.length lC), (1, vB false), (2, vU8 a8), (3, vS other), (12, pB b14 0), (13, vI 0)] [Ent.blk b14 48 [vI 0, vB false, vL chA8 ((l.map R45.cpC).length) chC9, vL lnA11 ln10.length lnC12], Ent.row (.slice chA8 (l.map R45.cpC).length chC9) 60 5 (l.map R45.cpC).length ((l.map R45.cpC).flatMap Change.enc), Ent.row (.slice lnA11 ln10.length lnC12) 9 1 ln10.length (ln10.map vS)]
    refine n_ (q_ (q_ (g_ (s_ mv_ (jr_ (vB false) (s_ mv_ (sg_ rfl (fA 1 Ty.fi48_1) (rg_ rfl (ld_ 0 Ty.sc4) (jr_ (vB false) (s_ mv_ (sg_ rfl (fA 0 Ty.fi48_0) (rg_ rfl (ld_ 0 Ty.sc3) ?_))))))))))))
    refine jg_ rfl (vB false) (rfl) (jr_ (vB false) (z_ (n_ (iff_ (sk_ (n_ (q_ (g_ (s_ (fA 2 Ty.fi48_2) (r_ (ld_ 0 Ty.sc46) (s_ av_ (z_ (n_ (q_ (q_ (g_ (s_ mv_ (z_ ?_))))))))))))))))))
    refine xk_ [0, 2, 3, 13, 14, 68] ?_
    refine n_ (iff_ (sk_ (n_ (q_ (g_ (s_ av_ (z_ (n_ (q_ (q_ (g_ (s_ mv_ (s_ (lnS Tryz.underlying46) (s_ mv_ (z_ (n_ (k_ ?_)))))))))))))))))
    refine J_loop (X := Nat × (List Bytes) × (Option Addr) × Nat) (fun (⟨j, wr, wrA, wrC⟩ : Nat × (List Bytes) × (Option Addr) × Nat) => (j ≤ l.length) ∧ (wr = l.take j)) (fun (⟨j, wr, wrA, wrC⟩ : Nat × (List Bytes) × (Option Addr) × Nat) => [(0, vL lA l.length lC), (2, vU8 a8), (3, vS other), (13, vI 0), (15, vL wrA wr.length wrC), (81, vL chA8 ((l.map R45.cpC).length) chC9), (82, vI (((l.map R45.cpC).length : Nat) : Int)), (83, vI ((j : Nat) : Int))]) (fun (⟨j, wr, wrA, wrC⟩ : Nat × (List Bytes) × (Option Addr) × Nat) => [Ent.row (.slice chA8 (l.map R45.cpC).length chC9) 60 5 (l.map R45.cpC).length ((l.map R45.cpC).flatMap Change.enc), Ent.row (.slice wrA wr.length wrC) 9 1 wr.length (wr.map vS)]) (fun (⟨j, wr, wrA, wrC⟩ : Nat × (List Bytes) × (Option Addr) × Nat) => l.length - j) ((0, ([] : List Bytes), none, 0) : Nat × (List Bytes) × (Option Addr) × Nat) ?_ ⟨rfl, rfl, rfl, rfl, rfl, rfl, rfl, rfl, trivial⟩ (fun _ h => ((h.nilrow 9 1).front 2 _ rfl).keep [true, true, false, false] rfl) ?_
    ·try dsimp only
     refine ⟨?_, ?_⟩
     ·first | rfl | omega | (simp_all; done) | (simp_all; omega)
     ·rfl
    rintro ⟨j, wr, wrA, wrC⟩ hI2
    obtain ⟨i2_0, i2_1⟩ := hI2
    try dsimp only at i2_0
    try dsimp only at i2_1
    try dsimp only
    refine q_ (g_ (s_ (x_lss_i rfl rfl) (z_ (n_ (q_ ?_)))))
    refine ifd (fun h15w h15 => ?_) (fun h15w h15 => ?_)
    ·refine sk_ (n_ (q_ (k_ (q_ (g_ (r_ (ixF Change.enc_len (cells_row 0 rfl) Tryz.underlying46 Ty.sz60) (r_ (ldFN Change.enc_len (cells_row 0 rfl) Ty.ag60 Ty.sz60) (o_ (al_ Ty.ze60 fun b16 => ?_)))))))))
     refine o_ (stG 0 Ty.sz60 ?_)
     refine z_ (n_ (q_ (q_ (g_ (s_ (fA 0 Ty.fi60_0) (r_ (ld_ 0 Ty.sc3) (s_ (x_neq_i rfl rfl) (s_ mv_ ?_))))))))
     refine or_ 3 (decide (((l.map R45.cpC).getD j default).Id ≠ 200)) (fun g17 => ?_) ?_
     ·have g17r := g17
      have g17r := of_decide_eq_false g17r
      refine sg_ g17 (fA 1 Ty.fi60_1) (rg_ g17 (ld_ 0 Ty.sc3) (sg_ g17 (x_neq_i rfl rfl) ?_))
      exact cr_
     refine s_ mv_ ?_
     refine or_ 3 (decide (((l.map R45.cpC).getD j default).Key ≠ ([] : Bytes))) (fun g18 => ?_) ?_
     ·have g18r := g18
      have ⟨g18r, h19⟩ := bor_false g18r
      have g18r := of_decide_eq_false g18r
      have h19 := of_decide_eq_false h19
      refine sg_ g18 (fA 2 Ty.fi60_2) (rg_ g18 (ld_ 0 Ty.sc9) (jg_ g18 (vB (decide (((l.map R45.cpC).getD j default).Key ≠ ([] : Bytes)))) (x_neq_s rfl rfl) ?_))
      exact cr_
     refine s_ mv_ ?_
     refine or_ 3 (decide (((l.map R45.cpC).getD j default).Volume ≠ ([] : Bytes))) (fun g20 => ?_) ?_
     ·have g20r := g20
      have ⟨g20r, h21⟩ := bor_false g20r
      have ⟨g20r, h22⟩ := bor_false g20r
      have g20r := of_decide_eq_false g20r
      have h22 := of_decide_eq_false h22
      have h21 := of_decide_eq_false h21
      refine sg_ g20 (fA 4 Ty.fi60_4) (rg_ g20 (ld_ 0 Ty.sc9) (jg_ g20 (vB (decide (((l.map R45.cpC).getD j default).Volume ≠ ([] : Bytes)))) (x_neq_s rfl rfl) ?_))
      exact cr_
     refine z_ (xk_ [0, 2, 3, 13, 15, 81, 82, 83, 17, 104] ?_)
     refine n_ ?_
     refine if_ (fun h23 => ?_) (fun h23 => ?_)
     ·have h23w := h23
      simp only [Bool.and_eq_true, Bool.or_eq_true, Bool.and_eq_false_iff, Bool.or_eq_false_iff, Bool.not_eq_true', Bool.not_eq_false', decide_eq_true_eq, decide_eq_false_iff_not] at h23
      exact c45v4_
     ·have h23w := h23
      have ⟨h23, h24⟩ := bor_false h23
      have ⟨h23, h25⟩ := bor_false h23
      have ⟨h23, h26⟩ := bor_false h23
      have h23 := of_decide_eq_false h23
      have h26 := of_decide_eq_false h26
      have h25 := of_decide_eq_false h25
      have h24 := of_decide_eq_false h24
      refine sk_ (n_ (g_ (s_ mv_ (s_ (fA 3 Ty.fi60_3) (r_ (ld_ 0 Ty.sc9) (o_ (O_buildSlice (cs := [vS (((l.map R45.cpC).getD j default).Record)]) Tryz.underlying25 Ty.sz9 Ty.ze9 (by decide) (by decide) (by kernel_rfl) fun b27 => ?_)))))))
      refine o_ (O_append_m 3 vS wr [((l.map R45.cpC).getD j default).Record] Tryz.underlying25 Ty.sz9 Ty.by9 Ty.ze9 rfl rfl rfl rfl rfl (fun _ => rfl) (cells_blk 0 (off := 0) (m := 1) rfl rfl) lt_ lt_ fun A28 c29 => ?_)
      refine s_ av_ (z_ (kx_ (n_ (g_ (s_ (x_add_n (a := j) (b := 1) rfl rfl (by omega)) (s_ mv_ (z_ ?_)))))))
      refine JX_round ((j + 1, wr ++ [((l.map R45.cpC).getD j default).Record], A28, c29) : Nat × (List Bytes) × (Option Addr) × Nat) ?_ ?_ ⟨rfl, rfl, rfl, rfl, rfl, rfl, rfl, rfl, trivial⟩ (fun _ h => h.keep [false, false, true, true] rfl)
      ·try dsimp only
       refine ⟨?_, ?_⟩
       ·first | rfl | omega | (simp_all; done) | (simp_all; omega)
       ·exact c45v5_
      ·try dsimp only
       first | omega | (simp; omega) | (simp_all; omega)
    ·refine J_exit (ne_ (re_ (kh_ (n_ (q_ ?_)))))
     refine g_ ?_
     refine c1 (cl_ Ty.ca12) (fun w hS => f12_ok ([] : List SRow) none 0 w RO.nil) ?_
     rintro _ _ ⟨s30, rfl, rfl⟩
     refine js_ (Value.iface 41 (pB s30 0)) (x_iface rfl (by kernel_rfl)) (s_ mv_ (c0 (cl_ Ty.ca18) (fun w hS => f18_ok [73, 78, 49] l lA lC w (rno lR hS)) (s_ mv_ (c0 (cl_ Ty.ca18) (fun w hS => f18_ok [73, 78, 50] wr wrA wrC w (RO.of_row hS 2 rfl)) (o_ (O_buildSlice (cs := (Binding.enc (R45.inlineB [73, 78, 49] l lA lC) ++ Binding.enc (R45.inlineB [73, 78, 50] wr wrA wrC))) Tryz.underlying36 Ty.sz33 Ty.ze33 (by decide) (by decide) (by kernel_rfl) fun b31 => ?_))))))
     refine JO_call [s30] [Ent.blk s30 52 [vL none (([] : List SRow).length) 0, vI 0, vI 0, vI ((0 : Nat) : Int)]] [Ent.blk b31 33 (Binding.enc (R45.inlineB [73, 78, 49] l lA lC) ++ Binding.enc (R45.inlineB [73, 78, 50] wr wrA wrC)), Ent.row (.slice chA8 (l.map R45.cpC).length chC9) 60 5 (l.map R45.cpC).length ((l.map R45.cpC).flatMap Change.enc), Ent.row (.slice wrA wr.length wrC) 9 1 wr.length (wr.map vS)] rfl trivial (fun _ => x_call Ty.ca15 rfl) (fun _ h => ((((h.front 3 _ rfl).front 3 _ rfl).front 2 _ rfl).front 3 _ rfl).keep [true, true, true, true] rfl) (own_mem rfl) (fun w hS => cp_same s30 ([] : List SRow) none 0 0 [(R45.inlineB [73, 78, 49] l lA lC), (R45.inlineB [73, 78, 50] wr wrA wrC)] (some ⟨b31, 0, none⟩) 2 l w RO.nil (RO.of_blkS hS (own_mem rfl) 0 (off := 0) (m := 182) rfl rfl) (okL_cons (inline_kp (lR.on hS (own_mem rfl))) (okL_cons (inline_kp (RO.of_rowS hS (own_mem rfl) 2 rfl)) (Binding.ok_none))) (hT.on hS (own_mem rfl)) (by rfl) hy_ (by refine ⟨lA, wrA, lC, wrC, ?_⟩; rw [R45.take_all i2_1 (by omega)]) hy_ (hS.give (own_in rfl))) ?_
     rintro _ _ ⟨ch32, chA33, chC34, ln35, lnA36, lnC37, rfl, rfl⟩
     refine s_ mv_ (s_ (ex_ 0) (s_ (ex_ 1) (o_ (al_ Ty.ze48 fun b38 => ?_))))
     refine o_ (stG 0 Ty.sz48 ?_)
     refine s_ av_ (z_ (xk_ [0, 2, 3, 13, 15, 18] ?_))
     refine n_ (q_ (q_ ?_))
     refine J_weaken (E' := [(0, vL lA l.length lC), (2, vU8 a8), (3, vS other), (13, vI 0), (15, vL wrA wr.length wrC), (18, pB b38 0)]) (L' := [Ent.blk b38 48 [vI 0, vB false, vL chA33 ch32.length chC34, vL lnA36 ln35.length lnC37], Ent.row (.slice chA33 ch32.length chC34) 60 5 ch32.length (ch32.flatMap Change.enc), Ent.row (.slice lnA36 ln35.length lnC37) 9 1 ln35.length (ln35.map vS), Ent.row (.slice chA8 (l.map R45.cpC).length chC9) 60 5 (l.map R45.cpC).length ((l.map R45.cpC).flatMap Change.enc), Ent.row (.slice wrA wr.length wrC) 9 1 wr.length (wr.map vS)]) ⟨rfl, rfl, rfl, rfl, rfl, rfl, trivial⟩ (fun _ h => h.keep [true, true, true, false, true, true] rfl) ?_
     refine g_ (s_ mv_ (jr_ (vB false) (s_ mv_ (sg_ rfl (fA 0 Ty.fi48_0) (rg_ rfl (ld_ 0 Ty.sc3) (jg_ rfl (vB false) (rfl) (jr_ (vB false) (s_ mv_ (sg_ rfl mv_ ?_)))))))))
     refine sg_ rfl (lnS Tryz.underlying25) (sg_ rfl mv_ (sg_ rfl (lnS Tryz.underlying25) (sg_ rfl (x_neq_i rfl rfl) (jr_ (vB (decide (((wr.length : Nat) : Int) ≠ ((l.length : Nat) : Int)))) (z_ (n_ ?_))))))
     refine ifd (fun h39w h39 => ?_) (fun h39w h39 => ?_)
     ·exfalso; have := congrArg List.length i2_1; rw [List.length_take] at this; omega
     ·refine sk_ (n_ (q_ (q_ (g_ (s_ mv_ (s_ (lnS Tryz.underlying25) (s_ (x_eql_i rfl rfl) (s_ mv_ ?_))))))))
      refine or_ 10 (decide ((l.getD (a8.toNat % l.length) []) = other)) (fun g40 => ?_) ?_
      ·have g40r := g40
       have g40r := of_decide_eq_false g40r
       refine sg_ g40 mv_ (sg_ g40 mv_ (sg_ g40 (x_conv_u8_i64 rfl Tryz.underlying5 Tryz.underlying3) (sg_ g40 mv_ (sg_ g40 (lnS Tryz.underlying25) (sg_ g40 (x_rem_n (a := a8.toNat) (b := l.length) rfl rfl (by omega) (by omega)) (rg_ g40 (ixM (cells_ro lR) Tryz.underlying25 Ty.sz9) (rg_ g40 (ldM vS [] (cells_ro lR) Ty.sc9) (sg_ g40 mv_ (sg_ g40 (x_eql_s rfl rfl) ?_)))))))))
       exact cr_
      refine z_ (xk_ [0, 2, 3, 13, 150] ?_)
      refine n_ ?_
      refine if_ (fun h41 => ?_) (fun h41 => ?_)
      ·have h41w := h41
       simp only [Bool.and_eq_true, Bool.or_eq_true, Bool.and_eq_false_iff, Bool.or_eq_false_iff, Bool.not_eq_true', Bool.not_eq_false', decide_eq_true_eq, decide_eq_false_iff_not] at h41
       refine q_ (g_ (s_ av_ (z_ (n_ (rt_ (nr_ ?_))))))
       exact p1 Tryz.results5 rfl ⟨rfl, rfl⟩
      ·have h41w := h41
       have ⟨h41, h42⟩ := bor_false h41
       have h41 := of_decide_eq_false h41
       have h42 := of_decide_eq_false h42
       refine sk_ (n_ (q_ (g_ (s_ mv_ (s_ (x_conv_u8_i64 rfl Tryz.underlying5 Tryz.underlying3) (s_ mv_ (s_ (lnS Tryz.underlying25) (s_ (x_rem_n (a := a8.toNat) (b := l.length) rfl rfl (by omega) (by omega)) (s_ av_ (z_ (n_ (q_ (g_ (o_ (O_buildSlice0 Tryz.underlying25 Ty.sz9 fun b43 => ?_)))))))))))))))
       refine s_ mv_ ?_
       refine JO_weaken (E' := [(0, vL lA l.length lC), (2, vU8 a8), (3, vS other), (13, vI 0), (150, vB ((decide (((l.length : Nat) : Int) = 0)) || (decide ((l.getD (a8.toNat % l.length) []) = other)))), (151, vU8 a8), (152, vI ((a8.toNat : Nat) : Int)), (153, vL lA l.length lC), (154, vI ((l.length : Nat) : Int)), (155, vI ((a8.toNat % l.length : Nat) : Int)), (19, vI ((a8.toNat % l.length : Nat) : Int)), (156, vL (some ⟨b43, 0, none⟩) ((([] : List Bytes)).length) 0), (157, vL lA l.length lC)]) (L' := [Ent.row (.slice (some ⟨b43, 0, none⟩) ([] : List Bytes).length 0) 9 1 ([] : List Bytes).length (([] : List Bytes).map vS), Ent.blk b38 48 [vI 0, vB false, vL chA33 ch32.length chC34, vL lnA36 ln35.length lnC37], Ent.row (.slice chA33 ch32.length chC34) 60 5 ch32.length (ch32.flatMap Change.enc), Ent.row (.slice lnA36 ln35.length lnC37) 9 1 ln35.length (ln35.map vS), Ent.row (.slice chA8 (l.map R45.cpC).length chC9) 60 5 (l.map R45.cpC).length ((l.map R45.cpC).flatMap Change.enc), Ent.row (.slice wrA wr.length wrC) 9 1 wr.length (wr.map vS)]) ⟨rfl, rfl, rfl, rfl, rfl, rfl, rfl, rfl, rfl, rfl, rfl, rfl, rfl, trivial⟩ (fun _ h => (St.torow (cs := []) ((((((h.front 5 _ rfl).front 5 _ rfl).front 5 _ rfl).front 5 _ rfl).front 5 _ rfl).front 5 _ rfl) 1 0 rfl (by decide)).keep [true, true, true, true, true, true] rfl) ?_
       refine o_ (O_append_m 0 vS ([] : List Bytes) l Tryz.underlying25 Ty.sz9 Ty.by9 Ty.ze9 rfl rfl rfl rfl rfl (fun _ => rfl) (cells_ro lR) lt_ lt_ fun A44 c45 => ?_)
       refine s_ av_ (z_ (n_ (q_ (g_ (s_ mv_ (s_ mv_ (s_ mv_ (r_ (ixM (cells_row 0 rfl) Tryz.underlying25 Ty.sz9) ?_))))))))
       refine o_ (O_store_row_1 (a := other) (xs := ([] : List Bytes) ++ l) (k := a8.toNat % l.length) 0 vS [Ent.row (.slice A44 ((([] : List Bytes) ++ l).set (a8.toNat % l.length) other).length c45) 9 1 ((([] : List Bytes) ++ l).set (a8.toNat % l.length) other).length (((([] : List Bytes) ++ l).set (a8.toNat % l.length) other).map vS), Ent.blk b38 48 [vI 0, vB false, vL chA33 ch32.length chC34, vL lnA36 ln35.length lnC37], Ent.row (.slice chA33 ch32.length chC34) 60 5 ch32.length (ch32.flatMap Change.enc), Ent.row (.slice lnA36 ln35.length lnC37) 9 1 ln35.length (ln35.map vS), Ent.row (.slice chA8 (l.map R45.cpC).length chC9) 60 5 (l.map R45.cpC).length ((l.map R45.cpC).flatMap Change.enc), Ent.row (.slice wrA wr.length wrC) 9 1 wr.length (wr.map vS)] rfl rfl rfl Ty.sz9 rfl (fun _ => rfl) lt_ rfl ?_)
       refine JO_weaken (E' := [(0, vL lA l.length lC), (2, vU8 a8), (3, vS other), (13, vI 0), (150, vB ((decide (((l.length : Nat) : Int) = 0)) || (decide ((l.getD (a8.toNat % l.length) []) = other)))), (151, vU8 a8), (152, vI ((a8.toNat : Nat) : Int)), (153, vL lA l.length lC), (154, vI ((l.length : Nat) : Int)), (155, vI ((a8.toNat % l.length : Nat) : Int)), (19, vI ((a8.toNat % l.length : Nat) : Int)), (156, vL (some ⟨b43, 0, none⟩) ((([] : List Bytes)).length) 0), (157, vL lA l.length lC), (158, vL A44 (((([] : List Bytes) ++ l).set (a8.toNat % l.length) other).length) c45), (20, vL A44 (((([] : List Bytes) ++ l).set (a8.toNat % l.length) other).length) c45), (159, vL A44 (((([] : List Bytes) ++ l).set (a8.toNat % l.length) other).length) c45), (160, vI ((a8.toNat % l.length : Nat) : Int)), (161, vS other), (162, pA A44 (a8.toNat % l.length))]) (L' := [Ent.row (.slice A44 ((([] : List Bytes) ++ l).set (a8.toNat % l.length) other).length c45) 9 1 ((([] : List Bytes) ++ l).set (a8.toNat % l.length) other).length (((([] : List Bytes) ++ l).set (a8.toNat % l.length) other).map vS), Ent.blk b38 48 [vI 0, vB false, vL chA33 ch32.length chC34, vL lnA36 ln35.length lnC37], Ent.row (.slice chA33 ch32.length chC34) 60 5 ch32.length (ch32.flatMap Change.enc), Ent.row (.slice lnA36 ln35.length lnC37) 9 1 ln35.length (ln35.map vS), Ent.row (.slice chA8 (l.map R45.cpC).length chC9) 60 5 (l.map R45.cpC).length ((l.map R45.cpC).flatMap Change.enc), Ent.row (.slice wrA wr.length wrC) 9 1 wr.length (wr.map vS)]) ⟨rfl, rfl, rfl, rfl, rfl, rfl, rfl, rfl, rfl, rfl, rfl, rfl, rfl, (congrArg (fun n : Nat => some (Value.slice A44 n c45)) (set_len (([] : List Bytes) ++ l) (a8.toNat % l.length) other).symm), (congrArg (fun n : Nat => some (Value.slice A44 n c45)) (set_len (([] : List Bytes) ++ l) (a8.toNat % l.length) other).symm), (congrArg (fun n : Nat => some (Value.slice A44 n c45)) (set_len (([] : List Bytes) ++ l) (a8.toNat % l.length) other).symm), rfl, rfl, rfl, trivial⟩ (fun _ h => h) ?_
       refine z_ (n_ (q_ (g_ ?_)))
       refine c1 (cl_ Ty.ca12) (fun w hS => f12_ok ([] : List SRow) none 0 w RO.nil) ?_
       rintro _ _ ⟨s46, rfl, rfl⟩
       refine js_ (Value.iface 41 (pB s46 0)) (x_iface rfl (by kernel_rfl)) (s_ mv_ (c0 (cl_ Ty.ca18) (fun w hS => f18_ok [73, 78, 49] l lA lC w (rno lR hS)) (s_ mv_ (c0 (cl_ Ty.ca18) (fun w hS => f18_ok [73, 78, 50] _ A44 c45 w (RO.of_row hS 1 rfl)) (o_ (O_buildSlice (cs := (Binding.enc (R45.inlineB [73, 78, 49] l lA lC) ++ Binding.enc (R45.inlineB [73, 78, 50] ((([] : List Bytes) ++ l).set (a8.toNat % l.length) other) A44 c45))) Tryz.underlying36 Ty.sz33 Ty.ze33 (by decide) (by decide) (by kernel_rfl) fun b47 => ?_))))))
       refine JO_call [s46] [Ent.blk s46 52 [vL none (([] : List SRow).length) 0, vI 0, vI 0, vI ((0 : Nat) : Int)]] [Ent.blk b47 33 (Binding.enc (R45.inlineB [73, 78, 49] l lA lC) ++ Binding.enc (R45.inlineB [73, 78, 50] ((([] : List Bytes) ++ l).set (a8.toNat % l.length) other) A44 c45)), Ent.row (.slice A44 ((([] : List Bytes) ++ l).set (a8.toNat % l.length) other).length c45) 9 1 ((([] : List Bytes) ++ l).set (a8.toNat % l.length) other).length (((([] : List Bytes) ++ l).set (a8.toNat % l.length) other).map vS), Ent.blk b38 48 [vI 0, vB false, vL chA33 ch32.length chC34, vL lnA36 ln35.length lnC37], Ent.row (.slice chA33 ch32.length chC34) 60 5 ch32.length (ch32.flatMap Change.enc), Ent.row (.slice lnA36 ln35.length lnC37) 9 1 ln35.length (ln35.map vS), Ent.row (.slice chA8 (l.map R45.cpC).length chC9) 60 5 (l.map R45.cpC).length ((l.map R45.cpC).flatMap Change.enc), Ent.row (.slice wrA wr.length wrC) 9 1 wr.length (wr.map vS)] rfl trivial (fun _ => x_call Ty.ca15 rfl) (fun _ h => ((((((((h.front 7 _ rfl).front 7 _ rfl).front 7 _ rfl).front 7 _ rfl).front 7 _ rfl).front 7 _ rfl).front 6 _ rfl).front 7 _ rfl).keep [true, true, true, true, true, true, true, true] rfl) (own_mem rfl) (fun w hS => cp_diff s46 ([] : List SRow) none 0 0 [(R45.inlineB [73, 78, 49] l lA lC), (R45.inlineB [73, 78, 50] ((([] : List Bytes) ++ l).set (a8.toNat % l.length) other) A44 c45)] (some ⟨b47, 0, none⟩) 2 l (a8.toNat % l.length) other w RO.nil (RO.of_blkS hS (own_mem rfl) 0 (off := 0) (m := 182) rfl rfl) (okL_cons (inline_kp (lR.on hS (own_mem rfl))) (okL_cons (inline_kp (RO.of_rowS hS (own_mem rfl) 1 rfl)) (Binding.ok_none))) (hT.on hS (own_mem rfl)) (by rfl) hy_ (by exact ⟨_, _, _, _, rfl⟩) hy_ (by exact Nat.mod_lt _ (by omega)) hy_ (hS.give (own_in rfl))) ?_
       rintro _ _ ⟨ch48, chA49, chC50, lnA51, lnC52, rfl, rfl⟩
       refine s_ mv_ (s_ (ex_ 0) (s_ (ex_ 1) (o_ (al_ Ty.ze48 fun b53 => ?_))))
       refine o_ (stG 0 Ty.sz48 ?_)
       refine s_ av_ (z_ (xk_ [13, 19, 21] ?_))
       refine n_ (q_ ?_)
       refine J_weaken (E' := [(13, vI 0), (19, vI ((a8.toNat % l.length : Nat) : Int)), (21, pB b53 0)]) (L' := [Ent.blk b53 48 [vI 4, vB false, vL chA49 ch48.length chC50, vL lnA51 ([R45.diffS (a8.toNat % l.length)].length) lnC52], Ent.row (.slice chA49 ch48.length chC50) 60 5 ch48.length (ch48.flatMap Change.enc), Ent.row (.slice lnA51 [R45.diffS (a8.toNat % l.length)].length lnC52) 9 1 [R45.diffS (a8.toNat % l.length)].length ([R45.diffS (a8.toNat % l.length)].map vS), Ent.row (.slice A44 ((([] : List Bytes) ++ l).set (a8.toNat % l.length) other).length c45) 9 1 ((([] : List Bytes) ++ l).set (a8.toNat % l.length) other).length (((([] : List Bytes) ++ l).set (a8.toNat % l.length) other).map vS), Ent.blk b38 48 [vI 0, vB false, vL chA33 ch32.length chC34, vL lnA36 ln35.length lnC37], Ent.row (.slice chA33 ch32.length chC34) 60 5 ch32.length (ch32.flatMap Change.enc), Ent.row (.slice lnA36 ln35.length lnC37) 9 1 ln35.length (ln35.map vS), Ent.row (.slice chA8 (l.map R45.cpC).length chC9) 60 5 (l.map R45.cpC).length ((l.map R45.cpC).flatMap Change.enc), Ent.row (.slice wrA wr.length wrC) 9 1 wr.length (wr.map vS)]) ⟨rfl, rfl, rfl, trivial⟩ (fun _ h => h.keep [true, true, true, false, true, true, true, true, true, true] rfl) ?_
       refine drB [] 25 Ty.mixed ?_
       refine jp_ 0 rfl mv_ ?_
       refine jt_ 1 (vB true) rfl (fun _ _ => rfl) ?_
       refine jp_ 2 rfl mv_ (jp_ 3 rfl (fA 0 Ty.fi48_0) (jq_ 4 rfl (ld_ 0 Ty.sc3) ?_ (hw := ⟨_, rfl, rfl⟩)) (hw := ⟨_, rfl, rfl⟩))
       refine JA_take 5 (vB true) rfl (by kernel_rfl) (by kernel_rfl) (by kernel_rfl) rfl (fun _ _ _ h => h) rfl ⟨_, rfl, rfl⟩ (fun _ _ => rfl) ?_
       refine jt_ 6 (vB true) rfl (fun _ _ => rfl) ?_
       refine jp_ 7 rfl mv_ (jp_ 8 rfl (fA 3 Ty.fi48_3) (jq_ 9 rfl (ld_ 0 Ty.sc25) (jp_ 10 rfl (lnS Tryz.underlying25) (jp_ 11 rfl (x_eql_i rfl rfl) ?_ (hw := ⟨_, rfl, rfl⟩)) (hw := ⟨_, rfl, rfl⟩)) (hw := ⟨_, rfl, rfl⟩)) (hw := ⟨_, rfl, rfl⟩))
       refine jt_ 12 (vB (decide ((([R45.diffS (a8.toNat % l.length)].length : Nat) : Int) = 1))) rfl (fun _ _ => rfl) ?_
       refine jp_ 13 rfl mv_ ?_
       refine jb_ 187 (fun h54 => ?_) (fun h54 => ?_)
       ·have h54 := of_decide_eq_true h54
        refine jp_ 14 rfl (fA 3 Ty.fi48_3) (jq_ 15 rfl (ld_ 0 Ty.sc25) (jq_ 16 rfl (ixM (k := 0) (cells_row 2 rfl) Tryz.underlying25 Ty.sz9) (jq_ 17 rfl (ldM vS [] (cells_row 2 rfl) Ty.sc9) (jp_ 18 rfl mv_ (jp_ 19 rfl (x_add_n (a := a8.toNat % l.length) (b := 1) rfl rfl (by omega)) (j1_ 20 (jc0_ rfl (cl_ Ty.ca19) (fun w hS => itoa_ok _ w (hT.on hS (fun _ h => by cases h)) hy_ hy_) ?_ (hw := ⟨_, rfl, rfl⟩)) gm_) (hw := ⟨_, rfl, rfl⟩)) (hw := ⟨_, rfl, rfl⟩)) (hw := ⟨_, rfl, rfl⟩)) (hw := ⟨_, rfl, rfl⟩)) (hw := ⟨_, rfl, rfl⟩)) (hw := ⟨_, rfl, rfl⟩)
        have ha55 := R45.dec_lenI (((a8.toNat % l.length) + 1 : Nat) : Int) (by omega)
        refine JA_take 21 (vS ([100, 105, 102, 102, 101, 114, 101, 110, 116, 32, 97, 116, 32] ++ (Lib.decDigits (((a8.toNat % l.length) + 1 : Nat) : Int).toNat))) rfl (by kernel_rfl) (by kernel_rfl) (by kernel_rfl) rfl (fun _ _ _ h => h) rfl ⟨_, rfl, rfl⟩ (fun _ _ => x_cat_s rfl rfl c45v3_) ?_
        refine jp_ 22 rfl (x_eql_s rfl rfl) ?_ (hw := ⟨_, rfl, rfl⟩)
        refine jt_ 23 (vB (decide (([R45.diffS (a8.toNat % l.length)].getD 0 []) = ([100, 105, 102, 102, 101, 114, 101, 110, 116, 32, 97, 116, 32] ++ (Lib.decDigits (((a8.toNat % l.length) + 1 : Nat) : Int).toNat) : Bytes)))) rfl (fun _ _ => rfl) ?_
        refine jp_ 24 rfl av_ ?_
        refine JA_done (by kernel_rfl) gm_ ?_
        refine n_ (rt_ ?_)
        exact p1 Tryz.results5 rfl ⟨(eB c45v1_), rfl⟩
       ·have h54 := of_decide_eq_false h54
        refine js2_ 14 rfl (js2_ 15 rfl (js2_ 16 rfl (js2_ 17 rfl (js2_ 18 rfl (js2_ 19 rfl (js2_ 20 rfl (js2_ 21 rfl (js2_ 22 rfl ?_))))))))
        refine jt_ 23 (vB false) rfl (fun _ _ => rfl) ?_
        refine jp_ 24 rfl av_ ?_
        refine JA_done (by kernel_rfl) gm_ ?_
        refine n_ (rt_ ?_)
        exact p1 Tryz.results5 rfl ⟨(eB c45v1_), rfl⟩
   ·refine JA_ready (rs := [1, 12]) (by kernel_rfl) (by decide) (fun _ h => ⟨h.keep [false] rfl, fun _ => h⟩) (List.forall_mem_cons.2 ⟨?_, (List.forall_mem_cons.2 ⟨?_, all_nil⟩)⟩)
    ·refine jio_ rfl (O_buildSlice (cs := [vI 200, vS [107], vS [98, 101, 102, 111, 114, 101]]) Tryz.underlying22 Ty.sz57 Ty.ze57 (by decide) (by decide) (by kernel_rfl) fun b56 => ?_)
     refine JA_ready (rs := [2, 12]) (by kernel_rfl) (by decide) (fun _ h => ⟨h.keep [false, false] rfl, fun _ => h.keep [false, true] rfl⟩) (List.forall_mem_cons.2 ⟨?_, (List.forall_mem_cons.2 ⟨?_, all_nil⟩)⟩)
     ·refine jc1_ rfl (cl_ Ty.ca12) (fun w hS => f12_ok [(SRow.mk 200 [107] [98, 101, 102, 111, 114, 101])] _ 1 w (RO.of_blk hS 0 (off := 0) (m := 3) rfl rfl)) ?_
      rintro _ _ ⟨s57, rfl, rfl⟩
      refine jt_ 3 (Value.iface 41 (pB s57 0)) rfl (fun _ _ => x_iface rfl (by kernel_rfl)) ?_
      refine JA_ready (rs := [5, 12]) (by kernel_rfl) (by decide) (fun _ h => ⟨h.keep [false, false, false] rfl, fun _ => h.keep [false, false, true] rfl⟩) (List.forall_mem_cons.2 ⟨?_, (List.forall_mem_cons.2 ⟨?_, all_nil⟩)⟩)
      ·refine jc0_ rfl (cl_ Ty.ca18) (fun w hS => f18_ok [73, 78] l lA lC w (rno lR hS)) ?_
       refine JA_ready (rs := [7, 12]) (by kernel_rfl) (by decide) (fun _ h => ⟨h.keep [false, false, false] rfl, fun _ => h.keep [false, false, true] rfl⟩) (List.forall_mem_cons.2 ⟨?_, (List.forall_mem_cons.2 ⟨?_, all_nil⟩)⟩)
       ·refine jio_ rfl (O_buildSlice (cs := (Binding.enc (R45.inlineB [73, 78] l lA lC) ++ Binding.enc (R45.freshB [79, 85, 84] 200))) Tryz.underlying36 Ty.sz33 Ty.ze33 (by decide) (by decide) (by kernel_rfl) fun b58 => ?_)
        refine JA_ready (rs := [8, 12]) (by kernel_rfl) (by decide) (fun _ h => ⟨h.keep [false, false, false, false] rfl, fun _ => h.keep [false, false, false, true] rfl⟩) (List.forall_mem_cons.2 ⟨?_, (List.forall_mem_cons.2 ⟨?_, all_nil⟩)⟩)
        ·refine JI_call [s57] [Ent.blk s57 52 [vL (some ⟨b56, 0, none⟩) ([(SRow.mk 200 [107] [98, 101, 102, 111, 114, 101])].length) 1, vI 0, vI 0, vI ((0 : Nat) : Int)]] [Ent.blk b58 33 (Binding.enc (R45.inlineB [73, 78] l lA lC) ++ Binding.enc (R45.freshB [79, 85, 84] 200)), Ent.blk b56 57 [vI 200, vS [107], vS [98, 101, 102, 111, 114, 101]], Ent.blk b4 33 (Binding.enc (R45.freshB [79, 85, 84] 200))] rfl rfl trivial (fun _ => x_call Ty.ca15 rfl) (fun _ h => ((((h.front 3 _ rfl).front 3 _ rfl).front 2 _ rfl).front 3 _ rfl).keep [true, true, true, true] rfl) (own_mem rfl) (fun w hS => cp_new s57 [(SRow.mk 200 [107] [98, 101, 102, 111, 114, 101])] (some ⟨b56, 0, none⟩) 1 0 [(R45.inlineB [73, 78] l lA lC), (R45.freshB [79, 85, 84] 200)] (some ⟨b58, 0, none⟩) 2 l w (RO.of_blkS hS (own_mem rfl) 1 (off := 0) (m := 3) rfl rfl) (RO.of_blkS hS (own_mem rfl) 0 (off := 0) (m := 182) rfl rfl) (okL_cons (inline_kp (lR.on hS (own_mem rfl))) (okL_cons (fresh_kp _ _) (Binding.ok_none))) (hT.on hS (own_mem rfl)) (by rfl) hy_ (by exact ⟨_, _, rfl⟩) hy_ c45v0_ (hS.give (own_in rfl))) ?_
         rintro _ _ ⟨chA59, chC60, ln61, lnA62, lnC63, rfl, rfl⟩
         refine jp_ 9 rfl mv_ (jp_ 10 rfl (ex_ 0) (jp_ 11 rfl (ex_ 1) (j1_ 12 (jio_ rfl (al_ Ty.ze48 fun b65 => ?_)) (gl_ rfl (fun _ h => h.keep [false, false, false, false, false] rfl)))))
         refine j1_ 13 (jio_ rfl (stG 0 Ty.sz48 ?_)) (gl_ rfl (fun _ h => h.keep [false, false, false, false, false, false] rfl))
         refine jp_ 14 rfl av_ ?_
         exact JA_done (by kernel_rfl) (gl_ rfl (fun _ h => h.keep [false, false, false, false, false, false] rfl)) (JX_weaken (E' := [(0, vL lA l.length lC), (1, vB false), (2, vU8 a8), (3, vS other), (12, pB b65 0), (13, vI 0)]) (L' := [Ent.blk b65 48 [vI 0, vB false, vL chA59 ((l.map R45.cpC).length) chC60, vL lnA62 ln61.length lnC63], Ent.row (.slice chA59 (l.map R45.cpC).length chC60) 60 5 (l.map R45.cpC).length ((l.map R45.cpC).flatMap Change.enc), Ent.row (.slice lnA62 ln61.length lnC63) 9 1 ln61.length (ln61.map vS)]) ⟨rfl, rfl, rfl, rfl, rfl, rfl, trivial⟩ (fun _ h => h.keep [true, true, true, false, false, false] rfl) (key5 (b65, chA59, chC60, lnA62, ln61, lnC63)))
        ·refine jio_ rfl (al_ Ty.ze48 fun b66 => ?_)
         refine j1_ 8 ?_ (fun _ h => ⟨h.keep [false, false, false, false, false] rfl, fun _ => h.keep [false, false, false, false, true] rfl⟩)
         refine JI_call [s57] [Ent.blk s57 52 [vL (some ⟨b56, 0, none⟩) ([(SRow.mk 200 [107] [98, 101, 102, 111, 114, 101])].length) 1, vI 0, vI 0, vI ((0 : Nat) : Int)]] [Ent.blk b66 48 [vI 0, vB false, vL none 0 0, vL none 0 0], Ent.blk b58 33 (Binding.enc (R45.inlineB [73, 78] l lA lC) ++ Binding.enc (R45.freshB [79, 85, 84] 200)), Ent.blk b56 57 [vI 200, vS [107], vS [98, 101, 102, 111, 114, 101]], Ent.blk b4 33 (Binding.enc (R45.freshB [79, 85, 84] 200))] rfl rfl trivial (fun _ => x_call Ty.ca15 rfl) (fun _ h => (((((h.front 4 _ rfl).front 4 _ rfl).front 3 _ rfl).front 3 _ rfl).front 4 _ rfl).keep [true, true, true, true, true] rfl) (own_mem rfl) (fun w hS => cp_new s57 [(SRow.mk 200 [107] [98, 101, 102, 111, 114, 101])] (some ⟨b56, 0, none⟩) 1 0 [(R45.inlineB [73, 78] l lA lC), (R45.freshB [79, 85, 84] 200)] (some ⟨b58, 0, none⟩) 2 l w (RO.of_blkS hS (own_mem rfl) 2 (off := 0) (m := 3) rfl rfl) (RO.of_blkS hS (own_mem rfl) 1 (off := 0) (m := 182) rfl rfl) (okL_cons (inline_kp (lR.on hS (own_mem rfl))) (okL_cons (fresh_kp _ _) (Binding.ok_none))) (hT.on hS (own_mem rfl)) (by rfl) hy_ (by exact ⟨_, _, rfl⟩) hy_ c45v0_ (hS.give (own_in rfl))) ?_
         rintro _ _ ⟨chA67, chC68, ln69, lnA70, lnC71, rfl, rfl⟩
         refine jp_ 9 rfl mv_ (jp_ 10 rfl (ex_ 0) (jp_ 11 rfl (ex_ 1) (j1_ 13 (jio_ rfl (stG 2 Ty.sz48 ?_)) (gl_ rfl (fun _ h => h.keep [false, false, false, false, false, false] rfl)))))
         refine jp_ 14 rfl av_ ?_
         exact JA_done (by kernel_rfl) (gl_ rfl (fun _ h => h.keep [false, false, false, false, false, false] rfl)) (JX_weaken (E' := [(0, vL lA l.length lC), (1, vB false), (2, vU8 a8), (3, vS other), (12, pB b66 0), (13, vI 0)]) (L' := [Ent.blk b66 48 [vI 0, vB false, vL chA67 ((l.map R45.cpC).length) chC68, vL lnA70 ln69.length lnC71], Ent.row (.slice chA67 (l.map R45.cpC).length chC68) 60 5 (l.map R45.cpC).length ((l.map R45.cpC).flatMap Change.enc), Ent.row (.slice lnA70 ln69.length lnC71) 9 1 ln69.length (ln69.map vS)]) ⟨rfl, rfl, rfl, rfl, rfl, rfl, trivial⟩ (fun _ h => (((h.front 1 _ rfl).front 1 _ rfl).front 2 _ rfl).keep [true, true, true, false, false, false] rfl) (key5 (b66, chA67, chC68, lnA70, ln69, lnC71)))
       ·refine jio_ rfl (al_ Ty.ze48 fun b72 => ?_)
        refine j1_ 7 (jio_ rfl (O_buildSlice (cs := (Binding.enc (R45.inlineB [73, 78] l lA lC) ++ Binding.enc (R45.freshB [79, 85, 84] 200))) Tryz.underlying36 Ty.sz33 Ty.ze33 (by decide) (by decide) (by kernel_rfl) fun b74 => ?_)) (fun _ h => ⟨h.keep [false, false, false, false] rfl, fun _ => h.keep [false, false, false, true] rfl⟩)
        refine j1_ 8 ?_ (fun _ h => ⟨h.keep [false, false, false, false, false] rfl, fun _ => h.keep [false, false, false, false, true] rfl⟩)
        refine JI_call [s57] [Ent.blk s57 52 [vL (some ⟨b56, 0, none⟩) ([(SRow.mk 200 [107] [98, 101, 102, 111, 114, 101])].length) 1, vI 0, vI 0, vI ((0 : Nat) : Int)]] [Ent.blk b74 33 (Binding.enc (R45.inlineB [73, 78] l lA lC) ++ Binding.enc (R45.freshB [79, 85, 84] 200)), Ent.blk b72 48 [vI 0, vB false, vL none 0 0, vL none 0 0], Ent.blk b56 57 [vI 200, vS [107], vS [98, 101, 102, 111, 114, 101]], Ent.blk b4 33 (Binding.enc (R45.freshB [79, 85, 84] 200))] rfl rfl trivial (fun _ => x_call Ty.ca15 rfl) (fun _ h => (((((h.front 4 _ rfl).front 4 _ rfl).front 3 _ rfl).front 3 _ rfl).front 4 _ rfl).keep [true, true, true, true, true] rfl) (own_mem rfl) (fun w hS => cp_new s57 [(SRow.mk 200 [107] [98, 101, 102, 111, 114, 101])] (some ⟨b56, 0, none⟩) 1 0 [(R45.inlineB [73, 78] l lA lC), (R45.freshB [79, 85, 84] 200)] (some ⟨b74, 0, none⟩) 2 l w (RO.of_blkS hS (own_mem rfl) 2 (off := 0) (m := 3) rfl rfl) (RO.of_blkS hS (own_mem rfl) 0 (off := 0) (m := 182) rfl rfl) (okL_cons (inline_kp (lR.on hS (own_mem rfl))) (okL_cons (fresh_kp _ _) (Binding.ok_none))) (hT.on hS (own_mem rfl)) (by rfl) hy_ (by exact ⟨_, _, rfl⟩) hy_ c45v0_ (hS.give (own_in rfl))) ?_
        rintro _ _ ⟨chA75, chC76, ln77, lnA78, lnC79, rfl, rfl⟩
        refine jp_ 9 rfl mv_ (jp_ 10 rfl (ex_ 0) (jp_ 11 rfl (ex_ 1) (j1_ 13 (jio_ rfl (stG 3 Ty.sz48 ?_)) (gl_ rfl (fun _ h => h.keep [false, false, false, false, false, false] rfl)))))
        refine jp_ 14 rfl av_ ?_
        exact JA_done (by kernel_rfl) (gl_ rfl (fun _ h => h.keep [false, false, false, false, false, false] rfl)) (JX_weaken (E' := [(0, vL lA l.length lC), (1, vB false), (2, vU8 a8), (3, vS other), (12, pB b72 0), (13, vI 0)]) (L' := [Ent.blk b72 48 [vI 0, vB false, vL chA75 ((l.map R45.cpC).length) chC76, vL lnA78 ln77.length lnC79], Ent.row (.slice chA75 (l.map R45.cpC).length chC76) 60 5 (l.map R45.cpC).length ((l.map R45.cpC).flatMap Change.enc), Ent.row (.slice lnA78 ln77.length lnC79) 9 1 ln77.length (ln77.map vS)]) ⟨rfl, rfl, rfl, rfl, rfl, rfl, trivial⟩ (fun _ h => (((h.front 1 _ rfl).front 1 _ rfl).front 3 _ rfl).keep [true, true, true, false, false, false] rfl) (key5 (b72, chA75, chC76, lnA78, ln77, lnC79)))
      ·refine jio_ rfl (al_ Ty.ze48 fun b80 => ?_)
       refine j1_ 5 (jc0_ rfl (cl_ Ty.ca18) (fun w hS => f18_ok [73, 78] l lA lC w (rno lR hS)) (j1_ 7 (jio_ rfl (O_buildSlice (cs := (Binding.enc (R45.inlineB [73, 78] l lA lC) ++ Binding.enc (R45.freshB [79, 85, 84] 200))) Tryz.underlying36 Ty.sz33 Ty.ze33 (by decide) (by decide) (by kernel_rfl) fun b82 => ?_)) (fun _ h => ⟨h.keep [false, false, false, false] rfl, fun _ => h.keep [false, false, false, true] rfl⟩))) (fun _ h => ⟨h.keep [false, false, false, false] rfl, fun _ => h.keep [false, false, false, true] rfl⟩)
       refine j1_ 8 ?_ (fun _ h => ⟨h.keep [false, false, false, false, false] rfl, fun _ => h.keep [false, false, false, false, true] rfl⟩)
       refine JI_call [s57] [Ent.blk s57 52 [vL (some ⟨b56, 0, none⟩) ([(SRow.mk 200 [107] [98, 101, 102, 111, 114, 101])].length) 1, vI 0, vI 0, vI ((0 : Nat) : Int)]] [Ent.blk b82 33 (Binding.enc (R45.inlineB [73, 78] l lA lC) ++ Binding.enc (R45.freshB [79, 85, 84] 200)), Ent.blk b80 48 [vI 0, vB false, vL none 0 0, vL none 0 0], Ent.blk b56 57 [vI 200, vS [107], vS [98, 101, 102, 111, 114, 101]], Ent.blk b4 33 (Binding.enc (R45.freshB [79, 85, 84] 200))] rfl rfl trivial (fun _ => x_call Ty.ca15 rfl) (fun _ h => (((((h.front 4 _ rfl).front 4 _ rfl).front 3 _ rfl).front 3 _ rfl).front 4 _ rfl).keep [true, true, true, true, true] rfl) (own_mem rfl) (fun w hS => cp_new s57 [(SRow.mk 200 [107] [98, 101, 102, 111, 114, 101])] (some ⟨b56, 0, none⟩) 1 0 [(R45.inlineB [73, 78] l lA lC), (R45.freshB [79, 85, 84] 200)] (some ⟨b82, 0, none⟩) 2 l w (RO.of_blkS hS (own_mem rfl) 2 (off := 0) (m := 3) rfl rfl) (RO.of_blkS hS (own_mem rfl) 0 (off := 0) (m := 182) rfl rfl) (okL_cons (inline_kp (lR.on hS (own_mem rfl))) (okL_cons (fresh_kp _ _) (Binding.ok_none))) (hT.on hS (own_mem rfl)) (by rfl) hy_ (by exact ⟨_, _, rfl⟩) hy_ c45v0_ (hS.give (own_in rfl))) ?_
       rintro _ _ ⟨chA83, chC84, ln85, lnA86, lnC87, rfl, rfl⟩
       refine jp_ 9 rfl mv_ (jp_ 10 rfl (ex_ 0) (jp_ 11 rfl (ex_ 1) (j1_ 13 (jio_ rfl (stG 3 Ty.sz48 ?_)) (gl_ rfl (fun _ h => h.keep [false, false, false, false, false, false] rfl)))))
       refine jp_ 14 rfl av_ ?_
       exact JA_done (by kernel_rfl) (gl_ rfl (fun _ h => h.keep [false, false, false, false, false, false] rfl)) (JX_weaken (E' := [(0, vL lA l.length lC), (1, vB false), (2, vU8 a8), (3, vS other), (12, pB b80 0), (13, vI 0)]) (L' := [Ent.blk b80 48 [vI 0, vB false, vL chA83 ((l.map R45.cpC).length) chC84, vL lnA86 ln85.length lnC87], Ent.row (.slice chA83 (l.map R45.cpC).length chC84) 60 5 (l.map R45.cpC).length ((l.map R45.cpC).flatMap Change.enc), Ent.row (.slice lnA86 ln85.length lnC87) 9 1 ln85.length (ln85.map vS)]) ⟨rfl, rfl, rfl, rfl, rfl, rfl, trivial⟩ (fun _ h => (((h.front 1 _ rfl).front 1 _ rfl).front 3 _ rfl).keep [true, true, true, false, false, false] rfl) (key5 (b80, chA83, chC84, lnA86, ln85, lnC87)))
     ·refine jio_ rfl (al_ Ty.ze48 fun b88 => ?_)
      refine j1_ 2 ?_ (fun _ h => ⟨h.keep [false, false, false] rfl, fun _ => h.keep [false, false, true] rfl⟩)
      refine jc1_ rfl (cl_ Ty.ca12) (fun w hS => f12_ok [(SRow.mk 200 [107] [98, 101, 102, 111, 114, 101])] _ 1 w (RO.of_blk hS 1 (off := 0) (m := 3) rfl rfl)) ?_
      rintro _ _ ⟨s89, rfl, rfl⟩
      refine jt_ 3 (Value.iface 41 (pB s89 0)) rfl (fun _ _ => x_iface rfl (by kernel_rfl)) ?_
      refine j1_ 5 (jc0_ rfl (cl_ Ty.ca18) (fun w hS => f18_ok [73, 78] l lA lC w (rno lR hS)) (j1_ 7 (jio_ rfl (O_buildSlice (cs := (Binding.enc (R45.inlineB [73, 78] l lA lC) ++ Binding.enc (R45.freshB [79, 85, 84] 200))) Tryz.underlying36 Ty.sz33 Ty.ze33 (by decide) (by decide) (by kernel_rfl) fun b91 => ?_)) (fun _ h => ⟨h.keep [false, false, false, false] rfl, fun _ => h.keep [false, false, false, true] rfl⟩))) (fun _ h => ⟨h.keep [false, false, false, false] rfl, fun _ => h.keep [false, false, false, true] rfl⟩)
      refine j1_ 8 ?_ (fun _ h => ⟨h.keep [false, false, false, false, false] rfl, fun _ => h.keep [false, false, false, false, true] rfl⟩)
      refine JI_call [s89] [Ent.blk s89 52 [vL (some ⟨b56, 0, none⟩) ([(SRow.mk 200 [107] [98, 101, 102, 111, 114, 101])].length) 1, vI 0, vI 0, vI ((0 : Nat) : Int)]] [Ent.blk b91 33 (Binding.enc (R45.inlineB [73, 78] l lA lC) ++ Binding.enc (R45.freshB [79, 85, 84] 200)), Ent.blk b88 48 [vI 0, vB false, vL none 0 0, vL none 0 0], Ent.blk b56 57 [vI 200, vS [107], vS [98, 101, 102, 111, 114, 101]], Ent.blk b4 33 (Binding.enc (R45.freshB [79, 85, 84] 200))] rfl rfl trivial (fun _ => x_call Ty.ca15 rfl) (fun _ h => (((((h.front 4 _ rfl).front 4 _ rfl).front 4 _ rfl).front 3 _ rfl).front 4 _ rfl).keep [true, true, true, true, true] rfl) (own_mem rfl) (fun w hS => cp_new s89 [(SRow.mk 200 [107] [98, 101, 102, 111, 114, 101])] (some ⟨b56, 0, none⟩) 1 0 [(R45.inlineB [73, 78] l lA lC), (R45.freshB [79, 85, 84] 200)] (some ⟨b91, 0, none⟩) 2 l w (RO.of_blkS hS (own_mem rfl) 2 (off := 0) (m := 3) rfl rfl) (RO.of_blkS hS (own_mem rfl) 0 (off := 0) (m := 182) rfl rfl) (okL_cons (inline_kp (lR.on hS (own_mem rfl))) (okL_cons (fresh_kp _ _) (Binding.ok_none))) (hT.on hS (own_mem rfl)) (by rfl) hy_ (by exact ⟨_, _, rfl⟩) hy_ c45v0_ (hS.give (own_in rfl))) ?_
      rintro _ _ ⟨chA92, chC93, ln94, lnA95, lnC96, rfl, rfl⟩
      refine jp_ 9 rfl mv_ (jp_ 10 rfl (ex_ 0) (jp_ 11 rfl (ex_ 1) (j1_ 13 (jio_ rfl (stG 3 Ty.sz48 ?_)) (gl_ rfl (fun _ h => h.keep [false, false, false, false, false, false] rfl)))))
      refine jp_ 14 rfl av_ ?_
      exact JA_done (by kernel_rfl) (gl_ rfl (fun _ h => h.keep [false, false, false, false, false, false] rfl)) (JX_weaken (E' := [(0, vL lA l.length lC), (1, vB false), (2, vU8 a8), (3, vS other), (12, pB b88 0), (13, vI 0)]) (L' := [Ent.blk b88 48 [vI 0, vB false, vL chA92 ((l.map R45.cpC).length) chC93, vL lnA95 ln94.length lnC96], Ent.row (.slice chA92 (l.map R45.cpC).length chC93) 60 5 (l.map R45.cpC).length ((l.map R45.cpC).flatMap Change.enc), Ent.row (.slice lnA95 ln94.length lnC96) 9 1 ln94.length (ln94.map vS)]) ⟨rfl, rfl, rfl, rfl, rfl, rfl, trivial⟩ (fun _ h => (((h.front 1 _ rfl).front 1 _ rfl).front 3 _ rfl).keep [true, true, true, false, false, false] rfl) (key5 (b88, chA92, chC93, lnA95, ln94, lnC96)))
    ·refine jio_ rfl (al_ Ty.ze48 fun b97 => ?_)
     refine j1_ 1 (jio_ rfl (O_buildSlice (cs := [vI 200, vS [107], vS [98, 101, 102, 111, 114, 101]]) Tryz.underlying22 Ty.sz57 Ty.ze57 (by decide) (by decide) (by kernel_rfl) fun b99 => ?_)) (fun _ h => ⟨h.keep [false, false] rfl, fun _ => h.keep [false, true] rfl⟩)
     refine j1_ 2 ?_ (fun _ h => ⟨h.keep [false, false, false] rfl, fun _ => h.keep [false, false, true] rfl⟩)
     refine jc1_ rfl (cl_ Ty.ca12) (fun w hS => f12_ok [(SRow.mk 200 [107] [98, 101, 102, 111, 114, 101])] _ 1 w (RO.of_blk hS 0 (off := 0) (m := 3) rfl rfl)) ?_
     rintro _ _ ⟨s100, rfl, rfl⟩
     refine jt_ 3 (Value.iface 41 (pB s100 0)) rfl (fun _ _ => x_iface rfl (by kernel_rfl)) ?_
     refine j1_ 5 (jc0_ rfl (cl_ Ty.ca18) (fun w hS => f18_ok [73, 78] l lA lC w (rno lR hS)) (j1_ 7 (jio_ rfl (O_buildSlice (cs := (Binding.enc (R45.inlineB [73, 78] l lA lC) ++ Binding.enc (R45.freshB [79, 85, 84] 200))) Tryz.underlying36 Ty.sz33 Ty.ze33 (by decide) (by decide) (by kernel_rfl) fun b102 => ?_)) (fun _ h => ⟨h.keep [false, false, false, false] rfl, fun _ => h.keep [false, false, false, true] rfl⟩))) (fun _ h => ⟨h.keep [false, false, false, false] rfl, fun _ => h.keep [false, false, false, true] rfl⟩)
     refine j1_ 8 ?_ (fun _ h => ⟨h.keep [false, false, false, false, false] rfl, fun _ => h.keep [false, false, false, false, true] rfl⟩)
     refine JI_call [s100] [Ent.blk s100 52 [vL (some ⟨b99, 0, none⟩) ([(SRow.mk 200 [107] [98, 101, 102, 111, 114, 101])].length) 1, vI 0, vI 0, vI ((0 : Nat) : Int)]] [Ent.blk b102 33 (Binding.enc (R45.inlineB [73, 78] l lA lC) ++ Binding.enc (R45.freshB [79, 85, 84] 200)), Ent.blk b99 57 [vI 200, vS [107], vS [98, 101, 102, 111, 114, 101]], Ent.blk b97 48 [vI 0, vB false, vL none 0 0, vL none 0 0], Ent.blk b4 33 (Binding.enc (R45.freshB [79, 85, 84] 200))] rfl rfl trivial (fun _ => x_call Ty.ca15 rfl) (fun _ h => (((((h.front 4 _ rfl).front 4 _ rfl).front 4 _ rfl).front 3 _ rfl).front 4 _ rfl).keep [true, true, true, true, true] rfl) (own_mem rfl) (fun w hS => cp_new s100 [(SRow.mk 200 [107] [98, 101, 102, 111, 114, 101])] (some ⟨b99, 0, none⟩) 1 0 [(R45.inlineB [73, 78] l lA lC), (R45.freshB [79, 85, 84] 200)] (some ⟨b102, 0, none⟩) 2 l w (RO.of_blkS hS (own_mem rfl) 1 (off := 0) (m := 3) rfl rfl) (RO.of_blkS hS (own_mem rfl) 0 (off := 0) (m := 182) rfl rfl) (okL_cons (inline_kp (lR.on hS (own_mem rfl))) (okL_cons (fresh_kp _ _) (Binding.ok_none))) (hT.on hS (own_mem rfl)) (by rfl) hy_ (by exact ⟨_, _, rfl⟩) hy_ c45v0_ (hS.give (own_in rfl))) ?_
     rintro _ _ ⟨chA103, chC104, ln105, lnA106, lnC107, rfl, rfl⟩
     refine jp_ 9 rfl mv_ (jp_ 10 rfl (ex_ 0) (jp_ 11 rfl (ex_ 1) (j1_ 13 (jio_ rfl (stG 4 Ty.sz48 ?_)) (gl_ rfl (fun _ h => h.keep [false, false, false, false, false, false] rfl)))))
     refine jp_ 14 rfl av_ ?_
     exact JA_done (by kernel_rfl) (gl_ rfl (fun _ h => h.keep [false, false, false, false, false, false] rfl)) (JX_weaken (E' := [(0, vL lA l.length lC), (1, vB false), (2, vU8 a8), (3, vS other), (12, pB b97 0), (13, vI 0)]) (L' := [Ent.blk b97 48 [vI 0, vB false, vL chA103 ((l.map R45.cpC).length) chC104, vL lnA106 ln105.length lnC107], Ent.row (.slice chA103 (l.map R45.cpC).length chC104) 60 5 (l.map R45.cpC).length ((l.map R45.cpC).flatMap Change.enc), Ent.row (.slice lnA106 ln105.length lnC107) 9 1 ln105.length (ln105.map vS)]) ⟨rfl, rfl, rfl, rfl, rfl, rfl, trivial⟩ (fun _ h => (((h.front 1 _ rfl).front 1 _ rfl).front 4 _ rfl).keep [true, true, true, false, false, false] rfl) (key5 (b97, chA103, chC104, lnA106, ln105, lnC107)))
theorem f5_ok (l : List Bytes) (lA : Option Addr) (lC : Nat) (old : Bool) (a8 : UInt8) (other : Bytes) (w : World) (lR : RO [] w lA (l.map vS)) (hT : Tab [] w) (q0 : l.length ≤ 9223372036854775807) (q1 : other.length ≤ 9223372036854775807) : Calls Tryz.prog 5 #[vL lA l.length lC, vB old, vU8 a8, vS other] w (Gives [] w fun v L => v = vB true ∧ L = []) := by
 cases old with
 | true => exact copies_t l lA lC a8 other w lR hT q0 q1
 | false => exact copies_f l lA lC a8 other w lR hT q0 q1
end Go.Proofs.YtggobegaiijhhaaGreatDoor
