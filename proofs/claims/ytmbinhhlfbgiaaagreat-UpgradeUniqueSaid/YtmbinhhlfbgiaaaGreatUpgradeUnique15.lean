/- C27i, Pl27b in one text. -/
import Derived.Test.YtmbinhhlfbgiaaaGreatC27g
import Derived.Test.YtmbinhhlfbgiaaaGreatUpgradeUnique8
import Derived.Test.YtmbinhhlfbgiaaaGreatPl27
import Derived.Test.YtmbinhhlfbgiaaaGreatUpgradeUnique4
namespace Go.Proofs.YtmbinhhlfbgiaaaGreat
open Go.GV
set_option linter.unusedVariables false
set_option linter.unusedSimpArgs false
theorem c27i0_ {p : Prop} (h : p := by first | exact (R26.same_no (by omega)).symm | exact (R26.same_bad (k := k) (by assumption)).symm | exact (R26.same_all i1_1 (fun i hi => i1_2 i (by omega))).symm) : p := h
theorem c27i1_ {p : Prop} (h : p := by first | exact (decide_eq_false (fun hh => by subst hh; simp_all)).symm | exact R27.same_lists (by assumption) (by assumption) i1_2 | exact R27.same_lists (by omega) (by assumption) i1_2) : p := h
set_option maxRecDepth 20000 in
theorem f16_ok (a : List Bytes) (aA : Option Addr) (aC : Nat) (b : List Bytes) (bA : Option Addr) (bC : Nat) (w : World) (aR : RO [] w aA (a.map vS)) (bR : RO [] w bA (b.map vS)) (q0 : a.length ≤ 9223372036854775807) : Calls Tryz.prog 16 #[vL aA a.length aC, vL bA b.length bC] w (Gives [] w fun v L => v = vB (decide (a = b)) ∧ L = []) := by
 refine calls_J [] 26 Tryz.func16 rfl Tryz.ntmps16 [(0, _), (1, _)] rfl rfl (Give.nil w) ?_
 refine q_ (g_ (s_ av_ (z_ (n_ (q_ (q_ (g_ (s_ mv_ (s_ (lnS Tryz.underlying40) (s_ mv_ (s_ (lnS Tryz.underlying40) (s_ (x_neq_i rfl rfl) (z_ (n_ ?_))))))))))))))
 refine ifd (fun h1w h1 => ?_) (fun h1w h1 => ?_)
 ·refine q_ (g_ (s_ av_ (z_ (n_ (rt_ (nr_ ?_))))))
  exact p1 Tryz.results16 rfl ⟨(eB c27i0_), rfl⟩
 ·refine sk_ (n_ (q_ (q_ (g_ (s_ av_ (z_ (n_ (k_ ?_))))))))
  refine J_loop (X := Nat) (fun (k : Nat) => (k ≤ a.length) ∧ (a.length = b.length) ∧ (∀ i, i < k → a.getD i [] = b.getD i [])) (fun (k : Nat) => [(0, vL aA a.length aC), (1, vL bA b.length bC), (5, vI ((k : Nat) : Int))]) (fun (k : Nat) => []) (fun (k : Nat) => a.length - k) (0 : Nat) ?_ ⟨rfl, rfl, rfl, trivial⟩ (fun _ h => h) ?_
  ·try dsimp only
   refine ⟨?_, ?_, ?_⟩
   ·first | rfl | omega | (simp_all; done) | (simp_all; omega)
   ·first | rfl | omega | (simp_all; done) | (simp_all; omega)
   ·intro i hi; omega
  intro k hI1
  obtain ⟨i1_0, i1_1, i1_2⟩ := hI1
  try dsimp only at i1_0
  try dsimp only at i1_1
  try dsimp only at i1_2
  try dsimp only
  refine q_ (q_ (g_ (s_ mv_ (s_ mv_ (s_ (lnS Tryz.underlying40) (s_ (x_lss_i rfl rfl) (z_ (n_ ?_))))))))
  refine ifd (fun h2w h2 => ?_) (fun h2w h2 => ?_)
  ·refine sk_ (n_ (q_ (k_ (q_ ?_))))
   refine drB [] 9 Ty.mixed ?_
   refine jp_ 0 rfl mv_ (jp_ 1 rfl mv_ (jq_ 2 rfl (ixM (cells_ro aR) Tryz.underlying40 Ty.sz9) (jq_ 3 rfl (ldM vS [] (cells_ro aR) Ty.sc9) (jp_ 4 rfl mv_ (jp_ 5 rfl mv_ (jq_ 6 rfl (ixM (cells_ro bR) Tryz.underlying40 Ty.sz9) (jq_ 7 rfl (ldM vS [] (cells_ro bR) Ty.sc9) (jp_ 8 rfl (x_neq_s rfl rfl) ?_))))))))
   refine JA_done (by kernel_rfl) gm_ ?_
   refine n_ ?_
   refine ifd (fun h3w h3 => ?_) (fun h3w h3 => ?_)
   ·refine q_ (g_ (s_ av_ (z_ (n_ (rt_ (kq_ (nr_ (rr_ (kq_ (nr_ ?_))))))))))
    exact p1 Tryz.results16 rfl ⟨(eB c27i0_), rfl⟩
   ·refine sk_ (kx_ (n_ (g_ (s_ mv_ (s_ (x_add_n (a := k) (b := 1) rfl rfl (by omega)) (s_ av_ (z_ ?_)))))))
    refine JX_round (k + 1 : Nat) ?_ ?_ ⟨rfl, rfl, rfl, trivial⟩ (fun _ h => h)
    ·try dsimp only
     refine ⟨?_, ?_, ?_⟩
     ·first | rfl | omega | (simp_all; done) | (simp_all; omega)
     ·exact i1_1
     ·intro i hi
      by_cases hik : i = k
      ·subst hik; exact Decidable.not_not.1 (by assumption)
      ·exact i1_2 i (by omega)
    ·try dsimp only
     first | omega | (simp; omega) | (simp_all; omega)
  ·refine J_exit (ne_ (re_ (kh_ (n_ (q_ ?_)))))
   refine g_ (s_ av_ (z_ (n_ (rt_ ?_))))
   exact p1 Tryz.results16 rfl ⟨(eB c27i0_), rfl⟩
set_option maxRecDepth 20000 in
theorem f19_ok (ds : List Data) (dsA : Option Addr) (dsC : Nat) (a : DataSet) (k : Bytes) (most : Int) (w : World) (dsR : RO [] w dsA (ds.flatMap Data.enc)) (dsN : ∀ i : Nat, RO [] w (ds.getD i default).PairsA (((ds.getD i default).Pairs).flatMap Pair.enc)) (q0 : ds.length ≤ 1000) (q1 : ∀ i, (ds.getD i default).Pairs.length ≤ 1000) (q2 : k.length ≤ 1000000) (q3 : R27.Shorts ds) : Calls Tryz.prog 19 #[Value.iface 33 (vG [vL dsA ds.length dsC, Value.pointer none]), vG (DataSet.enc a), vS k, vI most] w (Gives [] w fun v L => ∃ A : Option Addr, ∃ cc : Nat, v = Value.tuple #[vL A ((R27.find ds a k most).1.length) cc, vI ((R27.find ds a k most).2)] ∧ L = [Ent.row (.slice A ((R27.find ds a k most).1).length cc) 9 1 ((R27.find ds a k most).1).length (((R27.find ds a k most).1).map vS)]) := by
 refine calls_J [] 86 Tryz.func19 rfl Tryz.ntmps19 [(0, _), (1, _), (2, _), (3, _)] rfl rfl (Give.nil w) ?_
 refine q_ (g_ (o_ (bxG fun b1 => ?_)))
 refine s_ av_ (s_ av_ (z_ (n_ (q_ (g_ (r_ (ldN 0 (DataSet.enc a) Ty.ag23 Ty.sz23) (s_ mv_ (c0 (cl_ Ty.ca46) (fun w hS => f46_ok a k w) (s_ mv_ (s_ (ex_ 0) (s_ (ex_ 1) (o_ (al_ Ty.ze94 fun b2 => ?_)))))))))))))
 refine o_ (stG 0 Ty.sz94 ?_)
 refine s_ av_ (z_ (n_ (q_ (k_ (q_ (g_ (s_ mv_ (s_ (x_eql_i rfl rfl) (s_ mv_ ?_)))))))))
 refine or_ 2 (decide (most < 0)) (fun g3 => ?_) ?_
 ·have g3r := g3
  have g3r := of_decide_eq_false g3r
  refine sg_ g3 mv_ (sg_ g3 (x_lss_i rfl rfl) ?_)
  exact cr_
 refine s_ mv_ ?_
 refine or_ 2 (decide ((1024 : Int) < most)) (fun g4 => ?_) ?_
 ·have g4r := g4
  have ⟨g4r, h5⟩ := bor_false g4r
  have g4r := of_decide_eq_false g4r
  have h5 := of_decide_eq_false h5
  refine sg_ g4 mv_ (sg_ g4 (x_gtr_i rfl rfl) ?_)
  exact cr_
 refine s_ av_ (z_ (xk_ [0, 2, 3, 5, 8, 9, 11, 23] ?_))
 refine n_ ?_
 refine if_ (fun h6 => ?_) (fun h6 => ?_)
 ·have h6w := h6
  simp only [Bool.and_eq_true, Bool.or_eq_true, Bool.and_eq_false_iff, Bool.or_eq_false_iff, Bool.not_eq_true', Bool.not_eq_false', decide_eq_true_eq, decide_eq_false_iff_not] at h6
  refine q_ (g_ (s_ av_ (s_ av_ (z_ (n_ (rt_ (kq_ (nr_ ?_))))))))
  first
   | have hd := R27.fd_pre i1_0 (by assumption) (by assumption) no_such_condition (R27.not_t no_such_condition)
   | have hd := R27.fd_corrupt i1_0 (by assumption) (by assumption) no_such_condition
   | have hd := R27.fd_nf i1_0 (by assumption) (by assumption)
   | have hd := R27.fd_full i1_0 (by assumption)
   | have hd := R27.fd_len (ds := ds) h6w (by assumption)
   | have hd := R27.fd_arg (ds := ds) h6w
   | have hd : False := R27.fd_er (ds := ds) (a := a) (cur := cur) (by assumption) (by assumption)
  refine JX_rets [_, _] (Value.tuple #[_, _]) Tryz.results19 (fun w h => ⟨rfl, rfl, trivial⟩) rfl [Ent.row (.slice none ([] : List Bytes).length 0) 9 1 ([] : List Bytes).length (([] : List Bytes).map vS)] (fun _ h => (h.nilrow 9 1).keep [true, false, false] rfl) ⟨none, 0, ?_, ?_⟩
  ·have e_x0 : (0 : Nat) = ((R27.find ds a k most).1.length) := by first | exact hd.elim | (rw [hd]; done) | (rw [hd]; rfl)
   have e_x1 : (1 : Int) = ((R27.find ds a k most).2) := by first | exact hd.elim | (rw [hd]; done) | (rw [hd]; rfl)
   have e_all := (congr (congrArg (fun (x0 : Nat) (x1 : Int) => Value.tuple #[vL none x0 0, vI x1]) e_x0) e_x1)
   exact e_all
  ·have e_y0 : (([] : List Bytes) : List Bytes) = (R27.find ds a k most).1 := by
    first | exact hd.elim | (rw [hd]; done) | (rw [hd]; rfl)
   have e_all := (congrArg (fun (y0 : List Bytes) => [Ent.row (.slice none y0.length 0) 9 1 y0.length (y0.map vS)]) e_y0)
   exact e_all
 ·have h6w := h6
  have ⟨h6, h7⟩ := bor_false h6
  have ⟨h6, h8⟩ := bor_false h6
  have h6 := of_decide_eq_false h6
  have h8 := of_decide_eq_false h8
  have h7 := of_decide_eq_false h7
  refine q_ (g_ (s_ mv_ (s_ (x_neq_i rfl rfl) (s_ av_ (z_ (n_ ?_))))))
  refine ifd (fun h9w h9 => ?_) (fun h9w h9 => ?_)
  ·refine q_ (g_ (s_ mv_ (s_ av_ (s_ av_ (z_ (n_ (rt_ (kq_ (nr_ ?_)))))))))
   first
    | have hd := R27.fd_pre i1_0 (by assumption) (by assumption) no_such_condition (R27.not_t no_such_condition)
    | have hd := R27.fd_corrupt i1_0 (by assumption) (by assumption) no_such_condition
    | have hd := R27.fd_nf i1_0 (by assumption) (by assumption)
    | have hd := R27.fd_full i1_0 (by assumption)
    | have hd := R27.fd_len (ds := ds) h6w (by assumption)
    | have hd := R27.fd_arg (ds := ds) h6w
    | have hd : False := R27.fd_er (ds := ds) (a := a) (cur := cur) (by assumption) (by assumption)
   refine JX_rets [_, _] (Value.tuple #[_, _]) Tryz.results19 (fun w h => ⟨rfl, rfl, trivial⟩) rfl [Ent.row (.slice none ([] : List Bytes).length 0) 9 1 ([] : List Bytes).length (([] : List Bytes).map vS)] (fun _ h => (h.nilrow 9 1).keep [true, false, false] rfl) ⟨none, 0, ?_, ?_⟩
   ·have e_x0 : (0 : Nat) = ((R27.find ds a k most).1.length) := by first | exact hd.elim | (rw [hd]; done) | (rw [hd]; rfl)
    have e_x1 : ((R26.span a k).2 : Int) = ((R27.find ds a k most).2) := by first | exact hd.elim | (rw [hd]; done) | (rw [hd]; rfl)
    have e_all := (congr (congrArg (fun (x0 : Nat) (x1 : Int) => Value.tuple #[vL none x0 0, vI x1]) e_x0) e_x1)
    exact e_all
   ·have e_y0 : (([] : List Bytes) : List Bytes) = (R27.find ds a k most).1 := by
     first | exact hd.elim | (rw [hd]; done) | (rw [hd]; rfl)
    have e_all := (congrArg (fun (y0 : List Bytes) => [Ent.row (.slice none y0.length 0) 9 1 y0.length (y0.map vS)]) e_y0)
    exact e_all
  ·refine sk_ (kx_ (n_ (q_ (g_ (s_ av_ (z_ (n_ (q_ (q_ (g_ (s_ mv_ (s_ av_ (z_ (n_ (k_ ?_)))))))))))))))
   refine J_loop (X := Bytes × (List Bytes) × (Option Addr) × Nat) (fun (⟨cur, out, outA, outC⟩ : Bytes × (List Bytes) × (Option Addr) × Nat) => (R27.FindAt ds a k most cur out) ∧ (((out.length : Nat) : Int) ≤ most) ∧ (most ≤ 1024)) (fun (⟨cur, out, outA, outC⟩ : Bytes × (List Bytes) × (Option Addr) × Nat) => [(0, Value.iface 33 (vG [vL dsA ds.length dsC, Value.pointer none])), (2, vS k), (3, vI most), (5, pB b1 0), (12, vL outA out.length outC), (13, vS cur)]) (fun (⟨cur, out, outA, outC⟩ : Bytes × (List Bytes) × (Option Addr) × Nat) => [Ent.blk b1 23 (DataSet.enc a), Ent.row (.slice outA out.length outC) 9 1 out.length (out.map vS)]) (fun (⟨cur, out, outA, outC⟩ : Bytes × (List Bytes) × (Option Addr) × Nat) => (most - out.length).toNat) ((k, ([] : List Bytes), none, 0) : Bytes × (List Bytes) × (Option Addr) × Nat) ?_ ⟨rfl, rfl, rfl, rfl, rfl, rfl, trivial⟩ (fun _ h => ((h.nilrow 9 1).front 2 _ rfl).keep [true, true, false] rfl) ?_
   ·try dsimp only
    refine ⟨?_, ?_, ?_⟩
    ·exact R27.fd_start h6w (by assumption)
    ·(simp only [List.length_nil]; omega)
    ·omega
   rintro ⟨cur, out, outA, outC⟩ hI1
   obtain ⟨i1_0, i1_1, i1_2⟩ := hI1
   try dsimp only at i1_0
   try dsimp only at i1_1
   try dsimp only at i1_2
   try dsimp only
   refine q_ (q_ (g_ (s_ mv_ (s_ (lnS Tryz.underlying40) (s_ mv_ (s_ (x_lss_i rfl rfl) (z_ (n_ ?_))))))))
   refine ifd (fun h10w h10 => ?_) (fun h10w h10 => ?_)
   ·refine sk_ (n_ (k_ (q_ (g_ (s_ mv_ (s_ (fA 0 Ty.fi23_0) (r_ (ld_ 0 Ty.sc3) (s_ mv_ (c0 (x_invoke rfl Ty.mt129 Ty.ca129 Ty.mtd rfl) (fun w hS => f129_ok ds dsA dsC a.Id cur w (rno dsR hS) (fun i => (dsN i).on hS (fun _ h => by cases h)) hy_ hy_) ?_)))))))))
    have ha11 := R27.next_err (R27.ofD ds a.Id).Pairs cur
    have ha12 := R27.nextR_len (by assumption) a.Id cur
    refine s_ mv_ (s_ (ex_ 0) (s_ (ex_ 1) (s_ (ex_ 2) (s_ av_ (s_ av_ (s_ av_ (z_ (xk_ [0, 2, 3, 5, 12, 13, 14, 16] ?_))))))))
    refine n_ (q_ (k_ (q_ (g_ (s_ mv_ (s_ (x_eql_i rfl rfl) (s_ av_ (z_ (n_ ?_)))))))))
    refine ifd (fun h13w h13 => ?_) (fun h13w h13 => ?_)
    ·refine q_ (g_ (s_ mv_ (s_ av_ (s_ av_ (z_ (n_ (rt_ (kq_ (nr_ (kq_ (rr_ (kq_ ?_))))))))))))
     refine nr_ ?_
     first
      | have hd := R27.fd_pre i1_0 (by assumption) (by assumption) no_such_condition (R27.not_t no_such_condition)
      | have hd := R27.fd_corrupt i1_0 (by assumption) (by assumption) no_such_condition
      | have hd := R27.fd_nf i1_0 (by assumption) (by assumption)
      | have hd := R27.fd_full i1_0 (by assumption)
      | have hd := R27.fd_len (ds := ds) h6w (by assumption)
      | have hd := R27.fd_arg (ds := ds) h6w
      | have hd : False := R27.fd_er (ds := ds) (a := a) (cur := cur) (by assumption) (by assumption)
     refine JX_rets [_, _] (Value.tuple #[_, _]) Tryz.results19 (fun w h => ⟨rfl, rfl, trivial⟩) rfl _ (fun _ h => h.keep [false, true] rfl) ⟨outA, outC, ?_, ?_⟩
     ·have e_x0 : (out.length : Nat) = ((R27.find ds a k most).1.length) := by first | exact hd.elim | (rw [hd]; done) | (rw [hd]; rfl)
      have e_x1 : (0 : Int) = ((R27.find ds a k most).2) := by first | exact hd.elim | (rw [hd]; done) | (rw [hd]; rfl)
      have e_all := (congr (congrArg (fun (x0 : Nat) (x1 : Int) => Value.tuple #[vL outA x0 outC, vI x1]) e_x0) e_x1)
      exact e_all
     ·have e_y0 : (out : List Bytes) = (R27.find ds a k most).1 := by
       first | exact hd.elim | (rw [hd]; done) | (rw [hd]; rfl)
      have e_all := (congrArg (fun (y0 : List Bytes) => [Ent.row (.slice outA y0.length outC) 9 1 y0.length (y0.map vS)]) e_y0)
      exact e_all
    ·refine q_ (g_ (s_ mv_ (s_ (x_neq_i rfl rfl) (s_ av_ (z_ (n_ ?_))))))
     refine ifd (fun h14w h14 => ?_) (fun h14w h14 => ?_)
     ·refine q_ (g_ (s_ mv_ (s_ av_ (s_ av_ (z_ (n_ (rt_ (kq_ (nr_ (kq_ (rr_ (kq_ ?_))))))))))))
      refine nr_ ?_
      first
       | have hd := R27.fd_pre i1_0 (by assumption) (by assumption) no_such_condition (R27.not_t no_such_condition)
       | have hd := R27.fd_corrupt i1_0 (by assumption) (by assumption) no_such_condition
       | have hd := R27.fd_nf i1_0 (by assumption) (by assumption)
       | have hd := R27.fd_full i1_0 (by assumption)
       | have hd := R27.fd_len (ds := ds) h6w (by assumption)
       | have hd := R27.fd_arg (ds := ds) h6w
       | have hd : False := R27.fd_er (ds := ds) (a := a) (cur := cur) (by assumption) (by assumption)
      refine JX_rets [_, _] (Value.tuple #[_, _]) Tryz.results19 (fun w h => ⟨rfl, rfl, trivial⟩) rfl [Ent.row (.slice none ([] : List Bytes).length 0) 9 1 ([] : List Bytes).length (([] : List Bytes).map vS)] (fun _ h => (h.nilrow 9 1).keep [true, false, false] rfl) ⟨none, 0, ?_, ?_⟩
      ·have e_x0 : (0 : Nat) = ((R27.find ds a k most).1.length) := by first | exact hd.elim | (rw [hd]; done) | (rw [hd]; rfl)
       have e_x1 : ((R27.nextR (R27.ofD ds a.Id).Pairs cur).2.2 : Int) = ((R27.find ds a k most).2) := by first | exact hd.elim | (rw [hd]; done) | (rw [hd]; rfl)
       have e_all := (congr (congrArg (fun (x0 : Nat) (x1 : Int) => Value.tuple #[vL none x0 0, vI x1]) e_x0) e_x1)
       exact e_all
      ·have e_y0 : (([] : List Bytes) : List Bytes) = (R27.find ds a k most).1 := by
        first | exact hd.elim | (rw [hd]; done) | (rw [hd]; rfl)
       have e_all := (congrArg (fun (y0 : List Bytes) => [Ent.row (.slice none y0.length 0) 9 1 y0.length (y0.map vS)]) e_y0)
       exact e_all
     ·refine q_ (g_ (s_ mv_ (s_ mv_ (s_ (x_leq_s rfl rfl) (s_ mv_ ?_)))))
      refine or_ 5 (decide (((((R27.nextR (R27.ofD ds a.Id).Pairs cur).1).length : Nat) : Int) ≠ a.KeyLength)) (fun g15 => ?_) ?_
      ·have g15r := g15
       have ⟨g15r, h16⟩ := bor_false g15r
       have h16 := of_decide_eq_false h16
       refine sg_ g15 mv_ (sg_ g15 (x_len_s rfl Tryz.underlying9) (sg_ g15 (fA 6 Ty.fi23_6) (rg_ g15 (ld_ 0 Ty.sc3) (sg_ g15 (x_neq_i rfl rfl) ?_))))
       exact cr_
      refine s_ av_ (z_ (n_ ?_))
      refine if_ (fun h17 => ?_) (fun h17 => ?_)
      ·have h17w := h17
       simp only [Bool.and_eq_true, Bool.or_eq_true, Bool.and_eq_false_iff, Bool.or_eq_false_iff, Bool.not_eq_true', Bool.not_eq_false', decide_eq_true_eq, decide_eq_false_iff_not] at h17
       refine q_ (g_ (s_ av_ (s_ av_ (z_ (xk_ [0, 2, 3, 5, 12, 13, 14, 8, 9] ?_)))))
       refine n_ (rt_ (kq_ (nr_ (kq_ (rr_ (kq_ (nr_ ?_)))))))
       first
        | have hd := R27.fd_pre i1_0 (by assumption) (by assumption) h17w (R27.not_t no_such_condition)
        | have hd := R27.fd_corrupt i1_0 (by assumption) (by assumption) h17w
        | have hd := R27.fd_nf i1_0 (by assumption) (by assumption)
        | have hd := R27.fd_full i1_0 (by assumption)
        | have hd := R27.fd_len (ds := ds) h6w (by assumption)
        | have hd := R27.fd_arg (ds := ds) h6w
        | have hd : False := R27.fd_er (ds := ds) (a := a) (cur := cur) (by assumption) (by assumption)
       refine JX_rets [_, _] (Value.tuple #[_, _]) Tryz.results19 (fun w h => ⟨rfl, rfl, trivial⟩) rfl [Ent.row (.slice none ([] : List Bytes).length 0) 9 1 ([] : List Bytes).length (([] : List Bytes).map vS)] (fun _ h => (h.nilrow 9 1).keep [true, false, false] rfl) ⟨none, 0, ?_, ?_⟩
       ·have e_x0 : (0 : Nat) = ((R27.find ds a k most).1.length) := by first | exact hd.elim | (rw [hd]; done) | (rw [hd]; rfl)
        have e_x1 : (11 : Int) = ((R27.find ds a k most).2) := by first | exact hd.elim | (rw [hd]; done) | (rw [hd]; rfl)
        have e_all := (congr (congrArg (fun (x0 : Nat) (x1 : Int) => Value.tuple #[vL none x0 0, vI x1]) e_x0) e_x1)
        exact e_all
       ·have e_y0 : (([] : List Bytes) : List Bytes) = (R27.find ds a k most).1 := by
         first | exact hd.elim | (rw [hd]; done) | (rw [hd]; rfl)
        have e_all := (congrArg (fun (y0 : List Bytes) => [Ent.row (.slice none y0.length 0) 9 1 y0.length (y0.map vS)]) e_y0)
        exact e_all
      ·have h17w := h17
       have ⟨h17, h18⟩ := bor_false h17
       have ⟨h17, h19⟩ := bor_false h17
       have h19 := of_decide_eq_false h19
       have h18 := of_decide_eq_false h18
       refine q_ (g_ (s_ mv_ (s_ mv_ (c0 (cl_ Ty.ca47) (fun w hS => f47_ok _ k w) (s_ (x_not rfl) (s_ av_ (z_ (xk_ [0, 2, 3, 5, 12, 13, 14, 71] ?_))))))))
       refine n_ ?_
       refine if_ (fun h20 => ?_) (fun h20 => ?_)
       ·have h20w := h20
        have h20 : (R27.begins ((R27.nextR (R27.ofD ds a.Id).Pairs cur).1) k) = false := bnot_true h20
        refine q_ (g_ (s_ mv_ (s_ av_ (s_ av_ (z_ (n_ (rt_ (kq_ (nr_ (kq_ (rr_ (kq_ ?_))))))))))))
        refine nr_ ?_
        first
         | have hd := R27.fd_pre i1_0 (by assumption) (by assumption) h17w (R27.not_t h20w)
         | have hd := R27.fd_corrupt i1_0 (by assumption) (by assumption) h17w
         | have hd := R27.fd_nf i1_0 (by assumption) (by assumption)
         | have hd := R27.fd_full i1_0 (by assumption)
         | have hd := R27.fd_len (ds := ds) h6w (by assumption)
         | have hd := R27.fd_arg (ds := ds) h6w
         | have hd : False := R27.fd_er (ds := ds) (a := a) (cur := cur) (by assumption) (by assumption)
        refine JX_rets [_, _] (Value.tuple #[_, _]) Tryz.results19 (fun w h => ⟨rfl, rfl, trivial⟩) rfl _ (fun _ h => h.keep [false, true] rfl) ⟨outA, outC, ?_, ?_⟩
        ·have e_x0 : (out.length : Nat) = ((R27.find ds a k most).1.length) := by first | exact hd.elim | (rw [hd]; done) | (rw [hd]; rfl)
         have e_x1 : (0 : Int) = ((R27.find ds a k most).2) := by first | exact hd.elim | (rw [hd]; done) | (rw [hd]; rfl)
         have e_all := (congr (congrArg (fun (x0 : Nat) (x1 : Int) => Value.tuple #[vL outA x0 outC, vI x1]) e_x0) e_x1)
         exact e_all
        ·have e_y0 : (out : List Bytes) = (R27.find ds a k most).1 := by
          first | exact hd.elim | (rw [hd]; done) | (rw [hd]; rfl)
         have e_all := (congrArg (fun (y0 : List Bytes) => [Ent.row (.slice outA y0.length outC) 9 1 y0.length (y0.map vS)]) e_y0)
         exact e_all
       ·have h20w := h20
        have h20 : (R27.begins ((R27.nextR (R27.ofD ds a.Id).Pairs cur).1) k) = true := bnot_false h20
        have hi21 := R27.begins_len h20
        refine sk_ (kx_ (n_ (q_ (g_ (s_ mv_ (s_ mv_ (s_ mv_ (s_ (x_len_s rfl Tryz.underlying9) (s_ (x_sub_s (lo := k.length) (hi := ((R27.nextR (R27.ofD ds a.Id).Pairs cur).1).length) rfl Tryz.underlying9 (.inl rfl) (.inr ⟨rfl, rfl⟩) lt_ (by first | omega | (simp only [sub, List.length_drop, List.length_take]; omega) | (simp; omega) | (simp_all; omega))) (o_ (O_buildSlice (cs := [vS (sub ((R27.nextR (R27.ofD ds a.Id).Pairs cur).1) k.length (((R27.nextR (R27.ofD ds a.Id).Pairs cur).1).length))]) Tryz.underlying40 Ty.sz9 Ty.ze9 (by decide) (by decide) (by kernel_rfl) fun b22 => ?_)))))))))))
        refine o_ (O_append_m 2 vS out [sub ((R27.nextR (R27.ofD ds a.Id).Pairs cur).1) k.length (((R27.nextR (R27.ofD ds a.Id).Pairs cur).1).length)] Tryz.underlying40 Ty.sz9 Ty.by9 Ty.ze9 rfl rfl rfl rfl rfl (fun _ => rfl) (cells_blk 0 (off := 0) (m := 1) rfl rfl) lt_ lt_ fun A23 c24 => ?_)
        refine s_ av_ (z_ (n_ (g_ (s_ mv_ (s_ av_ (z_ (kx_ ?_)))))))
        refine JX_round (((R27.nextR (R27.ofD ds a.Id).Pairs cur).1, out ++ [sub ((R27.nextR (R27.ofD ds a.Id).Pairs cur).1) k.length (((R27.nextR (R27.ofD ds a.Id).Pairs cur).1).length)], A23, c24) : Bytes × (List Bytes) × (Option Addr) × Nat) ?_ ?_ ⟨rfl, rfl, rfl, rfl, rfl, rfl, trivial⟩ (fun _ h => h.keep [false, true, true] rfl)
        ·try dsimp only
         refine ⟨?_, ?_, ?_⟩
         ·exact R27.fd_next i1_0 (by assumption) (by assumption) h17w (R27.not_f h20w)
         ·rw [List.length_append]; simp only [List.length_cons, List.length_nil]; omega
         ·omega
        ·try dsimp only
         rw [List.length_append]; simp only [List.length_cons, List.length_nil]; omega
   ·refine J_exit (ne_ (re_ (kh_ (n_ (q_ ?_)))))
    refine g_ (s_ mv_ (s_ av_ (s_ av_ (z_ (n_ (rt_ ?_))))))
    first
     | have hd := R27.fd_pre i1_0 (by assumption) (by assumption) no_such_condition (R27.not_t no_such_condition)
     | have hd := R27.fd_corrupt i1_0 (by assumption) (by assumption) no_such_condition
     | have hd := R27.fd_nf i1_0 (by assumption) (by assumption)
     | have hd := R27.fd_full i1_0 (by assumption)
     | have hd := R27.fd_len (ds := ds) h6w (by assumption)
     | have hd := R27.fd_arg (ds := ds) h6w
     | have hd : False := R27.fd_er (ds := ds) (a := a) (cur := cur) (by assumption) (by assumption)
    refine JX_rets [_, _] (Value.tuple #[_, _]) Tryz.results19 (fun w h => ⟨rfl, rfl, trivial⟩) rfl _ (fun _ h => h.keep [false, true] rfl) ⟨outA, outC, ?_, ?_⟩
    ·have e_x0 : (out.length : Nat) = ((R27.find ds a k most).1.length) := by first | exact hd.elim | (rw [hd]; done) | (rw [hd]; rfl)
     have e_x1 : (0 : Int) = ((R27.find ds a k most).2) := by first | exact hd.elim | (rw [hd]; done) | (rw [hd]; rfl)
     have e_all := (congr (congrArg (fun (x0 : Nat) (x1 : Int) => Value.tuple #[vL outA x0 outC, vI x1]) e_x0) e_x1)
     exact e_all
    ·have e_y0 : (out : List Bytes) = (R27.find ds a k most).1 := by
      first | exact hd.elim | (rw [hd]; done) | (rw [hd]; rfl)
     have e_all := (congrArg (fun (y0 : List Bytes) => [Ent.row (.slice outA y0.length outC) 9 1 y0.length (y0.map vS)]) e_y0)
     exact e_all
set_option maxRecDepth 20000 in
theorem f22_ok (l : List Change) (lA : Option Addr) (lC : Nat) (m : Int) (w : World) (lR : RO [] w lA (l.flatMap Change.enc)) (q0 : l.length ≤ 9223372036854775807) : Calls Tryz.prog 22 #[vL lA l.length lC, vI m] w (Gives [] w fun v L => v = vB (R27.short l m) ∧ L = []) := by
 refine calls_J [] 41 Tryz.func22 rfl Tryz.ntmps22 [(0, _), (1, _)] rfl rfl (Give.nil w) ?_
 refine q_ (g_ (s_ av_ (z_ (n_ (q_ (q_ (g_ (s_ av_ (z_ (n_ (k_ ?_)))))))))))
 refine J_loop (X := Nat) (fun (k : Nat) => (k ≤ l.length) ∧ (∀ i, i < k → R27.longC (l.getD i default) = false)) (fun (k : Nat) => [(0, vL lA l.length lC), (1, vI m), (5, vI ((k : Nat) : Int))]) (fun (k : Nat) => []) (fun (k : Nat) => l.length - k) (0 : Nat) ?_ ⟨rfl, rfl, rfl, trivial⟩ (fun _ h => h) ?_
 ·try dsimp only
  refine ⟨?_, ?_⟩
  ·first | rfl | omega | (simp_all; done) | (simp_all; omega)
  ·intro i hi; omega
 intro k hI1
 obtain ⟨i1_0, i1_1⟩ := hI1
 try dsimp only at i1_0
 try dsimp only at i1_1
 try dsimp only
 refine q_ (q_ (g_ (s_ mv_ (s_ mv_ (s_ (lnS Tryz.underlying25) (s_ (x_lss_i rfl rfl) (z_ (n_ ?_))))))))
 refine ifd (fun h1w h1 => ?_) (fun h1w h1 => ?_)
 ·refine sk_ (n_ (q_ (k_ (q_ (g_ (s_ mv_ (s_ mv_ (r_ (ixF Change.enc_len (cells_ro lR) Tryz.underlying25 Ty.sz27) (s_ (fB Ty.fi27_2) (r_ (ldF 2 Change.enc_len (cells_ro lR) Ty.sc9) (s_ (x_len_s rfl Tryz.underlying9) (s_ (x_gtr_i rfl rfl) (s_ mv_ ?_)))))))))))))
  refine or_ 7 (decide ((300 : Int) < ((((l.getD k default).Record).length : Nat) : Int))) (fun g2 => ?_) ?_
  ·have g2r := g2
   have g2r := of_decide_eq_false g2r
   refine sg_ g2 mv_ (sg_ g2 mv_ (rg_ g2 (ixF Change.enc_len (cells_ro lR) Tryz.underlying25 Ty.sz27) (sg_ g2 (fB Ty.fi27_3) (rg_ g2 (ldF 3 Change.enc_len (cells_ro lR) Ty.sc9) (sg_ g2 (x_len_s rfl Tryz.underlying9) (sg_ g2 (x_gtr_i rfl rfl) ?_))))))
   exact cr_
  refine s_ mv_ ?_
  refine or_ 7 (decide ((100 : Int) < ((((l.getD k default).Volume).length : Nat) : Int))) (fun g3 => ?_) ?_
  ·have g3r := g3
   have ⟨g3r, h4⟩ := bor_false g3r
   have g3r := of_decide_eq_false g3r
   have h4 := of_decide_eq_false h4
   refine sg_ g3 mv_ (sg_ g3 mv_ (rg_ g3 (ixF Change.enc_len (cells_ro lR) Tryz.underlying25 Ty.sz27) (sg_ g3 (fB Ty.fi27_4) (rg_ g3 (ldF 4 Change.enc_len (cells_ro lR) Ty.sc9) (sg_ g3 (x_len_s rfl Tryz.underlying9) (sg_ g3 (x_gtr_i rfl rfl) ?_))))))
   exact cr_
  refine z_ (n_ ?_)
  refine if_ (fun h5 => ?_) (fun h5 => ?_)
  ·have h5w := h5
   simp only [Bool.and_eq_true, Bool.or_eq_true, Bool.and_eq_false_iff, Bool.or_eq_false_iff, Bool.not_eq_true', Bool.not_eq_false', decide_eq_true_eq, decide_eq_false_iff_not] at h5
   refine q_ (g_ (s_ av_ (z_ (n_ (rt_ (kq_ (nr_ (rr_ (kq_ (nr_ ?_))))))))))
   exact p1 Tryz.results22 rfl ⟨(eB (by first | exact R27.short_bad (k := k) (by omega) h5w | exact R27.short_end (by assumption) i1_1)), rfl⟩
  ·have h5w := h5
   have ⟨h5, h6⟩ := bor_false h5
   have ⟨h5, h7⟩ := bor_false h5
   have h5 := of_decide_eq_false h5
   have h7 := of_decide_eq_false h7
   have h6 := of_decide_eq_false h6
   refine sk_ (kx_ (n_ (g_ (s_ mv_ (s_ (x_add_n (a := k) (b := 1) rfl rfl (by omega)) (s_ av_ (z_ ?_)))))))
   refine JX_round (k + 1 : Nat) ?_ ?_ ⟨rfl, rfl, rfl, trivial⟩ (fun _ h => h)
   ·try dsimp only
    refine ⟨?_, ?_⟩
    ·first | rfl | omega | (simp_all; done) | (simp_all; omega)
    ·intro i hi; by_cases hik : i = k
     ·subst hik; exact h5w
     ·exact i1_1 i (by omega)
   ·try dsimp only
    first | omega | (simp; omega) | (simp_all; omega)
 ·refine J_exit (ne_ (re_ (kh_ (n_ (q_ ?_)))))
  refine g_ (s_ mv_ (s_ (lnS Tryz.underlying25) (s_ mv_ (s_ (x_leq_i rfl rfl) (s_ av_ (z_ (n_ (rt_ ?_))))))))
  exact p1 Tryz.results22 rfl ⟨(eB (by first | exact R27.short_bad (k := k) (by omega) no_such_condition | exact R27.short_end (by assumption) i1_1)), rfl⟩
set_option maxRecDepth 20000 in
theorem f20_ok (a : List Change) (aA : Option Addr) (aC : Nat) (b : List Change) (bA : Option Addr) (bC : Nat) (w : World) (aR : RO [] w aA (a.flatMap Change.enc)) (bR : RO [] w bA (b.flatMap Change.enc)) (q0 : a.length ≤ 9223372036854775807) : Calls Tryz.prog 20 #[vL aA a.length aC, vL bA b.length bC] w (Gives [] w fun v L => v = vB (decide (a = b)) ∧ L = []) := by
 refine calls_J [] 26 Tryz.func20 rfl Tryz.ntmps20 [(0, _), (1, _)] rfl rfl (Give.nil w) ?_
 refine q_ (g_ (s_ av_ (z_ (n_ (q_ (q_ (g_ (s_ mv_ (s_ (lnS Tryz.underlying25) (s_ mv_ (s_ (lnS Tryz.underlying25) (s_ (x_neq_i rfl rfl) (z_ (n_ ?_))))))))))))))
 refine ifd (fun h1w h1 => ?_) (fun h1w h1 => ?_)
 ·refine q_ (g_ (s_ av_ (z_ (n_ (rt_ (nr_ ?_))))))
  exact p1 Tryz.results20 rfl ⟨(eB c27i1_), rfl⟩
 ·refine sk_ (n_ (q_ (q_ (g_ (s_ av_ (z_ (n_ (k_ ?_))))))))
  refine J_loop (X := Nat) (fun (k : Nat) => (k ≤ a.length) ∧ (a.length = b.length) ∧ (∀ i, i < k → a.getD i default = b.getD i default)) (fun (k : Nat) => [(0, vL aA a.length aC), (1, vL bA b.length bC), (5, vI ((k : Nat) : Int))]) (fun (k : Nat) => []) (fun (k : Nat) => a.length - k) (0 : Nat) ?_ ⟨rfl, rfl, rfl, trivial⟩ (fun _ h => h) ?_
  ·try dsimp only
   refine ⟨?_, ?_, ?_⟩
   ·first | rfl | omega | (simp_all; done) | (simp_all; omega)
   ·first | rfl | omega | (simp_all; done) | (simp_all; omega)
   ·intro i hi; omega
  intro k hI1
  obtain ⟨i1_0, i1_1, i1_2⟩ := hI1
  try dsimp only at i1_0
  try dsimp only at i1_1
  try dsimp only at i1_2
  try dsimp only
  refine q_ (q_ (g_ (s_ mv_ (s_ mv_ (s_ (lnS Tryz.underlying25) (s_ (x_lss_i rfl rfl) (z_ (n_ ?_))))))))
  refine ifd (fun h2w h2 => ?_) (fun h2w h2 => ?_)
  ·refine sk_ (n_ (q_ (k_ (q_ ?_))))
   refine drB [] 9 Ty.mixed ?_
   refine jp_ 0 rfl mv_ (jp_ 1 rfl mv_ (jq_ 2 rfl (ixF Change.enc_len (cells_ro aR) Tryz.underlying25 Ty.sz27) (jq_ 3 rfl (ldFN Change.enc_len (cells_ro aR) Ty.ag27 Ty.sz27) (jp_ 4 rfl mv_ (jp_ 5 rfl mv_ (jq_ 6 rfl (ixF Change.enc_len (cells_ro bR) Tryz.underlying25 Ty.sz27) (jq_ 7 rfl (ldFN Change.enc_len (cells_ro bR) Ty.ag27 Ty.sz27) (jp_ 8 rfl (x_neq_agg rfl rfl Ty.eg27 (Ty.eq27 9998 (a.getD k default) (b.getD k default))) ?_))))))))
   refine JA_done (by kernel_rfl) gm_ ?_
   refine n_ ?_
   refine if_ (fun h3 => ?_) (fun h3 => ?_)
   ·have h3w := h3
    have h3 : (decide (((a.getD k default) : Change) = (b.getD k default))) = false := bnot_true h3
    have h3 := of_decide_eq_false h3
    refine q_ (g_ (s_ av_ (z_ (n_ (rt_ (kq_ (nr_ (rr_ (kq_ (nr_ ?_))))))))))
    exact p1 Tryz.results20 rfl ⟨(eB c27i1_), rfl⟩
   ·have h3w := h3
    have h3 : (decide (((a.getD k default) : Change) = (b.getD k default))) = true := bnot_false h3
    have h3 := of_decide_eq_true h3
    refine sk_ (kx_ (n_ (g_ (s_ mv_ (s_ (x_add_n (a := k) (b := 1) rfl rfl (by omega)) (s_ av_ (z_ ?_)))))))
    refine JX_round (k + 1 : Nat) ?_ ?_ ⟨rfl, rfl, rfl, trivial⟩ (fun _ h => h)
    ·try dsimp only
     refine ⟨?_, ?_, ?_⟩
     ·first | rfl | omega | (simp_all; done) | (simp_all; omega)
     ·first | rfl | omega | (simp_all; done) | (simp_all; omega)
     ·intro i hi; by_cases hik : i = k
      ·subst hik; first | assumption | exact Decidable.not_not.1 (by assumption) | simp_all
      ·exact i1_2 i (by omega)
    ·try dsimp only
     first | omega | (simp; omega) | (simp_all; omega)
  ·refine J_exit (ne_ (re_ (kh_ (n_ (q_ ?_)))))
   refine g_ (s_ av_ (z_ (n_ (rt_ ?_))))
   exact p1 Tryz.results20 rfl ⟨(eB c27i1_), rfl⟩
end Go.Proofs.YtmbinhhlfbgiaaaGreat

namespace Go.Proofs.YtmbinhhlfbgiaaaGreat
open Go.GV
namespace R27
def setStep (x : Pair) (st : List Pair × Bool) (p : Pair) : List Pair × Bool :=
  let s1 := if (!st.2 && !(Op.bytesLess p.key x.key)) = true then (st.1 ++ [x], true) else st
  (if p.key ≠ x.key then s1.1 ++ [p] else s1.1, s1.2)
def setGo (x : Pair) (e : Bool) (l : List Pair) : List Pair × Bool := l.foldl (setStep x) ([], e)
def setP (l : List Pair) (x : Pair) (e : Bool) : List Pair := if (setGo x e l).2 = true then (setGo x e l).1 else (setGo x e l).1 ++ [x]
def chg (l : List Pair) (c : Change) (key : Bytes) : List Pair :=
  if c.Kind = 0 then setP l ⟨c.Key, c.Record⟩ false else if c.Kind = 1 then setP l ⟨c.Key, []⟩ true else if c.Kind = 2 then setP l ⟨key, c.Record⟩ false else if c.Kind = 3 then [] else l
section
variable {x : Pair} {e : Bool} {l o : List Pair} {d : Bool} {k : Nat}
theorem set_step (hk : k < l.length) : setGo x e (l.take (k + 1)) = setStep x (setGo x e (l.take k)) (l.getD k default) := R02.fold_take _ _ l default k hk
theorem set_in_in (hk : k < l.length) (h : (o, d) = setGo x e (l.take k)) (h1 : (!d && !(Op.bytesLess (l.getD k default).key x.key)) = true) (h2 : (l.getD k default).key ≠ x.key) : ((o ++ [x]) ++ [l.getD k default], true) = setGo x e (l.take (k + 1)) := by
  rw [set_step hk, ← h]; unfold setStep; simp only [h1, if_true]; rw [if_pos h2]
theorem set_in_no (hk : k < l.length) (h : (o, d) = setGo x e (l.take k)) (h1 : (!d && !(Op.bytesLess (l.getD k default).key x.key)) = true) (h2 : ¬ (l.getD k default).key ≠ x.key) : (o ++ [x], true) = setGo x e (l.take (k + 1)) := by
  rw [set_step hk, ← h]; unfold setStep; simp only [h1, if_true]; rw [if_neg h2]
theorem set_no_in (hk : k < l.length) (h : (o, d) = setGo x e (l.take k)) (h1 : (!d && !(Op.bytesLess (l.getD k default).key x.key)) = false) (h2 : (l.getD k default).key ≠ x.key) : (o ++ [l.getD k default], d) = setGo x e (l.take (k + 1)) := by
  rw [set_step hk, ← h]; unfold setStep; simp only [h1, Bool.false_eq_true, if_false]; rw [if_pos h2]
theorem set_no_no (hk : k < l.length) (h : (o, d) = setGo x e (l.take k)) (h1 : (!d && !(Op.bytesLess (l.getD k default).key x.key)) = false) (h2 : ¬ (l.getD k default).key ≠ x.key) : (o, d) = setGo x e (l.take (k + 1)) := by
  rw [set_step hk, ← h]; unfold setStep; simp only [h1, Bool.false_eq_true, if_false]; rw [if_neg h2]
theorem set_done (hk : l.length ≤ k) (h : (o, d) = setGo x e (l.take k)) (h1 : (!d) = false) : o = setP l x e := by
  rw [List.take_of_length_le hk] at h
  unfold setP; rw [← h]; rw [if_pos (not_f h1)]
theorem set_last (hk : l.length ≤ k) (h : (o, d) = setGo x e (l.take k)) (h1 : (!d) = true) : o ++ [x] = setP l x e := by
  rw [List.take_of_length_le hk] at h
  unfold setP; rw [← h]; rw [if_neg (by rw [not_t h1]; simp)]
theorem setGo_len (x : Pair) (l : List Pair) : ∀ (o : List Pair) (d : Bool), (l.foldl (setStep x) (o, d)).1.length + (if (l.foldl (setStep x) (o, d)).2 = true then 0 else 1) ≤ o.length + l.length + (if d = true then 0 else 1) := by
  induction l with
  | nil => intro o d; exact Nat.le_refl _
  | cons p l ih =>
    intro o d
    rw [List.foldl_cons]
    generalize hs : setStep x (o, d) p = s
    obtain ⟨o2, d2⟩ := s
    refine Nat.le_trans (ih o2 d2) ?_
    unfold setStep at hs
    generalize Op.bytesLess p.key x.key = bb at hs
    cases bb <;> cases d <;> by_cases hk : p.key = x.key <;> simp [hk] at hs <;> obtain ⟨rfl, rfl⟩ := hs <;> simp <;> omega
theorem setP_len (l : List Pair) (x : Pair) (e : Bool) : (setP l x e).length ≤ l.length + 1 := by
  have := setGo_len x l [] e
  unfold setP
  change (setGo x e l).1.length + (if (setGo x e l).2 = true then 0 else 1) ≤ _ at this
  cases h : (setGo x e l).2 <;> rw [h] at this <;> cases e <;> simp at this <;> simp <;> omega
theorem chg_len (l : List Pair) (c : Change) (key : Bytes) : (chg l c key).length ≤ l.length + 1 := by
  unfold chg
  split
  · exact setP_len _ _ _
  · split
    · exact setP_len _ _ _
    · split
      · exact setP_len _ _ _
      · split <;> simp
theorem setGo_mem (x : Pair) (p : Pair) : ∀ (l o : List Pair) (d : Bool), p ∈ (l.foldl (setStep x) (o, d)).1 → p ∈ o ∨ p ∈ l ∨ p = x
  | [], o, d, h => .inl h
  | q :: l, o, d, h => by
    rw [List.foldl_cons] at h
    generalize hs : setStep x (o, d) q = s at h
    obtain ⟨o2, d2⟩ := s
    rcases setGo_mem x p l o2 d2 h with h1 | h1 | h1
    · unfold setStep at hs
      have hq : p ∈ o ∨ p = q ∨ p = x := by
        have e := congrArg Prod.fst hs
        simp only at e
        rw [← e] at h1
        split at h1
        · rcases List.mem_append.1 h1 with h1 | h1
          · split at h1
            · rcases List.mem_append.1 h1 with h1 | h1
              · exact .inl h1
              · exact .inr (.inr (by simpa using h1))
            · exact .inl h1
          · exact .inr (.inl (by simpa using h1))
        · split at h1
          · rcases List.mem_append.1 h1 with h1 | h1
            · exact .inl h1
            · exact .inr (.inr (by simpa using h1))
          · exact .inl h1
      rcases hq with h2 | h2 | h2
      · exact .inl h2
      · exact .inr (.inl (by simp [h2]))
      · exact .inr (.inr h2)
    · exact .inr (.inl (by simp [h1]))
    · exact .inr (.inr h1)
theorem setP_mem0 {p : Pair} (h : p ∈ setP l x e) : p ∈ l ∨ p = x := by
  unfold setP at h
  have : p ∈ (setGo x e l).1 ∨ p = x := by
    split at h
    · exact .inl h
    · rcases List.mem_append.1 h with h | h
      · exact .inl h
      · exact .inr (by simpa using h)
  rcases this with h | h
  · rcases setGo_mem x p l [] e h with h1 | h1 | h1
    · cases h1
    · exact .inl h1
    · exact .inr h1
  · exact .inr h
end
theorem nin {d b : Bool} (h : d = false) (h2 : b = false) : (!d && !b) = true := by rw [h, h2]; rfl
theorem nout1 {d b : Bool} (h : d = true) : (!d && !b) = false := by rw [h]; rfl
theorem nout2 {d b : Bool} (h : b = true) : (!d && !b) = false := by rw [h]; cases d <;> rfl
theorem chg0 {l : List Pair} {c : Change} {key : Bytes} (h : c.Kind = 0) : setP l (Pair.mk c.Key c.Record) false = chg l c key := (if_pos h).symm
theorem chg1 {l : List Pair} {c : Change} {key : Bytes} (h : c.Kind = 1) : setP l (Pair.mk c.Key []) true = chg l c key := by unfold chg; rw [if_neg (by omega), if_pos h]
theorem chg2 {l : List Pair} {c : Change} {key : Bytes} (h : c.Kind = 2) : setP l (Pair.mk key c.Record) false = chg l c key := by unfold chg; rw [if_neg (by omega), if_neg (by omega), if_pos h]
theorem chg3 {l : List Pair} {c : Change} {key : Bytes} (h : c.Kind = 3) : ([] : List Pair) = chg l c key := by unfold chg; rw [if_neg (by omega), if_neg (by omega), if_neg (by omega), if_pos h]
def isAt (ds : List Data) (id : Int) : Bool := ds.any fun x => decide (x.Id = id)
def repl (id : Int) (v : List Pair) (A : Option Addr) (C : Nat) : List Data → List Data
  | [] => []
  | x :: l => if x.Id = id then ⟨x.Id, v, A, C⟩ :: l else x :: repl id v A C l
def doD (ds : List Data) (c : Change) (key : Bytes) (A : Option Addr) (C : Nat) : List Data :=
  if isAt ds c.Id = true then repl c.Id (chg (ofP ds c.Id) c key) A C ds else ds ++ [⟨c.Id, chg [] c key, A, C⟩]
section
variable {ds : List Data} {c : Change} {key : Bytes} {A : Option Addr} {C k : Nat} {id : Int} {v : List Pair} {x : Data}
theorem isAt_append (ds : List Data) (x : Data) (id : Int) : isAt (ds ++ [x]) id = (isAt ds id || decide (x.Id = id)) := by unfold isAt; simp
theorem repl_none : ∀ {ds : List Data}, isAt ds id = false → repl id v A C ds = ds
  | [], _ => rfl
  | x :: l, h => by
    unfold isAt at h
    rw [List.any_cons, Bool.or_eq_false_iff] at h
    unfold repl
    rw [if_neg (of_decide_eq_false h.1), repl_none (ds := l) h.2]
theorem repl_snoc : ∀ (ds : List Data), isAt ds id = true → repl id v A C (ds ++ [x]) = repl id v A C ds ++ [x]
  | [], h => by cases h
  | y :: l, h => by
    show repl id v A C (y :: (l ++ [x])) = _
    unfold repl
    by_cases hy : y.Id = id
    · rw [if_pos hy, if_pos hy]; rfl
    · rw [if_neg hy, if_neg hy, repl_snoc l (by unfold isAt at h ⊢; rw [List.any_cons, decide_eq_false hy] at h; simpa using h)]; rfl
theorem repl_hit : ∀ (ds : List Data), isAt ds id = false → x.Id = id → repl id v A C (ds ++ [x]) = ds ++ [⟨x.Id, v, A, C⟩]
  | [], _, hx => by show repl id v A C [x] = _; unfold repl; rw [if_pos hx]; rfl
  | y :: l, h, hx => by
    unfold isAt at h
    rw [List.any_cons, Bool.or_eq_false_iff] at h
    show repl id v A C (y :: (l ++ [x])) = _
    unfold repl
    rw [if_neg (of_decide_eq_false h.1), repl_hit l h.2 hx]; rfl
theorem repl_len (id : Int) (v : List Pair) (A : Option Addr) (C : Nat) : ∀ ds : List Data, (repl id v A C ds).length = ds.length
  | [] => rfl
  | y :: l => by
    unfold repl
    split
    · rfl
    · rw [List.length_cons, repl_len id v A C l, List.length_cons]
theorem doD_len (ds : List Data) (c : Change) (key : Bytes) (A : Option Addr) (C : Nat) : (doD ds c key A C).length ≤ ds.length + 1 := by
  unfold doD
  split
  · rw [repl_len]; omega
  · simp
theorem ofD_app (ds : List Data) (x : Data) (id : Int) : ofD (ds ++ [x]) id = if isAt ds id = true then ofD ds id else if x.Id = id then x else default := by
  unfold ofD isAt
  rw [List.find?_append]
  cases h : ds.find? fun y => decide (y.Id = id) with
  | some y =>
    have hy := List.find?_some h
    have hm := List.mem_of_find?_eq_some h
    rw [if_pos (List.any_eq_true.2 ⟨y, hm, hy⟩)]; rfl
  | none =>
    have hn : (ds.any fun y => decide (y.Id = id)) = false := by
      rw [List.any_eq_false]; intro y hy; have := List.find?_eq_none.1 h y hy; exact this
    rw [hn]
    by_cases hx : x.Id = id
    · simp [hx]
    · simp [hx]
theorem ofD_repl (id : Int) (v : List Pair) (A : Option Addr) (C : Nat) (id2 : Int) : ∀ (ds : List Data), ofP (repl id v A C ds) id2 = if id2 = id ∧ isAt ds id = true then v else ofP ds id2
  | [] => by unfold repl isAt; simp
  | y :: l => by
    have ih := ofD_repl id v A C id2 l
    unfold ofP ofD at ih ⊢
    unfold repl
    by_cases hy : y.Id = id
    · rw [if_pos hy]
      by_cases h2 : id2 = id
      · subst h2
        rw [if_pos ⟨rfl, by unfold isAt; simp [hy]⟩]
        simp [hy]
      · rw [if_neg (fun h => h2 h.1)]
        have : ¬ y.Id = id2 := fun h => h2 (h ▸ hy)
        simp [this]
    · rw [if_neg hy]
      by_cases hy2 : y.Id = id2
      · have : ¬ id2 = id := fun h => hy (hy2.trans h)
        rw [if_neg (fun h => this h.1)]
        simp [hy2]
      · rw [List.find?_cons, decide_eq_false hy2]
        simp only [List.find?_cons, decide_eq_false hy2]
        rw [ih]
        have : isAt (y :: l) id = isAt l id := by unfold isAt; simp [hy]
        rw [this]
theorem ofP_none {ds : List Data} (h : isAt ds id = false) : ofP ds id = [] := by
  unfold ofP ofD
  have : ds.find? (fun y => decide (y.Id = id)) = none := by
    rw [List.find?_eq_none]; intro y hy; have := List.any_eq_false.1 h y hy; simpa using this
  rw [this]; rfl
theorem ofP_doD (ds : List Data) (c : Change) (key : Bytes) (A : Option Addr) (C : Nat) (id : Int) : ofP (doD ds c key A C) id = if id = c.Id then chg (ofP ds id) c key else ofP ds id := by
  unfold doD
  by_cases h : isAt ds c.Id = true
  · rw [if_pos h, ofD_repl]
    by_cases hi : id = c.Id
    · subst hi; rw [if_pos ⟨rfl, h⟩, if_pos rfl]
    · rw [if_neg (fun h => hi h.1), if_neg hi]
  · rw [if_neg h]
    rw [Bool.not_eq_true] at h
    unfold ofP
    rw [ofD_app]
    by_cases hi : id = c.Id
    · subst hi
      have hn := ofP_none h
      unfold ofP at hn
      rw [h, if_neg (by simp), if_pos rfl, if_pos rfl, hn]
    · rw [if_neg hi]
      by_cases h2 : isAt ds id = true
      · rw [if_pos h2]
      · rw [if_neg h2, if_neg (fun h => hi h.symm)]
        rw [Bool.not_eq_true] at h2
        exact (ofP_none h2).symm
theorem repl_ro {S : List Nat} {w : World} (h2 : RO S w A (v.flatMap Pair.enc)) : ∀ {ds : List Data}, (∀ i : Nat, RO S w (ds.getD i default).PairsA ((ds.getD i default).Pairs.flatMap Pair.enc)) → ∀ i : Nat, RO S w ((repl id v A C ds).getD i default).PairsA (((repl id v A C ds).getD i default).Pairs.flatMap Pair.enc)
  | [], h => h
  | y :: l, h => by
    have h1 := h 0
    have h3 : ∀ i : Nat, RO S w (l.getD i default).PairsA ((l.getD i default).Pairs.flatMap Pair.enc) := fun i => h (i + 1)
    unfold repl
    split
    · exact ron_cons (a := (⟨y.Id, v, A, C⟩ : Data)) h2 h3
    · exact ron_cons (a := y) h1 (repl_ro h2 h3)
theorem app_ro {S : List Nat} {w : World} (h2 : RO S w x.PairsA (x.Pairs.flatMap Pair.enc)) : ∀ {ds : List Data}, (∀ i : Nat, RO S w (ds.getD i default).PairsA ((ds.getD i default).Pairs.flatMap Pair.enc)) → ∀ i : Nat, RO S w ((ds ++ [x]).getD i default).PairsA (((ds ++ [x]).getD i default).Pairs.flatMap Pair.enc)
  | [], h => ron_cons h2 h
  | y :: l, h => ron_cons (a := y) (h 0) (app_ro h2 (ds := l) fun i => h (i + 1))
theorem doD_ro {S : List Nat} {w : World} (h : ∀ i : Nat, RO S w (ds.getD i default).PairsA ((ds.getD i default).Pairs.flatMap Pair.enc)) (h2 : RO S w A ((chg (ofP ds c.Id) c key).flatMap Pair.enc)) : ∀ i : Nat, RO S w ((doD ds c key A C).getD i default).PairsA (((doD ds c key A C).getD i default).Pairs.flatMap Pair.enc) := by
  unfold doD
  by_cases hh : isAt ds c.Id = true
  · rw [if_pos hh]; exact repl_ro h2 h
  · rw [if_neg hh]
    rw [Bool.not_eq_true] at hh
    rw [ofP_none hh] at h2
    exact app_ro (x := ⟨c.Id, chg [] c key, A, C⟩) h2 h
def DoAt (ds : List Data) (c : Change) (key : Bytes) (k : Nat) (out : List Data) (found : Bool) (ps : List Pair) (A : Option Addr) (C : Nat) : Prop :=
  found = isAt (ds.take k) c.Id ∧ (found = false → ps = []) ∧ (found = true → ps = chg (ofP ds c.Id) c key) ∧ out = repl c.Id (chg (ofP ds c.Id) c key) A C (ds.take k)
theorem ofP_first (hk : k < ds.length) (h : isAt (ds.take k) id = false) (h2 : (ds.getD k default).Id = id) : ofP ds id = (ds.getD k default).Pairs := by
  unfold ofP
  rw [ofD_hit hk (fun i hi e => ?_) h2]
  have := List.any_eq_false.1 h (ds.getD i default) (by
    rw [List.getD_eq_getElem?_getD, List.getElem?_eq_getElem (by omega)]
    exact List.mem_of_getElem? (i := i) (by rw [List.getElem?_take, if_pos hi, List.getElem?_eq_getElem (by omega)]; rfl))
  rw [e, decide_eq_true rfl] at this; exact this rfl
theorem take_at (hk : k < ds.length) : ds.take (k + 1) = ds.take k ++ [ds.getD k default] := by
  rw [List.take_succ_eq_append_getElem hk, List.getD_eq_getElem?_getD, List.getElem?_eq_getElem hk]; rfl
theorem do_start : DoAt ds c key 0 [] false [] A C := ⟨rfl, fun _ => rfl, fun h => (by cases h), rfl⟩
variable {out : List Data} {ps : List Pair} {found : Bool}
theorem do_hit {A0 : Option Addr} {C0 : Nat} {ps2 : List Pair} (hk : k < ds.length) (h : DoAt ds c key k out found ps A0 C0) (h1a : (ds.getD k default).Id = c.Id) (h1b : found = false) (hp : ps2 = chg (ds.getD k default).Pairs c key) : DoAt ds c key (k + 1) (out ++ [⟨(ds.getD k default).Id, ps2, A, C⟩]) true ps2 A C := by
  obtain ⟨e1, e2, e3, e4⟩ := h
  have h1 := And.intro h1a h1b
  have hn : isAt (ds.take k) c.Id = false := by rw [← e1]; exact h1.2
  have hf := ofP_first hk hn h1.1
  refine ⟨?_, fun h => (by cases h), fun _ => by rw [hp, hf], ?_⟩
  · rw [take_at hk, isAt_append, decide_eq_true h1.1, Bool.or_true]
  · rw [take_at hk, repl_hit _ hn h1.1, e4, repl_none hn, hf, hp]
theorem do_on (hk : k < ds.length) (h : DoAt ds c key k out found ps A C) (h1 : ¬ (ds.getD k default).Id = c.Id ∨ found = true) : DoAt ds c key (k + 1) (out ++ [ds.getD k default]) found ps A C := by
  obtain ⟨e1, e2, e3, e4⟩ := h
  cases hf : found with
  | true =>
    rw [hf] at e1
    refine ⟨?_, fun h => (by cases h), fun _ => e3 hf, ?_⟩
    · rw [take_at hk, isAt_append, ← e1]; rfl
    · rw [take_at hk, repl_snoc _ e1.symm, e4]
  | false =>
    rw [hf] at e1 h1
    have hne : ¬ (ds.getD k default).Id = c.Id := h1.resolve_right (by simp)
    have hn : isAt (ds.take (k + 1)) c.Id = false := by rw [take_at hk, isAt_append, ← e1, decide_eq_false hne]; rfl
    refine ⟨hn.symm, fun _ => e2 hf, fun h => (by cases h), ?_⟩
    rw [repl_none hn, e4, repl_none e1.symm, take_at hk]
theorem do_new {A0 : Option Addr} {C0 : Nat} (hk : ds.length ≤ k) (h : DoAt ds c key k out found ps A0 C0) (h1 : found = false) : out ++ [⟨c.Id, chg [] c key, A, C⟩] = doD ds c key A C := by
  obtain ⟨e1, e2, e3, e4⟩ := h
  rw [List.take_of_length_le hk] at e1 e4
  rw [h1] at e1
  unfold doD
  rw [if_neg (by rw [← e1]; simp), e4, repl_none e1.symm]
theorem do_old (hk : ds.length ≤ k) (h : DoAt ds c key k out found ps A C) (h1 : found = true) : out = doD ds c key A C ∧ ps = chg (ofP ds c.Id) c key := by
  obtain ⟨e1, e2, e3, e4⟩ := h
  rw [List.take_of_length_le hk] at e1 e4
  have hf := h1
  rw [hf] at e1
  refine ⟨?_, e3 hf⟩
  unfold doD
  rw [if_pos e1.symm, e4]
theorem do_newP (hk : ds.length ≤ k) {A0 : Option Addr} {C0 : Nat} (h : DoAt ds c key k out found ps A0 C0) (h1 : found = false) : chg [] c key = chg (ofP ds c.Id) c key := by
  obtain ⟨e1, e2, e3, e4⟩ := h
  rw [List.take_of_length_le hk] at e1
  rw [h1] at e1
  rw [ofP_none e1.symm]
end
end R27
end Go.Proofs.YtmbinhhlfbgiaaaGreat
