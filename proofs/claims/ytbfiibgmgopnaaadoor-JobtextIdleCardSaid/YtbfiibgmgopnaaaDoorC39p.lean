/- contracts C39p -/
import Derived.Test.YtbfiibgmgopnaaaDoorAll22
set_option linter.unusedVariables false
set_option linter.unusedSimpArgs false
namespace Go.Proofs.YtbfiibgmgopnaaaDoor
open Go.GV
set_option linter.unusedVariables false
set_option linter.unusedSimpArgs false
theorem c39p0_ {p : Prop} (h : p := by first | omega | (simp only [List.length_append, List.length_cons, List.length_nil]; omega) | (simp; omega) | (simp_all; omega)) : p := h
theorem c39p1_ {p : Prop} (h : p := by first | exact row_max (hS.mem (j := 0) rfl) | exact row_max (hS.mem (j := 1) rfl) | exact row_max (hS.mem (j := 2) rfl) | exact row_max (hS.mem (j := 3) rfl) | exact row_max (hS.mem (j := 4) rfl) | exact row_max (hS.mem (j := 5) rfl) | exact row_max (hS.mem (j := 6) rfl) | exact row_max (hS.mem (j := 7) rfl) | exact row_max (hS.mem (j := 8) rfl)) : p := h
set_option maxRecDepth 20000 in
theorem f8_ok (text : Bytes) (l : List Bytes) (lA : Option Addr) (lC : Nat) (w : World) (lR : RO [] w lA (l.map vS)) (hT : Tab [] w) (q0 : l.length ≤ 9223372036854775807) : Calls Tryd.prog 8 #[vS text, vL lA l.length lC] w (Gives [] w fun v L => v = vB true ∧ L = []) := by
 refine calls_J [] 116 Tryd.func8 rfl Tryd.ntmps8 [(0, _), (1, _)] rfl rfl (Give.nil w) ?_
 refine q_ (g_ (s_ av_ (z_ (n_ (q_ (q_ (g_ (c0 (cl_ Ty.ca9) (fun w hS => f9_ok w (hT.on hS (fun _ h => by cases h))) (jr_ (vB false) (z_ (n_ (iff_ (sk_ (n_ (q_ (q_ (g_ (s_ mv_ (s_ (x_len_s rfl Tryd.underlying9) (s_ (x_gtr_i rfl rfl) ?_))))))))))))))))))))
 refine s_ mv_ ?_
 refine or_ 3 (decide ((20 : Int) < ((l.length : Nat) : Int))) (fun g1 => ?_) ?_
 ·have g1r := g1
  have g1r := of_decide_eq_false g1r
  refine sg_ g1 mv_ (sg_ g1 (lnS Tryd.underlying24) (sg_ g1 (x_gtr_i rfl rfl) ?_))
  exact cr_
 refine z_ (n_ ?_)
 refine if_ (fun h2 => ?_) (fun h2 => ?_)
 ·have h2w := h2
  simp only [Bool.and_eq_true, Bool.or_eq_true, Bool.and_eq_false_iff, Bool.or_eq_false_iff, Bool.not_eq_true', Bool.not_eq_false', decide_eq_true_eq, decide_eq_false_iff_not] at h2
  refine q_ (g_ (s_ av_ (z_ (n_ (rt_ (nr_ ?_))))))
  exact p1 Tryd.results8 rfl ⟨rfl, rfl⟩
 ·have h2w := h2
  have ⟨h2, h3⟩ := bor_false h2
  have h2 := of_decide_eq_false h2
  have h3 := of_decide_eq_false h3
  refine sk_ (n_ (q_ (g_ (s_ av_ (z_ (n_ (q_ (q_ (g_ (s_ mv_ (s_ (lnS Tryd.underlying24) (s_ mv_ (z_ (n_ (k_ ?_)))))))))))))))
  refine J_loop (X := Nat × Bytes) (fun (⟨k, bf⟩ : Nat × Bytes) => (k ≤ l.length) ∧ (bf = R39.body (R39.idles (l.take k))) ∧ (∀ i, i < k → (10 : UInt8) ∉ l.getD i []) ∧ (bf.length ≤ 125 * k)) (fun (⟨k, bf⟩ : Nat × Bytes) => [(0, vS text), (1, vL lA l.length lC), (5, vS bf), (26, vL lA l.length lC), (27, vI ((l.length : Nat) : Int)), (28, vI ((k : Nat) : Int))]) (fun (⟨k, bf⟩ : Nat × Bytes) => []) (fun (⟨k, bf⟩ : Nat × Bytes) => l.length - k) ((0, []) : Nat × Bytes) ?_ ⟨rfl, rfl, rfl, rfl, rfl, rfl, trivial⟩ (fun _ h => h) ?_
  ·try dsimp only
   refine ⟨?_, ?_, ?_, ?_⟩
   ·first | rfl | omega | (simp_all; done) | (simp_all; omega)
   ·rfl
   ·exact fun i hi => absurd hi (Nat.not_lt_zero i)
   ·first | rfl | omega | (simp_all; done) | (simp_all; omega)
  rintro ⟨k, bf⟩ hI1
  obtain ⟨i1_0, i1_1, i1_2, i1_3⟩ := hI1
  try dsimp only at i1_0
  try dsimp only at i1_1
  try dsimp only at i1_2
  try dsimp only at i1_3
  try dsimp only
  refine q_ (g_ (s_ (x_lss_i rfl rfl) (z_ (n_ (q_ ?_)))))
  refine ifd (fun h4w h4 => ?_) (fun h4w h4 => ?_)
  ·refine sk_ (n_ (q_ (k_ (q_ (g_ (r_ (ixM (cells_ro lR) Tryd.underlying24 Ty.sz9) (r_ (ldM vS [] (cells_ro lR) Ty.sc9) (s_ av_ (z_ (n_ (q_ (q_ (g_ (s_ mv_ (s_ (x_len_s rfl Tryd.underlying9) (s_ (x_gtr_i rfl rfl) (z_ (n_ ?_))))))))))))))))))
   refine ifd (fun h5w h5 => ?_) (fun h5w h5 => ?_)
   ·refine q_ (g_ (s_ av_ (z_ (n_ (rt_ (nr_ (kq_ (nr_ (rr_ (kq_ (nr_ ?_)))))))))))
    exact p1 Tryd.results8 rfl ⟨rfl, rfl⟩
   ·refine sk_ (n_ (q_ (q_ (g_ (s_ mv_ (s_ (x_len_s rfl Tryd.underlying9) (s_ mv_ (z_ (n_ (k_ ?_))))))))))
    refine J_loop (X := Nat) (fun (j : Nat) => (j ≤ (l.getD k []).length) ∧ (∀ i, i < j → (l.getD k []).getD i 0 ≠ 10)) (fun (j : Nat) => [(0, vS text), (1, vL lA l.length lC), (5, vS bf), (26, vL lA l.length lC), (27, vI ((l.length : Nat) : Int)), (28, vI ((k : Nat) : Int)), (7, vS (l.getD k [])), (36, vI (((l.getD k []).length : Nat) : Int)), (37, vI ((j : Nat) : Int))]) (fun (j : Nat) => []) (fun (j : Nat) => (l.getD k []).length - j) (0 : Nat) ?_ ⟨rfl, rfl, rfl, rfl, rfl, rfl, rfl, rfl, rfl, trivial⟩ (fun _ h => h) ?_
    ·try dsimp only
     refine ⟨?_, ?_⟩
     ·first | rfl | omega | (simp_all; done) | (simp_all; omega)
     ·exact fun i hi => absurd hi (Nat.not_lt_zero i)
    intro j hI2
    obtain ⟨i2_0, i2_1⟩ := hI2
    try dsimp only at i2_0
    try dsimp only at i2_1
    try dsimp only
    refine q_ (g_ (s_ (x_lss_i rfl rfl) (z_ (n_ (q_ ?_)))))
    refine ifd (fun h6w h6 => ?_) (fun h6w h6 => ?_)
    ·refine sk_ (n_ (q_ (k_ (q_ (g_ (s_ mv_ (s_ av_ (z_ (n_ (q_ (g_ (s_ mv_ (s_ mv_ (s_ (x_idx_s (k := j) rfl rfl Tryd.underlying9 (by omega)) (js_ (vB (decide ((l.getD k []).getD j 0 = (10 : UInt8)))) (x_eql_u8 rfl rfl) (z_ (n_ ?_)))))))))))))))))
     refine ifd (fun h7w h7 => ?_) (fun h7w h7 => ?_)
     ·refine q_ (g_ (s_ av_ (z_ (n_ (rt_ (kq_ (nr_ (rr_ (kq_ (nr_ (kq_ (nr_ (rr_ (kq_ ?_))))))))))))))
      refine nr_ ?_
      exact p1 Tryd.results8 rfl ⟨rfl, rfl⟩
     ·refine sk_ (kx_ (n_ (g_ (s_ (x_add_n (a := j) (b := 1) rfl rfl (by omega)) (s_ mv_ (z_ ?_))))))
      refine JX_round (j + 1 : Nat) ?_ ?_ ⟨rfl, rfl, rfl, rfl, rfl, rfl, rfl, rfl, rfl, trivial⟩ (fun _ h => h)
      ·try dsimp only
       refine ⟨?_, ?_⟩
       ·first | rfl | omega | (simp_all; done) | (simp_all; omega)
       ·exact R39.no_step i2_1 (by assumption)
      ·try dsimp only
       first | omega | (simp; omega) | (simp_all; omega)
    ·refine J_exit (ne_ (re_ ?_))
     have hno := R39.no_of i2_1 (by omega)
     refine kh_ (n_ (g_ (s_ mv_ (s_ mv_ (js_ (vS ([32, 32, 35] ++ (l.getD k []))) (x_cat_s rfl rfl c39p0_) (js_ (vS (([32, 32, 35] ++ (l.getD k [])) ++ [10])) (x_cat_s rfl rfl c39p0_) (s_ mv_ (s_ (x_len_s rfl Tryd.underlying9) (c0 (cl_ Ty.ca21) (fun w hS => rep_ok [32] _ w hy_ hy_ hy_) ?_)))))))))
     have ha8 := rep_length [32] (((l.getD k []).length : Nat) : Int).toNat
     try simp only [List.length_cons, List.length_nil, Nat.zero_add, Nat.reduceAdd, Nat.reduceMul] at ha8
     refine s_ (x_cat_s rfl rfl c39p0_) (js_ (vS (((([32, 32, 35] ++ (l.getD k [])) ++ [10]) ++ (rep [32] (((l.getD k []).length : Nat) : Int).toNat)) ++ [10])) (x_cat_s rfl rfl c39p0_) (s_ (x_cat_s rfl rfl c39p0_) (s_ av_ (z_ (kx_ (n_ (g_ (s_ (x_add_n (a := k) (b := 1) rfl rfl (by omega)) (s_ mv_ (z_ ?_))))))))))
     refine JX_round ((k + 1, bf ++ (((([32, 32, 35] ++ (l.getD k [])) ++ [10]) ++ (rep [32] (((l.getD k []).length : Nat) : Int).toNat)) ++ [10])) : Nat × Bytes) ?_ ?_ ⟨rfl, rfl, rfl, rfl, rfl, rfl, trivial⟩ (fun _ h => h)
     ·try dsimp only
      refine ⟨?_, ?_, ?_, ?_⟩
      ·first | rfl | omega | (simp_all; done) | (simp_all; omega)
      ·exact R39.idle_step (by omega) i1_1
      ·exact R39.all_step (p := fun s => (10 : UInt8) ∉ s) i1_2 hno
      ·simp only [List.length_append, List.length_cons, List.length_nil]; omega
     ·try dsimp only
      first | omega | (simp; omega) | (simp_all; omega)
  ·refine J_exit (ne_ (re_ (kh_ (n_ (q_ ?_)))))
   refine q_ (g_ (s_ mv_ (c0 (cl_ Ty.ca22) (fun w hS => count_ok 10 text w) (s_ (x_gtr_i rfl rfl) (z_ (n_ ?_))))))
   refine ifd (fun h9w h9 => ?_) (fun h9w h9 => ?_)
   ·refine q_ (g_ (s_ av_ (z_ (n_ (rt_ (nr_ ?_))))))
    exact p1 Tryd.results8 rfl ⟨rfl, rfl⟩
   ·refine sk_ (n_ (q_ (g_ (s_ mv_ ?_))))
    refine JO_callB [] [] [] rfl trivial (fun _ => x_call Ty.ca19 rfl) (fun _ h => h) (fun _ h => by cases h) (fun w hS => f19_ok text w (hT.on hS (fun _ h => by cases h)) hy_) ?_
    rintro wc _ _ wbhB16 ⟨fl10, fc11, y12, yA13, yC14, rfl, rfl, kf17, hf15⟩ hc0 hB16
    have lR := lR.again hB16
    have hT := hT.again hB16
    have kf170 := kf17.mono (lown_rangeAF (w00 := w) hc0 hc0.fr.size)
    have kf17 := kf17.mono (lown_rangeA hc0)
    have ha18 := R39.exp_num (by assumption : R39.ExpJ text y12 fl10 fc11)
    refine s_ mv_ (s_ (ex_ 0) (s_ (ex_ 1) (s_ (ex_ 2) (s_ av_ (s_ av_ (s_ av_ (z_ (n_ (q_ (g_ (s_ mv_ (s_ mv_ ?_))))))))))))
    refine s_ (x_cat_s rfl rfl c39p0_) ?_
    refine JO_callB [] [] [Ent.row (.slice yA13 y12.length yC14) 40 4 y12.length (y12.flatMap Statement.enc)] rfl trivial (fun _ => x_call Ty.ca19 rfl) (fun _ h => h) (fun _ h => by cases h) (fun w hS => f19_ok _ w (hT.on hS (fun _ h => by cases h)) hy_) ?_
    rintro wc _ _ wbhB25 ⟨fl19, fc20, y21, yA22, yC23, rfl, rfl, kf26, hf24⟩ hc0 hB25
    have lR := lR.again hB25
    have hT := hT.again hB25
    have kf170 := kf170.againF hB25
    have kf17 := kf17.again hB25
    have kf260 := kf26.mono (lown_rangeAF (w00 := w) hc0 (hB16.back _ _ hc0).fr.size)
    have kf26 := kf26.mono (lown_rangeA hc0)
    have ha27 := R39.exp_num (by assumption : R39.ExpJ (bf ++ text) y21 fl19 fc20)
    refine s_ mv_ (s_ (ex_ 0) (s_ (ex_ 1) (s_ (ex_ 2) (s_ av_ (s_ av_ (s_ av_ (z_ (xk_ [1, 9, 10, 11, 12, 13, 14] ?_))))))))
    refine n_ (q_ (q_ (g_ (s_ mv_ (s_ mv_ (s_ (x_neq_i rfl rfl) (s_ mv_ ?_)))))))
    refine or_ 5 (decide (((y12.length : Nat) : Int) ≠ ((y21.length : Nat) : Int))) (fun g28 => ?_) ?_
    ·have g28r := g28
     have g28r := of_decide_eq_false g28r
     refine sg_ g28 mv_ (sg_ g28 (lnS Tryd.underlying36) (sg_ g28 mv_ (sg_ g28 (lnS Tryd.underlying36) (sg_ g28 (x_neq_i rfl rfl) ?_))))
     exact cr_
    refine s_ mv_ ?_
    refine or_ 11 ((decide (fc11 ≠ 0)) && (decide (fl19 ≠ fl10 + ((2 * l.length : Nat) : Int)))) (fun g29 => ?_) ?_
    ·have g29r := g29
     have ⟨g29r, h30⟩ := bor_false g29r
     have g29r := of_decide_eq_false g29r
     have h30 := of_decide_eq_false h30
     refine sg_ g29 mv_ (sg_ g29 (x_neq_i rfl rfl) (sg_ g29 mv_ ?_))
     refine and_ 7 (decide (fl19 ≠ fl10 + ((2 * l.length : Nat) : Int))) (fun g31 => ?_) ?_ (hw := by exact ⟨_, rfl, g29⟩)
     ·have g31r := g31
      have g31r := of_decide_eq_true g31r
      refine sg_ g31 mv_ (sg_ g31 mv_ (sg_ g31 mv_ (sg_ g31 (lnS Tryd.underlying24) (sg_ g31 (x_mul_n (a := 2) (b := l.length) rfl rfl (by omega)) (sg_ g31 (x_add_i (a := fl10) (b := ((2 * l.length : Nat) : Int)) rfl rfl (by omega) (by omega)) (sg_ g31 (x_neq_i rfl rfl) ?_))))))
      exact cr_
     exact cr_
    refine z_ (n_ ?_)
    refine if_ (fun h32 => ?_) (fun h32 => ?_)
    ·have h32w := h32
     simp only [Bool.and_eq_true, Bool.or_eq_true, Bool.and_eq_false_iff, Bool.or_eq_false_iff, Bool.not_eq_true', Bool.not_eq_false', decide_eq_true_eq, decide_eq_false_iff_not] at h32
     exact (R39.Two.no (R39.idle_two i1_1 (by omega) i1_2 (by omega) (by omega) (by omega) (by omega) (by omega) hf15 hf24) (by assumption)).elim
    ·have h32w := h32
     have ⟨h32, h33⟩ := bor_false h32
     have ⟨h32, h34⟩ := bor_false h32
     have h32 := of_decide_eq_false h32
     have h34 := of_decide_eq_false h34
     simp only [Bool.and_eq_true, Bool.or_eq_true, Bool.and_eq_false_iff, Bool.or_eq_false_iff, Bool.not_eq_true', Bool.not_eq_false', decide_eq_true_eq, decide_eq_false_iff_not] at h33
     have hTw := (R39.idle_two i1_1 (by omega) i1_2 (by omega) (by omega) (by omega) (by omega) (by omega) hf15 hf24)
     refine sk_ (n_ (q_ (q_ (g_ (s_ mv_ (s_ (lnS Tryd.underlying36) (s_ mv_ (z_ (n_ (k_ ?_))))))))))
     refine J_loopB (X := Nat × (List Statement) × (Option Addr) × Nat) (fun (⟨k, z, zA, zC⟩ : Nat × (List Statement) × (Option Addr) × Nat) => (k ≤ y12.length) ∧ (z = R39.preM (R39.shF ((2 * l.length : Nat) : Int)) y12 k) ∧ (z.length = y12.length)) (fun (⟨k, z, zA, zC⟩ : Nat × (List Statement) × (Option Addr) × Nat) wx => Kp (Lown [Ent.row (.slice yA22 y21.length yC23) 40 4 y21.length (y21.flatMap Statement.enc), Ent.row (.slice zA z.length zC) 40 4 z.length (z.flatMap Statement.enc)] ++ List.range w.heap.size) wx (okL Statement.ok z)) (fun (⟨k, z, zA, zC⟩ : Nat × (List Statement) × (Option Addr) × Nat) => [(1, vL lA l.length lC), (9, vL zA z.length zC), (12, vL yA22 y21.length yC23), (97, vI ((y12.length : Nat) : Int)), (98, vI ((k : Nat) : Int))]) (fun (⟨k, z, zA, zC⟩ : Nat × (List Statement) × (Option Addr) × Nat) => [Ent.row (.slice yA22 y21.length yC23) 40 4 y21.length (y21.flatMap Statement.enc), Ent.row (.slice zA z.length zC) 40 4 z.length (z.flatMap Statement.enc)]) (fun (⟨k, z, zA, zC⟩ : Nat × (List Statement) × (Option Addr) × Nat) => y12.length - k) ((0, y12, yA13, yC14) : Nat × (List Statement) × (Option Addr) × Nat) ?_ ⟨rfl, rfl, rfl, rfl, rfl, trivial⟩ (fun _ h => h) (fun wx hw => (kf170.againF (hw))) ?_
     ·try dsimp only
      refine ⟨?_, ?_, ?_⟩
      ·first | rfl | omega | (simp_all; done) | (simp_all; omega)
      ·exact R39.preM_0
      ·rfl
     rintro ⟨k, z, zA, zC⟩ wb3 hI3 hW3 hB3
     have lR := lR.again hB3
     have hT := hT.again hB3
     have kf170 := kf170.againF hB3
     have kf17 := kf17.again hB3
     have kf260 := kf260.againF hB3
     have kf26 := kf26.again hB3
     have kz0 := hW3
     have kz := kz0.fromF
     obtain ⟨i3_0, i3_1, i3_2⟩ := hI3
     try dsimp only at i3_0
     try dsimp only at i3_1
     try dsimp only at i3_2
     have hzm : z.length ≤ 9223372036854775807 := by first | exact row_max (hB3.mem (j := 0) rfl) | exact row_max (hB3.mem (j := 1) rfl) | exact row_max (hB3.mem (j := 2) rfl) | exact row_max (hB3.mem (j := 3) rfl) | exact row_max (hB3.mem (j := 4) rfl) | exact row_max (hB3.mem (j := 5) rfl)
     have hzl := R39.preM_line i3_1 (R39.exp_num hf15).2
     try dsimp only
     refine q_ (g_ (s_ (x_lss_i rfl rfl) (z_ (n_ (q_ ?_)))))
     refine ifd (fun h35w h35 => ?_) (fun h35w h35 => ?_)
     ·refine sk_ (n_ (q_ (k_ (q_ (g_ (s_ mv_ (s_ av_ (z_ (n_ (g_ (s_ mv_ (s_ mv_ (r_ (ixF Statement.enc_len (cells_row 1 rfl) Tryd.underlying36 Ty.sz40) (s_ (fB0 Ty.fi40_0) (r_ (ldF0 Statement.enc_len (cells_row 1 rfl) Ty.sc3) (s_ mv_ ?_))))))))))))))))
      refine s_ (lnS Tryd.underlying24) (s_ (x_mul_n (a := 2) (b := l.length) rfl rfl (by omega)) (s_ (x_add_i (a := (z.getD k default).Line) (b := ((2 * l.length : Nat) : Int)) rfl rfl (by omega) (by omega)) (r_ (ixF Statement.enc_len (cells_row 1 rfl) Tryd.underlying36 Ty.sz40) (s_ (fB0 Ty.fi40_0) ?_))))
      refine o_ (O_store_row_c (a := (Statement.mk (((z.getD k default).Line) + ((2 * l.length : Nat) : Int)) (z.getD k default).Call (z.getD k default).Words (z.getD k default).WordsA (z.getD k default).WordsC (z.getD k default).Data (z.getD k default).DataA (z.getD k default).DataC)) (d := default) (xs := z) (k := k) (o := 0) 1 Statement.enc [Ent.row (.slice yA22 y21.length yC23) 40 4 y21.length (y21.flatMap Statement.enc), Ent.row (.slice zA (z.set k (Statement.mk (((z.getD k default).Line) + ((2 * l.length : Nat) : Int)) (z.getD k default).Call (z.getD k default).Words (z.getD k default).WordsA (z.getD k default).WordsC (z.getD k default).Data (z.getD k default).DataA (z.getD k default).DataC)).length zC) 40 4 (z.set k (Statement.mk (((z.getD k default).Line) + ((2 * l.length : Nat) : Int)) (z.getD k default).Call (z.getD k default).Words (z.getD k default).WordsA (z.getD k default).WordsC (z.getD k default).Data (z.getD k default).DataA (z.getD k default).DataC)).length ((z.set k (Statement.mk (((z.getD k default).Line) + ((2 * l.length : Nat) : Int)) (z.getD k default).Call (z.getD k default).Words (z.getD k default).WordsA (z.getD k default).WordsC (z.getD k default).Data (z.getD k default).DataA (z.getD k default).DataC)).flatMap Statement.enc)] rfl rfl rfl rfl rfl Ty.sz3 Statement.enc_len lt_ (by decide) rfl rfl ?_)
      refine JO_weaken (E' := [(1, vL lA l.length lC), (9, vL zA ((z.set k (Statement.mk (((z.getD k default).Line) + ((2 * l.length : Nat) : Int)) (z.getD k default).Call (z.getD k default).Words (z.getD k default).WordsA (z.getD k default).WordsC (z.getD k default).Data (z.getD k default).DataA (z.getD k default).DataC)).length) zC), (12, vL yA22 y21.length yC23), (97, vI ((y12.length : Nat) : Int)), (98, vI ((k : Nat) : Int)), (99, vB (decide (((k : Nat) : Int) < ((y12.length : Nat) : Int)))), (100, vI ((k : Nat) : Int)), (15, vI ((k : Nat) : Int)), (101, vL zA ((z.set k (Statement.mk (((z.getD k default).Line) + ((2 * l.length : Nat) : Int)) (z.getD k default).Call (z.getD k default).Words (z.getD k default).WordsA (z.getD k default).WordsC (z.getD k default).Data (z.getD k default).DataA (z.getD k default).DataC)).length) zC), (102, vI ((k : Nat) : Int)), (103, pA zA (k * 4)), (104, pA zA (k * 4)), (105, vI ((z.getD k default).Line)), (106, vL lA l.length lC), (107, vI ((l.length : Nat) : Int)), (108, vI ((2 * l.length : Nat) : Int)), (109, vI (((z.getD k default).Line) + ((2 * l.length : Nat) : Int))), (110, pA zA (k * 4)), (111, pA zA (k * 4))]) (L' := [Ent.row (.slice yA22 y21.length yC23) 40 4 y21.length (y21.flatMap Statement.enc), Ent.row (.slice zA (z.set k (Statement.mk (((z.getD k default).Line) + ((2 * l.length : Nat) : Int)) (z.getD k default).Call (z.getD k default).Words (z.getD k default).WordsA (z.getD k default).WordsC (z.getD k default).Data (z.getD k default).DataA (z.getD k default).DataC)).length zC) 40 4 (z.set k (Statement.mk (((z.getD k default).Line) + ((2 * l.length : Nat) : Int)) (z.getD k default).Call (z.getD k default).Words (z.getD k default).WordsA (z.getD k default).WordsC (z.getD k default).Data (z.getD k default).DataA (z.getD k default).DataC)).length ((z.set k (Statement.mk (((z.getD k default).Line) + ((2 * l.length : Nat) : Int)) (z.getD k default).Call (z.getD k default).Words (z.getD k default).WordsA (z.getD k default).WordsC (z.getD k default).Data (z.getD k default).DataA (z.getD k default).DataC)).flatMap Statement.enc)]) ⟨rfl, (congrArg (fun n : Nat => some (Value.slice zA n zC)) (set_len z k (Statement.mk (((z.getD k default).Line) + ((2 * l.length : Nat) : Int)) (z.getD k default).Call (z.getD k default).Words (z.getD k default).WordsA (z.getD k default).WordsC (z.getD k default).Data (z.getD k default).DataA (z.getD k default).DataC)).symm), rfl, rfl, rfl, rfl, rfl, rfl, (congrArg (fun n : Nat => some (Value.slice zA n zC)) (set_len z k (Statement.mk (((z.getD k default).Line) + ((2 * l.length : Nat) : Int)) (z.getD k default).Call (z.getD k default).Words (z.getD k default).WordsA (z.getD k default).WordsC (z.getD k default).Data (z.getD k default).DataA (z.getD k default).DataC)).symm), rfl, rfl, rfl, rfl, rfl, rfl, rfl, rfl, rfl, rfl, trivial⟩ (fun _ h => h) ?_
      refine z_ (kx_ (n_ (g_ (s_ (x_add_n (a := k) (b := 1) rfl rfl (by omega)) (s_ mv_ (z_ ?_))))))
      refine JX_roundB ((k + 1, (z.set k (Statement.mk (((z.getD k default).Line) + ((2 * l.length : Nat) : Int)) (z.getD k default).Call (z.getD k default).Words (z.getD k default).WordsA (z.getD k default).WordsC (z.getD k default).Data (z.getD k default).DataA (z.getD k default).DataC)), zA, zC) : Nat × (List Statement) × (Option Addr) × Nat) ?_ ?_ ⟨rfl, rfl, rfl, rfl, rfl, trivial⟩ (fun _ _ h => (hB3.back _ _ h)) (fun _ h => h) (fun wx hw => (okL_set (a := (Statement.mk (((z.getD k default).Line) + ((2 * l.length : Nat) : Int)) (z.getD k default).Call (z.getD k default).Words (z.getD k default).WordsA (z.getD k default).WordsC (z.getD k default).Data (z.getD k default).DataA (z.getD k default).DataC)) (kz0.againF (hw)) (show Kp _ _ (Statement.ok (Statement.mk (((z.getD k default).Line) + ((2 * l.length : Nat) : Int)) (z.getD k default).Call (z.getD k default).Words (z.getD k default).WordsA (z.getD k default).WordsC (z.getD k default).Data (z.getD k default).DataA (z.getD k default).DataC)) from okL_at (kz0.againF (hw)) k) k))
      ·try dsimp only
       refine ⟨?_, ?_, ?_⟩
       ·first | rfl | omega | (simp_all; done) | (simp_all; omega)
       ·exact R39.preM_set i3_1 (by omega) rfl
       ·rw [List.length_set]; assumption
      ·try dsimp only
       first | omega | (simp; omega) | (simp_all; omega)
     ·refine J_exit (ne_ (JX_roundB_exit ?_))
      have hz8 := R39.preM_sml i3_1 (fun _ => ⟨rfl, rfl⟩) (R39.exp_sml hf15)
      have hb8 := R39.exp_sml hf24
      refine kh_ (n_ (q_ (g_ (s_ mv_ (s_ mv_ (c0 (cl_ Ty.ca20) (fun w hS => f20_ok z zA zC y21 yA22 yC23 w (RO.of_row hS 1 rfl) (RO.of_row hS 0 rfl) (kz.on0 hS) (kf26.on0 hS) c39p1_ (by exact fun i => Nat.le_trans (hz8 i).1 (by decide)) (by exact fun i => Nat.le_trans (hz8 i).2 (by decide)) c39p1_ (by exact fun i => Nat.le_trans (hb8 i).1 (by decide)) (by exact fun i => Nat.le_trans (hb8 i).2 (by decide))) (s_ av_ (z_ (n_ (rt_ ?_))))))))))
      refine JX_retsC [_] _ Tryd.results8 (fun w h => ⟨rfl, trivial⟩) rfl _ (fun _ h => h.keep [false, false] rfl) (fun _ _ h => (hB16.back _ _ (hB25.back _ _ (hB3.back _ _ h)))) ⟨?_, ?_⟩
      ·have e_x0 : (decide (z.map R39.pur = y21.map R39.pur) : Bool) = true := hTw.post (fun _ => rfl) i3_1 (by omega)
       exact congrArg (fun (x0 : Bool) => vB x0) e_x0
      ·rfl
end Go.Proofs.YtbfiibgmgopnaaaDoor
