/- C39m in one text. -/
import Derived.Test.YtbfiibgmgopnaaaDoorCards
import Derived.Test.YtbfiibgmgopnaaaDoorTie
import Derived.Test.YtbfiibgmgopnaaaDoorAll17
import Derived.Test.YtbfiibgmgopnaaaDoorRows
import GoSem.ClaimSeven
import Derived.LaidByTextLater
import Derived.SevenTiedAt
import Derived.LaidSub
import Derived.LaidOnce
set_option linter.unusedVariables false
set_option linter.unusedSimpArgs false
namespace Go.Proofs.YtbfiibgmgopnaaaDoor
open Go.GV
set_option linter.unusedVariables false
set_option linter.unusedSimpArgs false
theorem c39m0_ {p : Prop} (h : p := by first | omega | (simp only [List.length_append, List.length_cons, List.length_nil]; omega) | (simp; omega) | (simp_all; omega)) : p := h
theorem c39m1_ {p : Prop} (h : p := by first | exact R39.texts_len (by omega) | exact R39.texts_bad (i := k) (by assumption) | exact R39.texts_end i1_1 (fun i hi => i1_2 i (by omega))) : p := h
theorem c39m3_ {p : Prop} (h : p := by first | exact i1_0.moreN (by omega) (by omega) (by omega) hpr | exact i1_0.first_ (by omega) (by omega) hpr) : p := h
set_option maxRecDepth 20000 in
theorem f14_ok (a : List Bytes) (aA : Option Addr) (aC : Nat) (b : List Bytes) (bA : Option Addr) (bC : Nat) (w : World) (aR : RO [] w aA (a.map vS)) (bR : RO [] w bA (b.map vS)) (q0 : a.length ≤ 9223372036854775807) (q1 : b.length ≤ 9223372036854775807) : Calls Tryd.prog 14 #[vL aA a.length aC, vL bA b.length bC] w (Gives [] w fun v L => v = vB (decide (a = b)) ∧ L = []) := by
 refine calls_J [] 26 Tryd.func14 rfl Tryd.ntmps14 [(0, _), (1, _)] rfl rfl (Give.nil w) ?_
 refine q_ (g_ (s_ av_ (z_ (n_ (q_ (q_ (g_ (s_ mv_ (s_ (lnS Tryd.underlying24) (s_ mv_ (s_ (lnS Tryd.underlying24) (s_ (x_neq_i rfl rfl) (z_ (n_ ?_))))))))))))))
 refine ifd (fun h1w h1 => ?_) (fun h1w h1 => ?_)
 ·refine q_ (g_ (s_ av_ (z_ (n_ (rt_ (nr_ ?_))))))
  exact p1 Tryd.results14 rfl ⟨(eB c39m1_), rfl⟩
 ·refine sk_ (n_ (q_ (q_ (g_ (s_ av_ (z_ (n_ (k_ ?_))))))))
  refine J_loop (X := Nat) (fun (k : Nat) => (k ≤ a.length) ∧ (a.length = b.length) ∧ (∀ i, i < k → a.getD i [] = b.getD i [])) (fun (k : Nat) => [(0, vL aA a.length aC), (1, vL bA b.length bC), (5, vI ((k : Nat) : Int))]) (fun (k : Nat) => []) (fun (k : Nat) => a.length - k) (0 : Nat) ?_ ⟨rfl, rfl, rfl, trivial⟩ (fun _ h => h) ?_
  ·try dsimp only
   refine ⟨?_, ?_, ?_⟩
   ·first | rfl | omega | (simp_all; done) | (simp_all; omega)
   ·omega
   ·intro i hi; omega
  intro k hI1
  obtain ⟨i1_0, i1_1, i1_2⟩ := hI1
  try dsimp only at i1_0
  try dsimp only at i1_1
  try dsimp only at i1_2
  try dsimp only
  refine q_ (q_ (g_ (s_ mv_ (s_ mv_ (s_ (lnS Tryd.underlying24) (s_ (x_lss_i rfl rfl) (z_ (n_ ?_))))))))
  refine ifd (fun h2w h2 => ?_) (fun h2w h2 => ?_)
  ·refine sk_ (n_ (q_ (k_ (q_ ?_))))
   refine drB [] 9 Ty.mixed ?_
   refine jp_ 0 rfl mv_ (jp_ 1 rfl mv_ (jq_ 2 rfl (ixM (cells_ro aR) Tryd.underlying24 Ty.sz9) (jq_ 3 rfl (ldM vS [] (cells_ro aR) Ty.sc9) (jp_ 4 rfl mv_ (jp_ 5 rfl mv_ (jq_ 6 rfl (ixM (cells_ro bR) Tryd.underlying24 Ty.sz9) (jq_ 7 rfl (ldM vS [] (cells_ro bR) Ty.sc9) (jp_ 8 rfl (x_neq_s rfl rfl) ?_))))))))
   refine JA_done (by kernel_rfl) gm_ ?_
   refine n_ ?_
   refine ifd (fun h3w h3 => ?_) (fun h3w h3 => ?_)
   ·refine q_ (g_ (s_ av_ (z_ (n_ (rt_ (kq_ (nr_ (rr_ (kq_ (nr_ ?_))))))))))
    exact p1 Tryd.results14 rfl ⟨(eB c39m1_), rfl⟩
   ·refine sk_ (kx_ (n_ (g_ (s_ mv_ (s_ (x_add_n (a := k) (b := 1) rfl rfl (by omega)) (s_ av_ (z_ ?_)))))))
    refine JX_round (k + 1 : Nat) ?_ ?_ ⟨rfl, rfl, rfl, trivial⟩ (fun _ h => h)
    ·try dsimp only
     refine ⟨?_, ?_, ?_⟩
     ·first | rfl | omega | (simp_all; done) | (simp_all; omega)
     ·first | rfl | omega | (simp_all; done) | (simp_all; omega)
     ·intro i hi
      by_cases hik : i = k
      ·subst hik; simp_all
      ·exact i1_2 i (by omega)
    ·try dsimp only
     first | omega | (simp; omega) | (simp_all; omega)
  ·refine J_exit (ne_ (re_ (kh_ (n_ (q_ ?_)))))
   refine g_ (s_ av_ (z_ (n_ (rt_ ?_))))
   exact p1 Tryd.results14 rfl ⟨(eB c39m1_), rfl⟩
set_option maxRecDepth 20000 in
theorem f7_ok (words : List Bytes) (wordsA : Option Addr) (wordsC : Nat) (before : UInt8) (after : UInt8) (w : World) (wordsR : RO [] w wordsA (words.map vS)) (hT : Tab [] w) (q0 : words.length ≤ 9223372036854775807) : Calls Tryd.prog 7 #[vL wordsA words.length wordsC, vU8 before, vU8 after] w (Gives [] w fun v L => v = vB true ∧ L = []) := by
 have hm1 := UInt8.toNat_lt (before % 4)
 have hm2 := UInt8.toNat_lt (after % 3)
 have hm3 := UInt8.toNat_lt (after % 4)
 refine calls_J [] 79 Tryd.func7 rfl Tryd.ntmps7 [(0, _), (1, _), (2, _)] rfl rfl (Give.nil w) ?_
 refine q_ (g_ (s_ av_ (z_ (n_ (q_ (q_ (g_ (c0 (cl_ Ty.ca9) (fun w hS => f9_ok w (hT.on hS (fun _ h => by cases h))) (jr_ (vB false) (z_ (n_ (iff_ (sk_ (n_ (q_ (q_ (g_ (s_ mv_ (s_ (lnS Tryd.underlying24) (s_ (x_gtr_i rfl rfl) ?_))))))))))))))))))))
 refine z_ (n_ ?_)
 refine ifd (fun h1w h1 => ?_) (fun h1w h1 => ?_)
 ·refine q_ (g_ (s_ av_ (z_ (n_ (rt_ (nr_ ?_))))))
  exact p1 Tryd.results7 rfl ⟨rfl, rfl⟩
 ·refine sk_ (n_ (q_ (g_ (s_ mv_ (js_ (vU8 (before % 4)) (x_rem_u8 rfl rfl (by decide)) (s_ (x_conv_u8_i64 rfl Tryd.underlying5 Tryd.underlying3) (c0 (cl_ Ty.ca21) (fun w hS => rep_ok [32] _ w hy_ hy_ hy_) ?_)))))))
  have ha2 := rep_length [32] (((before % 4).toNat : Nat) : Int).toNat
  try simp only [List.length_cons, List.length_nil, Nat.zero_add, Nat.reduceAdd, Nat.reduceMul] at ha2
  refine s_ av_ (z_ (n_ (q_ (q_ (g_ (s_ mv_ (s_ (lnS Tryd.underlying24) (s_ mv_ (z_ (n_ (k_ ?_)))))))))))
  refine J_loop (X := Nat × Bytes) (fun (⟨k, line⟩ : Nat × Bytes) => (R39.LineJ words ((before % 4).toNat : Int).toNat k line) ∧ (k ≤ words.length) ∧ (line.length ≤ 256 + 512 * k)) (fun (⟨k, line⟩ : Nat × Bytes) => [(0, vL wordsA words.length wordsC), (2, vU8 after), (7, vS line), (22, vL wordsA words.length wordsC), (23, vI ((words.length : Nat) : Int)), (24, vI ((k : Nat) : Int))]) (fun (⟨k, line⟩ : Nat × Bytes) => []) (fun (⟨k, line⟩ : Nat × Bytes) => words.length - k) ((0, rep [32] (((before % 4).toNat : Nat) : Int).toNat) : Nat × Bytes) ?_ ⟨rfl, rfl, rfl, rfl, rfl, rfl, trivial⟩ (fun _ h => h) ?_
  ·try dsimp only
   refine ⟨?_, ?_, ?_⟩
   ·exact R39.LineJ.start
   ·first | rfl | omega | (simp_all; done) | (simp_all; omega)
   ·first | rfl | omega | (simp_all; done) | (simp_all; omega)
  rintro ⟨k, line⟩ hI1
  obtain ⟨i1_0, i1_1, i1_2⟩ := hI1
  try dsimp only at i1_0
  try dsimp only at i1_1
  try dsimp only at i1_2
  try dsimp only
  refine q_ (g_ (s_ (x_lss_i rfl rfl) (z_ (n_ (q_ ?_)))))
  refine ifd (fun h3w h3 => ?_) (fun h3w h3 => ?_)
  ·refine sk_ (n_ (q_ (k_ (q_ (g_ (s_ mv_ (r_ (ixM (cells_ro wordsR) Tryd.underlying24 Ty.sz9) (r_ (ldM vS [] (cells_ro wordsR) Ty.sc9) (s_ av_ (s_ av_ (z_ (n_ (q_ (q_ (g_ (s_ mv_ (s_ (x_len_s rfl Tryd.underlying9) (s_ (x_gtr_i rfl rfl) ?_))))))))))))))))))
   refine z_ (n_ ?_)
   refine ifd (fun h4w h4 => ?_) (fun h4w h4 => ?_)
   ·refine q_ (g_ (s_ av_ (z_ (n_ (rt_ (nr_ (kq_ (nr_ (rr_ (kq_ (nr_ ?_)))))))))))
    exact p1 Tryd.results7 rfl ⟨rfl, rfl⟩
   ·refine sk_ (n_ (q_ (q_ (g_ (s_ mv_ (s_ (x_len_s rfl Tryd.underlying9) (s_ mv_ (z_ (n_ (k_ ?_))))))))))
    refine J_loop (X := Nat) (fun (j : Nat) => (j ≤ (words.getD k []).length) ∧ (∀ i, i < j → (32 : UInt8) ≤ (words.getD k []).getD i 0 ∧ (words.getD k []).getD i 0 ≤ 126)) (fun (j : Nat) => [(0, vL wordsA words.length wordsC), (2, vU8 after), (7, vS line), (22, vL wordsA words.length wordsC), (23, vI ((words.length : Nat) : Int)), (24, vI ((k : Nat) : Int)), (8, vI ((k : Nat) : Int)), (9, vS (words.getD k [])), (33, vI (((words.getD k []).length : Nat) : Int)), (34, vI ((j : Nat) : Int))]) (fun (j : Nat) => []) (fun (j : Nat) => (words.getD k []).length - j) (0 : Nat) ?_ ⟨rfl, rfl, rfl, rfl, rfl, rfl, rfl, rfl, rfl, rfl, trivial⟩ (fun _ h => h) ?_
    ·try dsimp only
     refine ⟨?_, ?_⟩
     ·first | rfl | omega | (simp_all; done) | (simp_all; omega)
     ·exact fun i hi => absurd hi (Nat.not_lt_zero i)
    intro j hI2
    obtain ⟨i2_0, i2_1⟩ := hI2
    try dsimp only at i2_0
    try dsimp only at i2_1
    try dsimp only
    refine q_ (g_ (s_ (x_lss_i rfl rfl) (z_ (n_ (q_ ?_)))))
    refine ifd (fun h5w h5 => ?_) (fun h5w h5 => ?_)
    ·refine sk_ (n_ (q_ (k_ (q_ (g_ (s_ mv_ (s_ av_ (z_ (n_ (q_ (g_ (s_ mv_ (s_ mv_ (s_ (x_idx_s (k := j) rfl rfl Tryd.underlying9 (by omega)) (js_ (vB (decide ((words.getD k []).getD j 0 < (32 : UInt8)))) (x_lss_u8 rfl rfl) (s_ mv_ ?_))))))))))))))))
     refine or_ 4 (decide ((126 : UInt8) < (words.getD k []).getD j 0)) (fun g6 => ?_) ?_
     ·have g6r := g6
      have g6r := of_decide_eq_false g6r
      have g6ru := g6r
      try simp only [UInt8.lt_iff_toNat_lt, UInt8.le_iff_toNat_le, UInt8.reduceToNat, UInt32.lt_iff_toNat_lt, UInt32.le_iff_toNat_le, UInt32.reduceToNat, UInt64.lt_iff_toNat_lt, UInt64.le_iff_toNat_le, UInt64.reduceToNat] at g6ru
      refine sg_ g6 mv_ (sg_ g6 mv_ (sg_ g6 (x_idx_s (k := j) rfl rfl Tryd.underlying9 (by omega)) (jg_ g6 (vB (decide ((126 : UInt8) < (words.getD k []).getD j 0))) (x_gtr_u8 rfl rfl) ?_)))
      exact cr_
     refine z_ (n_ ?_)
     refine if_ (fun h7 => ?_) (fun h7 => ?_)
     ·have h7w := h7
      simp only [Bool.and_eq_true, Bool.or_eq_true, Bool.and_eq_false_iff, Bool.or_eq_false_iff, Bool.not_eq_true', Bool.not_eq_false', decide_eq_true_eq, decide_eq_false_iff_not] at h7
      refine q_ (g_ (s_ av_ (z_ (n_ (rt_ (kq_ (nr_ (rr_ (kq_ (nr_ (kq_ (nr_ (rr_ (kq_ ?_))))))))))))))
      refine nr_ ?_
      exact p1 Tryd.results7 rfl ⟨rfl, rfl⟩
     ·have h7w := h7
      have ⟨h7, h8⟩ := bor_false h7
      have h7 := of_decide_eq_false h7
      have h7u := h7
      try simp only [UInt8.lt_iff_toNat_lt, UInt8.le_iff_toNat_le, UInt8.reduceToNat, UInt32.lt_iff_toNat_lt, UInt32.le_iff_toNat_le, UInt32.reduceToNat, UInt64.lt_iff_toNat_lt, UInt64.le_iff_toNat_le, UInt64.reduceToNat] at h7u
      have h8 := of_decide_eq_false h8
      have h8u := h8
      try simp only [UInt8.lt_iff_toNat_lt, UInt8.le_iff_toNat_le, UInt8.reduceToNat, UInt32.lt_iff_toNat_lt, UInt32.le_iff_toNat_le, UInt32.reduceToNat, UInt64.lt_iff_toNat_lt, UInt64.le_iff_toNat_le, UInt64.reduceToNat] at h8u
      refine sk_ (kx_ (n_ (g_ (s_ (x_add_n (a := j) (b := 1) rfl rfl (by omega)) (s_ mv_ (z_ ?_))))))
      refine JX_round (j + 1 : Nat) ?_ ?_ ⟨rfl, rfl, rfl, rfl, rfl, rfl, rfl, rfl, rfl, rfl, trivial⟩ (fun _ h => h)
      ·try dsimp only
       refine ⟨?_, ?_⟩
       ·first | rfl | omega | (simp_all; done) | (simp_all; omega)
       ·exact R39.print_step i2_1 (by assumption)
      ·try dsimp only
       first | omega | (simp; omega) | (simp_all; omega)
    ·refine J_exit (ne_ (re_ ?_))
     have hpr := R39.print_of i2_1 (by omega)
     have h128 := R39.print_128 hpr
     refine kh_ (n_ (q_ (q_ (g_ (s_ mv_ (s_ (x_gtr_i rfl rfl) (z_ (n_ ?_))))))))
     refine ifd (fun h9w h9 => ?_) (fun h9w h9 => ?_)
     ·refine g_ (s_ mv_ (s_ mv_ (js_ (vU8 (after % 3)) (x_rem_u8 rfl rfl (by decide)) (s_ (x_conv_u8_i64 rfl Tryd.underlying5 Tryd.underlying3) (s_ (x_add_n (a := 1) (b := (after % 3).toNat) rfl rfl (by omega)) (c0 (cl_ Ty.ca21) (fun w hS => rep_ok [32] _ w hy_ hy_ hy_) ?_))))))
      have ha10 := rep_length [32] ((1 + ((after % 3).toNat) : Nat) : Int).toNat
      try simp only [List.length_cons, List.length_nil, Nat.zero_add, Nat.reduceAdd, Nat.reduceMul] at ha10
      refine s_ (x_cat_s rfl rfl c39m0_) (s_ av_ (z_ (n_ (g_ (s_ mv_ (s_ mv_ (c0 (cl_ Ty.ca15) (fun w hS => f15_ok _ w (hT.on hS (fun _ h => by cases h)) hy_ hy_) ?_)))))))
      have ha11 := R39.quote_len (words.getD k [])
      try simp only [List.length_cons, List.length_nil, Nat.zero_add, Nat.reduceAdd, Nat.reduceMul] at ha11
      refine s_ (x_cat_s rfl rfl c39m0_) (s_ av_ (z_ (kx_ (n_ (g_ (s_ (x_add_n (a := k) (b := 1) rfl rfl (by omega)) (s_ mv_ (z_ ?_))))))))
      refine JX_round ((k + 1, (line ++ (rep [32] ((1 + ((after % 3).toNat) : Nat) : Int).toNat)) ++ (R39.quote (words.getD k []))) : Nat × Bytes) ?_ ?_ ⟨rfl, rfl, rfl, rfl, rfl, rfl, trivial⟩ (fun _ h => h)
      ·try dsimp only
       refine ⟨?_, ?_, ?_⟩
       ·exact c39m3_
       ·first | rfl | omega | (simp_all; done) | (simp_all; omega)
       ·simp only [List.length_append]; omega
      ·try dsimp only
       first | omega | (simp; omega) | (simp_all; omega)
     ·refine sk_ (n_ (g_ (s_ mv_ (s_ mv_ (c0 (cl_ Ty.ca15) (fun w hS => f15_ok _ w (hT.on hS (fun _ h => by cases h)) hy_ hy_) ?_)))))
      have ha12 := R39.quote_len (words.getD k [])
      try simp only [List.length_cons, List.length_nil, Nat.zero_add, Nat.reduceAdd, Nat.reduceMul] at ha12
      refine s_ (x_cat_s rfl rfl c39m0_) (s_ av_ (z_ (kx_ (n_ (g_ (s_ (x_add_n (a := k) (b := 1) rfl rfl (by omega)) (s_ mv_ (z_ ?_))))))))
      refine JX_round ((k + 1, line ++ (R39.quote (words.getD k []))) : Nat × Bytes) ?_ ?_ ⟨rfl, rfl, rfl, rfl, rfl, rfl, trivial⟩ (fun _ h => h)
      ·try dsimp only
       refine ⟨?_, ?_, ?_⟩
       ·exact c39m3_
       ·first | rfl | omega | (simp_all; done) | (simp_all; omega)
       ·simp only [List.length_append]; omega
      ·try dsimp only
       first | omega | (simp; omega) | (simp_all; omega)
  ·refine J_exit (ne_ (re_ (kh_ (n_ (q_ ?_)))))
   refine g_ (s_ mv_ (s_ mv_ (js_ (vU8 (after % 4)) (x_rem_u8 rfl rfl (by decide)) (s_ (x_conv_u8_i64 rfl Tryd.underlying5 Tryd.underlying3) (c0 (cl_ Ty.ca21) (fun w hS => rep_ok [32] _ w hy_ hy_ hy_) ?_)))))
   have ha13 := rep_length [32] (((after % 4).toNat : Nat) : Int).toNat
   try simp only [List.length_cons, List.length_nil, Nat.zero_add, Nat.reduceAdd, Nat.reduceMul] at ha13
   refine s_ (x_cat_s rfl rfl c39m0_) ?_
   refine c1 (cl_ Ty.ca10) (fun w hS => f10_ok _ w hy_) ?_
   rintro _ _ ⟨e14, e15, rfl, rfl⟩
   have ha16 := R39.scanW_len (line ++ (rep [32] (((after % 4).toNat : Nat) : Int).toNat))
   try simp only [List.length_cons, List.length_nil, Nat.zero_add, Nat.reduceAdd, Nat.reduceMul] at ha16
   have ha17 := R39.scanW_short (line ++ (rep [32] (((after % 4).toNat : Nat) : Int).toNat))
   try simp only [List.length_cons, List.length_nil, Nat.zero_add, Nat.reduceAdd, Nat.reduceMul] at ha17
   refine s_ mv_ (s_ (ex_ 0) (s_ (ex_ 1) (s_ av_ (s_ av_ (z_ (n_ (q_ (g_ (s_ mv_ (s_ (x_eql_i rfl rfl) (s_ mv_ ?_)))))))))))
   refine and_ 3 (decide ((R39.scanW (line ++ (rep [32] (((after % 4).toNat : Nat) : Int).toNat))) = words)) (fun g18 => ?_) ?_
   ·have g18r := g18
    have g18r := of_decide_eq_true g18r
    refine sg_ g18 mv_ (sg_ g18 mv_ (c0g g18 (cl_ Ty.ca14) (fun w hS => f14_ok _ e14 e15 _ _ _ w (RO.of_row hS 0 rfl) (rno wordsR hS) hy_ hy_) ?_))
    exact cr_
   refine s_ av_ (z_ (xk_ [6] ?_))
   refine n_ (rt_ ?_)
   exact p1 Tryd.results7 rfl ⟨(eB (R39.words_post (i1_0.done (by omega) _))), rfl⟩
end Go.Proofs.YtbfiibgmgopnaaaDoor


