/- contracts C40m -/
import Derived.Test.YtngjdmhpljmkpaaDoorAll8
import Derived.Test.YtngjdmhpljmkpaaDoorAll16
set_option linter.unusedVariables false
set_option linter.unusedSimpArgs false
namespace Go.Proofs.YtngjdmhpljmkpaaDoor
open Go.GV
set_option linter.unusedVariables false
set_option linter.unusedSimpArgs false
theorem c40m0_ {p : Prop} (h : p := by first | exact R40.ref_part0 (by assumption) | exact R40.ref_partB (k := k) (by omega) (R40.and_tf (by assumption)) | exact R40.ref_partE (by assumption) (by assumption) (by assumption) (by omega) i1_1) : p := h
theorem c40m1_ {p : Prop} (h : p := by first | exact R44.name_0 (by assumption) | exact R44.name_bad (k := k) (by omega) (by assumption) | exact R44.name_end (by assumption) (fun i h2 => i1_1 i (by omega))) : p := h
theorem c40m4_ {p : Prop} (h : p := by rw [List.length_map]; first | omega | (simp only [List.length_append, List.length_cons, List.length_nil]; omega) | (simp; omega) | (simp_all; omega) | (simp_all; done)) : p := h
theorem c40m5_ {p : Prop} (h : p := by first | exact i1_1.cut (by omega) (by assumption) | exact i1_1.add (by omega) (by assumption)) : p := h
set_option maxRecDepth 20000 in
theorem f59_ok (c : UInt8) (w : World) : Calls Tryd.prog 59 #[vU8 c] w (Gives [] w fun v L => v = vB (R44.isUp c) ∧ L = []) := by
 refine calls_J [] 9 Tryd.func59 rfl Tryd.ntmps59 [(0, _)] rfl rfl (Give.nil w) ?_
 refine q_ (g_ (s_ av_ (z_ (n_ (q_ (g_ (s_ mv_ (js_ (vB (decide ((65 : UInt8) ≤ c))) (x_geq_u8 rfl rfl) (s_ mv_ ?_)))))))))
 refine and_ 2 (decide (c ≤ (90 : UInt8))) (fun g1 => ?_) ?_
 ·have g1r := g1
  have g1r := of_decide_eq_true g1r
  have g1ru := g1r
  try simp only [UInt8.lt_iff_toNat_lt, UInt8.le_iff_toNat_le, UInt8.reduceToNat, UInt32.lt_iff_toNat_lt, UInt32.le_iff_toNat_le, UInt32.reduceToNat, UInt64.lt_iff_toNat_lt, UInt64.le_iff_toNat_le, UInt64.reduceToNat] at g1ru
  refine sg_ g1 mv_ (jg_ g1 (vB (decide (c ≤ (90 : UInt8)))) (x_leq_u8 rfl rfl) ?_)
  exact cr_
 refine s_ av_ (z_ (n_ (rt_ ?_)))
 exact p1 Tryd.results59 rfl ⟨(eB (by rfl)), rfl⟩
set_option maxRecDepth 20000 in
theorem f58_ok (c : UInt8) (w : World) : Calls Tryd.prog 58 #[vU8 c] w (Gives [] w fun v L => v = vB (R44.isDg c) ∧ L = []) := by
 refine calls_J [] 9 Tryd.func58 rfl Tryd.ntmps58 [(0, _)] rfl rfl (Give.nil w) ?_
 refine q_ (g_ (s_ av_ (z_ (n_ (q_ (g_ (s_ mv_ (js_ (vB (decide ((48 : UInt8) ≤ c))) (x_geq_u8 rfl rfl) (s_ mv_ ?_)))))))))
 refine and_ 2 (decide (c ≤ (57 : UInt8))) (fun g1 => ?_) ?_
 ·have g1r := g1
  have g1r := of_decide_eq_true g1r
  have g1ru := g1r
  try simp only [UInt8.lt_iff_toNat_lt, UInt8.le_iff_toNat_le, UInt8.reduceToNat, UInt32.lt_iff_toNat_lt, UInt32.le_iff_toNat_le, UInt32.reduceToNat, UInt64.lt_iff_toNat_lt, UInt64.le_iff_toNat_le, UInt64.reduceToNat] at g1ru
  refine sg_ g1 mv_ (jg_ g1 (vB (decide (c ≤ (57 : UInt8)))) (x_leq_u8 rfl rfl) ?_)
  exact cr_
 refine s_ av_ (z_ (n_ (rt_ ?_)))
 exact p1 Tryd.results58 rfl ⟨(eB (by rfl)), rfl⟩
set_option maxRecDepth 20000 in
theorem f45_ok (s : Bytes) (w : World) (q0 : s.length ≤ 9223372036854775807) : Calls Tryd.prog 45 #[vS s, vB false] w (Gives [] w fun v L => v = vB ((R44.qualV R44.isUp R44.isPl) s) ∧ L = []) := by
 refine calls_J [] 68 Tryd.func45 rfl Tryd.ntmps45 [(0, _), (1, _)] rfl rfl (Give.nil w) ?_
 refine q_ (g_ (s_ av_ (z_ (n_ (q_ (q_ (g_ (s_ mv_ (s_ mv_ (sh_ rfl (sh_ rfl (jr_ (vB false) (z_ (n_ (iff_ (sk_ (n_ (q_ (q_ (g_ ?_))))))))))))))))))))
 refine s_ mv_ (s_ (x_len_s rfl Tryd.underlying9) (s_ (x_lss_i rfl rfl) (s_ mv_ ?_)))
 refine or_ 3 (decide ((8 : Int) < ((s.length : Nat) : Int))) (fun g1 => ?_) ?_
 ·have g1r := g1
  have g1r := of_decide_eq_false g1r
  refine sg_ g1 mv_ (sg_ g1 (x_len_s rfl Tryd.underlying9) (sg_ g1 (x_gtr_i rfl rfl) ?_))
  exact cr_
 refine s_ mv_ ?_
 refine or_ 3 (R44.isDg (s.getD 0 0)) (fun g2 => ?_) ?_
 ·have g2r := g2
  have ⟨g2r, h3⟩ := bor_false g2r
  have g2r := of_decide_eq_false g2r
  have h3 := of_decide_eq_false h3
  refine sg_ g2 mv_ (sg_ g2 (x_idx_s (k := 0) rfl rfl Tryd.underlying9 (by omega)) (c0g g2 (cl_ Ty.ca58) (fun w hS => f58_ok _ w) ?_))
  exact cr_
 refine z_ (n_ ?_)
 refine if_ (fun h4 => ?_) (fun h4 => ?_)
 ·have h4w := h4
  simp only [Bool.and_eq_true, Bool.or_eq_true, Bool.and_eq_false_iff, Bool.or_eq_false_iff, Bool.not_eq_true', Bool.not_eq_false', decide_eq_true_eq, decide_eq_false_iff_not] at h4
  refine q_ (g_ (s_ av_ (z_ (n_ (rt_ (nr_ ?_))))))
  exact p1 Tryd.results45 rfl ⟨(eB c40m0_), rfl⟩
 ·have h4w := h4
  have ⟨h4, h5⟩ := bor_false h4
  have ⟨h4, h6⟩ := bor_false h4
  have h4 := of_decide_eq_false h4
  have h6 := of_decide_eq_false h6
  refine sk_ (n_ (q_ (q_ (g_ (s_ av_ (z_ (n_ (k_ ?_))))))))
  refine J_loop (X := Nat) (fun (k : Nat) => (k ≤ s.length) ∧ (∀ i, i < k → R44.isPl (s.getD i 0) = true)) (fun (k : Nat) => [(0, vS s), (1, vB false), (5, vI ((k : Nat) : Int))]) (fun (k : Nat) => []) (fun (k : Nat) => s.length - k) (0 : Nat) ?_ ⟨rfl, rfl, rfl, trivial⟩ (fun _ h => h) ?_
  ·try dsimp only
   refine ⟨?_, ?_⟩
   ·first | rfl | omega | (simp_all; done) | (simp_all; omega)
   ·intro i h2; omega
  intro k hI1
  obtain ⟨i1_0, i1_1⟩ := hI1
  try dsimp only at i1_0
  try dsimp only at i1_1
  try dsimp only
  refine q_ (q_ (g_ (s_ mv_ (s_ mv_ (s_ (x_len_s rfl Tryd.underlying9) (s_ (x_lss_i rfl rfl) (z_ (n_ ?_))))))))
  refine ifd (fun h7w h7 => ?_) (fun h7w h7 => ?_)
  ·refine sk_ (n_ (q_ (k_ (q_ (g_ (s_ mv_ (s_ mv_ (sh_ rfl (sh_ rfl (sh_ rfl (sh_ rfl (jr_ (vB false) (s_ av_ (z_ (n_ (q_ (g_ ?_)))))))))))))))))
   refine s_ mv_ (s_ mv_ (s_ (x_idx_s (k := k) rfl rfl Tryd.underlying9 (by omega)) (c0 (cl_ Ty.ca59) (fun w hS => f59_ok _ w) (s_ (x_not rfl) (s_ mv_ ?_)))))
   refine and_ 5 (!(R44.isDg (s.getD k 0))) (fun g8 => ?_) ?_
   ·have g8r := g8
    have g8r : (R44.isUp (s.getD k 0)) = false := bnot_true g8r
    refine sg_ g8 mv_ (sg_ g8 mv_ (sg_ g8 (x_idx_s (k := k) rfl rfl Tryd.underlying9 (by omega)) (c0g g8 (cl_ Ty.ca58) (fun w hS => f58_ok _ w) (sg_ g8 (x_not rfl) ?_))))
    exact cr_
   refine s_ mv_ ?_
   refine and_ 2 (true) (fun g9 => ?_) ?_
   ·have g9r := g9
    have ⟨g9r, h10⟩ := band_true g9r
    have g9r : (R44.isUp (s.getD k 0)) = false := bnot_true g9r
    have h10 : (R44.isDg (s.getD k 0)) = false := bnot_true h10
    refine sg_ g9 mv_ (jg_ g9 (vB true) (rfl) ?_)
    exact cr_
   refine s_ mv_ ?_
   refine or_ 12 (false) (fun g11 => ?_) ?_
   ·have g11r := g11
    simp only [Bool.and_eq_true, Bool.or_eq_true, Bool.and_eq_false_iff, Bool.or_eq_false_iff, Bool.not_eq_true', Bool.not_eq_false', decide_eq_true_eq, decide_eq_false_iff_not] at g11r
    refine sg_ g11 mv_ (sg_ g11 mv_ (sh_ rfl (sh_ rfl (jg_ g11 (vB false) (rfl) (sg_ g11 mv_ (sh_ rfl (sh_ rfl (sh_ rfl (sh_ rfl ?_)))))))))
    refine sh_ rfl (jg_ g11 (vB false) (rfl) ?_)
    exact cr_
   refine z_ (xk_ [0, 1, 5, 67] ?_)
   refine n_ ?_
   refine if_ (fun h12 => ?_) (fun h12 => ?_)
   ·have h12w := h12
    simp only [Bool.and_eq_true, Bool.or_eq_true, Bool.and_eq_false_iff, Bool.or_eq_false_iff, Bool.not_eq_true', Bool.not_eq_false', decide_eq_true_eq, decide_eq_false_iff_not] at h12
    refine q_ (g_ (s_ av_ (z_ (n_ (rt_ (kq_ (nr_ (rr_ (kq_ (nr_ ?_))))))))))
    exact p1 Tryd.results45 rfl ⟨(eB c40m0_), rfl⟩
   ·have h12w := h12
    have ⟨h12, h13⟩ := bor_false h12
    simp only [Bool.and_eq_true, Bool.or_eq_true, Bool.and_eq_false_iff, Bool.or_eq_false_iff, Bool.not_eq_true', Bool.not_eq_false', decide_eq_true_eq, decide_eq_false_iff_not] at h12
    refine sk_ (kx_ (n_ (g_ (s_ mv_ (s_ (x_add_n (a := k) (b := 1) rfl rfl (by omega)) (s_ av_ (z_ ?_)))))))
    refine JX_round (k + 1 : Nat) ?_ ?_ ⟨rfl, rfl, rfl, trivial⟩ (fun _ h => h)
    ·try dsimp only
     refine ⟨?_, ?_⟩
     ·first | rfl | omega | (simp_all; done) | (simp_all; omega)
     ·exact R40.ref_pstep i1_1 (R40.or_tf (by assumption))
    ·try dsimp only
     first | omega | (simp; omega) | (simp_all; omega)
  ·refine J_exit (ne_ (re_ (kh_ (n_ (q_ ?_)))))
   refine g_ (s_ av_ (z_ (n_ (rt_ ?_))))
   exact p1 Tryd.results45 rfl ⟨(eB c40m0_), rfl⟩
set_option maxRecDepth 20000 in
theorem f23_ok (s : Bytes) (w : World) (q0 : s.length ≤ 1000000) : Calls Tryd.prog 23 #[vS s] w (Gives [] w fun v L => ∃ A2 : Option Addr, ∃ c2 : Nat, v = vL A2 ((R44.splitC 46 s).length) c2 ∧ L = [Ent.row (.slice A2 (R44.splitC 46 s).length c2) 9 1 (R44.splitC 46 s).length ((R44.splitC 46 s).map vS)]) := by
 refine calls_J [] 37 Tryd.func23 rfl Tryd.ntmps23 [(0, _)] rfl rfl (Give.nil w) ?_
 refine q_ (g_ (s_ av_ (z_ (n_ (q_ (g_ (o_ (O_buildSlice (cs := [vS []]) Tryd.underlying23 Ty.sz9 Ty.ze9 (by decide) (by decide) (by kernel_rfl) fun b1 => ?_))))))))
 refine s_ av_ (z_ (n_ (q_ (q_ (g_ (s_ av_ (z_ (n_ (k_ ?_)))))))))
 refine J_loop (X := Nat × (List Bytes) × (Option Addr) × Nat) (fun (⟨k, out, outA, outC⟩ : Nat × (List Bytes) × (Option Addr) × Nat) => (k ≤ s.length) ∧ (R44.SplJ 46 s k out)) (fun (⟨k, out, outA, outC⟩ : Nat × (List Bytes) × (Option Addr) × Nat) => [(0, vS s), (2, vL none 0 0), (3, vL outA out.length outC), (4, vI ((k : Nat) : Int))]) (fun (⟨k, out, outA, outC⟩ : Nat × (List Bytes) × (Option Addr) × Nat) => [Ent.row (.slice outA out.length outC) 9 1 out.length (out.map vS)]) (fun (⟨k, out, outA, outC⟩ : Nat × (List Bytes) × (Option Addr) × Nat) => s.length - k) ((0, [[]], (some ⟨b1, 0, none⟩), 1) : Nat × (List Bytes) × (Option Addr) × Nat) ?_ ⟨rfl, rfl, rfl, rfl, trivial⟩ (fun _ h => (St.torow (cs := [vS []]) h 1 1 rfl (by decide)).keep [true] rfl) ?_
 ·try dsimp only
  refine ⟨?_, ?_⟩
  ·first | rfl | omega | (simp_all; done) | (simp_all; omega)
  ·exact R44.SplJ.start
 rintro ⟨k, out, outA, outC⟩ hI1
 obtain ⟨i1_0, i1_1⟩ := hI1
 try dsimp only at i1_0
 try dsimp only at i1_1
 have hne := i1_1.ne
 have hsh := i1_1.short (out.length - 1)
 have hfw := i1_1.few
 have hsu := fun h => sub_length s k (k + 1) h
 try dsimp only
 refine q_ (q_ (g_ (s_ mv_ (s_ mv_ (s_ (x_len_s rfl Tryd.underlying9) (s_ (x_lss_i rfl rfl) (z_ (n_ ?_))))))))
 refine ifd (fun h2w h2 => ?_) (fun h2w h2 => ?_)
 ·refine sk_ (n_ (q_ (k_ (q_ (g_ (s_ mv_ (s_ mv_ (s_ (x_idx_s (k := k) rfl rfl Tryd.underlying9 (by omega)) (js_ (vB (decide (s.getD k 0 = (46 : UInt8)))) (x_eql_u8 rfl rfl) (z_ (n_ ?_)))))))))))
  refine ifd (fun h3w h3 => ?_) (fun h3w h3 => ?_)
  ·refine g_ (s_ mv_ (o_ (O_buildSlice (cs := [vS []]) Tryd.underlying23 Ty.sz9 Ty.ze9 (by decide) (by decide) (by kernel_rfl) fun b4 => ?_)))
   refine o_ (O_append_m 1 vS out [[]] Tryd.underlying23 Ty.sz9 Ty.by9 Ty.ze9 rfl rfl rfl rfl rfl (fun _ => rfl) (cells_blk 0 (off := 0) (m := 1) rfl rfl) lt_ lt_ fun A5 c6 => ?_)
   refine s_ av_ (z_ (kx_ (n_ (g_ (s_ mv_ (s_ (x_add_n (a := k) (b := 1) rfl rfl (by omega)) (s_ av_ (z_ ?_))))))))
   refine JX_round ((k + 1, out ++ [[]], A5, c6) : Nat × (List Bytes) × (Option Addr) × Nat) ?_ ?_ ⟨rfl, rfl, rfl, rfl, trivial⟩ (fun _ h => h.keep [false, true] rfl)
   ·try dsimp only
    refine ⟨?_, ?_⟩
    ·first | rfl | omega | (simp_all; done) | (simp_all; omega)
    ·exact c40m5_
   ·try dsimp only
    first | omega | (simp; omega) | (simp_all; omega)
  ·refine drU [] [17] 18 Ty.mixed ?_
   refine jp_ 0 rfl mv_ (jp_ 1 rfl mv_ (jp_ 2 rfl (lnS Tryd.underlying23) (jp_ 3 rfl (x_sub_i (a := ((out.length : Nat) : Int)) (b := 1) rfl rfl (by omega) (by omega)) (jp_ 4 rfl mv_ (jp_ 5 rfl mv_ (jp_ 6 rfl (lnS Tryd.underlying23) (jp_ 7 rfl (x_sub_i (a := ((out.length : Nat) : Int)) (b := 1) rfl rfl (by omega) (by omega)) ?_)))))))
   refine JA_early 8 (pA outA (out.length - 1)) rfl (by kernel_rfl) (by kernel_rfl) (by kernel_rfl) rfl (by kernel_rfl) (fun _ _ _ h => h) rfl trivial (x_indexAddr_at (k := (out.length - 1)) (off := (out.length - 1)) (cells_row 0 rfl) Tryd.underlying23 Ty.sz9 rfl (ix_nat rfl (by omega)) lt_ c40m4_ (Nat.mul_one _)) ?_
   refine JA_early 9 (vS (out.getD (out.length - 1) [])) rfl (by kernel_rfl) (by kernel_rfl) (by kernel_rfl) rfl (by kernel_rfl) (fun _ _ _ h => h) rfl trivial (x_load_at (cells_row 0 rfl) rfl Ty.sc9 (map_at vS out [] lt_)) ?_
   refine jp_ 10 rfl mv_ (jp_ 11 rfl mv_ (jp_ 12 rfl mv_ (jp_ 13 rfl (x_add_n (a := k) (b := 1) rfl rfl (by omega)) (jp_ 14 rfl (x_sub_s (lo := k) (hi := k + 1) rfl Tryd.underlying9 (.inl rfl) (.inl rfl) lt_ (by first | omega | (simp only [sub, List.length_drop, List.length_take]; omega) | (simp; omega) | (simp_all; omega))) (jp_ 15 rfl (x_cat_s rfl rfl (by first | omega | (simp only [List.length_append, List.length_cons, List.length_nil]; omega) | (simp; omega) | (simp_all; omega))) ?_)))))
   refine JA_early 16 (pA outA (out.length - 1)) rfl (by kernel_rfl) (by kernel_rfl) (by kernel_rfl) rfl (by kernel_rfl) (fun _ _ _ h => h) rfl trivial (x_indexAddr_at (k := (out.length - 1)) (off := (out.length - 1)) (cells_row 0 rfl) Tryd.underlying23 Ty.sz9 rfl (ix_nat rfl (by omega)) lt_ c40m4_ (Nat.mul_one _)) ?_
   refine j1_ 17 (jio_ rfl (O_store_row_1 (a := (out.getD (out.length - 1) []) ++ (sub s k (k + 1))) (xs := out) (k := (out.length - 1)) 0 vS [Ent.row (.slice outA (out.set (out.length - 1) ((out.getD (out.length - 1) []) ++ (sub s k (k + 1)))).length outC) 9 1 (out.set (out.length - 1) ((out.getD (out.length - 1) []) ++ (sub s k (k + 1)))).length ((out.set (out.length - 1) ((out.getD (out.length - 1) []) ++ (sub s k (k + 1)))).map vS)] rfl rfl rfl Ty.sz9 rfl (fun _ => rfl) lt_ rfl ?_)) (fun _ h => ⟨h.keep [false] rfl, fun _ => h⟩)
   refine JA_weaken (E' := [(0, vS s), (2, vL none 0 0), (3, vL outA ((out.set (out.length - 1) ((out.getD (out.length - 1) []) ++ (sub s k (k + 1)))).length) outC), (4, vI ((k : Nat) : Int)), (6, vI ((k : Nat) : Int)), (7, vS s), (8, vI ((s.length : Nat) : Int)), (9, vB (decide (((k : Nat) : Int) < ((s.length : Nat) : Int)))), (12, vS s), (13, vI ((k : Nat) : Int)), (14, vU8 (s.getD k 0)), (15, vB (decide (s.getD k 0 = (46 : UInt8)))), (19, vL outA ((out.set (out.length - 1) ((out.getD (out.length - 1) []) ++ (sub s k (k + 1)))).length) outC), (20, vL outA ((out.set (out.length - 1) ((out.getD (out.length - 1) []) ++ (sub s k (k + 1)))).length) outC), (21, vI ((out.length : Nat) : Int)), (22, vI (((out.length : Nat) : Int) - 1)), (23, vL outA ((out.set (out.length - 1) ((out.getD (out.length - 1) []) ++ (sub s k (k + 1)))).length) outC), (24, vL outA ((out.set (out.length - 1) ((out.getD (out.length - 1) []) ++ (sub s k (k + 1)))).length) outC), (25, vI ((out.length : Nat) : Int)), (26, vI (((out.length : Nat) : Int) - 1)), (27, pA outA (out.length - 1)), (28, vS (out.getD (out.length - 1) [])), (29, vS s), (30, vI ((k : Nat) : Int)), (31, vI ((k : Nat) : Int)), (32, vI ((k + 1 : Nat) : Int)), (33, vS (sub s k (k + 1))), (34, vS ((out.getD (out.length - 1) []) ++ (sub s k (k + 1)))), (35, pA outA (out.length - 1))]) (L' := [Ent.row (.slice outA (out.set (out.length - 1) ((out.getD (out.length - 1) []) ++ (sub s k (k + 1)))).length outC) 9 1 (out.set (out.length - 1) ((out.getD (out.length - 1) []) ++ (sub s k (k + 1)))).length ((out.set (out.length - 1) ((out.getD (out.length - 1) []) ++ (sub s k (k + 1)))).map vS)]) ⟨rfl, rfl, (congrArg (fun n : Nat => some (Value.slice outA n outC)) (set_len out (out.length - 1) ((out.getD (out.length - 1) []) ++ (sub s k (k + 1)))).symm), rfl, rfl, rfl, rfl, rfl, rfl, rfl, rfl, rfl, (congrArg (fun n : Nat => some (Value.slice outA n outC)) (set_len out (out.length - 1) ((out.getD (out.length - 1) []) ++ (sub s k (k + 1)))).symm), (congrArg (fun n : Nat => some (Value.slice outA n outC)) (set_len out (out.length - 1) ((out.getD (out.length - 1) []) ++ (sub s k (k + 1)))).symm), rfl, rfl, (congrArg (fun n : Nat => some (Value.slice outA n outC)) (set_len out (out.length - 1) ((out.getD (out.length - 1) []) ++ (sub s k (k + 1)))).symm), (congrArg (fun n : Nat => some (Value.slice outA n outC)) (set_len out (out.length - 1) ((out.getD (out.length - 1) []) ++ (sub s k (k + 1)))).symm), rfl, rfl, rfl, rfl, rfl, rfl, rfl, rfl, rfl, rfl, rfl, trivial⟩ (fun _ h => h) ?_
   refine JA_done (by kernel_rfl) (gl_ rfl (fun _ h => h.keep [false] rfl)) ?_
   refine kx_ (n_ (g_ (s_ mv_ (s_ (x_add_n (a := k) (b := 1) rfl rfl (by omega)) (s_ av_ (z_ ?_))))))
   refine JX_round ((k + 1, (out.set (out.length - 1) ((out.getD (out.length - 1) []) ++ (sub s k (k + 1)))), outA, outC) : Nat × (List Bytes) × (Option Addr) × Nat) ?_ ?_ ⟨rfl, rfl, rfl, rfl, trivial⟩ (fun _ h => h)
   ·try dsimp only
    refine ⟨?_, ?_⟩
    ·first | rfl | omega | (simp_all; done) | (simp_all; omega)
    ·exact c40m5_
   ·try dsimp only
    first | omega | (simp; omega) | (simp_all; omega)
 ·refine J_exit (ne_ (re_ (kh_ (n_ (q_ ?_)))))
  refine g_ (s_ mv_ (s_ av_ (z_ (n_ (rt_ ?_)))))
  refine JX_rets [_] _ Tryd.results23 (fun w h => ⟨rfl, trivial⟩) rfl _ (fun _ h => h) ⟨outA, outC, ?_, ?_⟩
  ·have e_x0 : (out.length : Nat) = ((R44.splitC 46 s).length) := congrArg List.length (i1_1.done (by omega))
   exact congrArg (fun (x0 : Nat) => vL outA x0 outC) e_x0
  ·have e_y0 : (out : List Bytes) = (R44.splitC 46 s) := by
    exact i1_1.done (by omega)
   have e_all := (congrArg (fun (y0 : List Bytes) => [Ent.row (.slice outA y0.length outC) 9 1 y0.length (y0.map vS)]) e_y0)
   exact e_all
set_option maxRecDepth 20000 in
theorem f36_ok (s : Bytes) (w : World) (q0 : s.length ≤ 1000000) : Calls Tryd.prog 36 #[vS s, vB false] w (Gives [] w fun v L => v = vB (R44.nameV (R44.qualV R44.isUp R44.isPl) s) ∧ L = []) := by
 refine calls_J [] 30 Tryd.func36 rfl Tryd.ntmps36 [(0, _), (1, _)] rfl rfl (Give.nil w) ?_
 refine q_ (g_ (s_ av_ (z_ (n_ (q_ (q_ (g_ (s_ mv_ (s_ (x_len_s rfl Tryd.underlying9) (s_ (x_lss_i rfl rfl) (s_ mv_ ?_)))))))))))
 refine or_ 3 (decide ((31 : Int) < ((s.length : Nat) : Int))) (fun g1 => ?_) ?_
 ·have g1r := g1
  have g1r := of_decide_eq_false g1r
  refine sg_ g1 mv_ (sg_ g1 (x_len_s rfl Tryd.underlying9) (sg_ g1 (x_gtr_i rfl rfl) ?_))
  exact cr_
 refine z_ (n_ ?_)
 refine if_ (fun h2 => ?_) (fun h2 => ?_)
 ·have h2w := h2
  simp only [Bool.and_eq_true, Bool.or_eq_true, Bool.and_eq_false_iff, Bool.or_eq_false_iff, Bool.not_eq_true', Bool.not_eq_false', decide_eq_true_eq, decide_eq_false_iff_not] at h2
  refine q_ (g_ (s_ av_ (z_ (n_ (rt_ (nr_ ?_))))))
  exact p1 Tryd.results36 rfl ⟨(eB c40m1_), rfl⟩
 ·have h2w := h2
  have ⟨h2, h3⟩ := bor_false h2
  have h2 := of_decide_eq_false h2
  have h3 := of_decide_eq_false h3
  refine sk_ (n_ (q_ (g_ (s_ mv_ ?_))))
  refine c1 (cl_ Ty.ca23) (fun w hS => f23_ok s w hy_) ?_
  rintro _ _ ⟨e4, e5, rfl, rfl⟩
  have ha6 := R44.splitC_count 46 s
  refine s_ av_ (z_ (n_ (q_ (q_ (g_ (s_ av_ (z_ (n_ (k_ ?_)))))))))
  refine J_loop (X := Nat) (fun (k : Nat) => (k ≤ (R44.splitC 46 s).length) ∧ (∀ i, i < k → (R44.qualV R44.isUp R44.isPl) ((R44.splitC 46 s).getD i []) = true)) (fun (k : Nat) => [(1, vB false), (5, vL e4 ((R44.splitC 46 s).length) e5), (6, vI ((k : Nat) : Int))]) (fun (k : Nat) => [Ent.row (.slice e4 (R44.splitC 46 s).length e5) 9 1 (R44.splitC 46 s).length ((R44.splitC 46 s).map vS)]) (fun (k : Nat) => (R44.splitC 46 s).length - k) (0 : Nat) ?_ ⟨rfl, rfl, rfl, trivial⟩ (fun _ h => h) ?_
  ·try dsimp only
   refine ⟨?_, ?_⟩
   ·first | rfl | omega | (simp_all; done) | (simp_all; omega)
   ·intro i h2; omega
  intro k hI1
  obtain ⟨i1_0, i1_1⟩ := hI1
  try dsimp only at i1_0
  try dsimp only at i1_1
  have hpl := R44.splitC_len 46 s k
  try dsimp only
  refine q_ (q_ (g_ (s_ mv_ (s_ mv_ (s_ (lnS Tryd.underlying23) (s_ (x_lss_i rfl rfl) (z_ (n_ ?_))))))))
  refine ifd (fun h7w h7 => ?_) (fun h7w h7 => ?_)
  ·refine sk_ (n_ (q_ (k_ (q_ (g_ (s_ mv_ (s_ mv_ (r_ (ixM (cells_row 0 rfl) Tryd.underlying23 Ty.sz9) (r_ (ldM vS [] (cells_row 0 rfl) Ty.sc9) (s_ mv_ (c0 (cl_ Ty.ca45) (fun w hS => f45_ok _ w hy_) (s_ (x_not rfl) (z_ (n_ ?_))))))))))))))
   refine if_ (fun h8 => ?_) (fun h8 => ?_)
   ·have h8w := h8
    have h8 : ((R44.qualV R44.isUp R44.isPl) ((R44.splitC 46 s).getD k [])) = false := bnot_true h8
    refine q_ (g_ (s_ av_ (z_ (n_ (rt_ (kq_ (nr_ (rr_ (kq_ (nr_ ?_))))))))))
    exact p1 Tryd.results36 rfl ⟨(eB c40m1_), rfl⟩
   ·have h8w := h8
    have h8 : ((R44.qualV R44.isUp R44.isPl) ((R44.splitC 46 s).getD k [])) = true := bnot_false h8
    refine sk_ (kx_ (n_ (g_ (s_ mv_ (s_ (x_add_n (a := k) (b := 1) rfl rfl (by omega)) (s_ av_ (z_ ?_)))))))
    refine JX_round (k + 1 : Nat) ?_ ?_ ⟨rfl, rfl, rfl, trivial⟩ (fun _ h => h)
    ·try dsimp only
     refine ⟨?_, ?_⟩
     ·first | rfl | omega | (simp_all; done) | (simp_all; omega)
     ·exact R44.all_step i1_1 (by assumption)
    ·try dsimp only
     first | omega | (simp; omega) | (simp_all; omega)
  ·refine J_exit (ne_ (re_ (kh_ (n_ (q_ ?_)))))
   refine g_ (s_ av_ (z_ (n_ (rt_ ?_))))
   exact p1 Tryd.results36 rfl ⟨(eB c40m1_), rfl⟩
set_option maxRecDepth 20000 in
theorem f22_ok (s : Bytes) (w : World) (q0 : s.length ≤ 1000000) : Calls Tryd.prog 22 #[vS s] w (Gives [] w fun v L => v = vB (R44.nameV (R44.qualV R44.isUp R44.isPl) s) ∧ L = []) := by
 refine calls_J [] 5 Tryd.func22 rfl Tryd.ntmps22 [(0, _)] rfl rfl (Give.nil w) ?_
 refine q_ (g_ (s_ av_ (z_ (n_ (q_ (g_ (s_ mv_ (c0 (cl_ Ty.ca36) (fun w hS => f36_ok s w hy_) (s_ av_ (z_ (n_ (rt_ ?_))))))))))))
 exact p1 Tryd.results22 rfl ⟨rfl, rfl⟩
set_option maxRecDepth 20000 in
theorem f10_ok (s : Bytes) (w : World) (q0 : s.length ≤ 1000000) : Calls Tryd.prog 10 #[vS s] w (Gives [] w fun v L => v = vB (R40.stepV s) ∧ L = []) := by
 refine calls_J [] 11 Tryd.func10 rfl Tryd.ntmps10 [(0, _)] rfl rfl (Give.nil w) ?_
 refine q_ (g_ (s_ av_ (z_ (n_ (q_ (g_ (s_ mv_ (c0 (cl_ Ty.ca22) (fun w hS => f22_ok s w hy_) (s_ mv_ ?_)))))))))
 refine and_ 4 (decide ((((R44.splitC 46 s).length : Nat) : Int) ≤ 2)) (fun g1 => ?_) ?_
 ·have g1r := g1
  refine sg_ g1 mv_ ?_
  refine c1g g1 (cl_ Ty.ca23) (fun w hS => f23_ok s w hy_) ?_
  rintro _ _ ⟨e2, e3, rfl, rfl⟩
  have ha4 := R44.splitC_count 46 s
  refine sg_ g1 (lnS Tryd.underlying23) (sg_ g1 (x_leq_i rfl rfl) ?_)
  exact cr_ (fun _ h => h.keep [false] rfl)
 refine s_ av_ (z_ (n_ (rt_ ?_)))
 exact p1 Tryd.results10 rfl ⟨(eB (R40.ref_step)), rfl⟩
end Go.Proofs.YtngjdmhpljmkpaaDoor
