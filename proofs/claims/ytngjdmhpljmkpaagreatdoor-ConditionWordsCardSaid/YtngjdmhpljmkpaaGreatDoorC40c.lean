/- contracts C40c -/
import Derived.Test.YtngjdmhpljmkpaaGreatDoorConditionWords10
set_option linter.unusedVariables false
set_option linter.unusedSimpArgs false
namespace Go.Proofs.YtngjdmhpljmkpaaGreatDoor
open Go.GV
set_option linter.unusedVariables false
set_option linter.unusedSimpArgs false
theorem c40c0_ {p : Prop} (h : p := by first | exact R40.tree_neg (by omega) i1_1 (by assumption) (by assumption) (by omega) | exact R40.tree_pair (by omega) i1_1 (by assumption) (by assumption) (by omega) | exact R40.tree_leaf (by omega) i1_1 (R40.leaf_1 (by assumption) (by assumption)) | exact R40.tree_leaf (by omega) i1_1 (R40.leaf_2 (by assumption)) | exact R40.tree_leaf (by omega) i1_1 (R40.leaf_3 (by assumption))) : p := h
theorem c40c1_ {p : Prop} (h : p := by first | (rw [List.length_set]; omega) | (simp only [List.length_append, List.length_take, List.length_cons, List.length_nil]; omega)) : p := h
theorem c40c2_ {p : Prop} (h : p := by rw [List.length_map]; first | omega | (simp only [List.length_append, List.length_cons, List.length_nil]; omega) | (simp; omega) | (simp_all; omega) | (simp_all; done)) : p := h
theorem Tftree_on_ {p : Prop} (h : p := by first | (have hd := R40.tree_long (P := (R40.onP steps)) (ts := ts) (by omega); first | (rw [hd]; done) | (rw [hd]; rfl)) | (have hd := R40.tree_stop (P := (R40.onP steps)) (by omega) i1_1 (by assumption) (by assumption) (R40.leaf_no (by assumption) (by assumption) (by assumption)); first | (rw [hd]; done) | (rw [hd]; rfl)) | (have hd := R40.tree_len (by omega) i1_1 (by omega) (by omega); first | (rw [hd]; done) | (rw [hd]; rfl)) | (have hd := R40.tree_one (by omega) i1_1 (by omega) (by omega); first | (rw [hd]; done) | (rw [hd]; rfl))) : p := h
set_option maxRecDepth 20000 in
theorem ftree_on (ts : List Test) (tsA : Option Addr) (tsC : Nat) (bp : Nat) (steps : List Bytes) (stepsA : Option Addr) (stepsC : Nat) (w : World) (tsR : RO [bp] w tsA (ts.flatMap Test.enc)) (stepsR : RO [bp] w stepsA (steps.map vS)) (q0 : steps.length ≤ 9223372036854775807) (q1 : ts.length ≤ 9223372036854775807) (hg : Give [bp] w [Ent.blk bp 22 [vL stepsA steps.length stepsC]]) : Calls Tryz.prog 25 #[vL tsA ts.length tsC, Value.func (.func 58) #[] #[pB bp 0]] w (Gives [bp] w fun v L => v = Value.tuple #[nodeO (R40.treeV (R40.onP steps) ts), vB ((R40.treeV (R40.onP steps) ts).isSome)] ∧ L = [Ent.blk bp 22 [vL stepsA steps.length stepsC]]) := by
 refine calls_J [bp] 161 Tryz.func25 rfl Tryz.ntmps25 [(0, _), (1, _)] rfl rfl hg ?_
 refine q_ (g_ (s_ av_ (s_ av_ (z_ (n_ (q_ (q_ (g_ (s_ mv_ (s_ (lnS Tryz.underlying23) (s_ (x_gtr_i rfl rfl) (z_ (n_ ?_)))))))))))))
 refine ifd (fun h1w h1 => ?_) (fun h1w h1 => ?_)
 ·refine q_ (g_ (s_ av_ (s_ av_ (z_ (n_ (rt_ (nr_ ?_)))))))
  refine JX_rets [_, _] (Value.tuple #[_, _]) Tryz.results25 (fun w h => ⟨rfl, rfl, trivial⟩) rfl _ (fun _ h => h) ⟨?_, ?_⟩
  ·have e_x0 : (Value.nilIface : Value) = (nodeO (R40.treeV (R40.onP steps) ts)) := Tftree_on_
   have e_x1 : (false : Bool) = ((R40.treeV (R40.onP steps) ts).isSome) := Tftree_on_
   have e_all := (congr (congrArg (fun (x0 : Value) (x1 : Bool) => Value.tuple #[x0, vB x1]) e_x0) e_x1)
   exact e_all
  ·rfl
 ·refine sk_ (n_ (q_ (g_ (s_ av_ (z_ (n_ (q_ (q_ (g_ (s_ mv_ (s_ (lnS Tryz.underlying23) (s_ mv_ (z_ (n_ (k_ ?_)))))))))))))))
  refine J_loop (X := Nat × (List Node) × (Option Addr) × Nat) (fun (⟨k, l, lA, lC⟩ : Nat × (List Node) × (Option Addr) × Nat) => (k ≤ ts.length) ∧ (R40.treeG (R40.onP steps) k l (ts.drop k) = R40.treeG (R40.onP steps) 0 [] ts) ∧ (l.length ≤ k) ∧ (ts.length ≤ 32)) (fun (⟨k, l, lA, lC⟩ : Nat × (List Node) × (Option Addr) × Nat) => [(1, Value.func (.func 58) #[] #[pB bp 0]), (6, vL lA l.length lC), (14, vL tsA ts.length tsC), (15, vI ((ts.length : Nat) : Int)), (16, vI ((k : Nat) : Int))]) (fun (⟨k, l, lA, lC⟩ : Nat × (List Node) × (Option Addr) × Nat) => [Ent.blk bp 22 [vL stepsA steps.length stepsC], Ent.row (.slice lA l.length lC) 50 1 l.length (l.map nodeV)]) (fun (⟨k, l, lA, lC⟩ : Nat × (List Node) × (Option Addr) × Nat) => ts.length - k) ((0, ([] : List Node), none, 0) : Nat × (List Node) × (Option Addr) × Nat) ?_ ⟨rfl, rfl, rfl, rfl, rfl, trivial⟩ (fun _ h => ((h.nilrow 50 1).front 1 _ rfl).keep [true, true] rfl) ?_
  ·try dsimp only
   refine ⟨?_, ?_, ?_, ?_⟩
   ·first | rfl | omega | (simp_all; done) | (simp_all; omega)
   ·rfl
   ·first | rfl | omega | (simp_all; done) | (simp_all; omega)
   ·first | rfl | omega | (simp_all; done) | (simp_all; omega)
  rintro ⟨k, l, lA, lC⟩ hI1
  obtain ⟨i1_0, i1_1, i1_2, i1_3⟩ := hI1
  try dsimp only at i1_0
  try dsimp only at i1_1
  try dsimp only at i1_2
  try dsimp only at i1_3
  try dsimp only
  refine q_ (g_ (s_ (x_lss_i rfl rfl) (z_ (n_ (q_ ?_)))))
  refine ifd (fun h2w h2 => ?_) (fun h2w h2 => ?_)
  ·refine sk_ (n_ (q_ (k_ (q_ (g_ (s_ mv_ (r_ (ixF Test.enc_len (cells_ro tsR) Tryz.underlying23 Ty.sz40) (r_ (ldFN Test.enc_len (cells_ro tsR) Ty.ag40 Ty.sz40) (o_ (al_ Ty.ze40 fun b3 => ?_))))))))))
   refine s_ av_ (o_ (stG 0 Ty.sz40 ?_))
   refine z_ (n_ (q_ (g_ (s_ mv_ (s_ (lnS Tryz.underlying83) (s_ av_ (z_ (n_ (q_ (g_ (r_ (ldN 0 (Test.enc (ts.getD k default)) Ty.ag40 Ty.sz40) (s_ (fA 0 Ty.fi40_0) (r_ (ld_ 0 Ty.sc3) (js_ (vG [vI ((ts.getD k default).Kind), vS [], vI 0, vI 0]) (x_build (by kernel_rfl)) (s_ (x_eql_agg rfl rfl Ty.eg40 (Ty.eq40 9998 (ts.getD k default) (Test.mk ((ts.getD k default).Kind) [] 0 0))) ?_)))))))))))))))
   refine s_ av_ (z_ (n_ (k_ (q_ (g_ (s_ (fA 0 Ty.fi40_0) (r_ (ld_ 0 Ty.sc3) (s_ (x_eql_i rfl rfl) (s_ mv_ ?_)))))))))
   refine and_ 1 (decide (((ts.getD k default) : Test) = (Test.mk ((ts.getD k default).Kind) [] 0 0))) (fun g4 => ?_) ?_
   ·have g4r := g4
    have g4r := of_decide_eq_true g4r
    refine sg_ g4 mv_ ?_
    exact cr_
   refine s_ mv_ ?_
   refine and_ 2 (decide ((1 : Int) ≤ ((l.length : Nat) : Int))) (fun g5 => ?_) ?_
   ·have g5r := g5
    have ⟨g5r, h6⟩ := band_true g5r
    have g5r := of_decide_eq_true g5r
    have h6 := of_decide_eq_true h6
    refine sg_ g5 mv_ (sg_ g5 (x_geq_i rfl rfl) ?_)
    exact cr_
   refine s_ av_ (z_ (xk_ [1, 6, 14, 15, 16, 8, 7, 9, 10, 28] ?_))
   refine n_ ?_
   refine if_ (fun h7 => ?_) (fun h7 => ?_)
   ·have h7w := h7
    have ⟨h7, h8⟩ := band_true h7
    have ⟨h7, h9⟩ := band_true h7
    have h7 := of_decide_eq_true h7
    have h9 := of_decide_eq_true h9
    have h8 := of_decide_eq_true h8
    refine g_ (s_ mv_ (s_ mv_ (s_ (x_sub_i (a := ((l.length : Nat) : Int)) (b := 1) rfl rfl (by omega) (by omega)) (s_ mv_ (s_ mv_ (s_ (x_sub_i (a := ((l.length : Nat) : Int)) (b := 1) rfl rfl (by omega) (by omega)) (r_ (ixM (k := (l.length - 1)) (hy := (ix_nat rfl (by omega))) (cells_row 2 rfl) Tryz.underlying83 Ty.sz50) (r_ (ldM nodeV default (cells_row 2 rfl) Ty.sc50) (js_ (vG [nodeV (l.getD (l.length - 1) default)]) (x_build (by kernel_rfl)) ?_)))))))))
    refine js_ (Value.iface 85 (vG [nodeV (l.getD (l.length - 1) default)])) (x_iface rfl (by kernel_rfl)) (r_ (ixM (k := (l.length - 1)) (hy := (ix_nat rfl (by omega))) (cells_row 2 rfl) Tryz.underlying83 Ty.sz50) (o_ (O_store_row_1 (a := (Node.neg (l.getD (l.length - 1) default))) (xs := l) (k := (l.length - 1)) 2 nodeV [Ent.blk b3 40 (Test.enc (ts.getD k default)), Ent.blk bp 22 [vL stepsA steps.length stepsC], Ent.row (.slice lA (l.set (l.length - 1) (Node.neg (l.getD (l.length - 1) default))).length lC) 50 1 (l.set (l.length - 1) (Node.neg (l.getD (l.length - 1) default))).length ((l.set (l.length - 1) (Node.neg (l.getD (l.length - 1) default))).map nodeV)] rfl rfl rfl Ty.sz50 rfl nodeV_one lt_ rfl ?_)))
    refine JO_weaken (E' := [(1, Value.func (.func 58) #[] #[pB bp 0]), (6, vL lA ((l.set (l.length - 1) (Node.neg (l.getD (l.length - 1) default))).length) lC), (14, vL tsA ts.length tsC), (15, vI ((ts.length : Nat) : Int)), (16, vI ((k : Nat) : Int)), (8, pB b3 0), (7, vI ((k : Nat) : Int)), (9, vI ((l.length : Nat) : Int)), (10, vB (decide (((ts.getD k default) : Test) = (Test.mk ((ts.getD k default).Kind) [] 0 0)))), (28, vB (((decide ((ts.getD k default).Kind = 4)) && (decide (((ts.getD k default) : Test) = (Test.mk ((ts.getD k default).Kind) [] 0 0)))) && (decide ((1 : Int) ≤ ((l.length : Nat) : Int))))), (39, vL lA ((l.set (l.length - 1) (Node.neg (l.getD (l.length - 1) default))).length) lC), (40, vI ((l.length : Nat) : Int)), (41, vI (((l.length : Nat) : Int) - 1)), (42, vL lA ((l.set (l.length - 1) (Node.neg (l.getD (l.length - 1) default))).length) lC), (43, vI ((l.length : Nat) : Int)), (44, vI (((l.length : Nat) : Int) - 1)), (45, pA lA (l.length - 1)), (46, nodeV (l.getD (l.length - 1) default)), (47, vG [nodeV (l.getD (l.length - 1) default)]), (48, Value.iface 85 (vG [nodeV (l.getD (l.length - 1) default)])), (49, pA lA (l.length - 1))]) (L' := [Ent.blk b3 40 (Test.enc (ts.getD k default)), Ent.blk bp 22 [vL stepsA steps.length stepsC], Ent.row (.slice lA (l.set (l.length - 1) (Node.neg (l.getD (l.length - 1) default))).length lC) 50 1 (l.set (l.length - 1) (Node.neg (l.getD (l.length - 1) default))).length ((l.set (l.length - 1) (Node.neg (l.getD (l.length - 1) default))).map nodeV)]) ⟨rfl, (congrArg (fun n : Nat => some (Value.slice lA n lC)) (set_len l (l.length - 1) (Node.neg (l.getD (l.length - 1) default))).symm), rfl, rfl, rfl, rfl, rfl, rfl, rfl, rfl, (congrArg (fun n : Nat => some (Value.slice lA n lC)) (set_len l (l.length - 1) (Node.neg (l.getD (l.length - 1) default))).symm), rfl, rfl, (congrArg (fun n : Nat => some (Value.slice lA n lC)) (set_len l (l.length - 1) (Node.neg (l.getD (l.length - 1) default))).symm), rfl, rfl, rfl, rfl, rfl, rfl, rfl, trivial⟩ (fun _ h => h) ?_
    refine z_ (kx_ (kx_ (n_ (g_ (s_ (x_add_n (a := k) (b := 1) rfl rfl (by omega)) (s_ mv_ (z_ ?_)))))))
    refine JX_round ((k + 1, (l.set (l.length - 1) (Node.neg (l.getD (l.length - 1) default))), lA, lC) : Nat × (List Node) × (Option Addr) × Nat) ?_ ?_ ⟨rfl, rfl, rfl, rfl, rfl, trivial⟩ (fun _ h => h.keep [false, true, true] rfl)
    ·try dsimp only
     refine ⟨?_, ?_, ?_, ?_⟩
     ·first | rfl | omega | (simp_all; done) | (simp_all; omega)
     ·exact c40c0_
     ·exact c40c1_
     ·first | rfl | omega | (simp_all; done) | (simp_all; omega)
    ·try dsimp only
     first | omega | (simp; omega) | (simp_all; omega)
   ·have h7w := h7
    simp only [Bool.and_eq_true, Bool.or_eq_true, Bool.and_eq_false_iff, Bool.or_eq_false_iff, Bool.not_eq_true', Bool.not_eq_false', decide_eq_true_eq, decide_eq_false_iff_not] at h7
    refine q_ (g_ (s_ (fA 0 Ty.fi40_0) (r_ (ld_ 0 Ty.sc3) (s_ (x_eql_i rfl rfl) (s_ mv_ ?_)))))
    refine or_ 3 (decide ((ts.getD k default).Kind = 6)) (fun g10 => ?_) ?_
    ·have g10r := g10
     have g10r := of_decide_eq_false g10r
     refine sg_ g10 (fA 0 Ty.fi40_0) (rg_ g10 (ld_ 0 Ty.sc3) (sg_ g10 (x_eql_i rfl rfl) ?_))
     exact cr_
    refine s_ mv_ ?_
    refine and_ 1 (decide (((ts.getD k default) : Test) = (Test.mk ((ts.getD k default).Kind) [] 0 0))) (fun g11 => ?_) ?_
    ·have g11r := g11
     simp only [Bool.and_eq_true, Bool.or_eq_true, Bool.and_eq_false_iff, Bool.or_eq_false_iff, Bool.not_eq_true', Bool.not_eq_false', decide_eq_true_eq, decide_eq_false_iff_not] at g11r
     refine sg_ g11 mv_ ?_
     exact cr_
    refine s_ mv_ ?_
    refine and_ 2 (decide ((2 : Int) ≤ ((l.length : Nat) : Int))) (fun g12 => ?_) ?_
    ·have g12r := g12
     have ⟨g12r, h13⟩ := band_true g12r
     simp only [Bool.and_eq_true, Bool.or_eq_true, Bool.and_eq_false_iff, Bool.or_eq_false_iff, Bool.not_eq_true', Bool.not_eq_false', decide_eq_true_eq, decide_eq_false_iff_not] at g12r
     have h13 := of_decide_eq_true h13
     refine sg_ g12 mv_ (sg_ g12 (x_geq_i rfl rfl) ?_)
     exact cr_
    refine s_ av_ (z_ (n_ ?_))
    refine if_ (fun h14 => ?_) (fun h14 => ?_)
    ·have h14w := h14
     have ⟨h14, h15⟩ := band_true h14
     have ⟨h14, h16⟩ := band_true h14
     simp only [Bool.and_eq_true, Bool.or_eq_true, Bool.and_eq_false_iff, Bool.or_eq_false_iff, Bool.not_eq_true', Bool.not_eq_false', decide_eq_true_eq, decide_eq_false_iff_not] at h14
     have h16 := of_decide_eq_true h16
     have h15 := of_decide_eq_true h15
     refine drU [] [20] 22 Ty.mixed ?_
     refine jp_ 0 rfl mv_ (jp_ 1 rfl mv_ (jp_ 2 rfl (x_sub_i (a := ((l.length : Nat) : Int)) (b := 2) rfl rfl (by omega) (by omega)) ?_))
     refine JA_early 3 (vL lA (l.length - 2) lC) rfl (by kernel_rfl) (by kernel_rfl) (by kernel_rfl) rfl (by kernel_rfl) (fun _ _ _ h => h) rfl trivial (x_head_row 2 rfl rfl Tryz.underlying83 Ty.sz50 (congrArg some (ix_nat rfl (by omega))) lt_) ?_
     refine jp_ 4 rfl (fA 0 Ty.fi40_0) ?_
     refine JA_earlyT 5 (vI ((ts.getD k default).Kind)) rfl (by kernel_rfl) (by kernel_rfl) (by kernel_rfl) rfl (by kernel_rfl) (fun _ _ _ h => h) rfl trivial (x_load 0 rfl rfl Ty.sc3 rfl) ?_
     refine jp_ 6 rfl (x_eql_i rfl rfl) (jp_ 7 rfl mv_ (jp_ 8 rfl mv_ (jp_ 9 rfl (x_sub_i (a := ((l.length : Nat) : Int)) (b := 2) rfl rfl (by omega) (by omega)) ?_)))
     refine JA_earlyT 10 (pA lA (l.length - 2)) rfl (by kernel_rfl) (by kernel_rfl) (by kernel_rfl) rfl (by kernel_rfl) (fun _ _ _ h => h) rfl trivial (x_indexAddr_at (k := (l.length - 2)) (off := (l.length - 2)) (cells_row 2 rfl) Tryz.underlying83 Ty.sz50 rfl (ix_nat rfl (by omega)) lt_ c40c2_ (Nat.mul_one _)) ?_
     refine JA_earlyT 11 (nodeV (l.getD (l.length - 2) default)) rfl (by kernel_rfl) (by kernel_rfl) (by kernel_rfl) rfl (by kernel_rfl) (fun _ _ _ h => h) rfl trivial (x_load_at (cells_row 2 rfl) rfl Ty.sc50 (map_at nodeV l default lt_)) ?_
     refine jp_ 12 rfl mv_ (jp_ 13 rfl mv_ (jp_ 14 rfl (x_sub_i (a := ((l.length : Nat) : Int)) (b := 1) rfl rfl (by omega) (by omega)) ?_))
     refine JA_earlyT 15 (pA lA (l.length - 1)) rfl (by kernel_rfl) (by kernel_rfl) (by kernel_rfl) rfl (by kernel_rfl) (fun _ _ _ h => h) rfl trivial (x_indexAddr_at (k := (l.length - 1)) (off := (l.length - 1)) (cells_row 2 rfl) Tryz.underlying83 Ty.sz50 rfl (ix_nat rfl (by omega)) lt_ c40c2_ (Nat.mul_one _)) ?_
     refine JA_earlyT 16 (nodeV (l.getD (l.length - 1) default)) rfl (by kernel_rfl) (by kernel_rfl) (by kernel_rfl) rfl (by kernel_rfl) (fun _ _ _ h => h) rfl trivial (x_load_at (cells_row 2 rfl) rfl Ty.sc50 (map_at nodeV l default lt_)) ?_
     refine jt_ 17 (vG [vB (decide ((ts.getD k default).Kind = 5)), nodeV (l.getD (l.length - 2) default), nodeV (l.getD (l.length - 1) default)]) rfl (fun _ _ => x_build (by kernel_rfl)) ?_
     refine jt_ 18 (Value.iface 87 (vG [vB (decide ((ts.getD k default).Kind = 5)), nodeV (l.getD (l.length - 2) default), nodeV (l.getD (l.length - 1) default)])) rfl (fun _ _ => x_iface rfl (by kernel_rfl)) ?_
     refine j1_ 19 (jio_ rfl (O_buildSlice (cs := [Value.iface 87 (vG [vB (decide ((ts.getD k default).Kind = 5)), nodeV (l.getD (l.length - 2) default), nodeV (l.getD (l.length - 1) default)])]) Tryz.underlying83 Ty.sz50 Ty.ze50 (by decide) (by decide) (by kernel_rfl) fun b18 => ?_)) (fun _ h => ⟨h.keep [false, false, false] rfl, fun _ => h⟩)
     refine j1_ 20 ?_ (fun _ h => ⟨h.keep [false, false, false, false] rfl, fun _ => h.keep [false, true, true, true] rfl⟩)
     refine jio_ rfl (oL_ (L' := [Ent.blk b18 50 [Value.iface 87 (vG [vB (decide ((ts.getD k default).Kind = 5)), nodeV (l.getD (l.length - 2) default), nodeV (l.getD (l.length - 1) default)])], Ent.blk b3 40 (Test.enc (ts.getD k default)), Ent.blk bp 22 [vL stepsA steps.length stepsC], Ent.row (.slice lA (l.take (l.length - 2)).length lC) 50 1 (l.take (l.length - 2)).length ((l.take (l.length - 2)).map nodeV)]) (fun _ h => truncL h 3 rfl rfl lt_ (by rw [Nat.mul_one, List.map_take]) (take_len lt_)) (O_append_m 3 nodeV (l.take (l.length - 2)) [(Node.pair (decide ((ts.getD k default).Kind = 5)) (l.getD (l.length - 2) default) (l.getD (l.length - 1) default))] Tryz.underlying83 Ty.sz50 Ty.by50 Ty.ze50 rfl (congrArg (fun n : Nat => Value.slice lA n lC) (take_len lt_)) rfl rfl rfl nodeV_one (cells_blk 0 (off := 0) (m := 1) rfl rfl) lt_ lt_ fun A21 c22 => ?_))
     refine jp_ 21 rfl av_ ?_
     refine JA_done (by kernel_rfl) (gl_ rfl (fun _ h => h.keep [false, false, false, false] rfl)) ?_
     refine kx_ (kx_ (n_ (g_ (s_ (x_add_n (a := k) (b := 1) rfl rfl (by omega)) (s_ mv_ (z_ ?_))))))
     refine JX_round ((k + 1, (l.take (l.length - 2)) ++ [(Node.pair (decide ((ts.getD k default).Kind = 5)) (l.getD (l.length - 2) default) (l.getD (l.length - 1) default))], A21, c22) : Nat × (List Node) × (Option Addr) × Nat) ?_ ?_ ⟨rfl, rfl, rfl, rfl, rfl, trivial⟩ (fun _ h => h.keep [false, false, true, true] rfl)
     ·try dsimp only
      refine ⟨?_, ?_, ?_, ?_⟩
      ·first | rfl | omega | (simp_all; done) | (simp_all; omega)
      ·exact c40c0_
      ·exact c40c1_
      ·first | rfl | omega | (simp_all; done) | (simp_all; omega)
     ·try dsimp only
      first | omega | (simp; omega) | (simp_all; omega)
    ·have h14w := h14
     simp only [Bool.and_eq_true, Bool.or_eq_true, Bool.and_eq_false_iff, Bool.or_eq_false_iff, Bool.not_eq_true', Bool.not_eq_false', decide_eq_true_eq, decide_eq_false_iff_not] at h14
     refine q_ (q_ (g_ (s_ (fA 0 Ty.fi40_0) (r_ (ld_ 0 Ty.sc3) (s_ (x_eql_i rfl rfl) (s_ mv_ ?_))))))
     refine and_ 1 (decide (((ts.getD k default) : Test) = (Test.mk ((ts.getD k default).Kind) [] 0 0))) (fun g23 => ?_) ?_
     ·have g23r := g23
      have g23r := of_decide_eq_true g23r
      refine sg_ g23 mv_ ?_
      exact cr_
     refine s_ av_ (z_ (xk_ [1, 6, 14, 15, 16, 8, 7, 87] ?_))
     refine n_ ?_
     refine if_ (fun h24 => ?_) (fun h24 => ?_)
     ·have h24w := h24
      have ⟨h24, h25⟩ := band_true h24
      have h24 := of_decide_eq_true h24
      have h25 := of_decide_eq_true h25
      refine sk_ (n_ ?_)
      refine if_ (fun _ => ?_) (fun hc => absurd (h24w.symm.trans hc) (by decide))
      refine g_ (s_ mv_ (r_ (ldN 0 (Test.enc (ts.getD k default)) Ty.ag40 Ty.sz40) (s_ mv_ (js_ (vG (Test.enc (ts.getD k default) ++ [vI ((k : Nat) : Int)])) (x_build (by kernel_rfl)) (js_ (Value.iface 64 (vG (Test.enc (ts.getD k default) ++ [vI ((k : Nat) : Int)]))) (x_iface rfl (by kernel_rfl)) (o_ (O_buildSlice (cs := [Value.iface 64 (vG (Test.enc (ts.getD k default) ++ [vI ((k : Nat) : Int)]))]) Tryz.underlying83 Ty.sz50 Ty.ze50 (by decide) (by decide) (by kernel_rfl) fun b27 => ?_)))))))
      refine o_ (O_append_m 3 nodeV l [(Node.leaf (ts.getD k default) ((k : Nat) : Int))] Tryz.underlying83 Ty.sz50 Ty.by50 Ty.ze50 rfl rfl rfl rfl rfl nodeV_one (cells_blk 0 (off := 0) (m := 1) rfl rfl) lt_ lt_ fun A28 c29 => ?_)
      refine s_ av_ (z_ (kx_ (kx_ (n_ (g_ (s_ (x_add_n (a := k) (b := 1) rfl rfl (by omega)) (s_ mv_ (z_ ?_))))))))
      refine JX_round ((k + 1, l ++ [(Node.leaf (ts.getD k default) ((k : Nat) : Int))], A28, c29) : Nat × (List Node) × (Option Addr) × Nat) ?_ ?_ ⟨rfl, rfl, rfl, rfl, rfl, trivial⟩ (fun _ h => h.keep [false, false, true, true] rfl)
      ·try dsimp only
       refine ⟨?_, ?_, ?_, ?_⟩
       ·first | rfl | omega | (simp_all; done) | (simp_all; omega)
       ·exact c40c0_
       ·exact c40c1_
       ·first | rfl | omega | (simp_all; done) | (simp_all; omega)
      ·try dsimp only
       first | omega | (simp; omega) | (simp_all; omega)
     ·have h24w := h24
      simp only [Bool.and_eq_true, Bool.or_eq_true, Bool.and_eq_false_iff, Bool.or_eq_false_iff, Bool.not_eq_true', Bool.not_eq_false', decide_eq_true_eq, decide_eq_false_iff_not] at h24
      refine q_ (g_ (s_ (fA 0 Ty.fi40_0) (r_ (ld_ 0 Ty.sc3) (s_ (x_eql_i rfl rfl) (s_ mv_ ?_)))))
      refine or_ 3 (decide ((ts.getD k default).Kind = 2)) (fun g30 => ?_) ?_
      ·have g30r := g30
       have g30r := of_decide_eq_false g30r
       refine sg_ g30 (fA 0 Ty.fi40_0) (rg_ g30 (ld_ 0 Ty.sc3) (sg_ g30 (x_eql_i rfl rfl) ?_))
       exact cr_
      refine s_ mv_ ?_
      refine and_ 3 (decide ((ts.getD k default).Op = 0)) (fun g31 => ?_) ?_
      ·have g31r := g31
       simp only [Bool.and_eq_true, Bool.or_eq_true, Bool.and_eq_false_iff, Bool.or_eq_false_iff, Bool.not_eq_true', Bool.not_eq_false', decide_eq_true_eq, decide_eq_false_iff_not] at g31r
       refine sg_ g31 (fA 2 Ty.fi40_2) (rg_ g31 (ld_ 0 Ty.sc3) (sg_ g31 (x_eql_i rfl rfl) ?_))
       exact cr_
      refine s_ mv_ ?_
      refine and_ 3 (decide ((ts.getD k default).N = 0)) (fun g32 => ?_) ?_
      ·have g32r := g32
       have ⟨g32r, h33⟩ := band_true g32r
       simp only [Bool.and_eq_true, Bool.or_eq_true, Bool.and_eq_false_iff, Bool.or_eq_false_iff, Bool.not_eq_true', Bool.not_eq_false', decide_eq_true_eq, decide_eq_false_iff_not] at g32r
       have h33 := of_decide_eq_true h33
       refine sg_ g32 (fA 3 Ty.fi40_3) (rg_ g32 (ld_ 0 Ty.sc3) (sg_ g32 (x_eql_i rfl rfl) ?_))
       exact cr_
      refine s_ mv_ ?_
      refine JO_cut 5 (fun z => z = (((((decide ((ts.getD k default).Kind = 1)) || (decide ((ts.getD k default).Kind = 2))) && (decide ((ts.getD k default).Op = 0))) && (decide ((ts.getD k default).N = 0))) && (R40.onP steps ((ts.getD k default).Step)))) (fun z => [(1, Value.func (.func 58) #[] #[pB bp 0]), (6, vL lA l.length lC), (14, vL tsA ts.length tsC), (15, vI ((ts.length : Nat) : Int)), (16, vI ((k : Nat) : Int)), (8, pB b3 0), (7, vI ((k : Nat) : Int)), (87, vB ((decide ((ts.getD k default).Kind = 3)) && (decide (((ts.getD k default) : Test) = (Test.mk ((ts.getD k default).Kind) [] 0 0))))), (117, vB z)]) (fun _ => [Ent.blk bp 22 [vL stepsA steps.length stepsC], Ent.blk b3 40 (Test.enc (ts.getD k default)), Ent.row (.slice lA l.length lC) 50 1 l.length (l.map nodeV)]) ?_ ?_
      ·rcases Bool.eq_false_or_eq_true ((((decide ((ts.getD k default).Kind = 1)) || (decide ((ts.getD k default).Kind = 2))) && (decide ((ts.getD k default).Op = 0))) && (decide ((ts.getD k default).N = 0))) with g35 | g35
       ·have g35r := g35
        have ⟨g35r, h36⟩ := band_true g35r
        have ⟨g35r, h37⟩ := band_true g35r
        simp only [Bool.and_eq_true, Bool.or_eq_true, Bool.and_eq_false_iff, Bool.or_eq_false_iff, Bool.not_eq_true', Bool.not_eq_false', decide_eq_true_eq, decide_eq_false_iff_not] at g35r
        have h37 := of_decide_eq_true h37
        have h36 := of_decide_eq_true h36
        refine sg_ g35 mv_ (sg_ g35 (fA 1 Ty.fi40_1) (rg_ g35 (ld_ 0 Ty.sc9) ?_))
        refine JO_call [bp] [Ent.blk bp 22 [vL stepsA steps.length stepsC]] [Ent.blk b3 40 (Test.enc (ts.getD k default)), Ent.row (.slice lA l.length lC) 50 1 l.length (l.map nodeV)] rfl ⟨_, rfl, g35⟩ (fun _ => x_callv (first := []) (caps := [pB bp 0]) rfl Ty.ca58 rfl) (fun _ h => (((h.front 2 _ rfl).front 1 _ rfl).front 2 _ rfl).keep [true, true, true] rfl) (own_mem rfl) (fun w hS => f58_ok ((ts.getD k default).Step) bp steps stepsA stepsC w (stepsR.on hS (own_mem rfl)) hy_ (hS.give (own_in rfl))) ?_
        rintro _ _ ⟨rfl, rfl⟩
        refine js_ (vB (R40.onP steps ((ts.getD k default).Step))) (x_pick_t rfl g35 rfl) ?_
        refine z_ (JX_cut (R40.onP steps ((ts.getD k default).Step)) (by rw [g35]; simp) ⟨rfl, rfl, rfl, rfl, rfl, rfl, rfl, rfl, rfl, trivial⟩ (fun _ h => h))
       ·have g35r := g35
        simp only [Bool.and_eq_true, Bool.or_eq_true, Bool.and_eq_false_iff, Bool.or_eq_false_iff, Bool.not_eq_true', Bool.not_eq_false', decide_eq_true_eq, decide_eq_false_iff_not] at g35r
        refine sh_ g35 (sh_ g35 (sh_ g35 (sh_ g35 (js_ (vB false) (x_pick_f rfl g35 rfl) ?_))))
        refine z_ (JX_cut (false) (by rw [g35]; simp) ⟨rfl, rfl, rfl, rfl, rfl, rfl, rfl, rfl, rfl, trivial⟩ (fun _ h => (((h.front 2 _ rfl).front 1 _ rfl).front 2 _ rfl).keep [true, true, true] rfl))
      rintro z34 rfl
      refine s_ av_ (z_ (n_ ?_))
      refine if_ (fun h38 => ?_) (fun h38 => ?_)
      ·have h38w := h38
       have ⟨h38, h39⟩ := band_true h38
       have ⟨h38, h40⟩ := band_true h38
       have ⟨h38, h41⟩ := band_true h38
       simp only [Bool.and_eq_true, Bool.or_eq_true, Bool.and_eq_false_iff, Bool.or_eq_false_iff, Bool.not_eq_true', Bool.not_eq_false', decide_eq_true_eq, decide_eq_false_iff_not] at h38
       have h41 := of_decide_eq_true h41
       have h40 := of_decide_eq_true h40
       refine sk_ (n_ ?_)
       refine if_ (fun _ => ?_) (fun hc => absurd (h38w.symm.trans hc) (by decide))
       refine g_ (s_ mv_ (r_ (ldN 1 (Test.enc (ts.getD k default)) Ty.ag40 Ty.sz40) (s_ mv_ (js_ (vG (Test.enc (ts.getD k default) ++ [vI ((k : Nat) : Int)])) (x_build (by kernel_rfl)) (js_ (Value.iface 64 (vG (Test.enc (ts.getD k default) ++ [vI ((k : Nat) : Int)]))) (x_iface rfl (by kernel_rfl)) (o_ (O_buildSlice (cs := [Value.iface 64 (vG (Test.enc (ts.getD k default) ++ [vI ((k : Nat) : Int)]))]) Tryz.underlying83 Ty.sz50 Ty.ze50 (by decide) (by decide) (by kernel_rfl) fun b43 => ?_)))))))
       refine o_ (O_append_m 3 nodeV l [(Node.leaf (ts.getD k default) ((k : Nat) : Int))] Tryz.underlying83 Ty.sz50 Ty.by50 Ty.ze50 rfl rfl rfl rfl rfl nodeV_one (cells_blk 0 (off := 0) (m := 1) rfl rfl) lt_ lt_ fun A44 c45 => ?_)
       refine s_ av_ (z_ (kx_ (kx_ (n_ (g_ (s_ (x_add_n (a := k) (b := 1) rfl rfl (by omega)) (s_ mv_ (z_ ?_))))))))
       refine JX_round ((k + 1, l ++ [(Node.leaf (ts.getD k default) ((k : Nat) : Int))], A44, c45) : Nat × (List Node) × (Option Addr) × Nat) ?_ ?_ ⟨rfl, rfl, rfl, rfl, rfl, trivial⟩ (fun _ h => h.keep [false, true, false, true] rfl)
       ·try dsimp only
        refine ⟨?_, ?_, ?_, ?_⟩
        ·first | rfl | omega | (simp_all; done) | (simp_all; omega)
        ·exact c40c0_
        ·exact c40c1_
        ·first | rfl | omega | (simp_all; done) | (simp_all; omega)
       ·try dsimp only
        first | omega | (simp; omega) | (simp_all; omega)
      ·have h38w := h38
       simp only [Bool.and_eq_true, Bool.or_eq_true, Bool.and_eq_false_iff, Bool.or_eq_false_iff, Bool.not_eq_true', Bool.not_eq_false', decide_eq_true_eq, decide_eq_false_iff_not] at h38
       refine g_ (s_ (fA 0 Ty.fi40_0) (r_ (ld_ 1 Ty.sc3) (s_ (x_eql_i rfl rfl) (s_ mv_ ?_))))
       refine and_ 3 (decide ((0 : Int) ≤ (ts.getD k default).Op)) (fun g46 => ?_) ?_
       ·have g46r := g46
        have g46r := of_decide_eq_true g46r
        refine sg_ g46 (fA 2 Ty.fi40_2) (rg_ g46 (ld_ 1 Ty.sc3) (sg_ g46 (x_geq_i rfl rfl) ?_))
        exact cr_
       refine s_ mv_ ?_
       refine and_ 3 (decide ((ts.getD k default).Op ≤ 5)) (fun g47 => ?_) ?_
       ·have g47r := g47
        have ⟨g47r, h48⟩ := band_true g47r
        have g47r := of_decide_eq_true g47r
        have h48 := of_decide_eq_true h48
        refine sg_ g47 (fA 2 Ty.fi40_2) (rg_ g47 (ld_ 1 Ty.sc3) (sg_ g47 (x_leq_i rfl rfl) ?_))
        exact cr_
       refine s_ mv_ ?_
       refine and_ 3 (decide ((0 : Int) ≤ (ts.getD k default).N)) (fun g49 => ?_) ?_
       ·have g49r := g49
        have ⟨g49r, h50⟩ := band_true g49r
        have ⟨g49r, h51⟩ := band_true g49r
        have g49r := of_decide_eq_true g49r
        have h51 := of_decide_eq_true h51
        have h50 := of_decide_eq_true h50
        refine sg_ g49 (fA 3 Ty.fi40_3) (rg_ g49 (ld_ 1 Ty.sc3) (sg_ g49 (x_geq_i rfl rfl) ?_))
        exact cr_
       refine s_ mv_ ?_
       refine and_ 3 (decide ((ts.getD k default).N ≤ 4095)) (fun g52 => ?_) ?_
       ·have g52r := g52
        have ⟨g52r, h53⟩ := band_true g52r
        have ⟨g52r, h54⟩ := band_true g52r
        have ⟨g52r, h55⟩ := band_true g52r
        have g52r := of_decide_eq_true g52r
        have h55 := of_decide_eq_true h55
        have h54 := of_decide_eq_true h54
        have h53 := of_decide_eq_true h53
        refine sg_ g52 (fA 3 Ty.fi40_3) (rg_ g52 (ld_ 1 Ty.sc3) (sg_ g52 (x_leq_i rfl rfl) ?_))
        exact cr_
       refine s_ mv_ ?_
       refine and_ 4 (R40.onP steps ((ts.getD k default).Step)) (fun g56 => ?_) ?_
       ·have g56r := g56
        have ⟨g56r, h57⟩ := band_true g56r
        have ⟨g56r, h58⟩ := band_true g56r
        have ⟨g56r, h59⟩ := band_true g56r
        have ⟨g56r, h60⟩ := band_true g56r
        have g56r := of_decide_eq_true g56r
        have h60 := of_decide_eq_true h60
        have h59 := of_decide_eq_true h59
        have h58 := of_decide_eq_true h58
        have h57 := of_decide_eq_true h57
        refine sg_ g56 mv_ (sg_ g56 (fA 1 Ty.fi40_1) (rg_ g56 (ld_ 1 Ty.sc9) ?_))
        refine JO_call [bp] [Ent.blk bp 22 [vL stepsA steps.length stepsC]] [Ent.blk b3 40 (Test.enc (ts.getD k default)), Ent.row (.slice lA l.length lC) 50 1 l.length (l.map nodeV)] rfl ⟨_, rfl, g56⟩ (fun _ => x_callv (first := []) (caps := [pB bp 0]) rfl Ty.ca58 rfl) (fun _ h => h) (own_mem rfl) (fun w hS => f58_ok ((ts.getD k default).Step) bp steps stepsA stepsC w (stepsR.on hS (own_mem rfl)) hy_ (hS.give (own_in rfl))) ?_
        rintro _ _ ⟨rfl, rfl⟩
        exact cr_
       refine s_ av_ (z_ (xk_ [1, 6, 14, 15, 16, 8, 7, 87] ?_))
       refine n_ ?_
       refine if_ (fun h61 => ?_) (fun h61 => ?_)
       ·have h61w := h61
        have ⟨h61, h62⟩ := band_true h61
        have ⟨h61, h63⟩ := band_true h61
        have ⟨h61, h64⟩ := band_true h61
        have ⟨h61, h65⟩ := band_true h61
        have ⟨h61, h66⟩ := band_true h61
        have h61 := of_decide_eq_true h61
        have h66 := of_decide_eq_true h66
        have h65 := of_decide_eq_true h65
        have h64 := of_decide_eq_true h64
        have h63 := of_decide_eq_true h63
        refine g_ (s_ mv_ (r_ (ldN 1 (Test.enc (ts.getD k default)) Ty.ag40 Ty.sz40) (s_ mv_ (js_ (vG (Test.enc (ts.getD k default) ++ [vI ((k : Nat) : Int)])) (x_build (by kernel_rfl)) (js_ (Value.iface 64 (vG (Test.enc (ts.getD k default) ++ [vI ((k : Nat) : Int)]))) (x_iface rfl (by kernel_rfl)) (o_ (O_buildSlice (cs := [Value.iface 64 (vG (Test.enc (ts.getD k default) ++ [vI ((k : Nat) : Int)]))]) Tryz.underlying83 Ty.sz50 Ty.ze50 (by decide) (by decide) (by kernel_rfl) fun b67 => ?_)))))))
        refine o_ (O_append_m 3 nodeV l [(Node.leaf (ts.getD k default) ((k : Nat) : Int))] Tryz.underlying83 Ty.sz50 Ty.by50 Ty.ze50 rfl rfl rfl rfl rfl nodeV_one (cells_blk 0 (off := 0) (m := 1) rfl rfl) lt_ lt_ fun A68 c69 => ?_)
        refine s_ av_ (z_ (kx_ (kx_ (n_ (g_ (s_ (x_add_n (a := k) (b := 1) rfl rfl (by omega)) (s_ mv_ (z_ ?_))))))))
        refine JX_round ((k + 1, l ++ [(Node.leaf (ts.getD k default) ((k : Nat) : Int))], A68, c69) : Nat × (List Node) × (Option Addr) × Nat) ?_ ?_ ⟨rfl, rfl, rfl, rfl, rfl, trivial⟩ (fun _ h => h.keep [false, true, false, true] rfl)
        ·try dsimp only
         refine ⟨?_, ?_, ?_, ?_⟩
         ·first | rfl | omega | (simp_all; done) | (simp_all; omega)
         ·exact c40c0_
         ·exact c40c1_
         ·first | rfl | omega | (simp_all; done) | (simp_all; omega)
        ·try dsimp only
         first | omega | (simp; omega) | (simp_all; omega)
       ·have h61w := h61
        simp only [Bool.and_eq_true, Bool.or_eq_true, Bool.and_eq_false_iff, Bool.or_eq_false_iff, Bool.not_eq_true', Bool.not_eq_false', decide_eq_true_eq, decide_eq_false_iff_not] at h61
        refine q_ (g_ (s_ av_ (s_ av_ (z_ (n_ (rt_ (kq_ (kq_ (nr_ (rr_ (kq_ (nr_ ?_))))))))))))
        refine JX_rets [_, _] (Value.tuple #[_, _]) Tryz.results25 (fun w h => ⟨rfl, rfl, trivial⟩) rfl _ (fun _ h => h.keep [true, false, false] rfl) ⟨?_, ?_⟩
        ·have e_x0 : (Value.nilIface : Value) = (nodeO (R40.treeV (R40.onP steps) ts)) := Tftree_on_
         have e_x1 : (false : Bool) = ((R40.treeV (R40.onP steps) ts).isSome) := Tftree_on_
         have e_all := (congr (congrArg (fun (x0 : Value) (x1 : Bool) => Value.tuple #[x0, vB x1]) e_x0) e_x1)
         exact e_all
        ·rfl
  ·refine J_exit (ne_ (re_ (kh_ (n_ (q_ ?_)))))
   refine q_ (g_ (s_ mv_ (s_ (lnS Tryz.underlying83) (s_ (x_neq_i rfl rfl) (z_ (n_ ?_))))))
   refine ifd (fun h70w h70 => ?_) (fun h70w h70 => ?_)
   ·refine q_ (g_ (s_ av_ (s_ av_ (z_ (n_ (rt_ (nr_ ?_)))))))
    refine JX_rets [_, _] (Value.tuple #[_, _]) Tryz.results25 (fun w h => ⟨rfl, rfl, trivial⟩) rfl _ (fun _ h => h.keep [true, false] rfl) ⟨?_, ?_⟩
    ·have e_x0 : (Value.nilIface : Value) = (nodeO (R40.treeV (R40.onP steps) ts)) := Tftree_on_
     have e_x1 : (false : Bool) = ((R40.treeV (R40.onP steps) ts).isSome) := Tftree_on_
     have e_all := (congr (congrArg (fun (x0 : Value) (x1 : Bool) => Value.tuple #[x0, vB x1]) e_x0) e_x1)
     exact e_all
    ·rfl
   ·refine sk_ (n_ (q_ (g_ (s_ mv_ (r_ (ixM (k := 0) (cells_row 1 rfl) Tryz.underlying83 Ty.sz50) (r_ (ldM nodeV default (cells_row 1 rfl) Ty.sc50) (s_ av_ (s_ av_ (z_ (n_ (rt_ ?_)))))))))))
    refine JX_rets [_, _] (Value.tuple #[_, _]) Tryz.results25 (fun w h => ⟨rfl, rfl, trivial⟩) rfl _ (fun _ h => h.keep [true, false] rfl) ⟨?_, ?_⟩
    ·have e_x0 : (nodeV (l.getD 0 default) : Value) = (nodeO (R40.treeV (R40.onP steps) ts)) := Tftree_on_
     have e_x1 : (true : Bool) = ((R40.treeV (R40.onP steps) ts).isSome) := Tftree_on_
     have e_all := (congr (congrArg (fun (x0 : Value) (x1 : Bool) => Value.tuple #[x0, vB x1]) e_x0) e_x1)
     exact e_all
    ·rfl
theorem Tftree_nm_ {p : Prop} (h : p := by first | (have hd := R40.tree_long (P := R40.stepV) (ts := ts) (by omega); first | (rw [hd]; done) | (rw [hd]; rfl)) | (have hd := R40.tree_stop (P := R40.stepV) (by omega) i1_1 (by assumption) (by assumption) (R40.leaf_no (by assumption) (by assumption) (by assumption)); first | (rw [hd]; done) | (rw [hd]; rfl)) | (have hd := R40.tree_len (by omega) i1_1 (by omega) (by omega); first | (rw [hd]; done) | (rw [hd]; rfl)) | (have hd := R40.tree_one (by omega) i1_1 (by omega) (by omega); first | (rw [hd]; done) | (rw [hd]; rfl))) : p := h
set_option maxRecDepth 20000 in
theorem ftree_nm (ts : List Test) (tsA : Option Addr) (tsC : Nat) (w : World) (tsR : RO [] w tsA (ts.flatMap Test.enc)) (hT : Tab [] w) (q0 : ts.length ≤ 9223372036854775807) (q1 : ∀ i, (ts.getD i default).Step.length ≤ 1000000) : Calls Tryz.prog 25 #[vL tsA ts.length tsC, Value.func (.func 26) #[] #[]] w (Gives [] w fun v L => v = Value.tuple #[nodeO (R40.treeV R40.stepV ts), vB ((R40.treeV R40.stepV ts).isSome)] ∧ L = []) := by
 refine calls_J [] 161 Tryz.func25 rfl Tryz.ntmps25 [(0, _), (1, _)] rfl rfl (Give.nil w) ?_
 refine q_ (g_ (s_ av_ (s_ av_ (z_ (n_ (q_ (q_ (g_ (s_ mv_ (s_ (lnS Tryz.underlying23) (s_ (x_gtr_i rfl rfl) (z_ (n_ ?_)))))))))))))
 refine ifd (fun h1w h1 => ?_) (fun h1w h1 => ?_)
 ·refine q_ (g_ (s_ av_ (s_ av_ (z_ (n_ (rt_ (nr_ ?_)))))))
  refine p2 Tryz.results25 rfl rfl ⟨?_, rfl⟩
  have e_x0 : (Value.nilIface : Value) = (nodeO (R40.treeV R40.stepV ts)) := Tftree_nm_
  have e_x1 : (false : Bool) = ((R40.treeV R40.stepV ts).isSome) := Tftree_nm_
  have e_all := (congr (congrArg (fun (x0 : Value) (x1 : Bool) => Value.tuple #[x0, vB x1]) e_x0) e_x1)
  exact e_all
 ·refine sk_ (n_ (q_ (g_ (s_ av_ (z_ (n_ (q_ (q_ (g_ (s_ mv_ (s_ (lnS Tryz.underlying23) (s_ mv_ (z_ (n_ (k_ ?_)))))))))))))))
  refine J_loop (X := Nat × (List Node) × (Option Addr) × Nat) (fun (⟨k, l, lA, lC⟩ : Nat × (List Node) × (Option Addr) × Nat) => (k ≤ ts.length) ∧ (R40.treeG R40.stepV k l (ts.drop k) = R40.treeG R40.stepV 0 [] ts) ∧ (l.length ≤ k) ∧ (ts.length ≤ 32)) (fun (⟨k, l, lA, lC⟩ : Nat × (List Node) × (Option Addr) × Nat) => [(1, Value.func (.func 26) #[] #[]), (6, vL lA l.length lC), (14, vL tsA ts.length tsC), (15, vI ((ts.length : Nat) : Int)), (16, vI ((k : Nat) : Int))]) (fun (⟨k, l, lA, lC⟩ : Nat × (List Node) × (Option Addr) × Nat) => [Ent.row (.slice lA l.length lC) 50 1 l.length (l.map nodeV)]) (fun (⟨k, l, lA, lC⟩ : Nat × (List Node) × (Option Addr) × Nat) => ts.length - k) ((0, ([] : List Node), none, 0) : Nat × (List Node) × (Option Addr) × Nat) ?_ ⟨rfl, rfl, rfl, rfl, rfl, trivial⟩ (fun _ h => (h.nilrow 50 1).keep [true] rfl) ?_
  ·try dsimp only
   refine ⟨?_, ?_, ?_, ?_⟩
   ·first | rfl | omega | (simp_all; done) | (simp_all; omega)
   ·rfl
   ·first | rfl | omega | (simp_all; done) | (simp_all; omega)
   ·first | rfl | omega | (simp_all; done) | (simp_all; omega)
  rintro ⟨k, l, lA, lC⟩ hI1
  obtain ⟨i1_0, i1_1, i1_2, i1_3⟩ := hI1
  try dsimp only at i1_0
  try dsimp only at i1_1
  try dsimp only at i1_2
  try dsimp only at i1_3
  have hsl := q1 k
  try dsimp only
  refine q_ (g_ (s_ (x_lss_i rfl rfl) (z_ (n_ (q_ ?_)))))
  refine ifd (fun h2w h2 => ?_) (fun h2w h2 => ?_)
  ·refine sk_ (n_ (q_ (k_ (q_ (g_ (s_ mv_ (r_ (ixF Test.enc_len (cells_ro tsR) Tryz.underlying23 Ty.sz40) (r_ (ldFN Test.enc_len (cells_ro tsR) Ty.ag40 Ty.sz40) (o_ (al_ Ty.ze40 fun b3 => ?_))))))))))
   refine s_ av_ (o_ (stG 0 Ty.sz40 ?_))
   refine z_ (n_ (q_ (g_ (s_ mv_ (s_ (lnS Tryz.underlying83) (s_ av_ (z_ (n_ (q_ (g_ (r_ (ldN 0 (Test.enc (ts.getD k default)) Ty.ag40 Ty.sz40) (s_ (fA 0 Ty.fi40_0) (r_ (ld_ 0 Ty.sc3) (js_ (vG [vI ((ts.getD k default).Kind), vS [], vI 0, vI 0]) (x_build (by kernel_rfl)) (s_ (x_eql_agg rfl rfl Ty.eg40 (Ty.eq40 9998 (ts.getD k default) (Test.mk ((ts.getD k default).Kind) [] 0 0))) ?_)))))))))))))))
   refine s_ av_ (z_ (n_ (k_ (q_ (g_ (s_ (fA 0 Ty.fi40_0) (r_ (ld_ 0 Ty.sc3) (s_ (x_eql_i rfl rfl) (s_ mv_ ?_)))))))))
   refine and_ 1 (decide (((ts.getD k default) : Test) = (Test.mk ((ts.getD k default).Kind) [] 0 0))) (fun g4 => ?_) ?_
   ·have g4r := g4
    have g4r := of_decide_eq_true g4r
    refine sg_ g4 mv_ ?_
    exact cr_
   refine s_ mv_ ?_
   refine and_ 2 (decide ((1 : Int) ≤ ((l.length : Nat) : Int))) (fun g5 => ?_) ?_
   ·have g5r := g5
    have ⟨g5r, h6⟩ := band_true g5r
    have g5r := of_decide_eq_true g5r
    have h6 := of_decide_eq_true h6
    refine sg_ g5 mv_ (sg_ g5 (x_geq_i rfl rfl) ?_)
    exact cr_
   refine s_ av_ (z_ (xk_ [1, 6, 14, 15, 16, 8, 7, 9, 10, 28] ?_))
   refine n_ ?_
   refine if_ (fun h7 => ?_) (fun h7 => ?_)
   ·have h7w := h7
    have ⟨h7, h8⟩ := band_true h7
    have ⟨h7, h9⟩ := band_true h7
    have h7 := of_decide_eq_true h7
    have h9 := of_decide_eq_true h9
    have h8 := of_decide_eq_true h8
    refine g_ (s_ mv_ (s_ mv_ (s_ (x_sub_i (a := ((l.length : Nat) : Int)) (b := 1) rfl rfl (by omega) (by omega)) (s_ mv_ (s_ mv_ (s_ (x_sub_i (a := ((l.length : Nat) : Int)) (b := 1) rfl rfl (by omega) (by omega)) (r_ (ixM (k := (l.length - 1)) (hy := (ix_nat rfl (by omega))) (cells_row 1 rfl) Tryz.underlying83 Ty.sz50) (r_ (ldM nodeV default (cells_row 1 rfl) Ty.sc50) (js_ (vG [nodeV (l.getD (l.length - 1) default)]) (x_build (by kernel_rfl)) ?_)))))))))
    refine js_ (Value.iface 85 (vG [nodeV (l.getD (l.length - 1) default)])) (x_iface rfl (by kernel_rfl)) (r_ (ixM (k := (l.length - 1)) (hy := (ix_nat rfl (by omega))) (cells_row 1 rfl) Tryz.underlying83 Ty.sz50) (o_ (O_store_row_1 (a := (Node.neg (l.getD (l.length - 1) default))) (xs := l) (k := (l.length - 1)) 1 nodeV [Ent.blk b3 40 (Test.enc (ts.getD k default)), Ent.row (.slice lA (l.set (l.length - 1) (Node.neg (l.getD (l.length - 1) default))).length lC) 50 1 (l.set (l.length - 1) (Node.neg (l.getD (l.length - 1) default))).length ((l.set (l.length - 1) (Node.neg (l.getD (l.length - 1) default))).map nodeV)] rfl rfl rfl Ty.sz50 rfl nodeV_one lt_ rfl ?_)))
    refine JO_weaken (E' := [(1, Value.func (.func 26) #[] #[]), (6, vL lA ((l.set (l.length - 1) (Node.neg (l.getD (l.length - 1) default))).length) lC), (14, vL tsA ts.length tsC), (15, vI ((ts.length : Nat) : Int)), (16, vI ((k : Nat) : Int)), (8, pB b3 0), (7, vI ((k : Nat) : Int)), (9, vI ((l.length : Nat) : Int)), (10, vB (decide (((ts.getD k default) : Test) = (Test.mk ((ts.getD k default).Kind) [] 0 0)))), (28, vB (((decide ((ts.getD k default).Kind = 4)) && (decide (((ts.getD k default) : Test) = (Test.mk ((ts.getD k default).Kind) [] 0 0)))) && (decide ((1 : Int) ≤ ((l.length : Nat) : Int))))), (39, vL lA ((l.set (l.length - 1) (Node.neg (l.getD (l.length - 1) default))).length) lC), (40, vI ((l.length : Nat) : Int)), (41, vI (((l.length : Nat) : Int) - 1)), (42, vL lA ((l.set (l.length - 1) (Node.neg (l.getD (l.length - 1) default))).length) lC), (43, vI ((l.length : Nat) : Int)), (44, vI (((l.length : Nat) : Int) - 1)), (45, pA lA (l.length - 1)), (46, nodeV (l.getD (l.length - 1) default)), (47, vG [nodeV (l.getD (l.length - 1) default)]), (48, Value.iface 85 (vG [nodeV (l.getD (l.length - 1) default)])), (49, pA lA (l.length - 1))]) (L' := [Ent.blk b3 40 (Test.enc (ts.getD k default)), Ent.row (.slice lA (l.set (l.length - 1) (Node.neg (l.getD (l.length - 1) default))).length lC) 50 1 (l.set (l.length - 1) (Node.neg (l.getD (l.length - 1) default))).length ((l.set (l.length - 1) (Node.neg (l.getD (l.length - 1) default))).map nodeV)]) ⟨rfl, (congrArg (fun n : Nat => some (Value.slice lA n lC)) (set_len l (l.length - 1) (Node.neg (l.getD (l.length - 1) default))).symm), rfl, rfl, rfl, rfl, rfl, rfl, rfl, rfl, (congrArg (fun n : Nat => some (Value.slice lA n lC)) (set_len l (l.length - 1) (Node.neg (l.getD (l.length - 1) default))).symm), rfl, rfl, (congrArg (fun n : Nat => some (Value.slice lA n lC)) (set_len l (l.length - 1) (Node.neg (l.getD (l.length - 1) default))).symm), rfl, rfl, rfl, rfl, rfl, rfl, rfl, trivial⟩ (fun _ h => h) ?_
    refine z_ (kx_ (kx_ (n_ (g_ (s_ (x_add_n (a := k) (b := 1) rfl rfl (by omega)) (s_ mv_ (z_ ?_)))))))
    refine JX_round ((k + 1, (l.set (l.length - 1) (Node.neg (l.getD (l.length - 1) default))), lA, lC) : Nat × (List Node) × (Option Addr) × Nat) ?_ ?_ ⟨rfl, rfl, rfl, rfl, rfl, trivial⟩ (fun _ h => h.keep [false, true] rfl)
    ·try dsimp only
     refine ⟨?_, ?_, ?_, ?_⟩
     ·first | rfl | omega | (simp_all; done) | (simp_all; omega)
     ·exact c40c0_
     ·exact c40c1_
     ·first | rfl | omega | (simp_all; done) | (simp_all; omega)
    ·try dsimp only
     first | omega | (simp; omega) | (simp_all; omega)
   ·have h7w := h7
    simp only [Bool.and_eq_true, Bool.or_eq_true, Bool.and_eq_false_iff, Bool.or_eq_false_iff, Bool.not_eq_true', Bool.not_eq_false', decide_eq_true_eq, decide_eq_false_iff_not] at h7
    refine q_ (g_ (s_ (fA 0 Ty.fi40_0) (r_ (ld_ 0 Ty.sc3) (s_ (x_eql_i rfl rfl) (s_ mv_ ?_)))))
    refine or_ 3 (decide ((ts.getD k default).Kind = 6)) (fun g10 => ?_) ?_
    ·have g10r := g10
     have g10r := of_decide_eq_false g10r
     refine sg_ g10 (fA 0 Ty.fi40_0) (rg_ g10 (ld_ 0 Ty.sc3) (sg_ g10 (x_eql_i rfl rfl) ?_))
     exact cr_
    refine s_ mv_ ?_
    refine and_ 1 (decide (((ts.getD k default) : Test) = (Test.mk ((ts.getD k default).Kind) [] 0 0))) (fun g11 => ?_) ?_
    ·have g11r := g11
     simp only [Bool.and_eq_true, Bool.or_eq_true, Bool.and_eq_false_iff, Bool.or_eq_false_iff, Bool.not_eq_true', Bool.not_eq_false', decide_eq_true_eq, decide_eq_false_iff_not] at g11r
     refine sg_ g11 mv_ ?_
     exact cr_
    refine s_ mv_ ?_
    refine and_ 2 (decide ((2 : Int) ≤ ((l.length : Nat) : Int))) (fun g12 => ?_) ?_
    ·have g12r := g12
     have ⟨g12r, h13⟩ := band_true g12r
     simp only [Bool.and_eq_true, Bool.or_eq_true, Bool.and_eq_false_iff, Bool.or_eq_false_iff, Bool.not_eq_true', Bool.not_eq_false', decide_eq_true_eq, decide_eq_false_iff_not] at g12r
     have h13 := of_decide_eq_true h13
     refine sg_ g12 mv_ (sg_ g12 (x_geq_i rfl rfl) ?_)
     exact cr_
    refine s_ av_ (z_ (n_ ?_))
    refine if_ (fun h14 => ?_) (fun h14 => ?_)
    ·have h14w := h14
     have ⟨h14, h15⟩ := band_true h14
     have ⟨h14, h16⟩ := band_true h14
     simp only [Bool.and_eq_true, Bool.or_eq_true, Bool.and_eq_false_iff, Bool.or_eq_false_iff, Bool.not_eq_true', Bool.not_eq_false', decide_eq_true_eq, decide_eq_false_iff_not] at h14
     have h16 := of_decide_eq_true h16
     have h15 := of_decide_eq_true h15
     refine drU [] [20] 22 Ty.mixed ?_
     refine jp_ 0 rfl mv_ (jp_ 1 rfl mv_ (jp_ 2 rfl (x_sub_i (a := ((l.length : Nat) : Int)) (b := 2) rfl rfl (by omega) (by omega)) ?_))
     refine JA_early 3 (vL lA (l.length - 2) lC) rfl (by kernel_rfl) (by kernel_rfl) (by kernel_rfl) rfl (by kernel_rfl) (fun _ _ _ h => h) rfl trivial (x_head_row 1 rfl rfl Tryz.underlying83 Ty.sz50 (congrArg some (ix_nat rfl (by omega))) lt_) ?_
     refine jp_ 4 rfl (fA 0 Ty.fi40_0) ?_
     refine JA_earlyT 5 (vI ((ts.getD k default).Kind)) rfl (by kernel_rfl) (by kernel_rfl) (by kernel_rfl) rfl (by kernel_rfl) (fun _ _ _ h => h) rfl trivial (x_load 0 rfl rfl Ty.sc3 rfl) ?_
     refine jp_ 6 rfl (x_eql_i rfl rfl) (jp_ 7 rfl mv_ (jp_ 8 rfl mv_ (jp_ 9 rfl (x_sub_i (a := ((l.length : Nat) : Int)) (b := 2) rfl rfl (by omega) (by omega)) ?_)))
     refine JA_earlyT 10 (pA lA (l.length - 2)) rfl (by kernel_rfl) (by kernel_rfl) (by kernel_rfl) rfl (by kernel_rfl) (fun _ _ _ h => h) rfl trivial (x_indexAddr_at (k := (l.length - 2)) (off := (l.length - 2)) (cells_row 1 rfl) Tryz.underlying83 Ty.sz50 rfl (ix_nat rfl (by omega)) lt_ c40c2_ (Nat.mul_one _)) ?_
     refine JA_earlyT 11 (nodeV (l.getD (l.length - 2) default)) rfl (by kernel_rfl) (by kernel_rfl) (by kernel_rfl) rfl (by kernel_rfl) (fun _ _ _ h => h) rfl trivial (x_load_at (cells_row 1 rfl) rfl Ty.sc50 (map_at nodeV l default lt_)) ?_
     refine jp_ 12 rfl mv_ (jp_ 13 rfl mv_ (jp_ 14 rfl (x_sub_i (a := ((l.length : Nat) : Int)) (b := 1) rfl rfl (by omega) (by omega)) ?_))
     refine JA_earlyT 15 (pA lA (l.length - 1)) rfl (by kernel_rfl) (by kernel_rfl) (by kernel_rfl) rfl (by kernel_rfl) (fun _ _ _ h => h) rfl trivial (x_indexAddr_at (k := (l.length - 1)) (off := (l.length - 1)) (cells_row 1 rfl) Tryz.underlying83 Ty.sz50 rfl (ix_nat rfl (by omega)) lt_ c40c2_ (Nat.mul_one _)) ?_
     refine JA_earlyT 16 (nodeV (l.getD (l.length - 1) default)) rfl (by kernel_rfl) (by kernel_rfl) (by kernel_rfl) rfl (by kernel_rfl) (fun _ _ _ h => h) rfl trivial (x_load_at (cells_row 1 rfl) rfl Ty.sc50 (map_at nodeV l default lt_)) ?_
     refine jt_ 17 (vG [vB (decide ((ts.getD k default).Kind = 5)), nodeV (l.getD (l.length - 2) default), nodeV (l.getD (l.length - 1) default)]) rfl (fun _ _ => x_build (by kernel_rfl)) ?_
     refine jt_ 18 (Value.iface 87 (vG [vB (decide ((ts.getD k default).Kind = 5)), nodeV (l.getD (l.length - 2) default), nodeV (l.getD (l.length - 1) default)])) rfl (fun _ _ => x_iface rfl (by kernel_rfl)) ?_
     refine j1_ 19 (jio_ rfl (O_buildSlice (cs := [Value.iface 87 (vG [vB (decide ((ts.getD k default).Kind = 5)), nodeV (l.getD (l.length - 2) default), nodeV (l.getD (l.length - 1) default)])]) Tryz.underlying83 Ty.sz50 Ty.ze50 (by decide) (by decide) (by kernel_rfl) fun b18 => ?_)) (fun _ h => ⟨h.keep [false, false] rfl, fun _ => h⟩)
     refine j1_ 20 ?_ (fun _ h => ⟨h.keep [false, false, false] rfl, fun _ => h.keep [false, true, true] rfl⟩)
     refine jio_ rfl (oL_ (L' := [Ent.blk b18 50 [Value.iface 87 (vG [vB (decide ((ts.getD k default).Kind = 5)), nodeV (l.getD (l.length - 2) default), nodeV (l.getD (l.length - 1) default)])], Ent.blk b3 40 (Test.enc (ts.getD k default)), Ent.row (.slice lA (l.take (l.length - 2)).length lC) 50 1 (l.take (l.length - 2)).length ((l.take (l.length - 2)).map nodeV)]) (fun _ h => truncL h 2 rfl rfl lt_ (by rw [Nat.mul_one, List.map_take]) (take_len lt_)) (O_append_m 2 nodeV (l.take (l.length - 2)) [(Node.pair (decide ((ts.getD k default).Kind = 5)) (l.getD (l.length - 2) default) (l.getD (l.length - 1) default))] Tryz.underlying83 Ty.sz50 Ty.by50 Ty.ze50 rfl (congrArg (fun n : Nat => Value.slice lA n lC) (take_len lt_)) rfl rfl rfl nodeV_one (cells_blk 0 (off := 0) (m := 1) rfl rfl) lt_ lt_ fun A21 c22 => ?_))
     refine jp_ 21 rfl av_ ?_
     refine JA_done (by kernel_rfl) (gl_ rfl (fun _ h => h.keep [false, false, false] rfl)) ?_
     refine kx_ (kx_ (n_ (g_ (s_ (x_add_n (a := k) (b := 1) rfl rfl (by omega)) (s_ mv_ (z_ ?_))))))
     refine JX_round ((k + 1, (l.take (l.length - 2)) ++ [(Node.pair (decide ((ts.getD k default).Kind = 5)) (l.getD (l.length - 2) default) (l.getD (l.length - 1) default))], A21, c22) : Nat × (List Node) × (Option Addr) × Nat) ?_ ?_ ⟨rfl, rfl, rfl, rfl, rfl, trivial⟩ (fun _ h => h.keep [false, false, true] rfl)
     ·try dsimp only
      refine ⟨?_, ?_, ?_, ?_⟩
      ·first | rfl | omega | (simp_all; done) | (simp_all; omega)
      ·exact c40c0_
      ·exact c40c1_
      ·first | rfl | omega | (simp_all; done) | (simp_all; omega)
     ·try dsimp only
      first | omega | (simp; omega) | (simp_all; omega)
    ·have h14w := h14
     simp only [Bool.and_eq_true, Bool.or_eq_true, Bool.and_eq_false_iff, Bool.or_eq_false_iff, Bool.not_eq_true', Bool.not_eq_false', decide_eq_true_eq, decide_eq_false_iff_not] at h14
     refine q_ (q_ (g_ (s_ (fA 0 Ty.fi40_0) (r_ (ld_ 0 Ty.sc3) (s_ (x_eql_i rfl rfl) (s_ mv_ ?_))))))
     refine and_ 1 (decide (((ts.getD k default) : Test) = (Test.mk ((ts.getD k default).Kind) [] 0 0))) (fun g23 => ?_) ?_
     ·have g23r := g23
      have g23r := of_decide_eq_true g23r
      refine sg_ g23 mv_ ?_
      exact cr_
     refine s_ av_ (z_ (xk_ [1, 6, 14, 15, 16, 8, 7, 87] ?_))
     refine n_ ?_
     refine if_ (fun h24 => ?_) (fun h24 => ?_)
     ·have h24w := h24
      have ⟨h24, h25⟩ := band_true h24
      have h24 := of_decide_eq_true h24
      have h25 := of_decide_eq_true h25
      refine sk_ (n_ ?_)
      refine if_ (fun _ => ?_) (fun hc => absurd (h24w.symm.trans hc) (by decide))
      refine g_ (s_ mv_ (r_ (ldN 0 (Test.enc (ts.getD k default)) Ty.ag40 Ty.sz40) (s_ mv_ (js_ (vG (Test.enc (ts.getD k default) ++ [vI ((k : Nat) : Int)])) (x_build (by kernel_rfl)) (js_ (Value.iface 64 (vG (Test.enc (ts.getD k default) ++ [vI ((k : Nat) : Int)]))) (x_iface rfl (by kernel_rfl)) (o_ (O_buildSlice (cs := [Value.iface 64 (vG (Test.enc (ts.getD k default) ++ [vI ((k : Nat) : Int)]))]) Tryz.underlying83 Ty.sz50 Ty.ze50 (by decide) (by decide) (by kernel_rfl) fun b27 => ?_)))))))
      refine o_ (O_append_m 2 nodeV l [(Node.leaf (ts.getD k default) ((k : Nat) : Int))] Tryz.underlying83 Ty.sz50 Ty.by50 Ty.ze50 rfl rfl rfl rfl rfl nodeV_one (cells_blk 0 (off := 0) (m := 1) rfl rfl) lt_ lt_ fun A28 c29 => ?_)
      refine s_ av_ (z_ (kx_ (kx_ (n_ (g_ (s_ (x_add_n (a := k) (b := 1) rfl rfl (by omega)) (s_ mv_ (z_ ?_))))))))
      refine JX_round ((k + 1, l ++ [(Node.leaf (ts.getD k default) ((k : Nat) : Int))], A28, c29) : Nat × (List Node) × (Option Addr) × Nat) ?_ ?_ ⟨rfl, rfl, rfl, rfl, rfl, trivial⟩ (fun _ h => h.keep [false, false, true] rfl)
      ·try dsimp only
       refine ⟨?_, ?_, ?_, ?_⟩
       ·first | rfl | omega | (simp_all; done) | (simp_all; omega)
       ·exact c40c0_
       ·exact c40c1_
       ·first | rfl | omega | (simp_all; done) | (simp_all; omega)
      ·try dsimp only
       first | omega | (simp; omega) | (simp_all; omega)
     ·have h24w := h24
      simp only [Bool.and_eq_true, Bool.or_eq_true, Bool.and_eq_false_iff, Bool.or_eq_false_iff, Bool.not_eq_true', Bool.not_eq_false', decide_eq_true_eq, decide_eq_false_iff_not] at h24
      refine q_ (g_ (s_ (fA 0 Ty.fi40_0) (r_ (ld_ 0 Ty.sc3) (s_ (x_eql_i rfl rfl) (s_ mv_ ?_)))))
      refine or_ 3 (decide ((ts.getD k default).Kind = 2)) (fun g30 => ?_) ?_
      ·have g30r := g30
       have g30r := of_decide_eq_false g30r
       refine sg_ g30 (fA 0 Ty.fi40_0) (rg_ g30 (ld_ 0 Ty.sc3) (sg_ g30 (x_eql_i rfl rfl) ?_))
       exact cr_
      refine s_ mv_ ?_
      refine and_ 3 (decide ((ts.getD k default).Op = 0)) (fun g31 => ?_) ?_
      ·have g31r := g31
       simp only [Bool.and_eq_true, Bool.or_eq_true, Bool.and_eq_false_iff, Bool.or_eq_false_iff, Bool.not_eq_true', Bool.not_eq_false', decide_eq_true_eq, decide_eq_false_iff_not] at g31r
       refine sg_ g31 (fA 2 Ty.fi40_2) (rg_ g31 (ld_ 0 Ty.sc3) (sg_ g31 (x_eql_i rfl rfl) ?_))
       exact cr_
      refine s_ mv_ ?_
      refine and_ 3 (decide ((ts.getD k default).N = 0)) (fun g32 => ?_) ?_
      ·have g32r := g32
       have ⟨g32r, h33⟩ := band_true g32r
       simp only [Bool.and_eq_true, Bool.or_eq_true, Bool.and_eq_false_iff, Bool.or_eq_false_iff, Bool.not_eq_true', Bool.not_eq_false', decide_eq_true_eq, decide_eq_false_iff_not] at g32r
       have h33 := of_decide_eq_true h33
       refine sg_ g32 (fA 3 Ty.fi40_3) (rg_ g32 (ld_ 0 Ty.sc3) (sg_ g32 (x_eql_i rfl rfl) ?_))
       exact cr_
      refine s_ mv_ ?_
      refine and_ 4 (R40.stepV ((ts.getD k default).Step)) (fun g34 => ?_) ?_
      ·have g34r := g34
       have ⟨g34r, h35⟩ := band_true g34r
       have ⟨g34r, h36⟩ := band_true g34r
       simp only [Bool.and_eq_true, Bool.or_eq_true, Bool.and_eq_false_iff, Bool.or_eq_false_iff, Bool.not_eq_true', Bool.not_eq_false', decide_eq_true_eq, decide_eq_false_iff_not] at g34r
       have h36 := of_decide_eq_true h36
       have h35 := of_decide_eq_true h35
       refine sg_ g34 mv_ (sg_ g34 (fA 1 Ty.fi40_1) (rg_ g34 (ld_ 0 Ty.sc9) (c0g g34 (x_callv (first := []) (caps := []) rfl Ty.ca26 rfl) (fun w hS => f26_ok _ w (hT.on hS (fun _ h => by cases h)) hy_) ?_)))
       exact cr_
      refine s_ av_ (z_ (n_ ?_))
      refine if_ (fun h37 => ?_) (fun h37 => ?_)
      ·have h37w := h37
       have ⟨h37, h38⟩ := band_true h37
       have ⟨h37, h39⟩ := band_true h37
       have ⟨h37, h40⟩ := band_true h37
       simp only [Bool.and_eq_true, Bool.or_eq_true, Bool.and_eq_false_iff, Bool.or_eq_false_iff, Bool.not_eq_true', Bool.not_eq_false', decide_eq_true_eq, decide_eq_false_iff_not] at h37
       have h40 := of_decide_eq_true h40
       have h39 := of_decide_eq_true h39
       refine sk_ (n_ ?_)
       refine if_ (fun _ => ?_) (fun hc => absurd (h37w.symm.trans hc) (by decide))
       refine g_ (s_ mv_ (r_ (ldN 0 (Test.enc (ts.getD k default)) Ty.ag40 Ty.sz40) (s_ mv_ (js_ (vG (Test.enc (ts.getD k default) ++ [vI ((k : Nat) : Int)])) (x_build (by kernel_rfl)) (js_ (Value.iface 64 (vG (Test.enc (ts.getD k default) ++ [vI ((k : Nat) : Int)]))) (x_iface rfl (by kernel_rfl)) (o_ (O_buildSlice (cs := [Value.iface 64 (vG (Test.enc (ts.getD k default) ++ [vI ((k : Nat) : Int)]))]) Tryz.underlying83 Ty.sz50 Ty.ze50 (by decide) (by decide) (by kernel_rfl) fun b42 => ?_)))))))
       refine o_ (O_append_m 2 nodeV l [(Node.leaf (ts.getD k default) ((k : Nat) : Int))] Tryz.underlying83 Ty.sz50 Ty.by50 Ty.ze50 rfl rfl rfl rfl rfl nodeV_one (cells_blk 0 (off := 0) (m := 1) rfl rfl) lt_ lt_ fun A43 c44 => ?_)
       refine s_ av_ (z_ (kx_ (kx_ (n_ (g_ (s_ (x_add_n (a := k) (b := 1) rfl rfl (by omega)) (s_ mv_ (z_ ?_))))))))
       refine JX_round ((k + 1, l ++ [(Node.leaf (ts.getD k default) ((k : Nat) : Int))], A43, c44) : Nat × (List Node) × (Option Addr) × Nat) ?_ ?_ ⟨rfl, rfl, rfl, rfl, rfl, trivial⟩ (fun _ h => h.keep [false, false, true] rfl)
       ·try dsimp only
        refine ⟨?_, ?_, ?_, ?_⟩
        ·first | rfl | omega | (simp_all; done) | (simp_all; omega)
        ·exact c40c0_
        ·exact c40c1_
        ·first | rfl | omega | (simp_all; done) | (simp_all; omega)
       ·try dsimp only
        first | omega | (simp; omega) | (simp_all; omega)
      ·have h37w := h37
       simp only [Bool.and_eq_true, Bool.or_eq_true, Bool.and_eq_false_iff, Bool.or_eq_false_iff, Bool.not_eq_true', Bool.not_eq_false', decide_eq_true_eq, decide_eq_false_iff_not] at h37
       refine g_ (s_ (fA 0 Ty.fi40_0) (r_ (ld_ 0 Ty.sc3) (s_ (x_eql_i rfl rfl) (s_ mv_ ?_))))
       refine and_ 3 (decide ((0 : Int) ≤ (ts.getD k default).Op)) (fun g45 => ?_) ?_
       ·have g45r := g45
        have g45r := of_decide_eq_true g45r
        refine sg_ g45 (fA 2 Ty.fi40_2) (rg_ g45 (ld_ 0 Ty.sc3) (sg_ g45 (x_geq_i rfl rfl) ?_))
        exact cr_
       refine s_ mv_ ?_
       refine and_ 3 (decide ((ts.getD k default).Op ≤ 5)) (fun g46 => ?_) ?_
       ·have g46r := g46
        have ⟨g46r, h47⟩ := band_true g46r
        have g46r := of_decide_eq_true g46r
        have h47 := of_decide_eq_true h47
        refine sg_ g46 (fA 2 Ty.fi40_2) (rg_ g46 (ld_ 0 Ty.sc3) (sg_ g46 (x_leq_i rfl rfl) ?_))
        exact cr_
       refine s_ mv_ ?_
       refine and_ 3 (decide ((0 : Int) ≤ (ts.getD k default).N)) (fun g48 => ?_) ?_
       ·have g48r := g48
        have ⟨g48r, h49⟩ := band_true g48r
        have ⟨g48r, h50⟩ := band_true g48r
        have g48r := of_decide_eq_true g48r
        have h50 := of_decide_eq_true h50
        have h49 := of_decide_eq_true h49
        refine sg_ g48 (fA 3 Ty.fi40_3) (rg_ g48 (ld_ 0 Ty.sc3) (sg_ g48 (x_geq_i rfl rfl) ?_))
        exact cr_
       refine s_ mv_ ?_
       refine and_ 3 (decide ((ts.getD k default).N ≤ 4095)) (fun g51 => ?_) ?_
       ·have g51r := g51
        have ⟨g51r, h52⟩ := band_true g51r
        have ⟨g51r, h53⟩ := band_true g51r
        have ⟨g51r, h54⟩ := band_true g51r
        have g51r := of_decide_eq_true g51r
        have h54 := of_decide_eq_true h54
        have h53 := of_decide_eq_true h53
        have h52 := of_decide_eq_true h52
        refine sg_ g51 (fA 3 Ty.fi40_3) (rg_ g51 (ld_ 0 Ty.sc3) (sg_ g51 (x_leq_i rfl rfl) ?_))
        exact cr_
       refine s_ mv_ ?_
       refine and_ 4 (R40.stepV ((ts.getD k default).Step)) (fun g55 => ?_) ?_
       ·have g55r := g55
        have ⟨g55r, h56⟩ := band_true g55r
        have ⟨g55r, h57⟩ := band_true g55r
        have ⟨g55r, h58⟩ := band_true g55r
        have ⟨g55r, h59⟩ := band_true g55r
        have g55r := of_decide_eq_true g55r
        have h59 := of_decide_eq_true h59
        have h58 := of_decide_eq_true h58
        have h57 := of_decide_eq_true h57
        have h56 := of_decide_eq_true h56
        refine sg_ g55 mv_ (sg_ g55 (fA 1 Ty.fi40_1) (rg_ g55 (ld_ 0 Ty.sc9) (c0g g55 (x_callv (first := []) (caps := []) rfl Ty.ca26 rfl) (fun w hS => f26_ok _ w (hT.on hS (fun _ h => by cases h)) hy_) ?_)))
        exact cr_
       refine s_ av_ (z_ (xk_ [1, 6, 14, 15, 16, 8, 7, 87] ?_))
       refine n_ ?_
       refine if_ (fun h60 => ?_) (fun h60 => ?_)
       ·have h60w := h60
        have ⟨h60, h61⟩ := band_true h60
        have ⟨h60, h62⟩ := band_true h60
        have ⟨h60, h63⟩ := band_true h60
        have ⟨h60, h64⟩ := band_true h60
        have ⟨h60, h65⟩ := band_true h60
        have h60 := of_decide_eq_true h60
        have h65 := of_decide_eq_true h65
        have h64 := of_decide_eq_true h64
        have h63 := of_decide_eq_true h63
        have h62 := of_decide_eq_true h62
        refine g_ (s_ mv_ (r_ (ldN 0 (Test.enc (ts.getD k default)) Ty.ag40 Ty.sz40) (s_ mv_ (js_ (vG (Test.enc (ts.getD k default) ++ [vI ((k : Nat) : Int)])) (x_build (by kernel_rfl)) (js_ (Value.iface 64 (vG (Test.enc (ts.getD k default) ++ [vI ((k : Nat) : Int)]))) (x_iface rfl (by kernel_rfl)) (o_ (O_buildSlice (cs := [Value.iface 64 (vG (Test.enc (ts.getD k default) ++ [vI ((k : Nat) : Int)]))]) Tryz.underlying83 Ty.sz50 Ty.ze50 (by decide) (by decide) (by kernel_rfl) fun b66 => ?_)))))))
        refine o_ (O_append_m 2 nodeV l [(Node.leaf (ts.getD k default) ((k : Nat) : Int))] Tryz.underlying83 Ty.sz50 Ty.by50 Ty.ze50 rfl rfl rfl rfl rfl nodeV_one (cells_blk 0 (off := 0) (m := 1) rfl rfl) lt_ lt_ fun A67 c68 => ?_)
        refine s_ av_ (z_ (kx_ (kx_ (n_ (g_ (s_ (x_add_n (a := k) (b := 1) rfl rfl (by omega)) (s_ mv_ (z_ ?_))))))))
        refine JX_round ((k + 1, l ++ [(Node.leaf (ts.getD k default) ((k : Nat) : Int))], A67, c68) : Nat × (List Node) × (Option Addr) × Nat) ?_ ?_ ⟨rfl, rfl, rfl, rfl, rfl, trivial⟩ (fun _ h => h.keep [false, false, true] rfl)
        ·try dsimp only
         refine ⟨?_, ?_, ?_, ?_⟩
         ·first | rfl | omega | (simp_all; done) | (simp_all; omega)
         ·exact c40c0_
         ·exact c40c1_
         ·first | rfl | omega | (simp_all; done) | (simp_all; omega)
        ·try dsimp only
         first | omega | (simp; omega) | (simp_all; omega)
       ·have h60w := h60
        simp only [Bool.and_eq_true, Bool.or_eq_true, Bool.and_eq_false_iff, Bool.or_eq_false_iff, Bool.not_eq_true', Bool.not_eq_false', decide_eq_true_eq, decide_eq_false_iff_not] at h60
        refine q_ (g_ (s_ av_ (s_ av_ (z_ (n_ (rt_ (kq_ (kq_ (nr_ (rr_ (kq_ (nr_ ?_))))))))))))
        refine p2 Tryz.results25 rfl rfl ⟨?_, rfl⟩
        have e_x0 : (Value.nilIface : Value) = (nodeO (R40.treeV R40.stepV ts)) := Tftree_nm_
        have e_x1 : (false : Bool) = ((R40.treeV R40.stepV ts).isSome) := Tftree_nm_
        have e_all := (congr (congrArg (fun (x0 : Value) (x1 : Bool) => Value.tuple #[x0, vB x1]) e_x0) e_x1)
        exact e_all
  ·refine J_exit (ne_ (re_ (kh_ (n_ (q_ ?_)))))
   refine q_ (g_ (s_ mv_ (s_ (lnS Tryz.underlying83) (s_ (x_neq_i rfl rfl) (z_ (n_ ?_))))))
   refine ifd (fun h69w h69 => ?_) (fun h69w h69 => ?_)
   ·refine q_ (g_ (s_ av_ (s_ av_ (z_ (n_ (rt_ (nr_ ?_)))))))
    refine p2 Tryz.results25 rfl rfl ⟨?_, rfl⟩
    have e_x0 : (Value.nilIface : Value) = (nodeO (R40.treeV R40.stepV ts)) := Tftree_nm_
    have e_x1 : (false : Bool) = ((R40.treeV R40.stepV ts).isSome) := Tftree_nm_
    have e_all := (congr (congrArg (fun (x0 : Value) (x1 : Bool) => Value.tuple #[x0, vB x1]) e_x0) e_x1)
    exact e_all
   ·refine sk_ (n_ (q_ (g_ (s_ mv_ (r_ (ixM (k := 0) (cells_row 0 rfl) Tryz.underlying83 Ty.sz50) (r_ (ldM nodeV default (cells_row 0 rfl) Ty.sc50) (s_ av_ (s_ av_ (z_ (n_ (rt_ ?_)))))))))))
    refine p2 Tryz.results25 rfl rfl ⟨?_, rfl⟩
    have e_x0 : (nodeV (l.getD 0 default) : Value) = (nodeO (R40.treeV R40.stepV ts)) := Tftree_nm_
    have e_x1 : (true : Bool) = ((R40.treeV R40.stepV ts).isSome) := Tftree_nm_
    have e_all := (congr (congrArg (fun (x0 : Value) (x1 : Bool) => Value.tuple #[x0, vB x1]) e_x0) e_x1)
    exact e_all
end Go.Proofs.YtngjdmhpljmkpaaGreatDoor
