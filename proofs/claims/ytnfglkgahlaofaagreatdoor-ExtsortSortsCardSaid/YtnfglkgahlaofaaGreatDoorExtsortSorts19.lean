/- C44h, C44i in one text. -/
import Derived.Test.YtnfglkgahlaofaaGreatDoorC44g
import Derived.Test.YtnfglkgahlaofaaGreatDoorExtsortSorts11
import Derived.Test.YtnfglkgahlaofaaGreatDoorExtsortSorts6
namespace Go.Proofs.YtnfglkgahlaofaaGreatDoor
open Go.GV
set_option linter.unusedVariables false
set_option linter.unusedSimpArgs false
theorem c44h0_ {p : Prop} (h : p := by simp only [List.length_take, List.length_drop]; omega) : p := h
theorem c44h3_ {p : Prop} (h : p := by exact R44.srt_put hcv (by omega) i1_1 i2_0 i2_1 (fun hj => by first | (exfalso; omega) | assumption)) : p := h
set_option maxRecDepth 20000 in
theorem f47_ok (rs : List Bytes) (rsA : Option Addr) (rsC : Nat) (l : List SortField) (lA : Option Addr) (lC : Nat) (w : World) (rsR : RO [] w rsA (rs.map vS)) (lR : RO [] w lA (l.flatMap SortField.enc)) (q0 : rs.length ≤ 1000000) (q1 : ∀ i, (rs.getD i []).length ≤ 1000000) (q2 : l.length ≤ 9223372036854775807) : Calls Tryz.prog 47 #[vL rsA rs.length rsC, vL lA l.length lC] w (Gives [] w fun v L => ∃ A2 : Option Addr, ∃ c2 : Nat, v = vL A2 ((Srt.srt (R44.cmpV l) rs).length) c2 ∧ L = [Ent.row (.slice A2 (Srt.srt (R44.cmpV l) rs).length c2) 9 1 (Srt.srt (R44.cmpV l) rs).length ((Srt.srt (R44.cmpV l) rs).map vS)]) := by
 refine calls_J [] 51 Tryz.func47 rfl Tryz.ntmps47 [(0, _), (1, _)] rfl rfl (Give.nil w) ?_
 refine q_ (g_ (s_ av_ (z_ (n_ (q_ (g_ (o_ (O_buildSlice0 Tryz.underlying22 Ty.sz9 fun b1 => ?_))))))))
 refine s_ av_ (z_ (n_ (q_ (q_ (g_ (s_ av_ (z_ (n_ (k_ ?_)))))))))
 refine J_loop (X := Nat × (List Bytes) × (Option Addr) × Nat) (fun (⟨k, out, outA, outC⟩ : Nat × (List Bytes) × (Option Addr) × Nat) => (k ≤ rs.length) ∧ (out = Srt.srt (R44.cmpV l) (rs.take k))) (fun (⟨k, out, outA, outC⟩ : Nat × (List Bytes) × (Option Addr) × Nat) => [(0, vL rsA rs.length rsC), (1, vL lA l.length lC), (4, vL none 0 0), (5, vL outA out.length outC), (6, vI ((k : Nat) : Int))]) (fun (⟨k, out, outA, outC⟩ : Nat × (List Bytes) × (Option Addr) × Nat) => [Ent.row (.slice outA out.length outC) 9 1 out.length (out.map vS)]) (fun (⟨k, out, outA, outC⟩ : Nat × (List Bytes) × (Option Addr) × Nat) => rs.length - k) ((0, ([] : List Bytes), (some ⟨b1, 0, none⟩), 0) : Nat × (List Bytes) × (Option Addr) × Nat) ?_ ⟨rfl, rfl, rfl, rfl, rfl, trivial⟩ (fun _ h => (St.torow (cs := []) h 1 0 rfl (by decide)).keep [true] rfl) ?_
 ·try dsimp only
  refine ⟨?_, ?_⟩
  ·first | rfl | omega | (simp_all; done) | (simp_all; omega)
  ·rfl
 rintro ⟨k, out, outA, outC⟩ hI1
 obtain ⟨i1_0, i1_1⟩ := hI1
 try dsimp only at i1_0
 try dsimp only at i1_1
 have hol : out.length = k := by rw [i1_1, Srt.srt_len, List.length_take]; omega
 have hcv := R44.cmpV_ok l
 have hsh : ∀ i, (out.getD i []).length ≤ 1000000 := by rw [i1_1]; exact R44.srt_short q1
 have hqk := q1 k
 try dsimp only
 refine q_ (q_ (g_ (s_ mv_ (s_ mv_ (s_ (lnS Tryz.underlying22) (s_ (x_lss_i rfl rfl) (z_ (n_ ?_))))))))
 refine ifd (fun h2w h2 => ?_) (fun h2w h2 => ?_)
 ·refine sk_ (n_ (q_ (k_ (q_ (g_ (s_ mv_ (s_ (lnS Tryz.underlying22) (s_ av_ (z_ (n_ (q_ (k_ ?_))))))))))))
  refine J_loop (X := Nat) (fun (j : Nat) => (j ≤ out.length) ∧ (∀ i, j ≤ i → i < out.length → R44.cmpV l (out.getD i []) (rs.getD k []) > 0)) (fun (j : Nat) => [(0, vL rsA rs.length rsC), (1, vL lA l.length lC), (4, vL none 0 0), (5, vL outA out.length outC), (6, vI ((k : Nat) : Int)), (7, vI ((j : Nat) : Int))]) (fun (j : Nat) => [Ent.row (.slice outA out.length outC) 9 1 out.length (out.map vS)]) (fun (j : Nat) => j) (out.length : Nat) ?_ ⟨rfl, rfl, rfl, rfl, rfl, rfl, trivial⟩ (fun _ h => h) ?_
  ·try dsimp only
   refine ⟨?_, ?_⟩
   ·first | rfl | omega | (simp_all; done) | (simp_all; omega)
   ·intro i hi hl; omega
  intro j hI2
  obtain ⟨i2_0, i2_1⟩ := hI2
  try dsimp only at i2_0
  try dsimp only at i2_1
  have hsj := hsh (j - 1)
  try dsimp only
  refine q_ (q_ ?_)
  refine drB [] 16 Ty.mixed ?_
  refine jp_ 0 rfl mv_ (jp_ 1 rfl (x_gtr_i rfl rfl) (jp_ 2 rfl mv_ ?_))
  refine jb_ 19 (fun h3 => ?_) (fun h3 => ?_)
  ·have h3 := of_decide_eq_true h3
   refine jp_ 3 rfl mv_ (jp_ 4 rfl mv_ (jp_ 5 rfl (x_sub_i (a := ((j : Nat) : Int)) (b := 1) rfl rfl (by omega) (by omega)) (jq_ 6 rfl (ixM (k := (j - 1)) (hy := (ix_nat rfl (by omega))) (cells_row 0 rfl) Tryz.underlying22 Ty.sz9) (jq_ 7 rfl (ldM vS [] (cells_row 0 rfl) Ty.sc9) (jp_ 8 rfl mv_ (jp_ 9 rfl mv_ (jq_ 10 rfl (ixM (cells_ro rsR) Tryz.underlying22 Ty.sz9) (jq_ 11 rfl (ldM vS [] (cells_ro rsR) Ty.sc9) (jp_ 12 rfl mv_ ?_ (hw := ⟨_, rfl, rfl⟩)) (hw := ⟨_, rfl, rfl⟩)) (hw := ⟨_, rfl, rfl⟩)) (hw := ⟨_, rfl, rfl⟩)) (hw := ⟨_, rfl, rfl⟩)) (hw := ⟨_, rfl, rfl⟩)) (hw := ⟨_, rfl, rfl⟩)) (hw := ⟨_, rfl, rfl⟩)) (hw := ⟨_, rfl, rfl⟩)) (hw := ⟨_, rfl, rfl⟩)
   refine j1_ 13 (jc0_ rfl (cl_ Ty.ca24) (fun w hS => f24_ok _ _ l lA lC w (rno lR hS) hy_ hy_ hy_) ?_ (hw := ⟨_, rfl, rfl⟩)) gm_
   have ha4 := R44.cmpV_bd l (out.getD (j - 1) []) (rs.getD k [])
   try simp only [List.length_cons, List.length_nil, Nat.zero_add, Nat.reduceAdd, Nat.reduceMul] at ha4
   refine jp_ 14 rfl (x_gtr_i rfl rfl) ?_ (hw := ⟨_, rfl, rfl⟩)
   refine jt_ 15 (vB (decide ((0 : Int) < R44.cmpV l (out.getD (j - 1) []) (rs.getD k [])))) rfl (fun _ _ => rfl) ?_
   refine JA_done (by kernel_rfl) gm_ ?_
   refine n_ ?_
   refine ifd (fun h5w h5 => ?_) (fun h5w h5 => ?_)
   ·refine sk_ (n_ (k_ (g_ (s_ mv_ (s_ (x_sub_i (a := ((j : Nat) : Int)) (b := 1) rfl rfl (by omega) (by omega)) (s_ av_ (z_ (kx_ ?_))))))))
    refine JX_round ((j - 1) : Nat) ?_ ?_ ⟨rfl, rfl, rfl, rfl, rfl, (sE_ (by omega)), trivial⟩ (fun _ h => h)
    ·try dsimp only
     refine ⟨?_, ?_⟩
     ·first | rfl | omega | (simp_all; done) | (simp_all; omega)
     ·intro i hi hl
      by_cases hij : i = j - 1
      ·subst hij; omega
      ·exact i2_1 i (by omega) hl
    ·try dsimp only
     first | omega | (simp; omega) | (simp_all; omega)
   ·refine J_exit (ne_ (re_ (kh_ (n_ ?_))))
    refine drB [4, 10, 14] 16 Ty.mixed ?_
    refine jp_ 1 rfl mv_ (jp_ 2 rfl mv_ (jq_ 3 rfl (x_subrow_row 0 (lo := 0) (hi := j) rfl rfl Tryz.underlying22 Ty.sz9 (.inr ⟨rfl, rfl⟩) (.inl rfl) lt_ lt_) (jp_ 5 rfl mv_ (jp_ 6 rfl mv_ (jq_ 7 rfl (ixM (cells_ro rsR) Tryz.underlying22 Ty.sz9) (jq_ 8 rfl (ldM vS [] (cells_ro rsR) Ty.sc9) (jp_ 11 rfl mv_ (jp_ 12 rfl mv_ (jq_ 13 rfl (x_subrow_row 0 (lo := j) (hi := out.length) rfl rfl Tryz.underlying22 Ty.sz9 (.inl rfl) (.inr ⟨rfl, rfl⟩) lt_ lt_) ?_)))))))))
    refine JA_finX (X := (Option Addr) × Nat) (fun ⟨A17, c18⟩ => [(0, vL rsA rs.length rsC), (1, vL lA l.length lC), (4, vL none 0 0), (5, vL A17 ((((([] : List Bytes) ++ ((out.drop 0).take (j - 0))) ++ [(rs.getD k [])]) ++ ((out.drop j).take (out.length - j))).length) c18), (6, vI ((k : Nat) : Int))]) (fun ⟨A17, c18⟩ => [Ent.row (.slice A17 (((([] : List Bytes) ++ ((out.drop 0).take (j - 0))) ++ [(rs.getD k [])]) ++ ((out.drop j).take (out.length - j))).length c18) 9 1 (((([] : List Bytes) ++ ((out.drop 0).take (j - 0))) ++ [(rs.getD k [])]) ++ ((out.drop j).take (out.length - j))).length ((((([] : List Bytes) ++ ((out.drop 0).take (j - 0))) ++ [(rs.getD k [])]) ++ ((out.drop j).take (out.length - j))).map vS)]) ?_ (fun key6 => ?_)
    ·rintro ⟨A17, c18⟩
     show JX _ _ _ _ _ [(0, vL rsA rs.length rsC), (1, vL lA l.length lC), (4, vL none 0 0), (5, vL A17 ((((([] : List Bytes) ++ ((out.drop 0).take (j - 0))) ++ [(rs.getD k [])]) ++ ((out.drop j).take (out.length - j))).length) c18), (6, vI ((k : Nat) : Int))] [Ent.row (.slice A17 (((([] : List Bytes) ++ ((out.drop 0).take (j - 0))) ++ [(rs.getD k [])]) ++ ((out.drop j).take (out.length - j))).length c18) 9 1 (((([] : List Bytes) ++ ((out.drop 0).take (j - 0))) ++ [(rs.getD k [])]) ++ ((out.drop j).take (out.length - j))).length ((((([] : List Bytes) ++ ((out.drop 0).take (j - 0))) ++ [(rs.getD k [])]) ++ ((out.drop j).take (out.length - j))).map vS)]
     refine kx_ (n_ (g_ (s_ mv_ (s_ (x_add_n (a := k) (b := 1) rfl rfl (by omega)) (s_ av_ (z_ ?_))))))
     refine JX_round ((k + 1, ((([] : List Bytes) ++ ((out.drop 0).take (j - 0))) ++ [(rs.getD k [])]) ++ ((out.drop j).take (out.length - j)), A17, c18) : Nat × (List Bytes) × (Option Addr) × Nat) ?_ ?_ ⟨rfl, rfl, rfl, rfl, rfl, trivial⟩ (fun _ h => h)
     ·try dsimp only
      refine ⟨?_, ?_⟩
      ·first | rfl | omega | (simp_all; done) | (simp_all; omega)
      ·exact c44h3_
     ·try dsimp only
      first | omega | (simp; omega) | (simp_all; omega)
    ·refine JA_ready (rs := [0, 9]) (by kernel_rfl) (by decide) gm_ (List.forall_mem_cons.2 ⟨?_, (List.forall_mem_cons.2 ⟨?_, all_nil⟩)⟩)
     ·refine jio_ rfl (O_buildSlice0 Tryz.underlying22 Ty.sz9 fun b7 => ?_)
      refine JA_weaken (E' := [(0, vL rsA rs.length rsC), (1, vL lA l.length lC), (4, vL none 0 0), (5, vL outA out.length outC), (6, vI ((k : Nat) : Int)), (7, vI ((j : Nat) : Int)), (17, vI ((j : Nat) : Int)), (18, vB (decide ((0 : Int) < ((j : Nat) : Int)))), (19, vB true), (20, vL outA out.length outC), (21, vI ((j : Nat) : Int)), (22, vI (((j : Nat) : Int) - 1)), (23, pA outA (j - 1)), (24, vS (out.getD (j - 1) [])), (25, vL rsA rs.length rsC), (26, vI ((k : Nat) : Int)), (27, pA rsA k), (28, vS (rs.getD k [])), (29, vL lA l.length lC), (30, vI (R44.cmpV l (out.getD (j - 1) []) (rs.getD k []))), (31, vB (decide ((0 : Int) < R44.cmpV l (out.getD (j - 1) []) (rs.getD k [])))), (32, vB (decide ((0 : Int) < R44.cmpV l (out.getD (j - 1) []) (rs.getD k [])))), (36, vL outA out.length outC), (37, vI ((j : Nat) : Int)), (38, vL (subA outA outC 0 1) j outC), (40, vL rsA rs.length rsC), (41, vI ((k : Nat) : Int)), (42, pA rsA k), (43, vS (rs.getD k [])), (46, vL outA out.length outC), (47, vI ((j : Nat) : Int)), (48, vL (subA outA outC j 1) (out.length - j) (outC - j)), (35, vL (some ⟨b7, 0, none⟩) ((([] : List Bytes)).length) 0)]) (L' := [Ent.row (.slice (some ⟨b7, 0, none⟩) ([] : List Bytes).length 0) 9 1 ([] : List Bytes).length (([] : List Bytes).map vS), Ent.row (.slice outA out.length outC) 9 1 out.length (out.map vS)]) ⟨rfl, rfl, rfl, rfl, rfl, rfl, rfl, rfl, rfl, rfl, rfl, rfl, rfl, rfl, rfl, rfl, rfl, rfl, rfl, rfl, rfl, rfl, rfl, rfl, rfl, rfl, rfl, rfl, rfl, rfl, rfl, rfl, rfl, trivial⟩ (fun _ h => (St.torow (cs := []) ((h.front 1 _ rfl).front 1 _ rfl) 1 0 rfl (by decide)).keep [true, true] rfl) ?_
      refine JA_ready (rs := [4, 9]) (by kernel_rfl) (by decide) (fun _ h => ⟨h.keep [false, true] rfl, fun _ => h.keep [false, true] rfl⟩) (List.forall_mem_cons.2 ⟨?_, (List.forall_mem_cons.2 ⟨?_, all_nil⟩)⟩)
      ·refine jio_ rfl (O_append_m 0 vS ([] : List Bytes) ((out.drop 0).take (j - 0)) Tryz.underlying22 Ty.sz9 Ty.by9 Ty.ze9 rfl rfl rfl rfl c44h0_ (fun _ => rfl) (cells_sub_row 1 vS 0 j rfl lt_ lt_) lt_ lt_ fun A8 c9 => ?_)
       refine j1_ 9 (jio_ rfl (O_buildSlice (cs := [vS (rs.getD k [])]) Tryz.underlying22 Ty.sz9 Ty.ze9 (by decide) (by decide) (by kernel_rfl) fun b11 => ?_)) (gl_ rfl (fun _ h => h.keep [false, true] rfl))
       refine j1_ 10 (jio_ rfl (O_append_m 1 vS (([] : List Bytes) ++ ((out.drop 0).take (j - 0))) [(rs.getD k [])] Tryz.underlying22 Ty.sz9 Ty.by9 Ty.ze9 rfl rfl rfl rfl rfl (fun _ => rfl) (cells_blk 0 (off := 0) (m := 1) rfl rfl) lt_ lt_ fun A14 c15 => ?_)) (gl_ rfl (fun _ h => h.keep [false, false, true] rfl))
       refine j1_ 14 (jio_ rfl (O_append_m 1 vS ((([] : List Bytes) ++ ((out.drop 0).take (j - 0))) ++ [(rs.getD k [])]) ((out.drop j).take (out.length - j)) Tryz.underlying22 Ty.sz9 Ty.by9 Ty.ze9 rfl rfl rfl rfl c44h0_ (fun _ => rfl) (cells_sub_row 2 vS j out.length rfl lt_ lt_) lt_ lt_ fun A18 c19 => ?_)) (gl_ rfl (fun _ h => h.keep [false, false, true] rfl))
       refine jp_ 15 rfl av_ ?_
       exact JA_done (by kernel_rfl) (gl_ rfl (fun _ h => h.keep [false, false, true] rfl)) (JX_weaken (E' := [(0, vL rsA rs.length rsC), (1, vL lA l.length lC), (4, vL none 0 0), (5, vL A18 ((((([] : List Bytes) ++ ((out.drop 0).take (j - 0))) ++ [(rs.getD k [])]) ++ ((out.drop j).take (out.length - j))).length) c19), (6, vI ((k : Nat) : Int))]) (L' := [Ent.row (.slice A18 (((([] : List Bytes) ++ ((out.drop 0).take (j - 0))) ++ [(rs.getD k [])]) ++ ((out.drop j).take (out.length - j))).length c19) 9 1 (((([] : List Bytes) ++ ((out.drop 0).take (j - 0))) ++ [(rs.getD k [])]) ++ ((out.drop j).take (out.length - j))).length ((((([] : List Bytes) ++ ((out.drop 0).take (j - 0))) ++ [(rs.getD k [])]) ++ ((out.drop j).take (out.length - j))).map vS)]) ⟨rfl, rfl, rfl, rfl, rfl, trivial⟩ (fun _ h => h.keep [false, true, false] rfl) (key6 (A18, c19)))
      ·refine jio_ rfl (O_buildSlice (cs := [vS (rs.getD k [])]) Tryz.underlying22 Ty.sz9 Ty.ze9 (by decide) (by decide) (by kernel_rfl) fun b20 => ?_)
       refine j1_ 4 (jio_ rfl (O_append_m 1 vS ([] : List Bytes) ((out.drop 0).take (j - 0)) Tryz.underlying22 Ty.sz9 Ty.by9 Ty.ze9 rfl rfl rfl rfl c44h0_ (fun _ => rfl) (cells_sub_row 2 vS 0 j rfl lt_ lt_) lt_ lt_ fun A23 c24 => ?_)) (fun _ h => ⟨h.keep [false, false, true] rfl, fun _ => h.keep [false, false, true] rfl⟩)
       refine j1_ 10 (jio_ rfl (O_append_m 1 vS (([] : List Bytes) ++ ((out.drop 0).take (j - 0))) [(rs.getD k [])] Tryz.underlying22 Ty.sz9 Ty.by9 Ty.ze9 rfl rfl rfl rfl rfl (fun _ => rfl) (cells_blk 0 (off := 0) (m := 1) rfl rfl) lt_ lt_ fun A27 c28 => ?_)) (gl_ rfl (fun _ h => h.keep [false, false, true] rfl))
       refine j1_ 14 (jio_ rfl (O_append_m 1 vS ((([] : List Bytes) ++ ((out.drop 0).take (j - 0))) ++ [(rs.getD k [])]) ((out.drop j).take (out.length - j)) Tryz.underlying22 Ty.sz9 Ty.by9 Ty.ze9 rfl rfl rfl rfl c44h0_ (fun _ => rfl) (cells_sub_row 2 vS j out.length rfl lt_ lt_) lt_ lt_ fun A31 c32 => ?_)) (gl_ rfl (fun _ h => h.keep [false, false, true] rfl))
       refine jp_ 15 rfl av_ ?_
       exact JA_done (by kernel_rfl) (gl_ rfl (fun _ h => h.keep [false, false, true] rfl)) (JX_weaken (E' := [(0, vL rsA rs.length rsC), (1, vL lA l.length lC), (4, vL none 0 0), (5, vL A31 ((((([] : List Bytes) ++ ((out.drop 0).take (j - 0))) ++ [(rs.getD k [])]) ++ ((out.drop j).take (out.length - j))).length) c32), (6, vI ((k : Nat) : Int))]) (L' := [Ent.row (.slice A31 (((([] : List Bytes) ++ ((out.drop 0).take (j - 0))) ++ [(rs.getD k [])]) ++ ((out.drop j).take (out.length - j))).length c32) 9 1 (((([] : List Bytes) ++ ((out.drop 0).take (j - 0))) ++ [(rs.getD k [])]) ++ ((out.drop j).take (out.length - j))).length ((((([] : List Bytes) ++ ((out.drop 0).take (j - 0))) ++ [(rs.getD k [])]) ++ ((out.drop j).take (out.length - j))).map vS)]) ⟨rfl, rfl, rfl, rfl, rfl, trivial⟩ (fun _ h => h.keep [false, true, false] rfl) (key6 (A31, c32)))
     ·refine jio_ rfl (O_buildSlice (cs := [vS (rs.getD k [])]) Tryz.underlying22 Ty.sz9 Ty.ze9 (by decide) (by decide) (by kernel_rfl) fun b33 => ?_)
      refine j1_ 0 (jio_ rfl (O_buildSlice0 Tryz.underlying22 Ty.sz9 fun b35 => ?_)) (fun _ h => ⟨h.keep [false, true] rfl, fun _ => h.keep [false, true] rfl⟩)
      refine JA_weaken (E' := [(0, vL rsA rs.length rsC), (1, vL lA l.length lC), (4, vL none 0 0), (5, vL outA out.length outC), (6, vI ((k : Nat) : Int)), (7, vI ((j : Nat) : Int)), (17, vI ((j : Nat) : Int)), (18, vB (decide ((0 : Int) < ((j : Nat) : Int)))), (19, vB true), (20, vL outA out.length outC), (21, vI ((j : Nat) : Int)), (22, vI (((j : Nat) : Int) - 1)), (23, pA outA (j - 1)), (24, vS (out.getD (j - 1) [])), (25, vL rsA rs.length rsC), (26, vI ((k : Nat) : Int)), (27, pA rsA k), (28, vS (rs.getD k [])), (29, vL lA l.length lC), (30, vI (R44.cmpV l (out.getD (j - 1) []) (rs.getD k []))), (31, vB (decide ((0 : Int) < R44.cmpV l (out.getD (j - 1) []) (rs.getD k [])))), (32, vB (decide ((0 : Int) < R44.cmpV l (out.getD (j - 1) []) (rs.getD k [])))), (36, vL outA out.length outC), (37, vI ((j : Nat) : Int)), (38, vL (subA outA outC 0 1) j outC), (40, vL rsA rs.length rsC), (41, vI ((k : Nat) : Int)), (42, pA rsA k), (43, vS (rs.getD k [])), (46, vL outA out.length outC), (47, vI ((j : Nat) : Int)), (48, vL (subA outA outC j 1) (out.length - j) (outC - j)), (44, vL (some ⟨b33, 0, none⟩) 1 1), (35, vL (some ⟨b35, 0, none⟩) ((([] : List Bytes)).length) 0)]) (L' := [Ent.row (.slice (some ⟨b35, 0, none⟩) ([] : List Bytes).length 0) 9 1 ([] : List Bytes).length (([] : List Bytes).map vS), Ent.blk b33 9 [vS (rs.getD k [])], Ent.row (.slice outA out.length outC) 9 1 out.length (out.map vS)]) ⟨rfl, rfl, rfl, rfl, rfl, rfl, rfl, rfl, rfl, rfl, rfl, rfl, rfl, rfl, rfl, rfl, rfl, rfl, rfl, rfl, rfl, rfl, rfl, rfl, rfl, rfl, rfl, rfl, rfl, rfl, rfl, rfl, rfl, rfl, trivial⟩ (fun _ h => (St.torow (cs := []) (((h.front 2 _ rfl).front 2 _ rfl).front 2 _ rfl) 1 0 rfl (by decide)).keep [true, true, true] rfl) ?_
      refine j1_ 4 (jio_ rfl (O_append_m 0 vS ([] : List Bytes) ((out.drop 0).take (j - 0)) Tryz.underlying22 Ty.sz9 Ty.by9 Ty.ze9 rfl rfl rfl rfl c44h0_ (fun _ => rfl) (cells_sub_row 2 vS 0 j rfl lt_ lt_) lt_ lt_ fun A38 c39 => ?_)) (fun _ h => ⟨h.keep [false, false, true] rfl, fun _ => h.keep [false, false, true] rfl⟩)
      refine j1_ 10 (jio_ rfl (O_append_m 0 vS (([] : List Bytes) ++ ((out.drop 0).take (j - 0))) [(rs.getD k [])] Tryz.underlying22 Ty.sz9 Ty.by9 Ty.ze9 rfl rfl rfl rfl rfl (fun _ => rfl) (cells_blk 1 (off := 0) (m := 1) rfl rfl) lt_ lt_ fun A42 c43 => ?_)) (gl_ rfl (fun _ h => h.keep [false, false, true] rfl))
      refine j1_ 14 (jio_ rfl (O_append_m 0 vS ((([] : List Bytes) ++ ((out.drop 0).take (j - 0))) ++ [(rs.getD k [])]) ((out.drop j).take (out.length - j)) Tryz.underlying22 Ty.sz9 Ty.by9 Ty.ze9 rfl rfl rfl rfl c44h0_ (fun _ => rfl) (cells_sub_row 2 vS j out.length rfl lt_ lt_) lt_ lt_ fun A46 c47 => ?_)) (gl_ rfl (fun _ h => h.keep [false, false, true] rfl))
      refine jp_ 15 rfl av_ ?_
      exact JA_done (by kernel_rfl) (gl_ rfl (fun _ h => h.keep [false, false, true] rfl)) (JX_weaken (E' := [(0, vL rsA rs.length rsC), (1, vL lA l.length lC), (4, vL none 0 0), (5, vL A46 ((((([] : List Bytes) ++ ((out.drop 0).take (j - 0))) ++ [(rs.getD k [])]) ++ ((out.drop j).take (out.length - j))).length) c47), (6, vI ((k : Nat) : Int))]) (L' := [Ent.row (.slice A46 (((([] : List Bytes) ++ ((out.drop 0).take (j - 0))) ++ [(rs.getD k [])]) ++ ((out.drop j).take (out.length - j))).length c47) 9 1 (((([] : List Bytes) ++ ((out.drop 0).take (j - 0))) ++ [(rs.getD k [])]) ++ ((out.drop j).take (out.length - j))).length ((((([] : List Bytes) ++ ((out.drop 0).take (j - 0))) ++ [(rs.getD k [])]) ++ ((out.drop j).take (out.length - j))).map vS)]) ⟨rfl, rfl, rfl, rfl, rfl, trivial⟩ (fun _ h => h.keep [true, false, false] rfl) (key6 (A46, c47)))
  ·have h3 := of_decide_eq_false h3
   refine js2_ 3 rfl (js2_ 4 rfl (js2_ 5 rfl (js2_ 6 rfl (js2_ 7 rfl (js2_ 8 rfl (js2_ 9 rfl (js2_ 10 rfl (js2_ 11 rfl (js2_ 12 rfl ?_)))))))))
   refine js2_ 13 rfl (js2_ 14 rfl ?_)
   refine jt_ 15 (vB false) rfl (fun _ _ => rfl) ?_
   refine JA_done (by kernel_rfl) gm_ ?_
   refine n_ (iff_ (J_exit (ne_ (re_ (kh_ (n_ ?_))))))
   refine drB [4, 10, 14] 16 Ty.mixed ?_
   refine jp_ 1 rfl mv_ (jp_ 2 rfl mv_ (jq_ 3 rfl (x_subrow_row 0 (lo := 0) (hi := j) rfl rfl Tryz.underlying22 Ty.sz9 (.inr ⟨rfl, rfl⟩) (.inl rfl) lt_ lt_) (jp_ 5 rfl mv_ (jp_ 6 rfl mv_ (jq_ 7 rfl (ixM (cells_ro rsR) Tryz.underlying22 Ty.sz9) (jq_ 8 rfl (ldM vS [] (cells_ro rsR) Ty.sc9) (jp_ 11 rfl mv_ (jp_ 12 rfl mv_ (jq_ 13 rfl (x_subrow_row 0 (lo := j) (hi := out.length) rfl rfl Tryz.underlying22 Ty.sz9 (.inl rfl) (.inr ⟨rfl, rfl⟩) lt_ lt_) ?_)))))))))
   refine JA_finX (X := (Option Addr) × Nat) (fun ⟨A59, c60⟩ => [(0, vL rsA rs.length rsC), (1, vL lA l.length lC), (4, vL none 0 0), (5, vL A59 ((((([] : List Bytes) ++ ((out.drop 0).take (j - 0))) ++ [(rs.getD k [])]) ++ ((out.drop j).take (out.length - j))).length) c60), (6, vI ((k : Nat) : Int))]) (fun ⟨A59, c60⟩ => [Ent.row (.slice A59 (((([] : List Bytes) ++ ((out.drop 0).take (j - 0))) ++ [(rs.getD k [])]) ++ ((out.drop j).take (out.length - j))).length c60) 9 1 (((([] : List Bytes) ++ ((out.drop 0).take (j - 0))) ++ [(rs.getD k [])]) ++ ((out.drop j).take (out.length - j))).length ((((([] : List Bytes) ++ ((out.drop 0).take (j - 0))) ++ [(rs.getD k [])]) ++ ((out.drop j).take (out.length - j))).map vS)]) ?_ (fun key48 => ?_)
   ·rintro ⟨A59, c60⟩
    show JX _ _ _ _ _ [(0, vL rsA rs.length rsC), (1, vL lA l.length lC), (4, vL none 0 0), (5, vL A59 ((((([] : List Bytes) ++ ((out.drop 0).take (j - 0))) ++ [(rs.getD k [])]) ++ ((out.drop j).take (out.length - j))).length) c60), (6, vI ((k : Nat) : Int))] [Ent.row (.slice A59 (((([] : List Bytes) ++ ((out.drop 0).take (j - 0))) ++ [(rs.getD k [])]) ++ ((out.drop j).take (out.length - j))).length c60) 9 1 (((([] : List Bytes) ++ ((out.drop 0).take (j - 0))) ++ [(rs.getD k [])]) ++ ((out.drop j).take (out.length - j))).length ((((([] : List Bytes) ++ ((out.drop 0).take (j - 0))) ++ [(rs.getD k [])]) ++ ((out.drop j).take (out.length - j))).map vS)]
    refine kx_ (n_ (g_ (s_ mv_ (s_ (x_add_n (a := k) (b := 1) rfl rfl (by omega)) (s_ av_ (z_ ?_))))))
    refine JX_round ((k + 1, ((([] : List Bytes) ++ ((out.drop 0).take (j - 0))) ++ [(rs.getD k [])]) ++ ((out.drop j).take (out.length - j)), A59, c60) : Nat × (List Bytes) × (Option Addr) × Nat) ?_ ?_ ⟨rfl, rfl, rfl, rfl, rfl, trivial⟩ (fun _ h => h)
    ·try dsimp only
     refine ⟨?_, ?_⟩
     ·first | rfl | omega | (simp_all; done) | (simp_all; omega)
     ·exact c44h3_
    ·try dsimp only
     first | omega | (simp; omega) | (simp_all; omega)
   ·refine JA_ready (rs := [0, 9]) (by kernel_rfl) (by decide) gm_ (List.forall_mem_cons.2 ⟨?_, (List.forall_mem_cons.2 ⟨?_, all_nil⟩)⟩)
    ·refine jio_ rfl (O_buildSlice0 Tryz.underlying22 Ty.sz9 fun b49 => ?_)
     refine JA_weaken (E' := [(0, vL rsA rs.length rsC), (1, vL lA l.length lC), (4, vL none 0 0), (5, vL outA out.length outC), (6, vI ((k : Nat) : Int)), (7, vI ((j : Nat) : Int)), (17, vI ((j : Nat) : Int)), (18, vB (decide ((0 : Int) < ((j : Nat) : Int)))), (19, vB false), (20, undef), (21, undef), (22, undef), (23, undef), (24, undef), (25, undef), (26, undef), (27, undef), (28, undef), (29, undef), (30, undef), (31, undef), (32, vB false), (36, vL outA out.length outC), (37, vI ((j : Nat) : Int)), (38, vL (subA outA outC 0 1) j outC), (40, vL rsA rs.length rsC), (41, vI ((k : Nat) : Int)), (42, pA rsA k), (43, vS (rs.getD k [])), (46, vL outA out.length outC), (47, vI ((j : Nat) : Int)), (48, vL (subA outA outC j 1) (out.length - j) (outC - j)), (35, vL (some ⟨b49, 0, none⟩) ((([] : List Bytes)).length) 0)]) (L' := [Ent.row (.slice (some ⟨b49, 0, none⟩) ([] : List Bytes).length 0) 9 1 ([] : List Bytes).length (([] : List Bytes).map vS), Ent.row (.slice outA out.length outC) 9 1 out.length (out.map vS)]) ⟨rfl, rfl, rfl, rfl, rfl, rfl, rfl, rfl, rfl, rfl, rfl, rfl, rfl, rfl, rfl, rfl, rfl, rfl, rfl, rfl, rfl, rfl, rfl, rfl, rfl, rfl, rfl, rfl, rfl, rfl, rfl, rfl, rfl, trivial⟩ (fun _ h => (St.torow (cs := []) ((h.front 1 _ rfl).front 1 _ rfl) 1 0 rfl (by decide)).keep [true, true] rfl) ?_
     refine JA_ready (rs := [4, 9]) (by kernel_rfl) (by decide) (fun _ h => ⟨h.keep [false, true] rfl, fun _ => h.keep [false, true] rfl⟩) (List.forall_mem_cons.2 ⟨?_, (List.forall_mem_cons.2 ⟨?_, all_nil⟩)⟩)
     ·refine jio_ rfl (O_append_m 0 vS ([] : List Bytes) ((out.drop 0).take (j - 0)) Tryz.underlying22 Ty.sz9 Ty.by9 Ty.ze9 rfl rfl rfl rfl c44h0_ (fun _ => rfl) (cells_sub_row 1 vS 0 j rfl lt_ lt_) lt_ lt_ fun A50 c51 => ?_)
      refine j1_ 9 (jio_ rfl (O_buildSlice (cs := [vS (rs.getD k [])]) Tryz.underlying22 Ty.sz9 Ty.ze9 (by decide) (by decide) (by kernel_rfl) fun b53 => ?_)) (gl_ rfl (fun _ h => h.keep [false, true] rfl))
      refine j1_ 10 (jio_ rfl (O_append_m 1 vS (([] : List Bytes) ++ ((out.drop 0).take (j - 0))) [(rs.getD k [])] Tryz.underlying22 Ty.sz9 Ty.by9 Ty.ze9 rfl rfl rfl rfl rfl (fun _ => rfl) (cells_blk 0 (off := 0) (m := 1) rfl rfl) lt_ lt_ fun A56 c57 => ?_)) (gl_ rfl (fun _ h => h.keep [false, false, true] rfl))
      refine j1_ 14 (jio_ rfl (O_append_m 1 vS ((([] : List Bytes) ++ ((out.drop 0).take (j - 0))) ++ [(rs.getD k [])]) ((out.drop j).take (out.length - j)) Tryz.underlying22 Ty.sz9 Ty.by9 Ty.ze9 rfl rfl rfl rfl c44h0_ (fun _ => rfl) (cells_sub_row 2 vS j out.length rfl lt_ lt_) lt_ lt_ fun A60 c61 => ?_)) (gl_ rfl (fun _ h => h.keep [false, false, true] rfl))
      refine jp_ 15 rfl av_ ?_
      exact JA_done (by kernel_rfl) (gl_ rfl (fun _ h => h.keep [false, false, true] rfl)) (JX_weaken (E' := [(0, vL rsA rs.length rsC), (1, vL lA l.length lC), (4, vL none 0 0), (5, vL A60 ((((([] : List Bytes) ++ ((out.drop 0).take (j - 0))) ++ [(rs.getD k [])]) ++ ((out.drop j).take (out.length - j))).length) c61), (6, vI ((k : Nat) : Int))]) (L' := [Ent.row (.slice A60 (((([] : List Bytes) ++ ((out.drop 0).take (j - 0))) ++ [(rs.getD k [])]) ++ ((out.drop j).take (out.length - j))).length c61) 9 1 (((([] : List Bytes) ++ ((out.drop 0).take (j - 0))) ++ [(rs.getD k [])]) ++ ((out.drop j).take (out.length - j))).length ((((([] : List Bytes) ++ ((out.drop 0).take (j - 0))) ++ [(rs.getD k [])]) ++ ((out.drop j).take (out.length - j))).map vS)]) ⟨rfl, rfl, rfl, rfl, rfl, trivial⟩ (fun _ h => h.keep [false, true, false] rfl) (key48 (A60, c61)))
     ·refine jio_ rfl (O_buildSlice (cs := [vS (rs.getD k [])]) Tryz.underlying22 Ty.sz9 Ty.ze9 (by decide) (by decide) (by kernel_rfl) fun b62 => ?_)
      refine j1_ 4 (jio_ rfl (O_append_m 1 vS ([] : List Bytes) ((out.drop 0).take (j - 0)) Tryz.underlying22 Ty.sz9 Ty.by9 Ty.ze9 rfl rfl rfl rfl c44h0_ (fun _ => rfl) (cells_sub_row 2 vS 0 j rfl lt_ lt_) lt_ lt_ fun A65 c66 => ?_)) (fun _ h => ⟨h.keep [false, false, true] rfl, fun _ => h.keep [false, false, true] rfl⟩)
      refine j1_ 10 (jio_ rfl (O_append_m 1 vS (([] : List Bytes) ++ ((out.drop 0).take (j - 0))) [(rs.getD k [])] Tryz.underlying22 Ty.sz9 Ty.by9 Ty.ze9 rfl rfl rfl rfl rfl (fun _ => rfl) (cells_blk 0 (off := 0) (m := 1) rfl rfl) lt_ lt_ fun A69 c70 => ?_)) (gl_ rfl (fun _ h => h.keep [false, false, true] rfl))
      refine j1_ 14 (jio_ rfl (O_append_m 1 vS ((([] : List Bytes) ++ ((out.drop 0).take (j - 0))) ++ [(rs.getD k [])]) ((out.drop j).take (out.length - j)) Tryz.underlying22 Ty.sz9 Ty.by9 Ty.ze9 rfl rfl rfl rfl c44h0_ (fun _ => rfl) (cells_sub_row 2 vS j out.length rfl lt_ lt_) lt_ lt_ fun A73 c74 => ?_)) (gl_ rfl (fun _ h => h.keep [false, false, true] rfl))
      refine jp_ 15 rfl av_ ?_
      exact JA_done (by kernel_rfl) (gl_ rfl (fun _ h => h.keep [false, false, true] rfl)) (JX_weaken (E' := [(0, vL rsA rs.length rsC), (1, vL lA l.length lC), (4, vL none 0 0), (5, vL A73 ((((([] : List Bytes) ++ ((out.drop 0).take (j - 0))) ++ [(rs.getD k [])]) ++ ((out.drop j).take (out.length - j))).length) c74), (6, vI ((k : Nat) : Int))]) (L' := [Ent.row (.slice A73 (((([] : List Bytes) ++ ((out.drop 0).take (j - 0))) ++ [(rs.getD k [])]) ++ ((out.drop j).take (out.length - j))).length c74) 9 1 (((([] : List Bytes) ++ ((out.drop 0).take (j - 0))) ++ [(rs.getD k [])]) ++ ((out.drop j).take (out.length - j))).length ((((([] : List Bytes) ++ ((out.drop 0).take (j - 0))) ++ [(rs.getD k [])]) ++ ((out.drop j).take (out.length - j))).map vS)]) ⟨rfl, rfl, rfl, rfl, rfl, trivial⟩ (fun _ h => h.keep [false, true, false] rfl) (key48 (A73, c74)))
    ·refine jio_ rfl (O_buildSlice (cs := [vS (rs.getD k [])]) Tryz.underlying22 Ty.sz9 Ty.ze9 (by decide) (by decide) (by kernel_rfl) fun b75 => ?_)
     refine j1_ 0 (jio_ rfl (O_buildSlice0 Tryz.underlying22 Ty.sz9 fun b77 => ?_)) (fun _ h => ⟨h.keep [false, true] rfl, fun _ => h.keep [false, true] rfl⟩)
     refine JA_weaken (E' := [(0, vL rsA rs.length rsC), (1, vL lA l.length lC), (4, vL none 0 0), (5, vL outA out.length outC), (6, vI ((k : Nat) : Int)), (7, vI ((j : Nat) : Int)), (17, vI ((j : Nat) : Int)), (18, vB (decide ((0 : Int) < ((j : Nat) : Int)))), (19, vB false), (20, undef), (21, undef), (22, undef), (23, undef), (24, undef), (25, undef), (26, undef), (27, undef), (28, undef), (29, undef), (30, undef), (31, undef), (32, vB false), (36, vL outA out.length outC), (37, vI ((j : Nat) : Int)), (38, vL (subA outA outC 0 1) j outC), (40, vL rsA rs.length rsC), (41, vI ((k : Nat) : Int)), (42, pA rsA k), (43, vS (rs.getD k [])), (46, vL outA out.length outC), (47, vI ((j : Nat) : Int)), (48, vL (subA outA outC j 1) (out.length - j) (outC - j)), (44, vL (some ⟨b75, 0, none⟩) 1 1), (35, vL (some ⟨b77, 0, none⟩) ((([] : List Bytes)).length) 0)]) (L' := [Ent.row (.slice (some ⟨b77, 0, none⟩) ([] : List Bytes).length 0) 9 1 ([] : List Bytes).length (([] : List Bytes).map vS), Ent.blk b75 9 [vS (rs.getD k [])], Ent.row (.slice outA out.length outC) 9 1 out.length (out.map vS)]) ⟨rfl, rfl, rfl, rfl, rfl, rfl, rfl, rfl, rfl, rfl, rfl, rfl, rfl, rfl, rfl, rfl, rfl, rfl, rfl, rfl, rfl, rfl, rfl, rfl, rfl, rfl, rfl, rfl, rfl, rfl, rfl, rfl, rfl, rfl, trivial⟩ (fun _ h => (St.torow (cs := []) (((h.front 2 _ rfl).front 2 _ rfl).front 2 _ rfl) 1 0 rfl (by decide)).keep [true, true, true] rfl) ?_
     refine j1_ 4 (jio_ rfl (O_append_m 0 vS ([] : List Bytes) ((out.drop 0).take (j - 0)) Tryz.underlying22 Ty.sz9 Ty.by9 Ty.ze9 rfl rfl rfl rfl c44h0_ (fun _ => rfl) (cells_sub_row 2 vS 0 j rfl lt_ lt_) lt_ lt_ fun A80 c81 => ?_)) (fun _ h => ⟨h.keep [false, false, true] rfl, fun _ => h.keep [false, false, true] rfl⟩)
     refine j1_ 10 (jio_ rfl (O_append_m 0 vS (([] : List Bytes) ++ ((out.drop 0).take (j - 0))) [(rs.getD k [])] Tryz.underlying22 Ty.sz9 Ty.by9 Ty.ze9 rfl rfl rfl rfl rfl (fun _ => rfl) (cells_blk 1 (off := 0) (m := 1) rfl rfl) lt_ lt_ fun A84 c85 => ?_)) (gl_ rfl (fun _ h => h.keep [false, false, true] rfl))
     refine j1_ 14 (jio_ rfl (O_append_m 0 vS ((([] : List Bytes) ++ ((out.drop 0).take (j - 0))) ++ [(rs.getD k [])]) ((out.drop j).take (out.length - j)) Tryz.underlying22 Ty.sz9 Ty.by9 Ty.ze9 rfl rfl rfl rfl c44h0_ (fun _ => rfl) (cells_sub_row 2 vS j out.length rfl lt_ lt_) lt_ lt_ fun A88 c89 => ?_)) (gl_ rfl (fun _ h => h.keep [false, false, true] rfl))
     refine jp_ 15 rfl av_ ?_
     exact JA_done (by kernel_rfl) (gl_ rfl (fun _ h => h.keep [false, false, true] rfl)) (JX_weaken (E' := [(0, vL rsA rs.length rsC), (1, vL lA l.length lC), (4, vL none 0 0), (5, vL A88 ((((([] : List Bytes) ++ ((out.drop 0).take (j - 0))) ++ [(rs.getD k [])]) ++ ((out.drop j).take (out.length - j))).length) c89), (6, vI ((k : Nat) : Int))]) (L' := [Ent.row (.slice A88 (((([] : List Bytes) ++ ((out.drop 0).take (j - 0))) ++ [(rs.getD k [])]) ++ ((out.drop j).take (out.length - j))).length c89) 9 1 (((([] : List Bytes) ++ ((out.drop 0).take (j - 0))) ++ [(rs.getD k [])]) ++ ((out.drop j).take (out.length - j))).length ((((([] : List Bytes) ++ ((out.drop 0).take (j - 0))) ++ [(rs.getD k [])]) ++ ((out.drop j).take (out.length - j))).map vS)]) ⟨rfl, rfl, rfl, rfl, rfl, trivial⟩ (fun _ h => h.keep [true, false, false] rfl) (key48 (A88, c89)))
 ·refine J_exit (ne_ (re_ (kh_ (n_ (q_ ?_)))))
  refine g_ (s_ mv_ (s_ av_ (z_ (n_ (rt_ ?_)))))
  refine JX_rets [_] _ Tryz.results47 (fun w h => ⟨rfl, trivial⟩) rfl _ (fun _ h => h) ⟨outA, outC, ?_, ?_⟩
  ·have e_x0 : (out.length : Nat) = ((Srt.srt (R44.cmpV l) rs).length) := congrArg List.length (i1_1.trans (R44.srt_full (by omega)))
   exact congrArg (fun (x0 : Nat) => vL outA x0 outC) e_x0
  ·have e_y0 : (out : List Bytes) = (Srt.srt (R44.cmpV l) rs) := by
    exact i1_1.trans (R44.srt_full (by omega))
   have e_all := (congrArg (fun (y0 : List Bytes) => [Ent.row (.slice outA y0.length outC) 9 1 y0.length (y0.map vS)]) e_y0)
   exact e_all
end Go.Proofs.YtnfglkgahlaofaaGreatDoor

namespace Go.Proofs.YtnfglkgahlaofaaGreatDoor
open Go.GV
set_option linter.unusedVariables false
set_option linter.unusedSimpArgs false
theorem c44i0_ {p : Prop} (h : p := by first | exact i2_1.skip (R44.rw_nil (by omega)) | exact i2_1.new (by omega) (R44.rw_cons (by omega)) | exact i2_1.lt (by omega) (R44.rw_cons (by omega)) (R44.rw_cons (by omega)) (by assumption) | exact i2_1.ge (by omega) (R44.rw_cons (by omega)) (R44.rw_cons (by omega)) (by assumption)) : p := h
theorem c44i1_ {p : Prop} (h : p := by rw [List.length_map]; first | omega | (simp only [List.length_append, List.length_cons, List.length_nil]; omega) | (simp; omega) | (simp_all; omega) | (simp_all; done)) : p := h
set_option maxRecDepth 20000 in
theorem f66_ok (lists : List Rw) (listsA : Option Addr) (listsC : Nat) (w : World) (listsR : RO [] w listsA (lists.flatMap Rw.enc)) (listsN : ∀ i : Nat, RO [] w (lists.getD i default).sA (((lists.getD i default).s).map vS)) (q0 : lists.length ≤ 1000000) : Calls Tryz.prog 66 #[vL listsA lists.length listsC] w (Gives [] w fun v L => ∃ A2 : Option Addr, ∃ c2 : Nat, v = vL A2 lists.length c2 ∧ L = [Ent.row (.slice A2 lists.length c2) 22 1 lists.length (lists.flatMap Rw.enc)]) := by
 refine calls_J [] 8 Tryz.func66 rfl Tryz.ntmps66 [(0, _)] rfl rfl (Give.nil w) ?_
 refine q_ (g_ (s_ av_ (z_ (n_ (q_ (q_ (g_ (s_ mv_ (s_ (x_eql_sl rfl rfl Tryz.underlying23) (z_ (n_ ?_)))))))))))
 refine if_ (fun h1 => ?_) (fun h1 => ?_)
 ·refine q_ (g_ (s_ av_ (z_ (n_ (rt_ (nr_ ?_))))))
  refine JX_rets [_] _ Tryz.results66 (fun w h => ⟨rfl, trivial⟩) rfl [Ent.row (.slice none ([] : List Rw).length 0) 22 1 ([] : List Rw).length (([] : List Rw).flatMap Rw.enc)] (fun _ h => (h.nilrow 22 1).keep [true] rfl) ⟨none, 0, ?_, ?_⟩
  ·have e_x0 : (0 : Nat) = lists.length := by first | rfl | (rw [RO.emptyF (m := 0) Rw.enc_len listsR (by assumption)]; rfl)
   exact congrArg (fun (x0 : Nat) => vL none x0 0) e_x0
  ·have e_y0 : (([] : List Rw) : List Rw) = lists := by
    first | rfl | exact (RO.emptyF (m := 0) Rw.enc_len listsR (by assumption)).symm
   have e_all := (congrArg (fun (y0 : List Rw) => [Ent.row (.slice none y0.length 0) 22 1 y0.length (y0.flatMap Rw.enc)]) e_y0)
   exact e_all
 ·refine sk_ (n_ (q_ (g_ (o_ (O_buildSlice0 Tryz.underlying23 Ty.sz22 fun b2 => ?_)))))
  refine s_ mv_ ?_
  refine JO_weaken (E' := [(0, vL listsA lists.length listsC), (2, vL none 0 0), (3, vL listsA lists.length listsC), (4, vB listsA.isNone), (5, vL (some ⟨b2, 0, none⟩) ((([] : List Rw)).length) 0), (6, vL listsA lists.length listsC)]) (L' := [Ent.row (.slice (some ⟨b2, 0, none⟩) ([] : List Rw).length 0) 22 1 ([] : List Rw).length (([] : List Rw).flatMap Rw.enc)]) ⟨rfl, rfl, rfl, rfl, rfl, rfl, trivial⟩ (fun _ h => (St.torow (cs := []) h 1 0 rfl (by decide)).keep [true] rfl) ?_
  refine o_ (O_append_f 0 Rw.enc 1 ([] : List Rw) lists Tryz.underlying23 Ty.sz22 Ty.by22 Ty.ze22 rfl (by decide) rfl rfl rfl rfl Rw.enc_len Rw.enc_one (cells_ro listsR) lt_ lt_ fun A3 c4 => ?_)
  refine s_ av_ (z_ (n_ (rt_ ?_)))
  refine JX_rets [_] _ Tryz.results66 (fun w h => ⟨rfl, trivial⟩) rfl _ (fun _ h => h) ⟨A3, c4, ?_, ?_⟩
  ·have e_x0 : ((([] : List Rw) ++ lists).length : Nat) = lists.length := by first | rfl | (rw [RO.emptyF (m := 0) Rw.enc_len listsR (by assumption)]; rfl)
   exact congrArg (fun (x0 : Nat) => vL A3 x0 c4) e_x0
  ·have e_y0 : (([] : List Rw) ++ lists : List Rw) = lists := by
    first | rfl | exact (RO.emptyF (m := 0) Rw.enc_len listsR (by assumption)).symm
   have e_all := (congrArg (fun (y0 : List Rw) => [Ent.row (.slice A3 y0.length c4) 22 1 y0.length (y0.flatMap Rw.enc)]) e_y0)
   exact e_all
set_option maxRecDepth 20000 in
theorem f68_ok (rs : List Bytes) (rsA : Option Addr) (rsC : Nat) (w : World) (rsR : RO [] w rsA (rs.map vS)) (q0 : rs.length ≤ 1000000) : Calls Tryz.prog 68 #[vL rsA rs.length rsC] w (Gives [] w fun v L => ∃ A2 : Option Addr, ∃ c2 : Nat, v = vL A2 rs.length c2 ∧ L = [Ent.row (.slice A2 rs.length c2) 9 1 rs.length (rs.map vS)]) := by
 refine calls_J [] 8 Tryz.func68 rfl Tryz.ntmps68 [(0, _)] rfl rfl (Give.nil w) ?_
 refine q_ (g_ (s_ av_ (z_ (n_ (q_ (q_ (g_ (s_ mv_ (s_ (x_eql_sl rfl rfl Tryz.underlying22) (z_ (n_ ?_)))))))))))
 refine if_ (fun h1 => ?_) (fun h1 => ?_)
 ·refine q_ (g_ (s_ av_ (z_ (n_ (rt_ (nr_ ?_))))))
  refine JX_rets [_] _ Tryz.results68 (fun w h => ⟨rfl, trivial⟩) rfl [Ent.row (.slice none ([] : List Bytes).length 0) 9 1 ([] : List Bytes).length (([] : List Bytes).map vS)] (fun _ h => (h.nilrow 9 1).keep [true] rfl) ⟨none, 0, ?_, ?_⟩
  ·have e_x0 : (0 : Nat) = rs.length := by first | rfl | (rw [RO.empty rsR (by assumption)]; rfl)
   exact congrArg (fun (x0 : Nat) => vL none x0 0) e_x0
  ·have e_y0 : (([] : List Bytes) : List Bytes) = rs := by
    first | rfl | exact (RO.empty rsR (by assumption)).symm
   have e_all := (congrArg (fun (y0 : List Bytes) => [Ent.row (.slice none y0.length 0) 9 1 y0.length (y0.map vS)]) e_y0)
   exact e_all
 ·refine sk_ (n_ (q_ (g_ (o_ (O_buildSlice0 Tryz.underlying22 Ty.sz9 fun b2 => ?_)))))
  refine s_ mv_ ?_
  refine JO_weaken (E' := [(0, vL rsA rs.length rsC), (2, vL none 0 0), (3, vL rsA rs.length rsC), (4, vB rsA.isNone), (5, vL (some ⟨b2, 0, none⟩) ((([] : List Bytes)).length) 0), (6, vL rsA rs.length rsC)]) (L' := [Ent.row (.slice (some ⟨b2, 0, none⟩) ([] : List Bytes).length 0) 9 1 ([] : List Bytes).length (([] : List Bytes).map vS)]) ⟨rfl, rfl, rfl, rfl, rfl, rfl, trivial⟩ (fun _ h => (St.torow (cs := []) h 1 0 rfl (by decide)).keep [true] rfl) ?_
  refine o_ (O_append_m 0 vS ([] : List Bytes) rs Tryz.underlying22 Ty.sz9 Ty.by9 Ty.ze9 rfl rfl rfl rfl rfl (fun _ => rfl) (cells_ro rsR) lt_ lt_ fun A3 c4 => ?_)
  refine s_ av_ (z_ (n_ (rt_ ?_)))
  refine JX_rets [_] _ Tryz.results68 (fun w h => ⟨rfl, trivial⟩) rfl _ (fun _ h => h) ⟨A3, c4, ?_, ?_⟩
  ·have e_x0 : ((([] : List Bytes) ++ rs).length : Nat) = rs.length := by first | rfl | (rw [RO.empty rsR (by assumption)]; rfl)
   exact congrArg (fun (x0 : Nat) => vL A3 x0 c4) e_x0
  ·have e_y0 : (([] : List Bytes) ++ rs : List Bytes) = rs := by
    first | rfl | exact (RO.empty rsR (by assumption)).symm
   have e_all := (congrArg (fun (y0 : List Bytes) => [Ent.row (.slice A3 y0.length c4) 9 1 y0.length (y0.map vS)]) e_y0)
   exact e_all
set_option maxRecDepth 20000 in
theorem f36_ok (lists : List Rw) (listsA : Option Addr) (listsC : Nat) (l : List SortField) (lA : Option Addr) (lC : Nat) (w : World) (listsR : RO [] w listsA (lists.flatMap Rw.enc)) (listsN : ∀ i : Nat, RO [] w (lists.getD i default).sA (((lists.getD i default).s).map vS)) (lR : RO [] w lA (l.flatMap SortField.enc)) : Calls Tryz.prog 36 #[vL listsA lists.length listsC, vL lA l.length lC] w (Gives [] w fun v L => ∃ bp : Nat, ∃ bq : Nat, v = Value.func (.func 65) #[] #[pB bp 0, pB bq 0] ∧ L = [Ent.blk bp 23 [vL listsA lists.length listsC], Ent.blk bq 24 [vL lA l.length lC]]) := by
 refine calls_J [] 6 Tryz.func36 rfl Tryz.ntmps36 [(0, _), (1, _)] rfl rfl (Give.nil w) ?_
 refine q_ (g_ (o_ (bx1 fun b1 => ?_)))
 refine o_ (bx1 fun b2 => ?_)
 refine s_ av_ (z_ (n_ (q_ (g_ (js_ (Value.func (.func 65) #[] #[pB b1 0, pB b2 0]) (x_makeFunc rfl rfl) (s_ av_ (z_ (n_ (rt_ ?_)))))))))
 refine JX_rets [_] _ Tryz.results36 (fun w h => ⟨rfl, trivial⟩) rfl [Ent.blk b1 23 [vL listsA lists.length listsC], Ent.blk b2 24 [vL lA l.length lC]] (fun _ h => (h.front 1 _ rfl).keep [true, true] rfl) ⟨b1, b2, ?_, ?_⟩
 ·rfl
 ·rfl
set_option maxHeartbeats 2000000 in
set_option maxRecDepth 20000 in
theorem f65_ok (yl : Nat) (X : Type) (I : List Bytes → X → Prop) (Lf : List Bytes → X → List Ent) (x0 : X) (bp : Nat) (bq : Nat) (lists : List Rw) (listsA : Option Addr) (listsC : Nat) (l : List SortField) (lA : Option Addr) (lC : Nat) (w : World) (listsR : RO (Lown (Ent.blk bp 23 [vL listsA lists.length listsC] :: Ent.blk bq 24 [vL lA l.length lC] :: (Lf ([] : List Bytes) x0))) w listsA (lists.flatMap Rw.enc)) (listsN : ∀ i : Nat, RO (Lown (Ent.blk bp 23 [vL listsA lists.length listsC] :: Ent.blk bq 24 [vL lA l.length lC] :: (Lf ([] : List Bytes) x0))) w (lists.getD i default).sA (((lists.getD i default).s).map vS)) (lR : RO (Lown (Ent.blk bp 23 [vL listsA lists.length listsC] :: Ent.blk bq 24 [vL lA l.length lC] :: (Lf ([] : List Bytes) x0))) w lA (l.flatMap SortField.enc)) (hY : YieldOk Tryz.prog yl (Lown (Ent.blk bp 23 [vL listsA lists.length listsC] :: Ent.blk bq 24 [vL lA l.length lC] :: (Lf ([] : List Bytes) x0))) w (fun a : Bytes => [vS a]) I Lf (Srt.merge (R44.cmpL l) (lists.map Rw.s))) (hI0 : I [] x0) (q2 : lists.length ≤ 1000000) (q3 : ∀ i j, ((lists.getD i default).s.getD j []).length ≤ 1000000) (q4 : R44.valid l = true) (q5 : ∀ i, (lists.getD i default).s.length ≤ (lists.getD i default).sC) (hg : Give (Lown (Ent.blk bp 23 [vL listsA lists.length listsC] :: Ent.blk bq 24 [vL lA l.length lC] :: (Lf ([] : List Bytes) x0))) w (Ent.blk bp 23 [vL listsA lists.length listsC] :: Ent.blk bq 24 [vL lA l.length lC] :: (Lf ([] : List Bytes) x0))) : Calls Tryz.prog 65 #[Value.func (.yield yl) #[] #[], pB bp 0, pB bq 0] w (Gives (Lown (Ent.blk bp 23 [vL listsA lists.length listsC] :: Ent.blk bq 24 [vL lA l.length lC] :: (Lf ([] : List Bytes) x0))) w fun v L => ∃ st : X, v = Value.tuple #[] ∧ L = ((Lf (Srt.merge (R44.cmpL l) (lists.map Rw.s)) st)) ∧ (I (Srt.merge (R44.cmpL l) (lists.map Rw.s)) st)) := by
 refine calls_J (Lown (Ent.blk bp 23 [vL listsA lists.length listsC] :: Ent.blk bq 24 [vL lA l.length lC] :: (Lf ([] : List Bytes) x0))) 61 Tryz.func65 rfl Tryz.ntmps65 [(0, _), (1, _), (2, _)] rfl rfl hg ?_
 refine q_ (g_ (r_ (ld_ 0 Ty.sc23) ?_))
 refine c1 (cl_ Ty.ca66) (fun w hS => f66_ok _ _ _ w (rno listsR hS) (fun i => (listsN i).on hS (fun _ h => by cases h)) hy_) ?_
 rintro _ _ ⟨e1, e2, rfl, rfl⟩
 refine s_ av_ (z_ (n_ (k_ ?_)))
 refine J_loop (X := (List Rw) × (Option Addr) × Nat × (List Bytes) × X) (fun (⟨rest, restA, restC, pre, st⟩ : (List Rw) × (Option Addr) × Nat × (List Bytes) × X) => (∀ i : Nat, RO (Lown (Ent.blk bp 23 [vL listsA lists.length listsC] :: Ent.blk bq 24 [vL lA l.length lC] :: (Lf ([] : List Bytes) x0))) w (rest.getD i default).sA ((rest.getD i default).s.map vS)) ∧ (R44.MergeJ (R44.cmpL l) (lists.map Rw.s) pre (rest.map Rw.s)) ∧ (I pre st) ∧ (rest.length = lists.length) ∧ (R44.Subs lists rest) ∧ (∀ i, (rest.getD i default).s.length ≤ (rest.getD i default).sC)) (fun (⟨rest, restA, restC, pre, st⟩ : (List Rw) × (Option Addr) × Nat × (List Bytes) × X) => [(0, Value.func (.yield yl) #[] #[]), (2, pB bq 0), (4, vL restA rest.length restC)]) (fun (⟨rest, restA, restC, pre, st⟩ : (List Rw) × (Option Addr) × Nat × (List Bytes) × X) => (Ent.blk bp 23 [vL listsA lists.length listsC] :: Ent.blk bq 24 [vL lA l.length lC] :: Ent.row (.slice restA rest.length restC) 22 1 rest.length (rest.flatMap Rw.enc) :: (Lf pre st))) (fun (⟨rest, restA, restC, pre, st⟩ : (List Rw) × (Option Addr) × Nat × (List Bytes) × X) => (rest.map Rw.s).flatten.length) ((lists, e1, e2, ([] : List Bytes), x0) : (List Rw) × (Option Addr) × Nat × (List Bytes) × X) ?_ ⟨rfl, rfl, rfl, trivial⟩ (fun _ h => ((h.front 2 _ rfl).front 2 _ rfl).keepN 3 [true, true, true] rfl) ?_
 ·try dsimp only
  refine ⟨?_, ?_, ?_, ?_, ?_, ?_⟩
  ·exact listsN
  ·exact R44.MergeJ.start
  ·exact hI0
  ·rfl
  ·exact R44.Subs.start
  ·exact q5
 rintro ⟨rest, restA, restC, pre, st⟩ hI1
 obtain ⟨i1_0, i1_1, i1_2, i1_3, i1_4, i1_5⟩ := hI1
 try dsimp only at i1_0
 try dsimp only at i1_1
 try dsimp only at i1_2
 try dsimp only at i1_3
 try dsimp only at i1_4
 try dsimp only at i1_5
 have hcv := R44.cmpL_ok l
 try dsimp only
 have restN := i1_0
 refine k_ (q_ (g_ (s_ av_ (z_ (n_ (q_ (q_ (g_ (s_ mv_ (s_ (lnS Tryz.underlying23) (s_ mv_ (z_ (n_ (k_ ?_))))))))))))))
 refine J_loop (X := Nat × Int) (fun (⟨k, best⟩ : Nat × Int) => (k ≤ rest.length) ∧ (R44.BI (R44.cmpL l) (rest.map Rw.s) k best)) (fun (⟨k, best⟩ : Nat × Int) => [(0, Value.func (.yield yl) #[] #[]), (2, pB bq 0), (4, vL restA rest.length restC), (5, vI best), (10, vL restA rest.length restC), (11, vI ((rest.length : Nat) : Int)), (12, vI ((k : Nat) : Int))]) (fun (⟨k, best⟩ : Nat × Int) => (Ent.blk bp 23 [vL listsA lists.length listsC] :: Ent.blk bq 24 [vL lA l.length lC] :: Ent.row (.slice restA rest.length restC) 22 1 rest.length (rest.flatMap Rw.enc) :: (Lf pre st))) (fun (⟨k, best⟩ : Nat × Int) => rest.length - k) ((0, (-1)) : Nat × Int) ?_ ⟨rfl, rfl, rfl, rfl, rfl, rfl, rfl, trivial⟩ (fun _ h => h) ?_
 ·try dsimp only
  refine ⟨?_, ?_⟩
  ·first | rfl | omega | (simp_all; done) | (simp_all; omega)
  ·exact R44.BI.zero
 rintro ⟨k, best⟩ hI2
 obtain ⟨i2_0, i2_1⟩ := hI2
 try dsimp only at i2_0
 try dsimp only at i2_1
 have hps := R44.posS i2_1 hcv i2_0
 have hcb := i1_5 best.toNat
 have hq1 := i1_4.short q3 k 0
 have hq2 := i1_4.short q3 best.toNat 0
 try dsimp only
 refine q_ (g_ (s_ (x_lss_i rfl rfl) (z_ (n_ (q_ ?_)))))
 refine ifd (fun h3w h3 => ?_) (fun h3w h3 => ?_)
 ·refine sk_ (n_ (q_ (k_ (q_ (g_ (s_ mv_ (r_ (ixF Rw.enc_len (cells_row 2 rfl) Tryz.underlying23 Ty.sz22) (r_ (ldF0 Rw.enc_len (cells_row 2 rfl) Ty.sc22) (s_ av_ (s_ av_ (z_ (n_ (q_ ?_)))))))))))))
  refine drB [] 21 Ty.mixed ?_
  refine jp_ 0 rfl mv_ (jp_ 1 rfl (lnS Tryz.underlying22) (jp_ 2 rfl (x_gtr_i rfl rfl) (jp_ 3 rfl mv_ ?_)))
  refine jb_ 20 (fun h4 => ?_) (fun h4 => ?_)
  ·have h4 := of_decide_eq_true h4
   refine jp_ 4 rfl mv_ (jp_ 5 rfl (x_lss_i rfl rfl) (jp_ 6 rfl mv_ ?_ (hw := ⟨_, rfl, rfl⟩)) (hw := ⟨_, rfl, rfl⟩)) (hw := ⟨_, rfl, rfl⟩)
   refine jb_ 23 (fun h5 => ?_) (fun h5 => ?_)
   ·have h5 := of_decide_eq_true h5
    refine js2_ 7 rfl (js2_ 8 rfl (js2_ 9 rfl (js2_ 10 rfl (js2_ 11 rfl (js2_ 12 rfl (js2_ 13 rfl (js2_ 14 rfl (js2_ 15 rfl (js2_ 16 rfl ?_)))))))))
    refine js2_ 17 rfl (js2_ 18 rfl ?_)
    refine JA_take 19 (vB true) rfl (by kernel_rfl) (by kernel_rfl) (by kernel_rfl) rfl (fun _ _ _ h => h) rfl ⟨_, rfl, rfl⟩ (fun _ _ => rfl) ?_
    refine jt_ 20 (vB true) rfl (fun _ _ => rfl) ?_
    refine JA_done (by kernel_rfl) gm_ ?_
    refine n_ (ift (g_ (s_ mv_ (s_ av_ (z_ (kx_ (n_ (g_ (s_ (x_add_n (a := k) (b := 1) rfl rfl (by omega)) (s_ mv_ (z_ ?_)))))))))))
    refine JX_round ((k + 1, ((k : Nat) : Int)) : Nat × Int) ?_ ?_ ⟨rfl, rfl, rfl, rfl, rfl, rfl, rfl, trivial⟩ (fun _ h => h)
    ·try dsimp only
     refine ⟨?_, ?_⟩
     ·first | rfl | omega | (simp_all; done) | (simp_all; omega)
     ·exact c44i0_
    ·try dsimp only
     first | omega | (simp; omega) | (simp_all; omega)
   ·have h5 := of_decide_eq_false h5
    refine jp_ 7 rfl mv_ (jq_ 8 rfl (x_indexAddr_at (k := 0) (off := 0) (cells_ro (restN k)) Tryz.underlying22 Ty.sz9 rfl rfl lt_ c44i1_ rfl) (jq_ 9 rfl (ldM vS [] (cells_ro (restN k)) Ty.sc9) (jp_ 10 rfl mv_ (jp_ 11 rfl mv_ (jq_ 12 rfl (ixF (k := (best).toNat) (hy := (ix_nat rfl (by omega))) Rw.enc_len (cells_row 2 rfl) Tryz.underlying23 Ty.sz22) (jq_ 13 rfl (ldF0 Rw.enc_len (cells_row 2 rfl) Ty.sc22) (jq_ 14 rfl (x_indexAddr_at (k := 0) (off := 0) (cells_ro (restN ((best).toNat))) Tryz.underlying22 Ty.sz9 rfl rfl lt_ c44i1_ rfl) (jq_ 15 rfl (ldM vS [] (cells_ro (restN ((best).toNat))) Ty.sc9) (jq_ 16 rfl (ld_ 1 Ty.sc24) ?_ (hw := ⟨_, rfl, rfl⟩)) (hw := ⟨_, rfl, rfl⟩)) (hw := ⟨_, rfl, rfl⟩)) (hw := ⟨_, rfl, rfl⟩)) (hw := ⟨_, rfl, rfl⟩)) (hw := ⟨_, rfl, rfl⟩)) (hw := ⟨_, rfl, rfl⟩)) (hw := ⟨_, rfl, rfl⟩)) (hw := ⟨_, rfl, rfl⟩)) (hw := ⟨_, rfl, rfl⟩)
    refine j1_ 17 (jc0_ rfl (cl_ Ty.ca33) (fun w hS => f33_ok _ _ l lA lC w (rno lR hS) hy_ hy_ hy_) ?_ (hw := ⟨_, rfl, rfl⟩)) gm_
    have ha6 := R44.cmpL_bd l (((rest.getD k default).s).getD 0 []) (((rest.getD ((best).toNat) default).s).getD 0 [])
    try simp only [List.length_cons, List.length_nil, Nat.zero_add, Nat.reduceAdd, Nat.reduceMul] at ha6
    refine jp_ 18 rfl (x_lss_i rfl rfl) ?_ (hw := ⟨_, rfl, rfl⟩)
    refine JA_take 19 (vB (decide (R44.cmpL l (((rest.getD k default).s).getD 0 []) (((rest.getD ((best).toNat) default).s).getD 0 []) < 0))) rfl (by kernel_rfl) (by kernel_rfl) (by kernel_rfl) rfl (fun _ _ _ h => h) rfl ⟨_, rfl, rfl⟩ (fun _ _ => rfl) ?_
    refine jt_ 20 (vB (decide (R44.cmpL l (((rest.getD k default).s).getD 0 []) (((rest.getD ((best).toNat) default).s).getD 0 []) < 0))) rfl (fun _ _ => rfl) ?_
    refine JA_done (by kernel_rfl) gm_ ?_
    refine n_ ?_
    refine ifd (fun h7w h7 => ?_) (fun h7w h7 => ?_)
    ·refine g_ (s_ mv_ (s_ av_ (z_ (kx_ (n_ (g_ (s_ (x_add_n (a := k) (b := 1) rfl rfl (by omega)) (s_ mv_ (z_ ?_)))))))))
     refine JX_round ((k + 1, ((k : Nat) : Int)) : Nat × Int) ?_ ?_ ⟨rfl, rfl, rfl, rfl, rfl, rfl, rfl, trivial⟩ (fun _ h => h)
     ·try dsimp only
      refine ⟨?_, ?_⟩
      ·first | rfl | omega | (simp_all; done) | (simp_all; omega)
      ·exact c44i0_
     ·try dsimp only
      first | omega | (simp; omega) | (simp_all; omega)
    ·refine sk_ (kx_ (n_ (g_ (s_ (x_add_n (a := k) (b := 1) rfl rfl (by omega)) (s_ mv_ (z_ ?_))))))
     refine JX_round ((k + 1, best) : Nat × Int) ?_ ?_ ⟨rfl, rfl, rfl, rfl, rfl, rfl, rfl, trivial⟩ (fun _ h => h)
     ·try dsimp only
      refine ⟨?_, ?_⟩
      ·first | rfl | omega | (simp_all; done) | (simp_all; omega)
      ·exact c44i0_
     ·try dsimp only
      first | omega | (simp; omega) | (simp_all; omega)
  ·have h4 := of_decide_eq_false h4
   refine js2_ 4 rfl (js2_ 5 rfl (js2_ 6 rfl (ju_ 7 rfl (ju_ 8 rfl (ju_ 9 rfl (ju_ 10 rfl (ju_ 11 rfl (ju_ 12 rfl (ju_ 13 rfl ?_)))))))))
   refine ju_ 14 rfl (ju_ 15 rfl (ju_ 16 rfl (ju_ 17 rfl (ju_ 18 rfl (js2_ 19 rfl ?_)))))
   refine jt_ 20 (vB false) rfl (fun _ _ => rfl) ?_
   refine JA_done (by kernel_rfl) gm_ ?_
   refine n_ (iff_ (sk_ (kx_ (n_ (g_ (s_ (x_add_n (a := k) (b := 1) rfl rfl (by omega)) (s_ mv_ (z_ ?_))))))))
   refine JX_round ((k + 1, best) : Nat × Int) ?_ ?_ ⟨rfl, rfl, rfl, rfl, rfl, rfl, rfl, trivial⟩ (fun _ h => h)
   ·try dsimp only
    refine ⟨?_, ?_⟩
    ·first | rfl | omega | (simp_all; done) | (simp_all; omega)
    ·exact c44i0_
   ·try dsimp only
    first | omega | (simp; omega) | (simp_all; omega)
 ·refine J_exit (ne_ (re_ (kh_ (n_ (q_ ?_)))))
  refine q_ (g_ (s_ mv_ (s_ (x_lss_i rfl rfl) (s_ mv_ ?_))))
  rcases Bool.eq_false_or_eq_true (decide (best < 0)) with g8 | g8
  ·have g8r := g8
   have g8r := of_decide_eq_true g8r
   refine sh_ g8 (sh_ g8 (sh_ g8 (sh_ g8 (sh_ g8 (sh_ g8 (sh_ g8 (sh_ g8 (sh_ g8 (js_ (vB true) (x_pick_t rfl g8 rfl) ?_)))))))))
   refine z_ (xk_ [0, 2, 4, 5, 52] ?_)
   refine n_ (ift (rt_ (nr_ (kq_ (rr_ (kq_ ?_))))))
   refine JX_ret0 Tryz.results65 ((Lf pre st)) (fun _ h => h.keepN 3 [false, false, false] rfl) ⟨st, ?_, ?_, ?_⟩
   ·rfl
   ·rw [R44.mj_done i1_1 i2_1 (by omega) (by omega)]
   ·rw [← R44.mj_done i1_1 i2_1 (by omega) (by omega)]; assumption
  ·have g8r := g8
   have g8r := of_decide_eq_false g8r
   refine sg_ g8 mv_ (sg_ g8 mv_ (sg_ g8 mv_ (rg_ g8 (ixF (k := (best).toNat) (hy := (ix_nat rfl (by omega))) Rw.enc_len (cells_row 2 rfl) Tryz.underlying23 Ty.sz22) (rg_ g8 (ldF0 Rw.enc_len (cells_row 2 rfl) Ty.sc22) (rg_ g8 (x_indexAddr_at (k := 0) (off := 0) (cells_ro (restN ((best).toNat))) Tryz.underlying22 Ty.sz9 rfl rfl lt_ c44i1_ rfl) (rg_ g8 (ldM vS [] (cells_ro (restN ((best).toNat))) Ty.sc9) ?_))))))
   refine JO_yield hY (pre := pre) (a := (((rest.getD ((best).toNat) default).s).getD 0 [])) (st := st) (R44.mj_yield i1_1 i2_1 (by omega) (by omega) (by omega)) i1_2 [Ent.blk bp 23 [vL listsA lists.length listsC], Ent.blk bq 24 [vL lA l.length lC], Ent.row (.slice restA rest.length restC) 22 1 rest.length (rest.flatMap Rw.enc)] rfl ⟨_, rfl, g8⟩ rfl rfl (fun _ h => h) (fun st9 hI10 => ?_)
   refine jg_ g8 (vB false) (rfl) (js_ (vB false) (x_pick_f rfl g8 rfl) (z_ (xk_ [0, 2, 4, 5, 52] ?_)))
   refine n_ (iff_ (sk_ (n_ (g_ (s_ mv_ (s_ mv_ (s_ mv_ (s_ mv_ (r_ (ixF (k := (best).toNat) (hy := (ix_nat rfl (by omega))) Rw.enc_len (cells_row 2 rfl) Tryz.underlying23 Ty.sz22) (r_ (ldF0 Rw.enc_len (cells_row 2 rfl) Ty.sc22) (s_ (x_subrow (lo := 1) (hi := (rest.getD ((best).toNat) default).s.length) rfl Tryz.underlying22 Ty.sz9 (.inl rfl) (.inr ⟨rfl, rfl⟩) lt_ lt_) ?_)))))))))))
   have hro11 := RO.subM (restN ((best).toNat)) ((rest.getD ((best).toNat) default).sC) 1 (((rest.getD ((best).toNat) default).s.length) - 1) lt_
   rw [show ((rest.getD ((best).toNat) default).s.length) - 1 = (((rest.getD ((best).toNat) default).s).drop 1).length from List.length_drop.symm, List.take_length] at hro11
   refine JO_weaken (E' := [(0, Value.func (.yield yl) #[] #[]), (2, pB bq 0), (4, vL restA rest.length restC), (5, vI best), (52, vB false), (53, vL restA rest.length restC), (54, vI best), (55, vL restA rest.length restC), (56, vI best), (57, pA restA (((best).toNat) * 1)), (58, vL ((rest.getD ((best).toNat) default).sA) ((rest.getD ((best).toNat) default).s.length) ((rest.getD ((best).toNat) default).sC)), (59, vL (subA (rest.getD ((best).toNat) default).sA ((rest.getD ((best).toNat) default).sC) 1 1) ((((rest.getD ((best).toNat) default).s).drop 1).length) (((rest.getD ((best).toNat) default).sC) - 1))]) (L' := (Ent.blk bp 23 [vL listsA lists.length listsC] :: Ent.blk bq 24 [vL lA l.length lC] :: Ent.row (.slice restA rest.length restC) 22 1 rest.length (rest.flatMap Rw.enc) :: (Lf (pre ++ [(((rest.getD ((best).toNat) default).s).getD 0 [])]) st9))) ⟨rfl, rfl, rfl, rfl, rfl, rfl, rfl, rfl, rfl, rfl, rfl, (congrArg (fun n : Nat => some (Value.slice (subA (rest.getD ((best).toNat) default).sA ((rest.getD ((best).toNat) default).sC) 1 1) n (((rest.getD ((best).toNat) default).sC) - 1))) (by exact List.length_drop.symm)), trivial⟩ (fun _ h => h) ?_
   refine r_ (ixF (k := (best).toNat) (hy := (ix_nat rfl (by omega))) Rw.enc_len (cells_row 2 rfl) Tryz.underlying23 Ty.sz22) ?_
   refine o_ (O_store_row_g (a := (Rw.mk (((rest.getD ((best).toNat) default).s).drop 1) (subA (rest.getD ((best).toNat) default).sA ((rest.getD ((best).toNat) default).sC) 1 1) (((rest.getD ((best).toNat) default).sC) - 1))) (xs := rest) (k := (best).toNat) 2 Rw.enc (Ent.blk bp 23 [vL listsA lists.length listsC] :: Ent.blk bq 24 [vL lA l.length lC] :: Ent.row (.slice restA (rest.set ((best).toNat) (Rw.mk (((rest.getD ((best).toNat) default).s).drop 1) (subA (rest.getD ((best).toNat) default).sA ((rest.getD ((best).toNat) default).sC) 1 1) (((rest.getD ((best).toNat) default).sC) - 1))).length restC) 22 1 (rest.set ((best).toNat) (Rw.mk (((rest.getD ((best).toNat) default).s).drop 1) (subA (rest.getD ((best).toNat) default).sA ((rest.getD ((best).toNat) default).sC) 1 1) (((rest.getD ((best).toNat) default).sC) - 1))).length ((rest.set ((best).toNat) (Rw.mk (((rest.getD ((best).toNat) default).s).drop 1) (subA (rest.getD ((best).toNat) default).sA ((rest.getD ((best).toNat) default).sC) 1 1) (((rest.getD ((best).toNat) default).sC) - 1))).flatMap Rw.enc) :: (Lf (pre ++ [(((rest.getD ((best).toNat) default).s).getD 0 [])]) st9)) rfl rfl rfl rfl Ty.sz22 Rw.enc_len Rw.enc_one lt_ rfl ?_)
   refine JO_weaken (E' := [(0, Value.func (.yield yl) #[] #[]), (2, pB bq 0), (4, vL restA ((rest.set ((best).toNat) (Rw.mk (((rest.getD ((best).toNat) default).s).drop 1) (subA (rest.getD ((best).toNat) default).sA ((rest.getD ((best).toNat) default).sC) 1 1) (((rest.getD ((best).toNat) default).sC) - 1))).length) restC), (5, vI best), (52, vB false), (53, vL restA ((rest.set ((best).toNat) (Rw.mk (((rest.getD ((best).toNat) default).s).drop 1) (subA (rest.getD ((best).toNat) default).sA ((rest.getD ((best).toNat) default).sC) 1 1) (((rest.getD ((best).toNat) default).sC) - 1))).length) restC), (54, vI best), (55, vL restA ((rest.set ((best).toNat) (Rw.mk (((rest.getD ((best).toNat) default).s).drop 1) (subA (rest.getD ((best).toNat) default).sA ((rest.getD ((best).toNat) default).sC) 1 1) (((rest.getD ((best).toNat) default).sC) - 1))).length) restC), (56, vI best), (57, pA restA (((best).toNat) * 1)), (58, vL ((rest.getD ((best).toNat) default).sA) ((rest.getD ((best).toNat) default).s.length) ((rest.getD ((best).toNat) default).sC)), (59, vL (subA (rest.getD ((best).toNat) default).sA ((rest.getD ((best).toNat) default).sC) 1 1) ((((rest.getD ((best).toNat) default).s).drop 1).length) (((rest.getD ((best).toNat) default).sC) - 1)), (60, pA restA (((best).toNat) * 1))]) (L' := (Ent.blk bp 23 [vL listsA lists.length listsC] :: Ent.blk bq 24 [vL lA l.length lC] :: Ent.row (.slice restA (rest.set ((best).toNat) (Rw.mk (((rest.getD ((best).toNat) default).s).drop 1) (subA (rest.getD ((best).toNat) default).sA ((rest.getD ((best).toNat) default).sC) 1 1) (((rest.getD ((best).toNat) default).sC) - 1))).length restC) 22 1 (rest.set ((best).toNat) (Rw.mk (((rest.getD ((best).toNat) default).s).drop 1) (subA (rest.getD ((best).toNat) default).sA ((rest.getD ((best).toNat) default).sC) 1 1) (((rest.getD ((best).toNat) default).sC) - 1))).length ((rest.set ((best).toNat) (Rw.mk (((rest.getD ((best).toNat) default).s).drop 1) (subA (rest.getD ((best).toNat) default).sA ((rest.getD ((best).toNat) default).sC) 1 1) (((rest.getD ((best).toNat) default).sC) - 1))).flatMap Rw.enc) :: (Lf (pre ++ [(((rest.getD ((best).toNat) default).s).getD 0 [])]) st9))) ⟨rfl, rfl, (congrArg (fun n : Nat => some (Value.slice restA n restC)) (set_len rest ((best).toNat) (Rw.mk (((rest.getD ((best).toNat) default).s).drop 1) (subA (rest.getD ((best).toNat) default).sA ((rest.getD ((best).toNat) default).sC) 1 1) (((rest.getD ((best).toNat) default).sC) - 1))).symm), rfl, rfl, (congrArg (fun n : Nat => some (Value.slice restA n restC)) (set_len rest ((best).toNat) (Rw.mk (((rest.getD ((best).toNat) default).s).drop 1) (subA (rest.getD ((best).toNat) default).sA ((rest.getD ((best).toNat) default).sC) 1 1) (((rest.getD ((best).toNat) default).sC) - 1))).symm), rfl, (congrArg (fun n : Nat => some (Value.slice restA n restC)) (set_len rest ((best).toNat) (Rw.mk (((rest.getD ((best).toNat) default).s).drop 1) (subA (rest.getD ((best).toNat) default).sA ((rest.getD ((best).toNat) default).sC) 1 1) (((rest.getD ((best).toNat) default).sC) - 1))).symm), rfl, rfl, rfl, rfl, rfl, trivial⟩ (fun _ h => h) ?_
   refine z_ (kx_ ?_)
   refine JX_round (((rest.set ((best).toNat) (Rw.mk (((rest.getD ((best).toNat) default).s).drop 1) (subA (rest.getD ((best).toNat) default).sA ((rest.getD ((best).toNat) default).sC) 1 1) (((rest.getD ((best).toNat) default).sC) - 1))), restA, restC, (pre ++ [(((rest.getD ((best).toNat) default).s).getD 0 [])]), st9) : (List Rw) × (Option Addr) × Nat × (List Bytes) × X) ?_ ?_ ⟨rfl, rfl, rfl, trivial⟩ (fun _ h => h)
   ·try dsimp only
    refine ⟨?_, ?_, ?_, ?_, ?_, ?_⟩
    ·exact R44.ron_set i1_0 (by assumption)
    ·exact R44.mj_step hcv i1_1 i2_1 (by omega) (by omega)
    ·assumption
    ·rw [List.length_set]; exact i1_3
    ·exact i1_4.step _ _ _
    ·exact R44.cap_set i1_5
   ·try dsimp only
    exact R44.mj_less (by omega) hps.2.2
end Go.Proofs.YtnfglkgahlaofaaGreatDoor
