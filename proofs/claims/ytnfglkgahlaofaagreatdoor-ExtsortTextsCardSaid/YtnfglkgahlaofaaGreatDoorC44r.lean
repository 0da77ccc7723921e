/- contracts C44r -/
import Derived.Test.YtnfglkgahlaofaaGreatDoorExtsortTexts12
namespace Go.Proofs.YtnfglkgahlaofaaGreatDoor
open Go.GV
set_option linter.unusedVariables false
set_option linter.unusedSimpArgs false
theorem c44r0_ {p : Prop} (h : p := by first | omega | (simp only [List.length_append, List.length_cons, List.length_nil]; omega) | (simp; omega) | (simp_all; omega)) : p := h
theorem c44r3_ {p : Prop} (h : p := by first | exact R44.fmtV_no (by simp_all) | (rw [i1_1]; exact R44.fmtV_end (by assumption) (by omega))) : p := h
theorem c44r5_ {p : Prop} (h : p := by rw [List.length_map]; first | omega | (simp only [List.length_append, List.length_cons, List.length_nil]; omega) | (simp; omega) | (simp_all; omega) | (simp_all; done)) : p := h
theorem c44r6_ {p : Prop} (h : p := by first | exact i1_1.cut (by omega) (by assumption) | exact i1_1.add (by omega) (by assumption)) : p := h
theorem c44r7_ {p : Prop} (h : p := by first | (rw [i1_1]; exact R44.filter_step (by omega) (by assumption)) | (rw [i1_1]; exact R44.filter_skip (by omega) (by assumption))) : p := h
theorem c44r8_ {p : Prop} (h : p := by first | exact R44.small_none (R44.ref_no (k := k) (by omega) (by assumption)) | exact R44.ref_end2 (by omega) i1_3 i1_1 i1_2) : p := h
theorem c44r10_ {p : Prop} (h : p := by rw [i1_1]; first | exact R44.fmt_snoc (by omega) (R44.fmt1_t (by assumption)) | exact R44.fmt_snoc (by omega) (R44.fmt1_f (by assumption))) : p := h
set_option maxRecDepth 20000 in
theorem f59_ok (s : Bytes) (c : UInt8) (w : World) (q0 : s.length ≤ 1000000) : Calls Tryz.prog 59 #[vS s, vU8 c] w (Gives [] w fun v L => ∃ A2 : Option Addr, ∃ c2 : Nat, v = vL A2 ((R44.splitC c s).length) c2 ∧ L = [Ent.row (.slice A2 (R44.splitC c s).length c2) 9 1 (R44.splitC c s).length ((R44.splitC c s).map vS)]) := by
 refine calls_J [] 40 Tryz.func59 rfl Tryz.ntmps59 [(0, _), (1, _)] rfl rfl (Give.nil w) ?_
 refine q_ (g_ (s_ av_ (z_ (n_ (q_ (g_ (o_ (O_buildSlice (cs := [vS []]) Tryz.underlying22 Ty.sz9 Ty.ze9 (by decide) (by decide) (by kernel_rfl) fun b1 => ?_))))))))
 refine s_ av_ (z_ (n_ (q_ (q_ (g_ (s_ av_ (z_ (n_ (k_ ?_)))))))))
 refine J_loop (X := Nat × (List Bytes) × (Option Addr) × Nat) (fun (⟨k, out, outA, outC⟩ : Nat × (List Bytes) × (Option Addr) × Nat) => (k ≤ s.length) ∧ (R44.SplJ c s k out)) (fun (⟨k, out, outA, outC⟩ : Nat × (List Bytes) × (Option Addr) × Nat) => [(0, vS s), (1, vU8 c), (4, vL none 0 0), (5, vL outA out.length outC), (6, vI ((k : Nat) : Int))]) (fun (⟨k, out, outA, outC⟩ : Nat × (List Bytes) × (Option Addr) × Nat) => [Ent.row (.slice outA out.length outC) 9 1 out.length (out.map vS)]) (fun (⟨k, out, outA, outC⟩ : Nat × (List Bytes) × (Option Addr) × Nat) => s.length - k) ((0, [[]], (some ⟨b1, 0, none⟩), 1) : Nat × (List Bytes) × (Option Addr) × Nat) ?_ ⟨rfl, rfl, rfl, rfl, rfl, trivial⟩ (fun _ h => (St.torow (cs := [vS []]) h 1 1 rfl (by decide)).keep [true] rfl) ?_
 ·try dsimp only
  refine ⟨?_, ?_⟩
  ·first | rfl | omega | (simp_all; done) | (simp_all; omega)
  ·exact R44.SplJ.start
 rintro ⟨k, out, outA, outC⟩ hI1
 obtain ⟨i1_0, i1_1⟩ := hI1
 try dsimp only at i1_0
 try dsimp only at i1_1
 have hne := i1_1.ne
 have hsh := i1_1.short (out.length - 1)
 have hfw := i1_1.few
 have hsu := fun h => sub_length s k (k + 1) h
 try dsimp only
 refine q_ (q_ (g_ (s_ mv_ (s_ mv_ (s_ (x_len_s rfl Tryz.underlying9) (s_ (x_lss_i rfl rfl) (z_ (n_ ?_))))))))
 refine ifd (fun h2w h2 => ?_) (fun h2w h2 => ?_)
 ·refine sk_ (n_ (q_ (k_ (q_ (g_ (s_ mv_ (s_ mv_ (s_ (x_idx_s (k := k) rfl rfl Tryz.underlying9 (by omega)) (s_ mv_ (s_ (x_eql_u8 rfl rfl) (z_ (n_ ?_))))))))))))
  refine ifd (fun h3w h3 => ?_) (fun h3w h3 => ?_)
  ·refine g_ (s_ mv_ (o_ (O_buildSlice (cs := [vS []]) Tryz.underlying22 Ty.sz9 Ty.ze9 (by decide) (by decide) (by kernel_rfl) fun b4 => ?_)))
   refine o_ (O_append_m 1 vS out [[]] Tryz.underlying22 Ty.sz9 Ty.by9 Ty.ze9 rfl rfl rfl rfl rfl (fun _ => rfl) (cells_blk 0 (off := 0) (m := 1) rfl rfl) lt_ lt_ fun A5 c6 => ?_)
   refine s_ av_ (z_ (kx_ (n_ (g_ (s_ mv_ (s_ (x_add_n (a := k) (b := 1) rfl rfl (by omega)) (s_ av_ (z_ ?_))))))))
   refine JX_round ((k + 1, out ++ [[]], A5, c6) : Nat × (List Bytes) × (Option Addr) × Nat) ?_ ?_ ⟨rfl, rfl, rfl, rfl, rfl, trivial⟩ (fun _ h => h.keep [false, true] rfl)
   ·try dsimp only
    refine ⟨?_, ?_⟩
    ·first | rfl | omega | (simp_all; done) | (simp_all; omega)
    ·exact c44r6_
   ·try dsimp only
    first | omega | (simp; omega) | (simp_all; omega)
  ·refine drU [] [17] 18 Ty.mixed ?_
   refine jp_ 0 rfl mv_ (jp_ 1 rfl mv_ (jp_ 2 rfl (lnS Tryz.underlying22) (jp_ 3 rfl (x_sub_i (a := ((out.length : Nat) : Int)) (b := 1) rfl rfl (by omega) (by omega)) (jp_ 4 rfl mv_ (jp_ 5 rfl mv_ (jp_ 6 rfl (lnS Tryz.underlying22) (jp_ 7 rfl (x_sub_i (a := ((out.length : Nat) : Int)) (b := 1) rfl rfl (by omega) (by omega)) ?_)))))))
   refine JA_early 8 (pA outA (out.length - 1)) rfl (by kernel_rfl) (by kernel_rfl) (by kernel_rfl) rfl (by kernel_rfl) (fun _ _ _ h => h) rfl trivial (x_indexAddr_at (k := (out.length - 1)) (off := (out.length - 1)) (cells_row 0 rfl) Tryz.underlying22 Ty.sz9 rfl (ix_nat rfl (by omega)) lt_ c44r5_ (Nat.mul_one _)) ?_
   refine JA_early 9 (vS (out.getD (out.length - 1) [])) rfl (by kernel_rfl) (by kernel_rfl) (by kernel_rfl) rfl (by kernel_rfl) (fun _ _ _ h => h) rfl trivial (x_load_at (cells_row 0 rfl) rfl Ty.sc9 (map_at vS out [] lt_)) ?_
   refine jp_ 10 rfl mv_ (jp_ 11 rfl mv_ (jp_ 12 rfl mv_ (jp_ 13 rfl (x_add_n (a := k) (b := 1) rfl rfl (by omega)) (jp_ 14 rfl (x_sub_s (lo := k) (hi := k + 1) rfl Tryz.underlying9 (.inl rfl) (.inl rfl) lt_ (by first | omega | (simp only [sub, List.length_drop, List.length_take]; omega) | (simp; omega) | (simp_all; omega))) (jp_ 15 rfl (x_cat_s rfl rfl c44r0_) ?_)))))
   refine JA_early 16 (pA outA (out.length - 1)) rfl (by kernel_rfl) (by kernel_rfl) (by kernel_rfl) rfl (by kernel_rfl) (fun _ _ _ h => h) rfl trivial (x_indexAddr_at (k := (out.length - 1)) (off := (out.length - 1)) (cells_row 0 rfl) Tryz.underlying22 Ty.sz9 rfl (ix_nat rfl (by omega)) lt_ c44r5_ (Nat.mul_one _)) ?_
   refine j1_ 17 (jio_ rfl (O_store_row_1 (a := (out.getD (out.length - 1) []) ++ (sub s k (k + 1))) (xs := out) (k := (out.length - 1)) 0 vS [Ent.row (.slice outA (out.set (out.length - 1) ((out.getD (out.length - 1) []) ++ (sub s k (k + 1)))).length outC) 9 1 (out.set (out.length - 1) ((out.getD (out.length - 1) []) ++ (sub s k (k + 1)))).length ((out.set (out.length - 1) ((out.getD (out.length - 1) []) ++ (sub s k (k + 1)))).map vS)] rfl rfl rfl Ty.sz9 rfl (fun _ => rfl) lt_ rfl ?_)) (fun _ h => ⟨h.keep [false] rfl, fun _ => h⟩)
   refine JA_weaken (E' := [(0, vS s), (1, vU8 c), (4, vL none 0 0), (5, vL outA ((out.set (out.length - 1) ((out.getD (out.length - 1) []) ++ (sub s k (k + 1)))).length) outC), (6, vI ((k : Nat) : Int)), (8, vI ((k : Nat) : Int)), (9, vS s), (10, vI ((s.length : Nat) : Int)), (11, vB (decide (((k : Nat) : Int) < ((s.length : Nat) : Int)))), (14, vS s), (15, vI ((k : Nat) : Int)), (16, vU8 (s.getD k 0)), (17, vU8 c), (18, vB (decide (s.getD k 0 = c))), (22, vL outA ((out.set (out.length - 1) ((out.getD (out.length - 1) []) ++ (sub s k (k + 1)))).length) outC), (23, vL outA ((out.set (out.length - 1) ((out.getD (out.length - 1) []) ++ (sub s k (k + 1)))).length) outC), (24, vI ((out.length : Nat) : Int)), (25, vI (((out.length : Nat) : Int) - 1)), (26, vL outA ((out.set (out.length - 1) ((out.getD (out.length - 1) []) ++ (sub s k (k + 1)))).length) outC), (27, vL outA ((out.set (out.length - 1) ((out.getD (out.length - 1) []) ++ (sub s k (k + 1)))).length) outC), (28, vI ((out.length : Nat) : Int)), (29, vI (((out.length : Nat) : Int) - 1)), (30, pA outA (out.length - 1)), (31, vS (out.getD (out.length - 1) [])), (32, vS s), (33, vI ((k : Nat) : Int)), (34, vI ((k : Nat) : Int)), (35, vI ((k + 1 : Nat) : Int)), (36, vS (sub s k (k + 1))), (37, vS ((out.getD (out.length - 1) []) ++ (sub s k (k + 1)))), (38, pA outA (out.length - 1))]) (L' := [Ent.row (.slice outA (out.set (out.length - 1) ((out.getD (out.length - 1) []) ++ (sub s k (k + 1)))).length outC) 9 1 (out.set (out.length - 1) ((out.getD (out.length - 1) []) ++ (sub s k (k + 1)))).length ((out.set (out.length - 1) ((out.getD (out.length - 1) []) ++ (sub s k (k + 1)))).map vS)]) ⟨rfl, rfl, rfl, (congrArg (fun n : Nat => some (Value.slice outA n outC)) (set_len out (out.length - 1) ((out.getD (out.length - 1) []) ++ (sub s k (k + 1)))).symm), rfl, rfl, rfl, rfl, rfl, rfl, rfl, rfl, rfl, rfl, (congrArg (fun n : Nat => some (Value.slice outA n outC)) (set_len out (out.length - 1) ((out.getD (out.length - 1) []) ++ (sub s k (k + 1)))).symm), (congrArg (fun n : Nat => some (Value.slice outA n outC)) (set_len out (out.length - 1) ((out.getD (out.length - 1) []) ++ (sub s k (k + 1)))).symm), rfl, rfl, (congrArg (fun n : Nat => some (Value.slice outA n outC)) (set_len out (out.length - 1) ((out.getD (out.length - 1) []) ++ (sub s k (k + 1)))).symm), (congrArg (fun n : Nat => some (Value.slice outA n outC)) (set_len out (out.length - 1) ((out.getD (out.length - 1) []) ++ (sub s k (k + 1)))).symm), rfl, rfl, rfl, rfl, rfl, rfl, rfl, rfl, rfl, rfl, rfl, trivial⟩ (fun _ h => h) ?_
   refine JA_done (by kernel_rfl) (gl_ rfl (fun _ h => h.keep [false] rfl)) ?_
   refine kx_ (n_ (g_ (s_ mv_ (s_ (x_add_n (a := k) (b := 1) rfl rfl (by omega)) (s_ av_ (z_ ?_))))))
   refine JX_round ((k + 1, (out.set (out.length - 1) ((out.getD (out.length - 1) []) ++ (sub s k (k + 1)))), outA, outC) : Nat × (List Bytes) × (Option Addr) × Nat) ?_ ?_ ⟨rfl, rfl, rfl, rfl, rfl, trivial⟩ (fun _ h => h)
   ·try dsimp only
    refine ⟨?_, ?_⟩
    ·first | rfl | omega | (simp_all; done) | (simp_all; omega)
    ·exact c44r6_
   ·try dsimp only
    first | omega | (simp; omega) | (simp_all; omega)
 ·refine J_exit (ne_ (re_ (kh_ (n_ (q_ ?_)))))
  refine g_ (s_ mv_ (s_ av_ (z_ (n_ (rt_ ?_)))))
  refine JX_rets [_] _ Tryz.results59 (fun w h => ⟨rfl, trivial⟩) rfl _ (fun _ h => h) ⟨outA, outC, ?_, ?_⟩
  ·have e_x0 : (out.length : Nat) = ((R44.splitC c s).length) := congrArg List.length (i1_1.done (by omega))
   exact congrArg (fun (x0 : Nat) => vL outA x0 outC) e_x0
  ·have e_y0 : (out : List Bytes) = (R44.splitC c s) := by
    exact i1_1.done (by omega)
   have e_all := (congrArg (fun (y0 : List Bytes) => [Ent.row (.slice outA y0.length outC) 9 1 y0.length (y0.map vS)]) e_y0)
   exact e_all
set_option maxRecDepth 20000 in
theorem f58_ok (s : Bytes) (w : World) (q0 : s.length ≤ 1000000) : Calls Tryz.prog 58 #[vS s] w (GivesW [] w fun v L wx => ∃ out : List Bytes, ∃ outA : Option Addr, ∃ outC : Nat, v = vL outA out.length outC ∧ L = [] ∧ RO (List.range w.heap.size) wx outA (out.map vS) ∧ out.length ≤ outC ∧ (out = R44.words s)) := by
 refine calls_JW [] 28 Tryz.func58 rfl Tryz.ntmps58 [(0, _)] rfl rfl (Give.nil w) ?_
 refine q_ (g_ (s_ av_ (z_ (n_ (q_ (g_ (o_ (O_buildSlice0 Tryz.underlying22 Ty.sz9 fun b1 => ?_))))))))
 refine s_ av_ (z_ (n_ (q_ (g_ (s_ mv_ ?_)))))
 refine c1 (cl_ Ty.ca59) (fun w hS => f59_ok s (32 : UInt8) w hy_) ?_
 rintro _ _ ⟨e2, e3, rfl, rfl⟩
 have ha4 := R44.splitC_count (32 : UInt8) s
 refine s_ av_ (z_ (n_ (q_ (q_ (g_ (s_ av_ (z_ (n_ (k_ ?_)))))))))
 refine J_loop (X := Nat × (List Bytes) × (Option Addr) × Nat) (fun (⟨k, out, outA, outC⟩ : Nat × (List Bytes) × (Option Addr) × Nat) => (k ≤ (R44.splitC 32 s).length) ∧ (out = ((R44.splitC 32 s).take k).filter fun x => decide (x ≠ [])) ∧ (out.length ≤ k)) (fun (⟨k, out, outA, outC⟩ : Nat × (List Bytes) × (Option Addr) × Nat) => [(2, vL none 0 0), (3, vL outA out.length outC), (4, vL e2 ((R44.splitC (32 : UInt8) s).length) e3), (5, vI ((k : Nat) : Int))]) (fun (⟨k, out, outA, outC⟩ : Nat × (List Bytes) × (Option Addr) × Nat) => [Ent.row (.slice e2 (R44.splitC (32 : UInt8) s).length e3) 9 1 (R44.splitC (32 : UInt8) s).length ((R44.splitC (32 : UInt8) s).map vS), Ent.row (.slice outA out.length outC) 9 1 out.length (out.map vS)]) (fun (⟨k, out, outA, outC⟩ : Nat × (List Bytes) × (Option Addr) × Nat) => (R44.splitC 32 s).length - k) ((0, ([] : List Bytes), (some ⟨b1, 0, none⟩), 0) : Nat × (List Bytes) × (Option Addr) × Nat) ?_ ⟨rfl, rfl, rfl, rfl, trivial⟩ (fun _ h => ((St.torow (cs := []) (h.front 1 _ rfl) 1 0 rfl (by decide)).front 1 _ rfl).keep [true, true] rfl) ?_
 ·try dsimp only
  refine ⟨?_, ?_, ?_⟩
  ·first | rfl | omega | (simp_all; done) | (simp_all; omega)
  ·rfl
  ·exact Nat.le_refl _
 rintro ⟨k, out, outA, outC⟩ hI1
 obtain ⟨i1_0, i1_1, i1_2⟩ := hI1
 try dsimp only at i1_0
 try dsimp only at i1_1
 try dsimp only at i1_2
 have hsl := R44.splitC_len 32 s k
 try dsimp only
 refine q_ (q_ (g_ (s_ mv_ (s_ mv_ (s_ (lnS Tryz.underlying22) (s_ (x_lss_i rfl rfl) (z_ (n_ ?_))))))))
 refine ifd (fun h5w h5 => ?_) (fun h5w h5 => ?_)
 ·have h5u := h5
  try simp only [UInt8.lt_iff_toNat_lt, UInt8.le_iff_toNat_le, UInt8.reduceToNat, UInt32.lt_iff_toNat_lt, UInt32.le_iff_toNat_le, UInt32.reduceToNat, UInt64.lt_iff_toNat_lt, UInt64.le_iff_toNat_le, UInt64.reduceToNat] at h5u
  refine sk_ (n_ (q_ (k_ (q_ (g_ (s_ mv_ (s_ mv_ (r_ (ixM (cells_row 0 rfl) Tryz.underlying22 Ty.sz9) (r_ (ldM vS [] (cells_row 0 rfl) Ty.sc9) (js_ (vB (decide (((R44.splitC (32 : UInt8) s).getD k []) ≠ ([] : Bytes)))) (x_neq_s rfl rfl) (z_ (n_ ?_))))))))))))
  refine ifd (fun h6w h6 => ?_) (fun h6w h6 => ?_)
  ·have h6l := List.length_pos_iff.2 h6
   refine g_ (s_ mv_ (s_ mv_ (s_ mv_ (r_ (ixM (cells_row 0 rfl) Tryz.underlying22 Ty.sz9) (r_ (ldM vS [] (cells_row 0 rfl) Ty.sc9) (o_ (O_buildSlice (cs := [vS ((R44.splitC (32 : UInt8) s).getD k [])]) Tryz.underlying22 Ty.sz9 Ty.ze9 (by decide) (by decide) (by kernel_rfl) fun b7 => ?_)))))))
   refine o_ (O_append_m 2 vS out [((R44.splitC (32 : UInt8) s).getD k [])] Tryz.underlying22 Ty.sz9 Ty.by9 Ty.ze9 rfl rfl rfl rfl rfl (fun _ => rfl) (cells_blk 0 (off := 0) (m := 1) rfl rfl) lt_ lt_ fun A8 c9 => ?_)
   refine s_ av_ (z_ (kx_ (n_ (g_ (s_ mv_ (s_ (x_add_n (a := k) (b := 1) rfl rfl (by omega)) (s_ av_ (z_ ?_))))))))
   refine JX_round ((k + 1, out ++ [((R44.splitC (32 : UInt8) s).getD k [])], A8, c9) : Nat × (List Bytes) × (Option Addr) × Nat) ?_ ?_ ⟨rfl, rfl, rfl, rfl, trivial⟩ (fun _ h => h.keep [false, true, true] rfl)
   ·try dsimp only
    refine ⟨?_, ?_, ?_⟩
    ·first | rfl | omega | (simp_all; done) | (simp_all; omega)
    ·exact c44r7_
    ·first | omega | (rw [List.length_append, List.length_singleton]; omega)
   ·try dsimp only
    first | omega | (simp; omega) | (simp_all; omega)
  ·refine sk_ (kx_ (n_ (g_ (s_ mv_ (s_ (x_add_n (a := k) (b := 1) rfl rfl (by omega)) (s_ av_ (z_ ?_)))))))
   refine JX_round ((k + 1, out, outA, outC) : Nat × (List Bytes) × (Option Addr) × Nat) ?_ ?_ ⟨rfl, rfl, rfl, rfl, trivial⟩ (fun _ h => h)
   ·try dsimp only
    refine ⟨?_, ?_, ?_⟩
    ·first | rfl | omega | (simp_all; done) | (simp_all; omega)
    ·exact c44r7_
    ·first | omega | (rw [List.length_append, List.length_singleton]; omega)
   ·try dsimp only
    first | omega | (simp; omega) | (simp_all; omega)
 ·have h5u := h5
  try simp only [UInt8.lt_iff_toNat_lt, UInt8.le_iff_toNat_le, UInt8.reduceToNat, UInt32.lt_iff_toNat_lt, UInt32.le_iff_toNat_le, UInt32.reduceToNat, UInt64.lt_iff_toNat_lt, UInt64.le_iff_toNat_le, UInt64.reduceToNat] at h5u
  refine J_exit (ne_ (re_ (kh_ (n_ (q_ ?_)))))
  refine g_ (s_ mv_ (s_ av_ (z_ (n_ (rt_ ?_)))))
  refine JX_retsD [_] _ Tryz.results58 (fun w h => ⟨rfl, trivial⟩) rfl _ (fun _ h => h.keep [false, false] rfl) (fun _ _ h => h) (fun wx hw => ⟨out, outA, outC, ?_, ?_, (RO.of_rowF (Lc := []) hw hw 1 rfl), (row_le (hw.mem (j := 1) rfl)), ?_⟩)
  ·rfl
  ·rfl
  ·rw [R44.words_filter, i1_1, List.take_of_length_le (by omega)]
set_option maxRecDepth 20000 in
theorem f60_ok (s : Bytes) (w : World) (q0 : s.length ≤ 1000000) : Calls Tryz.prog 60 #[vS s] w (Gives [] w fun v L => ∃ n : Int, ∃ ok : Bool, v = Value.tuple #[vI n, vB ok] ∧ L = [] ∧ (R44.SmallJ s n ok)) := by
 refine calls_J [] 43 Tryz.func60 rfl Tryz.ntmps60 [(0, _)] rfl rfl (Give.nil w) ?_
 refine q_ (g_ (s_ av_ (s_ av_ (z_ (n_ (q_ (g_ (s_ av_ (z_ (n_ (q_ (q_ (g_ (s_ av_ (z_ (n_ (k_ ?_)))))))))))))))))
 refine J_loop (X := Nat × Nat) (fun (⟨k, n⟩ : Nat × Nat) => (k ≤ s.length) ∧ (n = R44.vN (s.take k)) ∧ ((s.take k).all R44.isD = true) ∧ (k ≤ 4)) (fun (⟨k, n⟩ : Nat × Nat) => [(0, vS s), (4, vI ((n : Nat) : Int)), (5, vI ((k : Nat) : Int))]) (fun (⟨k, n⟩ : Nat × Nat) => []) (fun (⟨k, n⟩ : Nat × Nat) => s.length - k) ((0, 0) : Nat × Nat) ?_ ⟨rfl, rfl, rfl, trivial⟩ (fun _ h => h) ?_
 ·try dsimp only
  refine ⟨?_, ?_, ?_, ?_⟩
  ·first | rfl | omega | (simp_all; done) | (simp_all; omega)
  ·rfl
  ·rfl
  ·first | rfl | omega | (simp_all; done) | (simp_all; omega)
 rintro ⟨k, n⟩ hI1
 obtain ⟨i1_0, i1_1, i1_2, i1_3⟩ := hI1
 try dsimp only at i1_0
 try dsimp only at i1_1
 try dsimp only at i1_2
 try dsimp only at i1_3
 have hvs := R44.vN_small i1_3 i1_2 i1_1
 try dsimp only
 refine q_ (q_ (g_ (s_ mv_ (s_ mv_ (s_ (x_len_s rfl Tryz.underlying9) (s_ (x_lss_i rfl rfl) (z_ (n_ ?_))))))))
 refine ifd (fun h1w h1 => ?_) (fun h1w h1 => ?_)
 ·try have hi2 := R44.decT h1w
  try have hi3 := R44.decF h1w
  refine sk_ (n_ (q_ (k_ (q_ (q_ (g_ (s_ mv_ (s_ mv_ (s_ (x_idx_s (k := k) rfl rfl Tryz.underlying9 (by omega)) (js_ (vB (decide (s.getD k 0 < (48 : UInt8)))) (x_lss_u8 rfl rfl) (s_ mv_ ?_)))))))))))
  refine or_ 4 (decide ((57 : UInt8) < s.getD k 0)) (fun g4 => ?_) ?_
  ·have g4r := g4
   have g4r := of_decide_eq_false g4r
   have g4ru := g4r
   try simp only [UInt8.lt_iff_toNat_lt, UInt8.le_iff_toNat_le, UInt8.reduceToNat, UInt32.lt_iff_toNat_lt, UInt32.le_iff_toNat_le, UInt32.reduceToNat, UInt64.lt_iff_toNat_lt, UInt64.le_iff_toNat_le, UInt64.reduceToNat] at g4ru
   refine sg_ g4 mv_ (sg_ g4 mv_ (sg_ g4 (x_idx_s (k := k) rfl rfl Tryz.underlying9 (by omega)) (jg_ g4 (vB (decide ((57 : UInt8) < s.getD k 0))) (x_gtr_u8 rfl rfl) ?_)))
   exact cr_
  refine s_ mv_ ?_
  refine or_ 2 (decide ((3 : Int) < ((k : Nat) : Int))) (fun g5 => ?_) ?_
  ·have g5r := g5
   have ⟨g5r, h6⟩ := bor_false g5r
   have g5r := of_decide_eq_false g5r
   have g5ru := g5r
   try simp only [UInt8.lt_iff_toNat_lt, UInt8.le_iff_toNat_le, UInt8.reduceToNat, UInt32.lt_iff_toNat_lt, UInt32.le_iff_toNat_le, UInt32.reduceToNat, UInt64.lt_iff_toNat_lt, UInt64.le_iff_toNat_le, UInt64.reduceToNat] at g5ru
   have h6 := of_decide_eq_false h6
   have h6u := h6
   try simp only [UInt8.lt_iff_toNat_lt, UInt8.le_iff_toNat_le, UInt8.reduceToNat, UInt32.lt_iff_toNat_lt, UInt32.le_iff_toNat_le, UInt32.reduceToNat, UInt64.lt_iff_toNat_lt, UInt64.le_iff_toNat_le, UInt64.reduceToNat] at h6u
   refine sg_ g5 mv_ (sg_ g5 (x_gtr_i rfl rfl) ?_)
   exact cr_
  refine z_ (n_ ?_)
  refine if_ (fun h7 => ?_) (fun h7 => ?_)
  ·have h7w := h7
   try have hi8 := R44.decT h7w
   try have hi9 := R44.decF h7w
   simp only [Bool.and_eq_true, Bool.or_eq_true, Bool.and_eq_false_iff, Bool.or_eq_false_iff, Bool.not_eq_true', Bool.not_eq_false', decide_eq_true_eq, decide_eq_false_iff_not] at h7
   refine q_ (g_ (s_ av_ (s_ av_ (z_ (n_ (rt_ (nr_ (kq_ (nr_ (rr_ (kq_ (nr_ ?_))))))))))))
   refine JX_rets [_, _] (Value.tuple #[_, _]) Tryz.results60 (fun w h => ⟨rfl, rfl, trivial⟩) rfl _ (fun _ h => h) ⟨0, (false), ?_, ?_, ?_⟩
   ·have e_x0 : (false : Bool) = (false) := by first | rfl | omega | (simp_all; done) | (simp_all; omega)
    exact congrArg (fun (x0 : Bool) => Value.tuple #[vI 0, vB x0]) e_x0
   ·rfl
   ·exact c44r8_
  ·have h7w := h7
   try have hi10 := R44.decT h7w
   try have hi11 := R44.decF h7w
   have ⟨h7, h12⟩ := bor_false h7
   have ⟨h7, h13⟩ := bor_false h7
   have h7 := of_decide_eq_false h7
   have h7u := h7
   try simp only [UInt8.lt_iff_toNat_lt, UInt8.le_iff_toNat_le, UInt8.reduceToNat, UInt32.lt_iff_toNat_lt, UInt32.le_iff_toNat_le, UInt32.reduceToNat, UInt64.lt_iff_toNat_lt, UInt64.le_iff_toNat_le, UInt64.reduceToNat] at h7u
   have h13 := of_decide_eq_false h13
   have h13u := h13
   try simp only [UInt8.lt_iff_toNat_lt, UInt8.le_iff_toNat_le, UInt8.reduceToNat, UInt32.lt_iff_toNat_lt, UInt32.le_iff_toNat_le, UInt32.reduceToNat, UInt64.lt_iff_toNat_lt, UInt64.le_iff_toNat_le, UInt64.reduceToNat] at h13u
   have h12 := of_decide_eq_false h12
   refine sk_ (n_ (g_ (s_ mv_ (s_ (x_mul_n (a := 10) (b := n) rfl rfl (by omega)) (s_ mv_ (s_ mv_ (s_ (x_idx_s (k := k) rfl rfl Tryz.underlying9 (by omega)) (js_ (vU8 ((s.getD k 0) - 48)) (x_sub_u8 rfl rfl) (s_ (x_conv_u8_i64 rfl Tryz.underlying5 Tryz.underlying3) (s_ (x_add_n (a := 10 * n) (b := ((s.getD k 0) - 48).toNat) rfl rfl (by omega)) (s_ av_ ?_)))))))))))
   refine z_ (kx_ (n_ (g_ (s_ mv_ (s_ (x_add_n (a := k) (b := 1) rfl rfl (by omega)) (s_ av_ (z_ ?_)))))))
   refine JX_round ((k + 1, (10 * n) + (((s.getD k 0) - 48).toNat)) : Nat × Nat) ?_ ?_ ⟨rfl, rfl, rfl, trivial⟩ (fun _ h => h)
   ·try dsimp only
    refine ⟨?_, ?_, ?_, ?_⟩
    ·first | rfl | omega | (simp_all; done) | (simp_all; omega)
    ·exact R44.vN_step (by omega) i1_1 (by omega)
    ·exact R44.all_snoc (by omega) i1_2 (And.left (And.right (by assumption)))
    ·first | rfl | omega | (simp_all; done) | (simp_all; omega)
   ·try dsimp only
    first | omega | (simp; omega) | (simp_all; omega)
 ·try have hi14 := R44.decT h1w
  try have hi15 := R44.decF h1w
  refine J_exit (ne_ (re_ (kh_ (n_ (q_ ?_)))))
  refine g_ (s_ mv_ (s_ mv_ (js_ (vB (decide (s ≠ ([] : Bytes)))) (x_neq_s rfl rfl) (s_ mv_ ?_))))
  refine and_ 4 (decide (Lib.decDigits ((n : Nat) : Int).toNat = s)) (fun g16 => ?_) ?_
  ·have g16r := g16
   have g16r := of_decide_eq_true g16r
   have g16rl := List.length_pos_iff.2 g16r
   refine sg_ g16 mv_ (c0g g16 (cl_ Ty.ca52) (fun w hS => f52_ok _ w hy_ hy_) ?_)
   have ha17 := R44.dec_lenI ((n : Nat) : Int) (by omega)
   refine sg_ g16 mv_ (sg_ g16 (x_eql_s rfl rfl) ?_)
   exact cr_
  refine s_ av_ (s_ av_ (z_ (n_ (rt_ ?_))))
  refine JX_rets [_, _] (Value.tuple #[_, _]) Tryz.results60 (fun w h => ⟨rfl, rfl, trivial⟩) rfl _ (fun _ h => h) ⟨((n : Nat) : Int), ((decide (s ≠ ([] : Bytes))) && (decide (Lib.decDigits ((n : Nat) : Int).toNat = s))), ?_, ?_, ?_⟩
  ·rfl
  ·rfl
  ·exact c44r8_
set_option maxRecDepth 20000 in
theorem f25_ok (l : List SortField) (lA : Option Addr) (lC : Nat) (w : World) (lR : RO [] w lA (l.flatMap SortField.enc)) (hT : Tab [] w) (q0 : l.length ≤ 9223372036854775807) : Calls Tryz.prog 25 #[vL lA l.length lC] w (Gives [] w fun v L => v = vS (R44.fmtV l) ∧ L = []) := by
 refine calls_J [] 42 Tryz.func25 rfl Tryz.ntmps25 [(0, _)] rfl rfl (Give.nil w) ?_
 refine q_ (g_ (s_ av_ (z_ (n_ (q_ (q_ (g_ (s_ mv_ (c0 (cl_ Ty.ca21) (fun w hS => f21_ok l lA lC w (rno lR hS) hy_) (s_ (x_not rfl) (z_ (n_ ?_))))))))))))
 refine if_ (fun h1 => ?_) (fun h1 => ?_)
 ·have h1 : (R44.valid l) = false := bnot_true h1
  refine q_ (g_ (s_ av_ (z_ (n_ (rt_ (nr_ ?_))))))
  exact p1 Tryz.results25 rfl ⟨(eS c44r3_), rfl⟩
 ·have h1 : (R44.valid l) = true := bnot_false h1
  have hi2 := R44.valid_facts h1
  refine sk_ (n_ (q_ (g_ (s_ av_ (z_ (n_ (q_ (q_ (g_ (s_ mv_ (s_ (lnS Tryz.underlying24) (s_ mv_ (z_ (n_ (k_ ?_)))))))))))))))
  refine J_loop (X := Nat × (List Bytes) × (Option Addr) × Nat) (fun (⟨k, out, outA, outC⟩ : Nat × (List Bytes) × (Option Addr) × Nat) => (k ≤ l.length) ∧ (out = (l.take k).map R44.fmt1) ∧ (out.length = k)) (fun (⟨k, out, outA, outC⟩ : Nat × (List Bytes) × (Option Addr) × Nat) => [(2, vS []), (3, vL outA out.length outC), (10, vL lA l.length lC), (11, vI ((l.length : Nat) : Int)), (12, vI ((k : Nat) : Int))]) (fun (⟨k, out, outA, outC⟩ : Nat × (List Bytes) × (Option Addr) × Nat) => [Ent.row (.slice outA out.length outC) 9 1 out.length (out.map vS)]) (fun (⟨k, out, outA, outC⟩ : Nat × (List Bytes) × (Option Addr) × Nat) => l.length - k) ((0, ([] : List Bytes), none, 0) : Nat × (List Bytes) × (Option Addr) × Nat) ?_ ⟨rfl, rfl, rfl, rfl, rfl, trivial⟩ (fun _ h => (h.nilrow 9 1).keep [true] rfl) ?_
  ·try dsimp only
   refine ⟨?_, ?_, ?_⟩
   ·first | rfl | omega | (simp_all; done) | (simp_all; omega)
   ·rfl
   ·rfl
  rintro ⟨k, out, outA, outC⟩ hI1
  obtain ⟨i1_0, i1_1, i1_2⟩ := hI1
  try dsimp only at i1_0
  try dsimp only at i1_1
  try dsimp only at i1_2
  have hv0 := R44.valid_facts (l := l) (by assumption)
  have hfo := fun h => R44.fok_facts (hv0.2 k h)
  have hkl := R44.kindT_len (l.getD k default).Kind
  try dsimp only
  refine q_ (g_ (s_ (x_lss_i rfl rfl) (z_ (n_ (q_ ?_)))))
  refine ifd (fun h3w h3 => ?_) (fun h3w h3 => ?_)
  ·refine sk_ (n_ (q_ (k_ (q_ (g_ (r_ (ixF SortField.enc_len (cells_ro lR) Tryz.underlying24 Ty.sz50) (r_ (ldFN SortField.enc_len (cells_ro lR) Ty.ag50 Ty.sz50) (o_ (al_ Ty.ze50 fun b4 => ?_)))))))))
   refine o_ (stG 0 Ty.sz50 ?_)
   refine z_ (n_ (q_ ?_))
   refine drB [] 9 Ty.mixed ?_
   refine jp_ 0 rfl (fA 0 Ty.fi50_0) (jq_ 1 rfl (ld_ 0 Ty.sc3) (jp_ 4 rfl (fA 1 Ty.fi50_1) (jq_ 5 rfl (ld_ 0 Ty.sc3) (j1_ 2 (jc0_ rfl (cl_ Ty.ca50) (fun w hS => itoa_ok _ w (hT.on hS (fun _ h => by cases h)) hy_ hy_) ?_) gm_))))
   have ha5 := R44.dec_lenI ((l.getD k default).At) (by omega)
   refine jt_ 3 (vS ((Lib.decDigits ((l.getD k default).At).toNat) ++ [32])) rfl (fun _ _ => x_cat_s rfl rfl c44r0_) ?_
   refine j1_ 6 (jc0_ rfl (cl_ Ty.ca50) (fun w hS => itoa_ok _ w (hT.on hS (fun _ h => by cases h)) hy_ hy_) ?_) gm_
   have ha6 := R44.dec_lenI ((l.getD k default).Length) (by omega)
   refine jp_ 7 rfl (x_cat_s rfl rfl c44r0_) (jp_ 8 rfl av_ ?_)
   refine JA_done (by kernel_rfl) gm_ ?_
   refine n_ (q_ (g_ (s_ mv_ (o_ (O_makeMap vI fun b7 => ?_)))))
   refine o_ (O_insert 0 (f := vI) (k := 1) [(1, vS [32, 110, 117, 109, 98, 101, 114])] [Ent.mp vI b7 [(1, vS [32, 110, 117, 109, 98, 101, 114])], Ent.blk b4 50 (SortField.enc (l.getD k default)), Ent.row (.slice outA out.length outC) 9 1 out.length (out.map vS)] rfl rfl rfl rfl Tryz.underlying98 (mapK_i Tryz.underlying3) rfl rfl ?_)
   refine o_ (O_insert 0 (f := vI) (k := 2) [(1, vS [32, 110, 117, 109, 98, 101, 114]), (2, vS [32, 98, 105, 110, 97, 114, 121])] [Ent.mp vI b7 [(1, vS [32, 110, 117, 109, 98, 101, 114]), (2, vS [32, 98, 105, 110, 97, 114, 121])], Ent.blk b4 50 (SortField.enc (l.getD k default)), Ent.row (.slice outA out.length outC) 9 1 out.length (out.map vS)] rfl rfl rfl rfl Tryz.underlying98 (mapK_i Tryz.underlying3) rfl rfl ?_)
   refine s_ mv_ (s_ (fA 2 Ty.fi50_2) (r_ (ld_ 1 Ty.sc3) ?_))
   refine JO_read (vS (R44.kindT ((l.getD k default).Kind))) rfl trivial (x_lookup_v 0 (f := vI) (k := (l.getD k default).Kind) rfl rfl rfl Tryz.underlying98 (mapK_i Tryz.underlying3) Ty.ze9 rfl (R44.kindT_look _)) ?_
   refine s_ (x_cat_s rfl rfl c44r0_) (s_ av_ (z_ (xk_ [2, 3, 10, 11, 12, 5, 6] ?_)))
   refine n_ (q_ (q_ (g_ (s_ (fA 3 Ty.fi50_3) (r_ (ld_ 1 Ty.sc4) (z_ (n_ ?_)))))))
   refine if_ (fun h8 => ?_) (fun h8 => ?_)
   ·refine g_ (s_ mv_ (js_ (vS (((((Lib.decDigits ((l.getD k default).At).toNat) ++ [32]) ++ (Lib.decDigits ((l.getD k default).Length).toNat)) ++ (R44.kindT ((l.getD k default).Kind))) ++ [32, 100, 101, 115, 99, 101, 110, 100, 105, 110, 103])) (x_cat_s rfl rfl c44r0_) (s_ av_ (z_ (n_ (g_ (s_ mv_ (s_ mv_ (o_ (O_buildSlice (cs := [vS (((((Lib.decDigits ((l.getD k default).At).toNat) ++ [32]) ++ (Lib.decDigits ((l.getD k default).Length).toNat)) ++ (R44.kindT ((l.getD k default).Kind))) ++ [32, 100, 101, 115, 99, 101, 110, 100, 105, 110, 103])]) Tryz.underlying22 Ty.sz9 Ty.ze9 (by decide) (by decide) (by kernel_rfl) fun b9 => ?_))))))))))
    refine o_ (O_append_m 3 vS out [((((Lib.decDigits ((l.getD k default).At).toNat) ++ [32]) ++ (Lib.decDigits ((l.getD k default).Length).toNat)) ++ (R44.kindT ((l.getD k default).Kind))) ++ [32, 100, 101, 115, 99, 101, 110, 100, 105, 110, 103]] Tryz.underlying22 Ty.sz9 Ty.by9 Ty.ze9 rfl rfl rfl rfl rfl (fun _ => rfl) (cells_blk 0 (off := 0) (m := 1) rfl rfl) lt_ lt_ fun A10 c11 => ?_)
    refine s_ av_ (z_ (kx_ (n_ (g_ (s_ (x_add_n (a := k) (b := 1) rfl rfl (by omega)) (s_ mv_ (z_ ?_)))))))
    refine JX_round ((k + 1, out ++ [((((Lib.decDigits ((l.getD k default).At).toNat) ++ [32]) ++ (Lib.decDigits ((l.getD k default).Length).toNat)) ++ (R44.kindT ((l.getD k default).Kind))) ++ [32, 100, 101, 115, 99, 101, 110, 100, 105, 110, 103]], A10, c11) : Nat × (List Bytes) × (Option Addr) × Nat) ?_ ?_ ⟨rfl, rfl, rfl, rfl, rfl, trivial⟩ (fun _ h => h.keep [false, false, false, true] rfl)
    ·try dsimp only
     refine ⟨?_, ?_, ?_⟩
     ·first | rfl | omega | (simp_all; done) | (simp_all; omega)
     ·exact c44r10_
     ·rw [List.length_append, List.length_singleton]; omega
    ·try dsimp only
     first | omega | (simp; omega) | (simp_all; omega)
   ·refine sk_ (n_ (g_ (s_ mv_ (s_ mv_ (o_ (O_buildSlice (cs := [vS ((((Lib.decDigits ((l.getD k default).At).toNat) ++ [32]) ++ (Lib.decDigits ((l.getD k default).Length).toNat)) ++ (R44.kindT ((l.getD k default).Kind)))]) Tryz.underlying22 Ty.sz9 Ty.ze9 (by decide) (by decide) (by kernel_rfl) fun b12 => ?_))))))
    refine o_ (O_append_m 3 vS out [(((Lib.decDigits ((l.getD k default).At).toNat) ++ [32]) ++ (Lib.decDigits ((l.getD k default).Length).toNat)) ++ (R44.kindT ((l.getD k default).Kind))] Tryz.underlying22 Ty.sz9 Ty.by9 Ty.ze9 rfl rfl rfl rfl rfl (fun _ => rfl) (cells_blk 0 (off := 0) (m := 1) rfl rfl) lt_ lt_ fun A13 c14 => ?_)
    refine s_ av_ (z_ (kx_ (n_ (g_ (s_ (x_add_n (a := k) (b := 1) rfl rfl (by omega)) (s_ mv_ (z_ ?_)))))))
    refine JX_round ((k + 1, out ++ [(((Lib.decDigits ((l.getD k default).At).toNat) ++ [32]) ++ (Lib.decDigits ((l.getD k default).Length).toNat)) ++ (R44.kindT ((l.getD k default).Kind))], A13, c14) : Nat × (List Bytes) × (Option Addr) × Nat) ?_ ?_ ⟨rfl, rfl, rfl, rfl, rfl, trivial⟩ (fun _ h => h.keep [false, false, false, true] rfl)
    ·try dsimp only
     refine ⟨?_, ?_, ?_⟩
     ·first | rfl | omega | (simp_all; done) | (simp_all; omega)
     ·exact c44r10_
     ·rw [List.length_append, List.length_singleton]; omega
    ·try dsimp only
     first | omega | (simp; omega) | (simp_all; omega)
  ·refine J_exit (ne_ (re_ (kh_ (n_ (q_ ?_)))))
   refine g_ (s_ mv_ (c0 (cl_ Ty.ca51) (fun w hS => join_ok out outA outC w (RO.of_row hS 0 rfl) (by first | assumption | exact row_addr (hS.mem (j := 0) rfl) | exact row_addr (hS.mem (j := 1) rfl) | exact row_addr (hS.mem (j := 2) rfl) | exact row_addr (hS.mem (j := 3) rfl) | exact row_addr (hS.mem (j := 4) rfl) | exact ⟨Nat.le_refl _, .inl ⟨rfl, rfl⟩⟩) hy_ (by rw [i1_1]; exact R44.fmt_small (by assumption) i1_0)) (s_ av_ (z_ (n_ (rt_ ?_))))))
   exact p1 Tryz.results25 rfl ⟨(eS c44r3_), rfl⟩
end Go.Proofs.YtnfglkgahlaofaaGreatDoor
