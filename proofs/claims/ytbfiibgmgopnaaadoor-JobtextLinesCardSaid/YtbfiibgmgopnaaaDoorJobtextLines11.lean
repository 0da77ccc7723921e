/- C39d, C39e in one text. -/
import Derived.Test.YtbfiibgmgopnaaaDoorJobtextLines10
set_option linter.unusedVariables false
set_option linter.unusedSimpArgs false
namespace Go.Proofs.YtbfiibgmgopnaaaDoor
open Go.GV
set_option linter.unusedVariables false
set_option linter.unusedSimpArgs false
theorem c39d0_ {p : Prop} (h : p := by first | exact R39.stm_big (by assumption) | exact R39.stm_err (by assumption) (R39.stm_dd (by assumption) rfl) (by assumption) | exact R39.stm_data (by assumption) (R39.stm_dd (by assumption) rfl) (by assumption) (by assumption) | exact R39.stm_none (by assumption) (R39.stm_nd (by assumption) rfl)) : p := h
theorem c39d1_ {p : Prop} (h : p := by first | omega | (rw [List.length_append, List.length_singleton]; omega)) : p := h
theorem c39d2_ {p : Prop} (h : p := by first | exact R39.resL_ok (i1_0.stop (by omega) (by assumption)) | exact R39.resL_er (i1_0.big (by omega) i1_1 (by assumption) (by assumption)) | exact R39.resL_er (i1_0.out_ (by omega))) : p := h
theorem c39d3_ {p : Prop} (h : p := by first | exact R39.resL_64 (i1_0.stop (by omega) (by assumption)) | exact Nat.zero_le _) : p := h
set_option maxRecDepth 20000 in
theorem f91_ok (rows : List Row) (rowsA : Option Addr) (rowsC : Nat) (cl : Bytes) (inn : Bool) (code : Int) (w : World) (rowsR : RO [] w rowsA (rows.flatMap Row.enc)) (q0 : 0 < rows.length) : Calls Tryd.prog 91 #[vG [vL rowsA rows.length rowsC, vS cl, vB inn], vI code] w (Gives [] w fun v L => v = vG [vI ((rows.getD 0 default).number), vI code] ∧ L = []) := by
 refine calls_J [] 12 Tryd.func91 rfl Tryd.ntmps91 [(0, _), (1, _)] rfl rfl (Give.nil w) ?_
 refine q_ (g_ (o_ (bxG fun b1 => ?_)))
 refine o_ (al_ Ty.ze79 fun b2 => ?_)
 refine z_ (n_ (q_ (g_ (s_ (fA 0 Ty.fi82_0) (r_ (ld_ 1 Ty.sc68) (r_ (ixF (k := 0) Row.enc_len (cells_ro rowsR) Tryd.underlying68 Ty.sz73) (s_ (x_fieldAddr Ty.fi73_0 rfl rfl) (r_ (ldF (k := 0) 0 Row.enc_len (cells_ro rowsR) Ty.sc3) (s_ mv_ (js_ (vG [vI ((rows.getD 0 default).number), vI code]) (x_build (by kernel_rfl)) (o_ (stG 0 Ty.sz79 ?_))))))))))))
 refine z_ (n_ (rt_ ?_))
 refine JX_rets [_] _ Tryd.results91 (fun w h => ⟨⟨_, rfl, load_blkN 0 [vI ((rows.getD 0 default).number), vI code] h rfl Ty.ag79 Ty.sz79 rfl⟩, trivial⟩) rfl _ (fun _ h => h.keep [false, false] rfl) ⟨?_, ?_⟩
 ·rfl
 ·rfl
set_option maxRecDepth 20000 in
theorem f101_ok (rows : List Row) (rowsA : Option Addr) (rowsC : Nat) (cl : Bytes) (inn : Bool) (w : World) (rowsR : RO [] w rowsA (rows.flatMap Row.enc)) (q0 : 0 < rows.length) (q1 : rows.length ≤ rowsC) (q2 : rows.length ≤ 100000) : Calls Tryd.prog 101 #[vG [vL rowsA rows.length rowsC, vS cl, vB inn]] w (GivesW [] w fun v L wx => ∃ l : List Bytes, ∃ lA : Option Addr, ∃ lC : Nat, v = Value.tuple #[vL lA l.length lC, vG [vI (R39.resN (R39.inl (rows.getD 0 default).number 0 (rows.drop 1))), vI (R39.resC (R39.inl (rows.getD 0 default).number 0 (rows.drop 1)))]] ∧ L = [] ∧ RO (List.range w.heap.size) wx lA (l.map vS) ∧ l.length ≤ lC ∧ (l = R39.resL (R39.inl (rows.getD 0 default).number 0 (rows.drop 1))) ∧ (l.length ≤ 64)) := by
 refine calls_JW [] 42 Tryd.func101 rfl Tryd.ntmps101 [(0, _)] rfl rfl (Give.nil w) ?_
 refine q_ (g_ (o_ (bxG fun b1 => ?_)))
 refine s_ av_ (o_ (al_ Ty.ze79 fun b2 => ?_))
 refine z_ (n_ (q_ (g_ (s_ av_ (z_ (n_ (q_ (q_ (g_ (s_ (fA 0 Ty.fi82_0) (r_ (ld_ 1 Ty.sc68) (s_ (x_subrow (lo := 1) (hi := rows.length) rfl Tryd.underlying68 Ty.sz73 (.inl rfl) (.inr ⟨rfl, rfl⟩) lt_ lt_) ?_))))))))))))
 have hro3 := RO.subF rowsR Row.enc_len rowsC 1 (rows.length - 1) lt_
 rw [show rows.length - 1 = (rows.drop 1).length from List.length_drop.symm, List.take_length] at hro3
 refine JO_weaken (E' := [(0, vG [vL rowsA rows.length rowsC, vS cl, vB inn]), (1, pB b1 0), (2, vL none 0 0), (3, pB b2 0), (4, vL none 0 0), (7, pB b1 0), (8, vL rowsA rows.length rowsC), (9, vL (subA rowsA rowsC 1 2) ((rows.drop 1).length) (rowsC - 1))]) (L' := [Ent.blk b2 79 [vI 0, vI 0], Ent.blk b1 82 [vL rowsA rows.length rowsC, vS cl, vB inn]]) ⟨rfl, rfl, rfl, rfl, rfl, rfl, rfl, (congrArg (fun n : Nat => some (Value.slice (subA rowsA rowsC 1 2) n (rowsC - 1))) (by exact List.length_drop.symm)), trivial⟩ (fun _ h => h) ?_
 refine s_ (lnS Tryd.underlying68) (s_ mv_ (z_ (n_ (k_ ?_))))
 refine J_loop (X := Nat × (List Bytes) × (Option Addr) × Nat) (fun (⟨k, out, outA, outC⟩ : Nat × (List Bytes) × (Option Addr) × Nat) => (R39.InlJ (rows.getD 0 default).number (rows.drop 1) out k) ∧ (out.length = k) ∧ (k ≤ (rows.drop 1).length)) (fun (⟨k, out, outA, outC⟩ : Nat × (List Bytes) × (Option Addr) × Nat) => [(1, pB b1 0), (3, pB b2 0), (4, vL outA out.length outC), (9, vL (subA rowsA rowsC 1 2) ((rows.drop 1).length) (rowsC - 1)), (10, vI (((rows.drop 1).length : Nat) : Int)), (11, vI ((k : Nat) : Int))]) (fun (⟨k, out, outA, outC⟩ : Nat × (List Bytes) × (Option Addr) × Nat) => [Ent.blk b2 79 [vI 0, vI 0], Ent.blk b1 82 [vL rowsA rows.length rowsC, vS cl, vB inn], Ent.row (.slice outA out.length outC) 9 1 out.length (out.map vS)]) (fun (⟨k, out, outA, outC⟩ : Nat × (List Bytes) × (Option Addr) × Nat) => (rows.drop 1).length - k) ((0, ([] : List Bytes), none, 0) : Nat × (List Bytes) × (Option Addr) × Nat) ?_ ⟨rfl, rfl, rfl, rfl, rfl, rfl, trivial⟩ (fun _ h => (((h.nilrow 9 1).front 2 _ rfl).front 2 _ rfl).keep [true, true, true] rfl) ?_
 ·try dsimp only
  refine ⟨?_, ?_, ?_⟩
  ·exact R39.InlJ.start
  ·rfl
  ·omega
 rintro ⟨k, out, outA, outC⟩ hI1
 obtain ⟨i1_0, i1_1, i1_2⟩ := hI1
 try dsimp only at i1_0
 try dsimp only at i1_1
 try dsimp only at i1_2
 have hdl := List.length_drop (i := 1) (l := rows)
 try dsimp only
 refine q_ (g_ (s_ (x_lss_i rfl rfl) (z_ (n_ (q_ ?_)))))
 refine ifd (fun h4w h4 => ?_) (fun h4w h4 => ?_)
 ·refine sk_ (n_ (q_ (k_ (q_ (g_ (r_ (ixF Row.enc_len (cells_ro hro3) Tryd.underlying68 Ty.sz73) (r_ (ldFN Row.enc_len (cells_ro hro3) Ty.ag73 Ty.sz73) (o_ (al_ Ty.ze73 fun b5 => ?_)))))))))
  refine o_ (stG 0 Ty.sz73 ?_)
  refine z_ (n_ (q_ (k_ (q_ (g_ (s_ (fA 1 Ty.fi73_1) (r_ (ld_ 0 Ty.sc9) (js_ (vB (decide (((rows.drop 1).getD k default).text = ([47, 42] : Bytes)))) (x_eql_s rfl rfl) (s_ av_ (z_ (n_ ?_)))))))))))
  refine ifd (fun h6w h6 => ?_) (fun h6w h6 => ?_)
  ·refine q_ (g_ (s_ mv_ (js_ (vG [vI 0, vI 0]) (x_build (by kernel_rfl)) (s_ av_ (o_ (stG 1 Ty.sz79 ?_))))))
   refine z_ (n_ (rt_ (kq_ (nr_ (kq_ (nr_ (rr_ (kq_ (nr_ ?_)))))))))
   refine JX_retsD [_, _] (Value.tuple #[_, _]) Tryd.results101 (fun w h => ⟨rfl, ⟨_, rfl, load_blkN 1 [vI 0, vI 0] h rfl Ty.ag79 Ty.sz79 rfl⟩, trivial⟩) rfl _ (fun _ h => h.keep [false, false, false, false] rfl) (fun _ _ h => h) (fun wx hw => ⟨out, outA, outC, ?_, ?_, (RO.of_rowF (Lc := []) hw hw 3 rfl), (row_le (hw.mem (j := 3) rfl)), ?_, ?_⟩)
   ·have e_x0 : (0 : Int) = (R39.resN (R39.inl (rows.getD 0 default).number 0 (rows.drop 1))) := by first | rfl | exact R39.resN_ok (i1_0.stop (by omega) (by assumption)) | exact R39.resC_ok (i1_0.stop (by omega) (by assumption)) | exact R39.resN_er (i1_0.big (by omega) i1_1 (by assumption) (by assumption)) | exact R39.resC_er (i1_0.big (by omega) i1_1 (by assumption) (by assumption)) | exact R39.resN_er (i1_0.out_ (by omega)) | exact R39.resC_er (i1_0.out_ (by omega))
    have e_x1 : (0 : Int) = (R39.resC (R39.inl (rows.getD 0 default).number 0 (rows.drop 1))) := by first | rfl | exact R39.resN_ok (i1_0.stop (by omega) (by assumption)) | exact R39.resC_ok (i1_0.stop (by omega) (by assumption)) | exact R39.resN_er (i1_0.big (by omega) i1_1 (by assumption) (by assumption)) | exact R39.resC_er (i1_0.big (by omega) i1_1 (by assumption) (by assumption)) | exact R39.resN_er (i1_0.out_ (by omega)) | exact R39.resC_er (i1_0.out_ (by omega))
    have e_all := (congr (congrArg (fun (x0 : Int) (x1 : Int) => Value.tuple #[vL outA out.length outC, vG [vI x0, vI x1]]) e_x0) e_x1)
    exact e_all
   ·rfl
   ·exact c39d2_
   ·exact c39d3_
  ·refine q_ (g_ (s_ mv_ (s_ (lnS Tryd.underlying24) (s_ (x_geq_i rfl rfl) (s_ mv_ ?_)))))
   refine or_ 4 (decide ((200 : Int) < (((((rows.drop 1).getD k default).text).length : Nat) : Int))) (fun g7 => ?_) ?_
   ·have g7r := g7
    have g7r := of_decide_eq_false g7r
    refine sg_ g7 (fA 1 Ty.fi73_1) (rg_ g7 (ld_ 0 Ty.sc9) (sg_ g7 (x_len_s rfl Tryd.underlying9) (sg_ g7 (x_gtr_i rfl rfl) ?_)))
    exact cr_
   refine s_ av_ (z_ (n_ ?_))
   refine if_ (fun h8 => ?_) (fun h8 => ?_)
   ·have h8w := h8
    simp only [Bool.and_eq_true, Bool.or_eq_true, Bool.and_eq_false_iff, Bool.or_eq_false_iff, Bool.not_eq_true', Bool.not_eq_false', decide_eq_true_eq, decide_eq_false_iff_not] at h8
    refine q_ ?_
    refine drU [Ent.blk b5 73 [vI (((rows.drop 1).getD k default).number), vS (((rows.drop 1).getD k default).text)], Ent.blk b1 82 [vL rowsA rows.length rowsC, vS cl, vB inn], Ent.row (.slice outA out.length outC) 9 1 out.length (out.map vS)] [4] 5 Ty.mixed ?_
    refine jp_ 0 rfl (fA 0 Ty.fi73_0) (jq_ 1 rfl (ld_ 0 Ty.sc3) ?_)
    refine jt_ 2 (vG [vI (((rows.drop 1).getD k default).number), vI 8]) rfl (fun _ _ => x_build (by kernel_rfl)) ?_
    refine jp_ 3 rfl av_ (j1_ 4 (jio_ rfl (stG 1 Ty.sz79 ?_)) (fun _ h => ⟨h.keep [true, false, true, true] rfl, fun _ => h⟩))
    refine JA_done (by kernel_rfl) (gl_ rfl (fun _ h => h.keep [true, false, true, true] rfl)) ?_
    refine n_ (rt_ (kq_ (nr_ (kq_ (nr_ (rr_ (kq_ (nr_ ?_))))))))
    refine JX_retsB [_, _] (Value.tuple #[_, _]) Tryd.results101 (fun w h => ⟨rfl, ⟨_, rfl, load_blkN 1 [vI (((rows.drop 1).getD k default).number), vI 8] h rfl Ty.ag79 Ty.sz79 rfl⟩, trivial⟩) rfl _ (fun _ h => h.keep [false, false, false, false] rfl) (fun _ _ h => h) (fun wx hw => ⟨([] : List Bytes), none, 0, ?_, ?_, RO.nil, (Nat.zero_le _), ?_, ?_⟩)
    ·have e_x0 : (0 : Nat) = (([] : List Bytes).length) := by first | rfl | exact R39.resN_ok (i1_0.stop (by omega) (by assumption)) | exact R39.resC_ok (i1_0.stop (by omega) (by assumption)) | exact R39.resN_er (i1_0.big (by omega) i1_1 (by assumption) (by assumption)) | exact R39.resC_er (i1_0.big (by omega) i1_1 (by assumption) (by assumption)) | exact R39.resN_er (i1_0.out_ (by omega)) | exact R39.resC_er (i1_0.out_ (by omega))
     have e_x1 : (((rows.drop 1).getD k default).number : Int) = (R39.resN (R39.inl (rows.getD 0 default).number 0 (rows.drop 1))) := by first | rfl | exact R39.resN_ok (i1_0.stop (by omega) (by assumption)) | exact R39.resC_ok (i1_0.stop (by omega) (by assumption)) | exact R39.resN_er (i1_0.big (by omega) i1_1 (by assumption) (by assumption)) | exact R39.resC_er (i1_0.big (by omega) i1_1 (by assumption) (by assumption)) | exact R39.resN_er (i1_0.out_ (by omega)) | exact R39.resC_er (i1_0.out_ (by omega))
     have e_x2 : (8 : Int) = (R39.resC (R39.inl (rows.getD 0 default).number 0 (rows.drop 1))) := by first | rfl | exact R39.resN_ok (i1_0.stop (by omega) (by assumption)) | exact R39.resC_ok (i1_0.stop (by omega) (by assumption)) | exact R39.resN_er (i1_0.big (by omega) i1_1 (by assumption) (by assumption)) | exact R39.resC_er (i1_0.big (by omega) i1_1 (by assumption) (by assumption)) | exact R39.resN_er (i1_0.out_ (by omega)) | exact R39.resC_er (i1_0.out_ (by omega))
     have e_all := (congr (congr (congrArg (fun (x0 : Nat) (x1 : Int) (x2 : Int) => Value.tuple #[vL none x0 0, vG [vI x1, vI x2]]) e_x0) e_x1) e_x2)
     exact e_all
    ·rfl
    ·exact c39d2_
    ·exact c39d3_
   ·have h8w := h8
    have ⟨h8, h9⟩ := bor_false h8
    have h8 := of_decide_eq_false h8
    have h9 := of_decide_eq_false h9
    refine sk_ (kx_ (n_ (g_ (s_ mv_ (s_ (fA 1 Ty.fi73_1) (r_ (ld_ 0 Ty.sc9) (o_ (O_buildSlice (cs := [vS (((rows.drop 1).getD k default).text)]) Tryd.underlying24 Ty.sz9 Ty.ze9 (by decide) (by decide) (by kernel_rfl) fun b10 => ?_))))))))
    refine o_ (O_append_m 4 vS out [((rows.drop 1).getD k default).text] Tryd.underlying24 Ty.sz9 Ty.by9 Ty.ze9 rfl rfl rfl rfl rfl (fun _ => rfl) (cells_blk 0 (off := 0) (m := 1) rfl rfl) lt_ lt_ fun A11 c12 => ?_)
    refine s_ av_ (z_ (kx_ (n_ (g_ (s_ (x_add_n (a := k) (b := 1) rfl rfl (by omega)) (s_ mv_ (z_ ?_)))))))
    refine JX_round ((k + 1, out ++ [((rows.drop 1).getD k default).text], A11, c12) : Nat × (List Bytes) × (Option Addr) × Nat) ?_ ?_ ⟨rfl, rfl, rfl, rfl, rfl, rfl, trivial⟩ (fun _ h => h.keep [false, false, true, true, true] rfl)
    ·try dsimp only
     refine ⟨?_, ?_, ?_⟩
     ·exact i1_0.step (by omega) i1_1 (by assumption) (by assumption)
     ·rw [List.length_append, List.length_singleton]; omega
     ·omega
    ·try dsimp only
     first | omega | (simp; omega) | (simp_all; omega)
 ·refine J_exit (ne_ (re_ (kh_ (n_ (q_ ?_)))))
  refine g_ (r_ (ldN 1 [vL rowsA rows.length rowsC, vS cl, vB inn] Ty.ag82 Ty.sz82) (c0 (cl_ Ty.ca91) (fun w hS => f91_ok rows _ _ cl inn 3 w (rno rowsR hS) hy_) (s_ av_ (o_ (stG 0 Ty.sz79 ?_)))))
  refine z_ (n_ (rt_ ?_))
  refine JX_retsB [_, _] (Value.tuple #[_, _]) Tryd.results101 (fun w h => ⟨rfl, ⟨_, rfl, load_blkN 0 [vI ((rows.getD 0 default).number), vI 3] h rfl Ty.ag79 Ty.sz79 rfl⟩, trivial⟩) rfl _ (fun _ h => h.keep [false, false, false] rfl) (fun _ _ h => h) (fun wx hw => ⟨([] : List Bytes), none, 0, ?_, ?_, RO.nil, (Nat.zero_le _), ?_, ?_⟩)
  ·have e_x0 : (0 : Nat) = (([] : List Bytes).length) := by first | rfl | exact R39.resN_ok (i1_0.stop (by omega) (by assumption)) | exact R39.resC_ok (i1_0.stop (by omega) (by assumption)) | exact R39.resN_er (i1_0.big (by omega) i1_1 (by assumption) (by assumption)) | exact R39.resC_er (i1_0.big (by omega) i1_1 (by assumption) (by assumption)) | exact R39.resN_er (i1_0.out_ (by omega)) | exact R39.resC_er (i1_0.out_ (by omega))
   have e_x1 : ((rows.getD 0 default).number : Int) = (R39.resN (R39.inl (rows.getD 0 default).number 0 (rows.drop 1))) := by first | rfl | exact R39.resN_ok (i1_0.stop (by omega) (by assumption)) | exact R39.resC_ok (i1_0.stop (by omega) (by assumption)) | exact R39.resN_er (i1_0.big (by omega) i1_1 (by assumption) (by assumption)) | exact R39.resC_er (i1_0.big (by omega) i1_1 (by assumption) (by assumption)) | exact R39.resN_er (i1_0.out_ (by omega)) | exact R39.resC_er (i1_0.out_ (by omega))
   have e_x2 : (3 : Int) = (R39.resC (R39.inl (rows.getD 0 default).number 0 (rows.drop 1))) := by first | rfl | exact R39.resN_ok (i1_0.stop (by omega) (by assumption)) | exact R39.resC_ok (i1_0.stop (by omega) (by assumption)) | exact R39.resN_er (i1_0.big (by omega) i1_1 (by assumption) (by assumption)) | exact R39.resC_er (i1_0.big (by omega) i1_1 (by assumption) (by assumption)) | exact R39.resN_er (i1_0.out_ (by omega)) | exact R39.resC_er (i1_0.out_ (by omega))
   have e_all := (congr (congr (congrArg (fun (x0 : Nat) (x1 : Int) (x2 : Int) => Value.tuple #[vL none x0 0, vG [vI x1, vI x2]]) e_x0) e_x1) e_x2)
   exact e_all
  ·rfl
  ·exact c39d2_
  ·exact c39d3_
set_option maxRecDepth 20000 in
theorem f90_ok (r : Nat) (sy : Value) (pr : Value) (o : List Statement) (oA : Option Addr) (oC : Nat) (oN : Nat) (rows : List Row) (rowsA : Option Addr) (rowsC : Nat) (cl : Bytes) (inn : Bool) (ws : List Bytes) (wsA : Option Addr) (wsC : Nat) (w : World) (rowsR : RO (Lown [Ent.blk r 77 [sy, pr, vL oA oN oC], Ent.row (.slice oA oN oC) 40 4 oN (o.flatMap Statement.enc)]) w rowsA (rows.flatMap Row.enc)) (wsR : RO (Lown [Ent.blk r 77 [sy, pr, vL oA oN oC], Ent.row (.slice oA oN oC) 40 4 oN (o.flatMap Statement.enc)]) w wsA (ws.map vS)) (oQ : oN = o.length) (q0 : 0 < rows.length) (q1 : rows.length ≤ rowsC) (q2 : rows.length ≤ 100000) (q3 : 0 < ws.length) (q4 : ws.length ≤ 1000000) (q5 : o.length ≤ 400) (hg : Give (Lown [Ent.blk r 77 [sy, pr, vL oA oN oC], Ent.row (.slice oA oN oC) 40 4 oN (o.flatMap Statement.enc)]) w [Ent.blk r 77 [sy, pr, vL oA oN oC], Ent.row (.slice oA oN oC) 40 4 oN (o.flatMap Statement.enc)]) : Calls Tryd.prog 90 #[pB r 0, vG [vL rowsA rows.length rowsC, vS cl, vB inn], vL wsA ws.length wsC] w (GivesW (Lown [Ent.blk r 77 [sy, pr, vL oA oN oC], Ent.row (.slice oA oN oC) 40 4 oN (o.flatMap Statement.enc)]) w fun v L wx => ∃ n : Int, ∃ fl : Int, ∃ fc : Int, ∃ y : List Statement, ∃ yA : Option Addr, ∃ yC : Nat, ∃ l : List Bytes, ∃ lA : Option Addr, ∃ lC : Nat, v = Value.tuple #[vI n, vG [vI fl, vI fc]] ∧ L = [Ent.blk r 77 [sy, pr, vL yA y.length yC], Ent.row (.slice yA y.length yC) 40 4 y.length (y.flatMap Statement.enc)] ∧ RO (Lown L ++ List.range w.heap.size) wx lA (l.map vS) ∧ l.length ≤ lC ∧ (R39.StmJ (R39.stmN o.length (rows.getD 0 default).number ws (rows.drop 1)) o y (Statement.mk (rows.getD 0 default).number cl ws wsA wsC l lA lC) l n fl fc) ∧ (l.length ≤ 64) ∧ (y.length ≤ 400)) := by
 subst oQ
 refine calls_JW (Lown [Ent.blk r 77 [sy, pr, vL oA o.length oC], Ent.row (.slice oA o.length oC) 40 4 o.length (o.flatMap Statement.enc)]) 70 Tryd.func90 rfl Tryd.ntmps90 [(0, _), (1, _), (2, _)] rfl rfl hg ?_
 refine q_ (g_ (o_ (bxG fun b1 => ?_)))
 refine s_ av_ (o_ (al_ Ty.ze79 fun b2 => ?_))
 refine z_ (n_ (q_ (q_ (g_ (s_ mv_ (s_ (x_nilCheck rfl) (s_ (fA 2 Ty.fi77_2) (r_ (ld_ 2 Ty.sc36) (s_ (lnS Tryd.underlying36) (s_ (x_geq_i rfl rfl) (z_ (n_ ?_))))))))))))
 refine ifd (fun h3w h3 => ?_) (fun h3w h3 => ?_)
 ·refine q_ (g_ (r_ (ldN 1 [vL rowsA rows.length rowsC, vS cl, vB inn] Ty.ag82 Ty.sz82) (c0 (cl_ Ty.ca91) (fun w hS => f91_ok rows _ _ cl inn 8 w (rno rowsR hS) hy_) (s_ av_ (o_ (stG 0 Ty.sz79 ?_))))))
  refine z_ (n_ (rt_ (nr_ ?_)))
  refine JX_retsD [_, _] (Value.tuple #[_, _]) Tryd.results90 (fun w h => ⟨rfl, ⟨_, rfl, load_blkN 0 [vI ((rows.getD 0 default).number), vI 8] h rfl Ty.ag79 Ty.sz79 rfl⟩, trivial⟩) rfl _ (fun _ h => h.keep [false, false, true, true] rfl) (fun _ _ h => h) (fun wx hw => ⟨0, (rows.getD 0 default).number, 8, o, oA, oC, ([] : List Bytes), none, 0, ?_, ?_, RO.nil, (Nat.zero_le _), ?_, ?_, ?_⟩)
  ·rfl
  ·rfl
  ·exact c39d0_
  ·first | assumption | exact Nat.zero_le _
  ·exact c39d1_
 ·refine sk_ (n_ (q_ ?_))
  refine drB [10] 11 Ty.mixed ?_
  refine jp_ 0 rfl (fA 0 Ty.fi82_0) (jq_ 1 rfl (ld_ 1 Ty.sc68) (jq_ 2 rfl (ixF (k := 0) Row.enc_len (cells_ro rowsR) Tryd.underlying68 Ty.sz73) (jp_ 3 rfl (x_fieldAddr Ty.fi73_0 rfl rfl) (jq_ 4 rfl (ldF (k := 0) 0 Row.enc_len (cells_ro rowsR) Ty.sc3) (jp_ 5 rfl (fA 1 Ty.fi82_1) (jq_ 6 rfl (ld_ 1 Ty.sc9) (jp_ 7 rfl mv_ ?_)))))))
  refine jt_ 8 (vG [vI ((rows.getD 0 default).number), vS cl, vL wsA ws.length wsC, vL none 0 0]) rfl (fun _ _ => x_build (by kernel_rfl)) ?_
  refine j1_ 9 (jio_ rfl (al_ Ty.ze40 fun b5 => ?_)) gm_
  refine j1_ 10 (jio_ rfl (stG 0 Ty.sz40 ?_)) (fun _ h => ⟨h.keep [false, true, true, true, true] rfl, fun _ => h.keep [false, true, true, true, true] rfl⟩)
  refine JA_done (by kernel_rfl) (gl_ rfl (fun _ h => h.keep [false, true, true, true, true] rfl)) ?_
  refine n_ (q_ (g_ (s_ av_ (z_ (xk_ [0, 2, 4, 6, 7, 8, 9] ?_)))))
  refine n_ (q_ (q_ (g_ (s_ mv_ (r_ (ixM (k := 0) (cells_ro wsR) Tryd.underlying24 Ty.sz9) (r_ (ldM vS [] (cells_ro wsR) Ty.sc9) (js_ (vB (decide ((ws.getD 0 []) = ([100, 100] : Bytes)))) (x_eql_s rfl rfl) (s_ mv_ ?_))))))))
  refine and_ 3 (decide (((ws.length : Nat) : Int) = 3)) (fun g6 => ?_) ?_
  ·have g6r := g6
   have g6r := of_decide_eq_true g6r
   refine sg_ g6 mv_ (sg_ g6 (lnS Tryd.underlying24) (sg_ g6 (x_eql_i rfl rfl) ?_))
   exact cr_
  refine s_ mv_ ?_
  refine and_ 4 (decide ((ws.getD 2 []) = ([105, 110, 108, 105, 110, 101] : Bytes))) (fun g7 => ?_) ?_
  ·have g7r := g7
   have ⟨g7r, h8⟩ := band_true g7r
   have g7r := of_decide_eq_true g7r
   have h8 := of_decide_eq_true h8
   refine sg_ g7 mv_ (rg_ g7 (ixM (k := 2) (cells_ro wsR) Tryd.underlying24 Ty.sz9) (rg_ g7 (ldM vS [] (cells_ro wsR) Ty.sc9) (jg_ g7 (vB (decide ((ws.getD 2 []) = ([105, 110, 108, 105, 110, 101] : Bytes)))) (x_eql_s rfl rfl) ?_)))
   exact cr_
  refine z_ (n_ ?_)
  refine if_ (fun h9 => ?_) (fun h9 => ?_)
  ·have h9w := h9
   have ⟨h9, h10⟩ := band_true h9
   have ⟨h9, h11⟩ := band_true h9
   have h9 := of_decide_eq_true h9
   have h11 := of_decide_eq_true h11
   have h10 := of_decide_eq_true h10
   refine q_ (g_ (r_ (ldN 2 [vL rowsA rows.length rowsC, vS cl, vB inn] Ty.ag82 Ty.sz82) ?_))
   refine JO_callB [] [] [Ent.blk b5 40 [vI ((rows.getD 0 default).number), vS cl, vL wsA ws.length wsC, vL none 0 0], Ent.blk b2 79 [vI 0, vI 0], Ent.blk b1 82 [vL rowsA rows.length rowsC, vS cl, vB inn], Ent.blk r 77 [sy, pr, vL oA o.length oC], Ent.row (.slice oA o.length oC) 40 4 o.length (o.flatMap Statement.enc)] rfl trivial (fun _ => x_call Ty.ca101 rfl) (fun _ h => h) (fun _ h => by cases h) (fun w hS => f101_ok rows rowsA rowsC cl inn w (rowsR.on hS (fun _ h => by cases h)) hy_ hy_ hy_) ?_
   rintro wc _ _ wbhB14 ⟨rl, rlA, rlC, rfl, rfl, rlR, rlL, hf12, hf13⟩ hc0 hB14
   have rowsR := rowsR.again hB14
   have wsR := wsR.again hB14
   have rlR0 := rlR.mono (lown_rangeF (w00 := w) hc0 hc0.fr.size)
   have rlR := rlR.mono (lown_range hc0)
   refine s_ mv_ (s_ (ex_ 0) (s_ (ex_ 1) (o_ (al_ Ty.ze79 fun b15 => ?_))))
   refine s_ av_ (o_ (stG 0 Ty.sz79 ?_))
   refine z_ (xk_ [0, 6, 7, 8, 9, 11, 10] ?_)
   refine n_ (q_ (q_ (g_ (s_ (fA 1 Ty.fi79_1) (r_ (ld_ 0 Ty.sc25) (s_ (x_neq_i rfl rfl) (z_ (n_ ?_))))))))
   refine ifd (fun h16w h16 => ?_) (fun h16w h16 => ?_)
   ·refine q_ ?_
    refine drU [Ent.blk b15 79 [vI (R39.resN (R39.inl (rows.getD 0 default).number 0 (rows.drop 1))), vI (R39.resC (R39.inl (rows.getD 0 default).number 0 (rows.drop 1)))], Ent.blk b5 40 [vI ((rows.getD 0 default).number), vS cl, vL wsA ws.length wsC, vL none 0 0], Ent.blk b1 82 [vL rowsA rows.length rowsC, vS cl, vB inn], Ent.blk r 77 [sy, pr, vL oA o.length oC], Ent.row (.slice oA o.length oC) 40 4 o.length (o.flatMap Statement.enc)] [2] 3 Ty.mixed ?_
    refine jq_ 0 rfl (ldN 0 [vI (R39.resN (R39.inl (rows.getD 0 default).number 0 (rows.drop 1))), vI (R39.resC (R39.inl (rows.getD 0 default).number 0 (rows.drop 1)))] Ty.ag79 Ty.sz79) (jp_ 1 rfl av_ (j1_ 2 (jio_ rfl (stG 2 Ty.sz79 ?_)) (fun _ h => ⟨h.keep [true, true, false, true, true, true] rfl, fun _ => h⟩)))
    refine JA_done (by kernel_rfl) (gl_ rfl (fun _ h => h.keep [true, true, false, true, true, true] rfl)) ?_
    refine n_ (rt_ (nr_ (nr_ ?_)))
    refine JX_retsD [_, _] (Value.tuple #[_, _]) Tryd.results90 (fun w h => ⟨rfl, ⟨_, rfl, load_blkN 2 [vI (R39.resN (R39.inl (rows.getD 0 default).number 0 (rows.drop 1))), vI (R39.resC (R39.inl (rows.getD 0 default).number 0 (rows.drop 1)))] h rfl Ty.ag79 Ty.sz79 rfl⟩, trivial⟩) rfl _ (fun _ h => h.keep [false, false, false, false, true, true] rfl) (fun _ _ h => (hB14.back _ _ h)) (fun wx hw => ⟨0, R39.resN (R39.inl (rows.getD 0 default).number 0 (rows.drop 1)), R39.resC (R39.inl (rows.getD 0 default).number 0 (rows.drop 1)), o, oA, oC, ([] : List Bytes), none, 0, ?_, ?_, RO.nil, (Nat.zero_le _), ?_, ?_, ?_⟩)
    ·rfl
    ·rfl
    ·exact c39d0_
    ·first | assumption | exact Nat.zero_le _
    ·exact c39d1_
   ·refine sk_ (n_ (g_ (s_ mv_ (s_ mv_ (s_ (lnS Tryd.underlying24) (s_ (x_add_n (a := rl.length) (b := 1) rfl rfl (by omega)) (s_ (fA 3 Ty.fi40_3) (o_ (st1 1 Ty.sz24 ?_)))))))))
    refine s_ av_ (z_ (n_ (q_ ?_)))
    refine drU [] [7, 10] 11 Ty.mixed ?_
    refine jp_ 0 rfl mv_ (jp_ 1 rfl mv_ (jp_ 2 rfl (x_nilCheck rfl) (jp_ 3 rfl (fA 2 Ty.fi77_2) ?_)))
    refine JA_early 4 (vL oA o.length oC) rfl (by kernel_rfl) (by kernel_rfl) (by kernel_rfl) rfl (by kernel_rfl) (fun _ _ _ h => h) rfl trivial (x_load 4 rfl rfl Ty.sc36 rfl) ?_
    refine JA_earlyT 5 (vG [vI ((rows.getD 0 default).number), vS cl, vL wsA ws.length wsC, vL rlA rl.length rlC]) rfl (by kernel_rfl) (by kernel_rfl) (by kernel_rfl) rfl (by kernel_rfl) (fun _ _ _ h => h) rfl trivial (x_loadN 1 [vI ((rows.getD 0 default).number), vS cl, vL wsA ws.length wsC, vL rlA rl.length rlC] rfl rfl Ty.ag40 Ty.sz40 rfl) ?_
    refine j1_ 6 (jio_ rfl (O_buildSlice (cs := [vI ((rows.getD 0 default).number), vS cl, vL wsA ws.length wsC, vL rlA rl.length rlC]) Tryd.underlying36 Ty.sz40 Ty.ze40 (by decide) (by decide) (by kernel_rfl) fun b18 => ?_)) (fun _ h => ⟨h.keep [false, false, false, false, false, false] rfl, fun _ => h⟩)
    refine j1_ 7 (jio_ rfl (O_append_f 6 Statement.enc 4 o [(Statement.mk ((rows.getD 0 default).number) cl ws wsA wsC rl rlA rlC)] Tryd.underlying36 Ty.sz40 Ty.by40 Ty.ze40 rfl (by decide) rfl rfl rfl rfl Statement.enc_len Statement.enc_one (cells_blk 0 (off := 0) (m := 4) rfl rfl) lt_ lt_ fun A21 c22 => ?_)) (fun _ h => ⟨h.keep [false, false, false, false, false, false, false] rfl, fun _ => h.keep [false, true, true, true, true, true, true] rfl⟩)
    refine jp_ 8 rfl (x_nilCheck rfl) (jp_ 9 rfl (fA 2 Ty.fi77_2) (j1_ 10 (jio_ rfl (st1 5 Ty.sz36 ?_)) (gl_ rfl (fun _ h => h.keep [false, false, false, false, false, false, false] rfl))))
    refine JA_done (by kernel_rfl) (gl_ rfl (fun _ h => h.keep [false, false, false, false, false, false, false] rfl)) ?_
    refine n_ (q_ (g_ (s_ mv_ (js_ (vG [vI 0, vI 0]) (x_build (by kernel_rfl)) (s_ av_ (o_ (stG 3 Ty.sz79 ?_)))))))
    refine z_ (xk_ [6, 7] ?_)
    refine n_ (rt_ ?_)
    refine JX_retsD [_, _] (Value.tuple #[_, _]) Tryd.results90 (fun w h => ⟨rfl, ⟨_, rfl, load_blkN 3 [vI 0, vI 0] h rfl Ty.ag79 Ty.sz79 rfl⟩, trivial⟩) rfl _ (fun _ h => h.keep [false, false, false, false, false, true, true] rfl) (fun _ _ h => (hB14.back _ _ h)) (fun wx hw => ⟨((rl.length + 1 : Nat) : Int), 0, 0, o ++ [(Statement.mk ((rows.getD 0 default).number) cl ws wsA wsC rl rlA rlC)], A21, c22, rl, rlA, rlC, ?_, ?_, (rlR0.againF (hw.keep [false, false, false, false, false, true, true] rfl)), (by assumption), ?_, ?_, ?_⟩)
    ·rfl
    ·rfl
    ·exact c39d0_
    ·first | assumption | exact Nat.zero_le _
    ·exact c39d1_
  ·have h9w := h9
   simp only [Bool.and_eq_true, Bool.or_eq_true, Bool.and_eq_false_iff, Bool.or_eq_false_iff, Bool.not_eq_true', Bool.not_eq_false', decide_eq_true_eq, decide_eq_false_iff_not] at h9
   refine sk_ (n_ (q_ ?_))
   refine drU [] [7, 10] 11 Ty.mixed ?_
   refine jp_ 0 rfl mv_ (jp_ 1 rfl mv_ (jp_ 2 rfl (x_nilCheck rfl) (jp_ 3 rfl (fA 2 Ty.fi77_2) ?_)))
   refine JA_early 4 (vL oA o.length oC) rfl (by kernel_rfl) (by kernel_rfl) (by kernel_rfl) rfl (by kernel_rfl) (fun _ _ _ h => h) rfl trivial (x_load 3 rfl rfl Ty.sc36 rfl) ?_
   refine JA_earlyT 5 (vG [vI ((rows.getD 0 default).number), vS cl, vL wsA ws.length wsC, vL none 0 0]) rfl (by kernel_rfl) (by kernel_rfl) (by kernel_rfl) rfl (by kernel_rfl) (fun _ _ _ h => h) rfl trivial (x_loadN 0 [vI ((rows.getD 0 default).number), vS cl, vL wsA ws.length wsC, vL none 0 0] rfl rfl Ty.ag40 Ty.sz40 rfl) ?_
   refine j1_ 6 (jio_ rfl (O_buildSlice (cs := [vI ((rows.getD 0 default).number), vS cl, vL wsA ws.length wsC, vL none 0 0]) Tryd.underlying36 Ty.sz40 Ty.ze40 (by decide) (by decide) (by kernel_rfl) fun b24 => ?_)) (fun _ h => ⟨h.keep [false, false, false, false, false] rfl, fun _ => h⟩)
   refine j1_ 7 (jio_ rfl (O_append_f 5 Statement.enc 4 o [(Statement.mk ((rows.getD 0 default).number) cl ws wsA wsC ([] : List Bytes) none 0)] Tryd.underlying36 Ty.sz40 Ty.by40 Ty.ze40 rfl (by decide) rfl rfl rfl rfl Statement.enc_len Statement.enc_one (cells_blk 0 (off := 0) (m := 4) rfl rfl) lt_ lt_ fun A27 c28 => ?_)) (fun _ h => ⟨h.keep [false, false, false, false, false, false] rfl, fun _ => h.keep [false, true, true, true, true, true] rfl⟩)
   refine jp_ 8 rfl (x_nilCheck rfl) (jp_ 9 rfl (fA 2 Ty.fi77_2) (j1_ 10 (jio_ rfl (st1 4 Ty.sz36 ?_)) (gl_ rfl (fun _ h => h.keep [false, false, false, false, false, false] rfl))))
   refine JA_done (by kernel_rfl) (gl_ rfl (fun _ h => h.keep [false, false, false, false, false, false] rfl)) ?_
   refine n_ (q_ (g_ (s_ mv_ (js_ (vG [vI 0, vI 0]) (x_build (by kernel_rfl)) (s_ av_ (o_ (stG 2 Ty.sz79 ?_)))))))
   refine z_ (xk_ [6, 7] ?_)
   refine n_ (rt_ ?_)
   refine JX_retsD [_, _] (Value.tuple #[_, _]) Tryd.results90 (fun w h => ⟨rfl, ⟨_, rfl, load_blkN 2 [vI 0, vI 0] h rfl Ty.ag79 Ty.sz79 rfl⟩, trivial⟩) rfl _ (fun _ h => h.keep [false, false, false, false, true, true] rfl) (fun _ _ h => h) (fun wx hw => ⟨0, 0, 0, o ++ [(Statement.mk ((rows.getD 0 default).number) cl ws wsA wsC ([] : List Bytes) none 0)], A27, c28, ([] : List Bytes), none, 0, ?_, ?_, RO.nil, (Nat.zero_le _), ?_, ?_, ?_⟩)
   ·rfl
   ·rfl
   ·exact c39d0_
   ·first | assumption | exact Nat.zero_le _
   ·exact c39d1_
end Go.Proofs.YtbfiibgmgopnaaaDoor

namespace Go.Proofs.YtbfiibgmgopnaaaDoor
open Go.GV
set_option linter.unusedVariables false
set_option linter.unusedSimpArgs false
set_option maxRecDepth 20000 in
theorem vals_ok (ws : List Bytes) (wsA : Option Addr) (wsC : Nat) (w : World) (wsR : RO [] w wsA (ws.map vS)) (hT : Tab [] w) (q0 : ws.length ≤ 1000000) (q1 : ∀ i, (ws.getD i []).length ≤ 20000) (q2 : (R39.valsV ws).isSome = true) : Calls Tryd.prog 98 #[vL wsA ws.length wsC] w (GivesW [] w fun v L wx => ∃ V : List (Bytes × Bytes), ∃ VB : Nat, v = Value.tuple #[Value.map (some VB), vB true] ∧ L = [] ∧ Kp (Lown L ++ List.range w.heap.size) wx (Ent.at (Ent.mp vS VB (V.map kvS))) ∧ (R39.valsV ws = some V)) := by
 refine calls_JW [] 46 Tryd.func98 rfl Tryd.ntmps98 [(0, _)] rfl rfl (Give.nil w) ?_
 refine q_ (g_ (s_ av_ (s_ av_ (z_ (n_ (q_ (g_ (o_ (O_makeMap vS fun b1 => ?_)))))))))
 refine s_ av_ (z_ (n_ (q_ (q_ (g_ (s_ mv_ (s_ (lnS Tryd.underlying24) (s_ mv_ (z_ (n_ (k_ ?_)))))))))))
 refine J_loop (X := Nat × (List (Bytes × Bytes))) (fun (⟨k, M⟩ : Nat × (List (Bytes × Bytes))) => (k ≤ ws.length) ∧ (R39.valsG M (ws.drop k) = R39.valsV ws)) (fun (⟨k, M⟩ : Nat × (List (Bytes × Bytes))) => [(4, Value.map (some b1)), (13, vL wsA ws.length wsC), (14, vI ((ws.length : Nat) : Int)), (15, vI ((k : Nat) : Int))]) (fun (⟨k, M⟩ : Nat × (List (Bytes × Bytes))) => [Ent.mp vS b1 (M.map kvS)]) (fun (⟨k, M⟩ : Nat × (List (Bytes × Bytes))) => ws.length - k) ((0, ([] : List (Bytes × Bytes))) : Nat × (List (Bytes × Bytes))) ?_ ⟨rfl, rfl, rfl, rfl, trivial⟩ (fun _ h => h) ?_
 ·try dsimp only
  refine ⟨?_, ?_⟩
  ·first | rfl | omega | (simp_all; done) | (simp_all; omega)
  ·rfl
 rintro ⟨k, M⟩ hI1
 obtain ⟨i1_0, i1_1⟩ := hI1
 try dsimp only at i1_0
 try dsimp only at i1_1
 have hwk := q1 k
 try dsimp only
 refine q_ (g_ (s_ (x_lss_i rfl rfl) (z_ (n_ (q_ ?_)))))
 refine ifd (fun h2w h2 => ?_) (fun h2w h2 => ?_)
 ·refine sk_ (n_ (q_ (k_ (q_ (g_ (r_ (ixM (cells_ro wsR) Tryd.underlying24 Ty.sz9) (r_ (ldM vS [] (cells_ro wsR) Ty.sc9) (s_ av_ (z_ (n_ (q_ (g_ (s_ mv_ ?_)))))))))))))
  refine c1 (cl_ Ty.ca29) (fun w hS => cut_ok 61 _ w (hT.on hS (fun _ h => by cases h)) hy_) ?_
  rintro _ _ ⟨a3, r4, o5, rfl, rfl, hf6, hf7, hf8⟩
  try simp only [List.length_cons, List.length_nil, Nat.zero_add, Nat.reduceAdd] at hf8
  refine s_ mv_ (s_ (ex_ 0) (s_ (ex_ 1) (s_ (ex_ 2) (s_ av_ (s_ av_ (s_ av_ (z_ (n_ (q_ (q_ (g_ (s_ mv_ (s_ mv_ ?_)))))))))))))
  refine JO_read (Value.tuple #[vS ((lookK M a3).getD []), vB ((lookK M a3).isSome)]) rfl trivial (x_lookup_okv 0 (f := vS) (k := a3) rfl rfl rfl Tryd.underlying22 (mapK_s Tryd.underlying9) Ty.ze9 (lk_kv M a3) (getD_kv _) (isSome_mp _ _)) ?_
  refine s_ mv_ (s_ (ex_ 0) (s_ (ex_ 1) (s_ av_ (s_ av_ (z_ (xk_ [4, 13, 14, 15, 7, 8, 9, 11] ?_))))))
  refine n_ (q_ (g_ (s_ mv_ (s_ (x_not rfl) (s_ mv_ ?_)))))
  refine or_ 1 ((lookK M a3).isSome) (fun g9 => ?_) ?_
  ·have g9r := g9
   have g9r : (o5) = true := bnot_false g9r
   refine sg_ g9 mv_ ?_
   exact cr_
  refine s_ mv_ ?_
  refine or_ 3 (!(R39.symV a3)) (fun g10 => ?_) ?_
  ·have g10r := g10
   have ⟨g10r, h11⟩ := bor_false g10r
   have g10r : (o5) = true := bnot_false g10r
   refine sg_ g10 mv_ (c0g g10 (cl_ Ty.ca30) (fun w hS => f30_ok a3 w (hT.on hS (fun _ h => by cases h)) hy_) (sg_ g10 (x_not rfl) ?_))
   exact cr_
  refine z_ (n_ ?_)
  refine if_ (fun h12 => ?_) (fun h12 => ?_)
  ·have h12w := h12
   simp only [Bool.and_eq_true, Bool.or_eq_true, Bool.and_eq_false_iff, Bool.or_eq_false_iff, Bool.not_eq_true', Bool.not_eq_false', decide_eq_true_eq, decide_eq_false_iff_not] at h12
   exact (R39.vals_yes (R39.vals_bad i1_1 (by omega) hf6 hf7 (by assumption)) q2).elim
  ·have h12w := h12
   have ⟨h12, h13⟩ := bor_false h12
   have ⟨h12, h14⟩ := bor_false h12
   have h12 : (o5) = true := bnot_false h12
   have h13 : (R39.symV a3) = true := bnot_false h13
   refine sk_ (n_ (g_ (s_ mv_ (s_ mv_ (s_ mv_ (o_ (O_mapUpdate 0 (f := vS) (k := a3) ((putK M a3 r4).map kvS) [Ent.mp vS b1 ((putK M a3 r4).map kvS)] rfl rfl rfl rfl Tryd.underlying22 (mapK_s Tryd.underlying9) (upd_kv M a3 r4) rfl ?_)))))))
   refine z_ (kx_ (n_ (g_ (s_ (x_add_n (a := k) (b := 1) rfl rfl (by omega)) (s_ mv_ (z_ ?_))))))
   refine JX_round ((k + 1, (putK M a3 r4)) : Nat × (List (Bytes × Bytes))) ?_ ?_ ⟨rfl, rfl, rfl, rfl, trivial⟩ (fun _ h => h)
   ·try dsimp only
    refine ⟨?_, ?_⟩
    ·first | rfl | omega | (simp_all; done) | (simp_all; omega)
    ·exact R39.vals_step i1_1 (by omega) hf6 (by assumption)
   ·try dsimp only
    first | omega | (simp; omega) | (simp_all; omega)
 ·refine J_exit (ne_ (re_ (kh_ (n_ (q_ ?_)))))
  refine g_ (s_ mv_ (s_ av_ (s_ av_ (z_ (n_ (rt_ ?_))))))
  refine JX_retsD [_, _] (Value.tuple #[_, _]) Tryd.results98 (fun w h => ⟨rfl, rfl, trivial⟩) rfl _ (fun _ h => h.keep [false] rfl) (fun _ _ h => h) (fun wx hw => ⟨M, b1, ?_, ?_, (Kp.of_entsF (Lc := []) (Lr := [Ent.mp vS b1 (M.map kvS)]) hw hw (fun _ h => h _ List.mem_cons_self)), ?_⟩)
  ·rfl
  ·rfl
  ·exact (R39.vals_done i1_1 (by omega))
set_option maxRecDepth 20000 in
theorem vals_no (ws : List Bytes) (wsA : Option Addr) (wsC : Nat) (w : World) (wsR : RO [] w wsA (ws.map vS)) (hT : Tab [] w) (q0 : ws.length ≤ 1000000) (q1 : ∀ i, (ws.getD i []).length ≤ 20000) (q2 : (R39.valsV ws).isSome = false) : Calls Tryd.prog 98 #[vL wsA ws.length wsC] w (Gives [] w fun v L => v = Value.tuple #[Value.map none, vB false] ∧ L = []) := by
 refine calls_J [] 46 Tryd.func98 rfl Tryd.ntmps98 [(0, _)] rfl rfl (Give.nil w) ?_
 refine q_ (g_ (s_ av_ (s_ av_ (z_ (n_ (q_ (g_ (o_ (O_makeMap vS fun b1 => ?_)))))))))
 refine s_ av_ (z_ (n_ (q_ (q_ (g_ (s_ mv_ (s_ (lnS Tryd.underlying24) (s_ mv_ (z_ (n_ (k_ ?_)))))))))))
 refine J_loop (X := Nat × (List (Bytes × Bytes))) (fun (⟨k, M⟩ : Nat × (List (Bytes × Bytes))) => (k ≤ ws.length) ∧ (R39.valsG M (ws.drop k) = R39.valsV ws)) (fun (⟨k, M⟩ : Nat × (List (Bytes × Bytes))) => [(4, Value.map (some b1)), (13, vL wsA ws.length wsC), (14, vI ((ws.length : Nat) : Int)), (15, vI ((k : Nat) : Int))]) (fun (⟨k, M⟩ : Nat × (List (Bytes × Bytes))) => [Ent.mp vS b1 (M.map kvS)]) (fun (⟨k, M⟩ : Nat × (List (Bytes × Bytes))) => ws.length - k) ((0, ([] : List (Bytes × Bytes))) : Nat × (List (Bytes × Bytes))) ?_ ⟨rfl, rfl, rfl, rfl, trivial⟩ (fun _ h => h) ?_
 ·try dsimp only
  refine ⟨?_, ?_⟩
  ·first | rfl | omega | (simp_all; done) | (simp_all; omega)
  ·rfl
 rintro ⟨k, M⟩ hI1
 obtain ⟨i1_0, i1_1⟩ := hI1
 try dsimp only at i1_0
 try dsimp only at i1_1
 have hwk := q1 k
 try dsimp only
 refine q_ (g_ (s_ (x_lss_i rfl rfl) (z_ (n_ (q_ ?_)))))
 refine ifd (fun h2w h2 => ?_) (fun h2w h2 => ?_)
 ·refine sk_ (n_ (q_ (k_ (q_ (g_ (r_ (ixM (cells_ro wsR) Tryd.underlying24 Ty.sz9) (r_ (ldM vS [] (cells_ro wsR) Ty.sc9) (s_ av_ (z_ (n_ (q_ (g_ (s_ mv_ ?_)))))))))))))
  refine c1 (cl_ Ty.ca29) (fun w hS => cut_ok 61 _ w (hT.on hS (fun _ h => by cases h)) hy_) ?_
  rintro _ _ ⟨a3, r4, o5, rfl, rfl, hf6, hf7, hf8⟩
  try simp only [List.length_cons, List.length_nil, Nat.zero_add, Nat.reduceAdd] at hf8
  refine s_ mv_ (s_ (ex_ 0) (s_ (ex_ 1) (s_ (ex_ 2) (s_ av_ (s_ av_ (s_ av_ (z_ (n_ (q_ (q_ (g_ (s_ mv_ (s_ mv_ ?_)))))))))))))
  refine JO_read (Value.tuple #[vS ((lookK M a3).getD []), vB ((lookK M a3).isSome)]) rfl trivial (x_lookup_okv 0 (f := vS) (k := a3) rfl rfl rfl Tryd.underlying22 (mapK_s Tryd.underlying9) Ty.ze9 (lk_kv M a3) (getD_kv _) (isSome_mp _ _)) ?_
  refine s_ mv_ (s_ (ex_ 0) (s_ (ex_ 1) (s_ av_ (s_ av_ (z_ (xk_ [4, 13, 14, 15, 7, 8, 9, 11] ?_))))))
  refine n_ (q_ (g_ (s_ mv_ (s_ (x_not rfl) (s_ mv_ ?_)))))
  refine or_ 1 ((lookK M a3).isSome) (fun g9 => ?_) ?_
  ·have g9r := g9
   have g9r : (o5) = true := bnot_false g9r
   refine sg_ g9 mv_ ?_
   exact cr_
  refine s_ mv_ ?_
  refine or_ 3 (!(R39.symV a3)) (fun g10 => ?_) ?_
  ·have g10r := g10
   have ⟨g10r, h11⟩ := bor_false g10r
   have g10r : (o5) = true := bnot_false g10r
   refine sg_ g10 mv_ (c0g g10 (cl_ Ty.ca30) (fun w hS => f30_ok a3 w (hT.on hS (fun _ h => by cases h)) hy_) (sg_ g10 (x_not rfl) ?_))
   exact cr_
  refine z_ (n_ ?_)
  refine if_ (fun h12 => ?_) (fun h12 => ?_)
  ·have h12w := h12
   simp only [Bool.and_eq_true, Bool.or_eq_true, Bool.and_eq_false_iff, Bool.or_eq_false_iff, Bool.not_eq_true', Bool.not_eq_false', decide_eq_true_eq, decide_eq_false_iff_not] at h12
   refine q_ (g_ (s_ av_ (s_ av_ (z_ (n_ (rt_ (nr_ (kq_ (nr_ (rr_ (kq_ (nr_ ?_))))))))))))
   exact p2 Tryd.results98 rfl rfl ⟨rfl, rfl⟩
  ·have h12w := h12
   have ⟨h12, h13⟩ := bor_false h12
   have ⟨h12, h14⟩ := bor_false h12
   have h12 : (o5) = true := bnot_false h12
   have h13 : (R39.symV a3) = true := bnot_false h13
   refine sk_ (n_ (g_ (s_ mv_ (s_ mv_ (s_ mv_ (o_ (O_mapUpdate 0 (f := vS) (k := a3) ((putK M a3 r4).map kvS) [Ent.mp vS b1 ((putK M a3 r4).map kvS)] rfl rfl rfl rfl Tryd.underlying22 (mapK_s Tryd.underlying9) (upd_kv M a3 r4) rfl ?_)))))))
   refine z_ (kx_ (n_ (g_ (s_ (x_add_n (a := k) (b := 1) rfl rfl (by omega)) (s_ mv_ (z_ ?_))))))
   refine JX_round ((k + 1, (putK M a3 r4)) : Nat × (List (Bytes × Bytes))) ?_ ?_ ⟨rfl, rfl, rfl, rfl, trivial⟩ (fun _ h => h)
   ·try dsimp only
    refine ⟨?_, ?_⟩
    ·first | rfl | omega | (simp_all; done) | (simp_all; omega)
    ·exact R39.vals_step i1_1 (by omega) hf6 (by assumption)
   ·try dsimp only
    first | omega | (simp; omega) | (simp_all; omega)
 ·exact (R39.vals_no (R39.vals_done i1_1 (by omega)) q2).elim
set_option maxRecDepth 20000 in
theorem set_in (rv : Value) (rows : List Row) (rowsA : Option Addr) (rowsC : Nat) (cl : Bytes) (ws : List Bytes) (wsA : Option Addr) (wsC : Nat) (w : World) (rowsR : RO [] w rowsA (rows.flatMap Row.enc)) (wsR : RO [] w wsA (ws.map vS)) (q0 : 0 < rows.length) : Calls Tryd.prog 86 #[rv, vG [vL rowsA rows.length rowsC, vS cl, vB true], vL wsA ws.length wsC] w (Gives [] w fun v L => v = Value.tuple #[vI 0, vG [vI ((rows.getD 0 default).number), vI 9]] ∧ L = []) := by
 refine calls_J [] 37 Tryd.func86 rfl Tryd.ntmps86 [(0, _), (1, _), (2, _)] rfl rfl (Give.nil w) ?_
 refine q_ (g_ (o_ (bxG fun b1 => ?_)))
 refine s_ av_ (o_ (al_ Ty.ze79 fun b2 => ?_))
 refine z_ (n_ (q_ (k_ (q_ (g_ (s_ (fA 2 Ty.fi82_2) (r_ (ld_ 1 Ty.sc4) (s_ av_ (z_ (n_ (ift (q_ (g_ (r_ (ldN 1 [vL rowsA rows.length rowsC, vS cl, vB true] Ty.ag82 Ty.sz82) (c0 (cl_ Ty.ca91) (fun w hS => f91_ok rows _ _ cl true 9 w (rno rowsR hS) hy_) (s_ av_ (o_ (stG 0 Ty.sz79 ?_))))))))))))))))))
 refine z_ (n_ (rt_ (kq_ (nr_ ?_))))
 refine JX_rets [_, _] (Value.tuple #[_, _]) Tryd.results86 (fun w h => ⟨rfl, ⟨_, rfl, load_blkN 0 [vI ((rows.getD 0 default).number), vI 9] h rfl Ty.ag79 Ty.sz79 rfl⟩, trivial⟩) rfl _ (fun _ h => h.keep [false, false] rfl) ⟨?_, ?_⟩
 ·rfl
 ·rfl
set_option maxRecDepth 20000 in
theorem proc_in (rv : Value) (rows : List Row) (rowsA : Option Addr) (rowsC : Nat) (cl : Bytes) (ws : List Bytes) (wsA : Option Addr) (wsC : Nat) (w : World) (rowsR : RO [] w rowsA (rows.flatMap Row.enc)) (wsR : RO [] w wsA (ws.map vS)) (q0 : 0 < rows.length) : Calls Tryd.prog 87 #[rv, vG [vL rowsA rows.length rowsC, vS cl, vB true], vL wsA ws.length wsC] w (Gives [] w fun v L => v = Value.tuple #[vI 0, vG [vI ((rows.getD 0 default).number), vI 9]] ∧ L = []) := by
 refine calls_J [] 104 Tryd.func87 rfl Tryd.ntmps87 [(0, _), (1, _), (2, _)] rfl rfl (Give.nil w) ?_
 refine q_ (g_ (o_ (bxG fun b1 => ?_)))
 refine s_ av_ (o_ (al_ Ty.ze79 fun b2 => ?_))
 refine z_ (n_ (q_ (q_ (g_ (s_ (fA 2 Ty.fi82_2) (r_ (ld_ 1 Ty.sc4) (z_ (n_ (ift (q_ (g_ (r_ (ldN 1 [vL rowsA rows.length rowsC, vS cl, vB true] Ty.ag82 Ty.sz82) (c0 (cl_ Ty.ca91) (fun w hS => f91_ok rows _ _ cl true 9 w (rno rowsR hS) hy_) (s_ av_ (o_ (stG 0 Ty.sz79 ?_))))))))))))))))
 refine z_ (n_ (rt_ (nr_ ?_)))
 refine JX_rets [_, _] (Value.tuple #[_, _]) Tryd.results87 (fun w h => ⟨rfl, ⟨_, rfl, load_blkN 0 [vI ((rows.getD 0 default).number), vI 9] h rfl Ty.ag79 Ty.sz79 rfl⟩, trivial⟩) rfl _ (fun _ h => h.keep [false, false] rfl) ⟨?_, ?_⟩
 ·rfl
 ·rfl
set_option maxRecDepth 20000 in
theorem call_in (rv : Value) (rows : List Row) (rowsA : Option Addr) (rowsC : Nat) (cl : Bytes) (ws : List Bytes) (wsA : Option Addr) (wsC : Nat) (w : World) (rowsR : RO [] w rowsA (rows.flatMap Row.enc)) (wsR : RO [] w wsA (ws.map vS)) (q0 : 0 < rows.length) : Calls Tryd.prog 89 #[rv, vG [vL rowsA rows.length rowsC, vS cl, vB true], vL wsA ws.length wsC] w (Gives [] w fun v L => v = Value.tuple #[vI 0, vG [vI ((rows.getD 0 default).number), vI 9]] ∧ L = []) := by
 refine calls_J [] 114 Tryd.func89 rfl Tryd.ntmps89 [(0, _), (1, _), (2, _)] rfl rfl (Give.nil w) ?_
 refine q_ (g_ (o_ (bxG fun b1 => ?_)))
 refine s_ av_ (o_ (al_ Ty.ze79 fun b2 => ?_))
 refine z_ (n_ (q_ (q_ (g_ (s_ (fA 2 Ty.fi82_2) (r_ (ld_ 1 Ty.sc4) (z_ (n_ (ift (q_ (g_ (r_ (ldN 1 [vL rowsA rows.length rowsC, vS cl, vB true] Ty.ag82 Ty.sz82) (c0 (cl_ Ty.ca91) (fun w hS => f91_ok rows _ _ cl true 9 w (rno rowsR hS) hy_) (s_ av_ (o_ (stG 0 Ty.sz79 ?_))))))))))))))))
 refine z_ (n_ (rt_ (nr_ ?_)))
 refine JX_rets [_, _] (Value.tuple #[_, _]) Tryd.results89 (fun w h => ⟨rfl, ⟨_, rfl, load_blkN 0 [vI ((rows.getD 0 default).number), vI 9] h rfl Ty.ag79 Ty.sz79 rfl⟩, trivial⟩) rfl _ (fun _ h => h.keep [false, false] rfl) ⟨?_, ?_⟩
 ·rfl
 ·rfl
set_option maxRecDepth 20000 in
theorem f88_ok (rv : Value) (rows : List Row) (rowsA : Option Addr) (rowsC : Nat) (cl : Bytes) (inn : Bool) (ws : List Bytes) (wsA : Option Addr) (wsC : Nat) (w : World) (rowsR : RO [] w rowsA (rows.flatMap Row.enc)) (wsR : RO [] w wsA (ws.map vS)) (q0 : 0 < rows.length) : Calls Tryd.prog 88 #[rv, vG [vL rowsA rows.length rowsC, vS cl, vB inn], vL wsA ws.length wsC] w (Gives [] w fun v L => v = Value.tuple #[vI 0, vG [vI ((rows.getD 0 default).number), vI 9]] ∧ L = []) := by
 refine calls_J [] 10 Tryd.func88 rfl Tryd.ntmps88 [(0, _), (1, _), (2, _)] rfl rfl (Give.nil w) ?_
 refine q_ (g_ (o_ (bxG fun b1 => ?_)))
 refine s_ av_ (o_ (al_ Ty.ze79 fun b2 => ?_))
 refine z_ (n_ (q_ (g_ (r_ (ldN 1 [vL rowsA rows.length rowsC, vS cl, vB inn] Ty.ag82 Ty.sz82) (c0 (cl_ Ty.ca91) (fun w hS => f91_ok rows _ _ cl inn 9 w (rno rowsR hS) hy_) (s_ av_ (o_ (stG 0 Ty.sz79 ?_))))))))
 refine z_ (n_ (rt_ ?_))
 refine JX_rets [_, _] (Value.tuple #[_, _]) Tryd.results88 (fun w h => ⟨rfl, ⟨_, rfl, load_blkN 0 [vI ((rows.getD 0 default).number), vI 9] h rfl Ty.ag79 Ty.sz79 rfl⟩, trivial⟩) rfl _ (fun _ h => h.keep [false, false] rfl) ⟨?_, ?_⟩
 ·rfl
 ·rfl
set_option maxRecDepth 20000 in
theorem f62_ok (w : World) : Calls Tryd.prog 62 #[] w (Gives [] w fun v L => ∃ kb : Nat, v = Value.map (some kb) ∧ L = [Ent.mp vS kb [([115, 101, 116], Value.func (.func 86) #[] #[]), ([112, 114, 111, 99], Value.func (.func 87) #[] #[]), ([101, 110, 100], Value.func (.func 88) #[] #[]), ([99, 97, 108, 108], Value.func (.func 89) #[] #[]), ([106, 111, 98], Value.func (.func 90) #[] #[]), ([115, 116, 101, 112], Value.func (.func 90) #[] #[]), ([100, 100], Value.func (.func 90) #[] #[])]]) := by
 refine calls_J [] 3 Tryd.func62 rfl Tryd.ntmps62 [] rfl rfl (Give.nil w) ?_
 refine q_ (g_ (s_ av_ (z_ (n_ (q_ (g_ (o_ (O_makeMap vS fun b1 => ?_))))))))
 refine o_ (O_insert 0 (f := vS) (k := [115, 101, 116]) [([115, 101, 116], Value.func (.func 86) #[] #[])] [Ent.mp vS b1 [([115, 101, 116], Value.func (.func 86) #[] #[])]] rfl rfl rfl rfl Tryd.underlying100 (mapK_s Tryd.underlying9) rfl rfl ?_)
 refine o_ (O_insert 0 (f := vS) (k := [112, 114, 111, 99]) [([115, 101, 116], Value.func (.func 86) #[] #[]), ([112, 114, 111, 99], Value.func (.func 87) #[] #[])] [Ent.mp vS b1 [([115, 101, 116], Value.func (.func 86) #[] #[]), ([112, 114, 111, 99], Value.func (.func 87) #[] #[])]] rfl rfl rfl rfl Tryd.underlying100 (mapK_s Tryd.underlying9) rfl rfl ?_)
 refine o_ (O_insert 0 (f := vS) (k := [101, 110, 100]) [([115, 101, 116], Value.func (.func 86) #[] #[]), ([112, 114, 111, 99], Value.func (.func 87) #[] #[]), ([101, 110, 100], Value.func (.func 88) #[] #[])] [Ent.mp vS b1 [([115, 101, 116], Value.func (.func 86) #[] #[]), ([112, 114, 111, 99], Value.func (.func 87) #[] #[]), ([101, 110, 100], Value.func (.func 88) #[] #[])]] rfl rfl rfl rfl Tryd.underlying100 (mapK_s Tryd.underlying9) rfl rfl ?_)
 refine o_ (O_insert 0 (f := vS) (k := [99, 97, 108, 108]) [([115, 101, 116], Value.func (.func 86) #[] #[]), ([112, 114, 111, 99], Value.func (.func 87) #[] #[]), ([101, 110, 100], Value.func (.func 88) #[] #[]), ([99, 97, 108, 108], Value.func (.func 89) #[] #[])] [Ent.mp vS b1 [([115, 101, 116], Value.func (.func 86) #[] #[]), ([112, 114, 111, 99], Value.func (.func 87) #[] #[]), ([101, 110, 100], Value.func (.func 88) #[] #[]), ([99, 97, 108, 108], Value.func (.func 89) #[] #[])]] rfl rfl rfl rfl Tryd.underlying100 (mapK_s Tryd.underlying9) rfl rfl ?_)
 refine o_ (O_insert 0 (f := vS) (k := [106, 111, 98]) [([115, 101, 116], Value.func (.func 86) #[] #[]), ([112, 114, 111, 99], Value.func (.func 87) #[] #[]), ([101, 110, 100], Value.func (.func 88) #[] #[]), ([99, 97, 108, 108], Value.func (.func 89) #[] #[]), ([106, 111, 98], Value.func (.func 90) #[] #[])] [Ent.mp vS b1 [([115, 101, 116], Value.func (.func 86) #[] #[]), ([112, 114, 111, 99], Value.func (.func 87) #[] #[]), ([101, 110, 100], Value.func (.func 88) #[] #[]), ([99, 97, 108, 108], Value.func (.func 89) #[] #[]), ([106, 111, 98], Value.func (.func 90) #[] #[])]] rfl rfl rfl rfl Tryd.underlying100 (mapK_s Tryd.underlying9) rfl rfl ?_)
 refine o_ (O_insert 0 (f := vS) (k := [115, 116, 101, 112]) [([115, 101, 116], Value.func (.func 86) #[] #[]), ([112, 114, 111, 99], Value.func (.func 87) #[] #[]), ([101, 110, 100], Value.func (.func 88) #[] #[]), ([99, 97, 108, 108], Value.func (.func 89) #[] #[]), ([106, 111, 98], Value.func (.func 90) #[] #[]), ([115, 116, 101, 112], Value.func (.func 90) #[] #[])] [Ent.mp vS b1 [([115, 101, 116], Value.func (.func 86) #[] #[]), ([112, 114, 111, 99], Value.func (.func 87) #[] #[]), ([101, 110, 100], Value.func (.func 88) #[] #[]), ([99, 97, 108, 108], Value.func (.func 89) #[] #[]), ([106, 111, 98], Value.func (.func 90) #[] #[]), ([115, 116, 101, 112], Value.func (.func 90) #[] #[])]] rfl rfl rfl rfl Tryd.underlying100 (mapK_s Tryd.underlying9) rfl rfl ?_)
 refine o_ (O_insert 0 (f := vS) (k := [100, 100]) [([115, 101, 116], Value.func (.func 86) #[] #[]), ([112, 114, 111, 99], Value.func (.func 87) #[] #[]), ([101, 110, 100], Value.func (.func 88) #[] #[]), ([99, 97, 108, 108], Value.func (.func 89) #[] #[]), ([106, 111, 98], Value.func (.func 90) #[] #[]), ([115, 116, 101, 112], Value.func (.func 90) #[] #[]), ([100, 100], Value.func (.func 90) #[] #[])] [Ent.mp vS b1 [([115, 101, 116], Value.func (.func 86) #[] #[]), ([112, 114, 111, 99], Value.func (.func 87) #[] #[]), ([101, 110, 100], Value.func (.func 88) #[] #[]), ([99, 97, 108, 108], Value.func (.func 89) #[] #[]), ([106, 111, 98], Value.func (.func 90) #[] #[]), ([115, 116, 101, 112], Value.func (.func 90) #[] #[]), ([100, 100], Value.func (.func 90) #[] #[])]] rfl rfl rfl rfl Tryd.underlying100 (mapK_s Tryd.underlying9) rfl rfl ?_)
 refine s_ mv_ (s_ av_ (z_ (n_ (rt_ ?_))))
 refine JX_rets [_] _ Tryd.results62 (fun w h => ⟨rfl, trivial⟩) rfl _ (fun _ h => h) ⟨b1, ?_, ?_⟩
 ·rfl
 ·rfl
set_option maxRecDepth 20000 in
theorem f99_ok (m : List (Bytes × Bytes)) (mB : Nat) (w : World) (mR : Kp [] w (Ent.at (Ent.mp vS mB (m.map kvS)))) : Calls Tryd.prog 99 #[Value.map (some mB)] w (Gives [] w fun v L => ∃ b2 : Nat, v = Value.map (some b2) ∧ L = [Ent.mp vS b2 (m.map kvS)]) := by
 refine calls_J [] 9 Tryd.func99 rfl Tryd.ntmps99 [(0, _)] rfl rfl (Give.nil w) ?_
 refine q_ (g_ (s_ av_ (z_ (n_ (q_ (q_ (g_ (s_ mv_ (s_ (x_eql_map rfl rfl Tryd.underlying22) (z_ (n_ (iff_ (sk_ (n_ (q_ (g_ (s_ mv_ (js_ (Value.iface 22 (Value.map (some mB))) (x_iface rfl (by kernel_rfl)) (o_ (O_clone clones mR rfl fun b1 => ?_))))))))))))))))))))
 refine s_ (x_assert_map rfl Tryd.underlying22) (s_ av_ (z_ (n_ (rt_ ?_))))
 refine JX_rets [_] _ Tryd.results99 (fun w h => ⟨rfl, trivial⟩) rfl _ (fun _ h => h) ⟨b1, ?_, ?_⟩
 ·rfl
 ·rfl
set_option maxRecDepth 20000 in
theorem f100_ok (D : List (Bytes × Bytes)) (dB : Nat) (m : List (Bytes × Bytes)) (mB : Nat) (w : World) (mR : Kp [dB] w (Ent.at (Ent.mp vS mB (m.map kvS)))) (q0 : R39.KeysNd m) (hg : Give [dB] w [Ent.mp vS dB (D.map kvS)]) : Calls Tryd.prog 100 #[Value.map (some dB), Value.map (some mB)] w (Gives [dB] w fun v L => ∃ D2 : List (Bytes × Bytes), v = Value.tuple #[] ∧ L = [Ent.mp vS dB (D2.map kvS)] ∧ (lookK D2 = R39.over (lookK D) m)) := by
 refine calls_J [dB] 16 Tryd.func100 rfl Tryd.ntmps100 [(0, _), (1, _)] rfl rfl hg ?_
 refine q_ (g_ (s_ mv_ (o_ (O_rangeR mR rfl Tryd.underlying22 fun es1 ck2 it3 hborn4 hmx5 => ?_))))
 refine z_ (n_ (k_ ?_))
 refine J_loop (X := (List (Bytes × Bytes)) × (Option (Bytes × Value)) × (List (Bytes × Bytes))) (fun (⟨left, leftC, X⟩ : (List (Bytes × Bytes)) × (Option (Bytes × Value)) × (List (Bytes × Bytes))) => (R39.CopyJ D m left X)) (fun (⟨left, leftC, X⟩ : (List (Bytes × Bytes)) × (Option (Bytes × Value)) × (List (Bytes × Bytes))) => [(0, Value.map (some dB)), (7, pB it3 0)]) (fun (⟨left, leftC, X⟩ : (List (Bytes × Bytes)) × (Option (Bytes × Value)) × (List (Bytes × Bytes))) => [Ent.rng vS it3 mB es1 ck2 (left.map kvS) leftC, Ent.mp vS dB (X.map kvS)]) (fun (⟨left, leftC, X⟩ : (List (Bytes × Bytes)) × (Option (Bytes × Value)) × (List (Bytes × Bytes))) => left.length) ((m, (none : Option (Bytes × Value)), D) : (List (Bytes × Bytes)) × (Option (Bytes × Value)) × (List (Bytes × Bytes))) ?_ ⟨rfl, rfl, trivial⟩ (fun _ h => h) ?_
 ·try dsimp only
  exact R39.CopyJ.start
 rintro ⟨left, leftC, X⟩ hI1
 have i1_0 := hI1
 try dsimp only at i1_0
 try dsimp only
 refine q_ (g_ ?_)
 refine JO_op rfl trivial (O_nextR 0 (f := vS) kvS rfl rfl hmx5 hborn4 (fun left0 => ?_) (fun lefta leftn lefth => ?_))
 ·refine s_ (ex_ 0) (z_ (n_ (q_ (iff_ (J_exit (ne_ (re_ (kh_ ?_))))))))
  refine JX_end0 Tryd.results100 [Ent.mp vS dB (X.map kvS)] (fun _ h => h.keep [false, true] rfl) ⟨X, ?_, ?_, ?_⟩
  ·rfl
  ·rfl
  ·exact i1_0.done left0
 ·have leftl := (List.getElem?_eq_some_iff.1 lefth).1
  have lefte := List.length_eraseIdx_of_lt leftl
  have leftm := List.mem_of_getElem? lefth
  refine s_ (ex_ 0) (z_ (n_ (q_ (ift (sk_ (n_ (k_ (q_ (g_ (r_ (O_entryR 0 (f := vS) (p := kvS lefta) rfl rfl hmx5 hborn4) (s_ (ex_ 0) (s_ (ex_ 1) (s_ av_ (s_ av_ (z_ (n_ (g_ (s_ mv_ ?_))))))))))))))))))
  refine s_ mv_ (s_ mv_ (o_ (O_mapUpdate 1 (f := vS) (k := lefta.1) ((putK X lefta.1 lefta.2).map kvS) [Ent.rng vS it3 mB es1 ck2 ((left.eraseIdx leftn).map kvS) (some (kvS lefta)), Ent.mp vS dB ((putK X lefta.1 lefta.2).map kvS)] rfl rfl rfl rfl Tryd.underlying22 (mapK_s Tryd.underlying9) (upd_kv X lefta.1 lefta.2) rfl ?_)))
  refine z_ (kx_ ?_)
  refine JX_round (((left.eraseIdx leftn), (some (kvS lefta)), (putK X lefta.1 lefta.2)) : (List (Bytes × Bytes)) × (Option (Bytes × Value)) × (List (Bytes × Bytes))) ?_ ?_ ⟨rfl, rfl, trivial⟩ (fun _ h => h)
  ·try dsimp only
   exact i1_0.step q0 lefth
  ·try dsimp only
   omega
end Go.Proofs.YtbfiibgmgopnaaaDoor
