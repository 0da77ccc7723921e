/- contracts C27p -/
import Derived.Test.YtmbinhhlfbgiaaaGreatUpgradeUnique17
import Derived.Test.YtmbinhhlfbgiaaaGreatUpgradeUnique18
namespace Go.Proofs.YtmbinhhlfbgiaaaGreat
open Go.GV
set_option linter.unusedVariables false
set_option linter.unusedSimpArgs false
theorem c27p0_ {p : Prop} (h : p := by unfold R27.twoAt; simp only [*, Bool.and_self, Bool.true_and, decide_true, Bool.and_true]; done) : p := h
theorem c27p1_ {p : Prop} (h : p := by unfold R27.twoAt; simp only [*, Bool.false_and, Bool.and_false, Bool.true_and, decide_false, decide_true, Bool.and_true]; done) : p := h
theorem c27p3_ {p : Prop} (h : p := by first | omega | exact Nat.le_trans (Ord.ins_len _ _) (by omega)) : p := h
theorem c27p4_ {p : Prop} (h : p := by simp only [List.length_take, List.length_drop]; omega) : p := h
theorem c27p5_ {p : Prop} (h : p := by first | exact (R26.ins_hit i1_0 i1_1 (by assumption) (by assumption)).symm | exact (R26.ins_new i1_0 i1_1 (by assumption) (by assumption)).symm) : p := h
theorem c27p6_ {p : Prop} (h : p := by first | exact R27.du_yes i1_1 i1_2 (by assumption) | exact R27.du_no i1_1 i1_2 (by assumption)) : p := h
theorem c27p7_ {p : Prop} (h : p := by first | exact R27.don_hit (by omega) i1_1 (by assumption) | exact R27.don_on (by omega) i1_1 (by assumption) | exact R27.don_on (by omega) i1_1 (.inl (by assumption)) | exact R27.don_on (by omega) i1_1 (.inr (by assumption))) : p := h
set_option maxRecDepth 20000 in
theorem f36_ok (a : DataSet) (x : Pair) (w : World) (q0 : a.KeyLength ≤ 32) (q1 : 1 ≤ a.AltLength) (q2 : a.AltLength < a.KeyLength) : Calls Tryz.prog 36 #[vG (DataSet.enc a), vG [vS x.key, vS x.record]] w (Gives [] w fun v L => v = vB (decide (((x.key.length : Nat) : Int) = a.KeyLength - a.AltLength)) ∧ L = []) := by
 refine calls_J [] 14 Tryz.func36 rfl Tryz.ntmps36 [(0, _), (1, _)] rfl rfl (Give.nil w) ?_
 refine q_ (g_ (o_ (bxG fun b1 => ?_)))
 refine o_ (bxG fun b2 => ?_)
 refine s_ av_ (z_ (n_ (q_ (g_ (s_ (fA 0 Ty.fi54_0) (r_ (ld_ 0 Ty.sc9) (s_ (x_len_s rfl Tryz.underlying9) (s_ (fA 6 Ty.fi23_6) (r_ (ld_ 1 Ty.sc3) (s_ (fA 13 Ty.fi23_13) (r_ (ld_ 1 Ty.sc3) (s_ (x_sub_i (a := a.KeyLength) (b := a.AltLength) rfl rfl (by omega) (by omega)) ?_))))))))))))
 refine s_ (x_eql_i rfl rfl) (s_ av_ (z_ (n_ (rt_ ?_))))
 exact p1 Tryz.results36 rfl ⟨rfl, rfl⟩
set_option maxRecDepth 20000 in
theorem f37_ok (l : List Bytes) (lA : Option Addr) (lC : Nat) (lN : Nat) (s : Bytes) (w : World) (lQ : lN = l.length) (q0 : l.length ≤ 1000000) (hg : Give (Lown [Ent.row (.slice lA lN lC) 9 1 lN (l.map vS)]) w [Ent.row (.slice lA lN lC) 9 1 lN (l.map vS)]) : Calls Tryz.prog 37 #[vL lA lN lC, vS s] w (Gives (Lown [Ent.row (.slice lA lN lC) 9 1 lN (l.map vS)]) w fun v L => ∃ A2 : Option Addr, ∃ c2 : Nat, v = vL A2 ((Ord.ins l s).length) c2 ∧ L = [Ent.row (.slice A2 (Ord.ins l s).length c2) 9 1 (Ord.ins l s).length ((Ord.ins l s).map vS)]) := by
 subst lQ
 refine calls_J (Lown [Ent.row (.slice lA l.length lC) 9 1 l.length (l.map vS)]) 47 Tryz.func37 rfl Tryz.ntmps37 [(0, _), (1, _)] rfl rfl hg ?_
 refine q_ (g_ (s_ av_ (z_ (n_ (q_ (g_ (s_ av_ (z_ (n_ (q_ (k_ ?_)))))))))))
 refine J_loop (X := Nat) (fun (k : Nat) => (k ≤ l.length) ∧ (∀ i, i < k → Op.bytesLess (l.getD i []) s = true)) (fun (k : Nat) => [(0, vL lA l.length lC), (1, vS s), (4, vL none 0 0), (5, vI ((k : Nat) : Int))]) (fun (k : Nat) => [Ent.row (.slice lA l.length lC) 9 1 l.length (l.map vS)]) (fun (k : Nat) => l.length - k) (0 : Nat) ?_ ⟨rfl, rfl, rfl, rfl, trivial⟩ (fun _ h => h) ?_
 ·try dsimp only
  refine ⟨?_, ?_⟩
  ·first | rfl | omega | (simp_all; done) | (simp_all; omega)
  ·intro i hi; omega
 intro k hI1
 obtain ⟨i1_0, i1_1⟩ := hI1
 try dsimp only at i1_0
 try dsimp only at i1_1
 try dsimp only
 refine q_ (q_ (g_ (s_ mv_ (s_ mv_ (s_ (lnS Tryz.underlying40) (s_ (x_lss_i rfl rfl) (s_ mv_ ?_)))))))
 refine and_ 6 (Op.bytesLess (l.getD k []) s) (fun g1 => ?_) ?_
 ·have g1r := g1
  have g1r := of_decide_eq_true g1r
  refine sg_ g1 mv_ (sg_ g1 mv_ (rg_ g1 (ixM (cells_row 0 rfl) Tryz.underlying40 Ty.sz9) (rg_ g1 (ldM vS [] (cells_row 0 rfl) Ty.sc9) (sg_ g1 mv_ (sg_ g1 (x_lss_s rfl rfl) ?_)))))
  exact cr_
 refine z_ (n_ ?_)
 refine if_ (fun h2 => ?_) (fun h2 => ?_)
 ·have h2w := h2
  have ⟨h2, h3⟩ := band_true h2
  have h2 := of_decide_eq_true h2
  refine sk_ (n_ (k_ (g_ (s_ mv_ (s_ (x_add_n (a := k) (b := 1) rfl rfl (by omega)) (s_ av_ (z_ (kx_ ?_))))))))
  refine JX_round (k + 1 : Nat) ?_ ?_ ⟨rfl, rfl, rfl, rfl, trivial⟩ (fun _ h => h)
  ·try dsimp only
   refine ⟨?_, ?_⟩
   ·first | rfl | omega | (simp_all; done) | (simp_all; omega)
   ·intro i hi
    by_cases hik : i = k
    ·subst hik; exact (R26.ins_go (by assumption)).2
    ·exact i1_1 i (by omega)
  ·try dsimp only
   first | omega | (simp; omega) | (simp_all; omega)
 ·have h2w := h2
  simp only [Bool.and_eq_true, Bool.or_eq_true, Bool.and_eq_false_iff, Bool.or_eq_false_iff, Bool.not_eq_true', Bool.not_eq_false', decide_eq_true_eq, decide_eq_false_iff_not] at h2
  refine J_exit (ne_ (re_ (kh_ (n_ (q_ ?_)))))
  refine q_ (g_ (s_ mv_ (s_ mv_ (s_ (lnS Tryz.underlying40) (s_ (x_lss_i rfl rfl) (s_ mv_ ?_))))))
  refine and_ 6 (decide ((l.getD k []) = s)) (fun g4 => ?_) ?_
  ·have g4r := g4
   have g4r := of_decide_eq_true g4r
   refine sg_ g4 mv_ (sg_ g4 mv_ (rg_ g4 (ixM (cells_row 0 rfl) Tryz.underlying40 Ty.sz9) (rg_ g4 (ldM vS [] (cells_row 0 rfl) Ty.sc9) (sg_ g4 mv_ (sg_ g4 (x_eql_s rfl rfl) ?_)))))
   exact cr_
  refine z_ (n_ ?_)
  refine if_ (fun h5 => ?_) (fun h5 => ?_)
  ·have h5w := h5
   have ⟨h5, h6⟩ := band_true h5
   have h5 := of_decide_eq_true h5
   have h6 := of_decide_eq_true h6
   refine q_ (g_ (s_ mv_ (s_ av_ (z_ (n_ (rt_ (nr_ ?_)))))))
   refine JX_rets [_] _ Tryz.results37 (fun w h => ⟨rfl, trivial⟩) rfl _ (fun _ h => h) ⟨lA, lC, ?_, ?_⟩
   ·have e_x0 : (l.length : Nat) = ((Ord.ins l s).length) := by first | exact congrArg List.length (R26.ins_hit i1_0 i1_1 (by assumption) (by assumption)).symm | exact congrArg List.length (R26.ins_new i1_0 i1_1 (by assumption) (by assumption)).symm
    exact congrArg (fun (x0 : Nat) => vL lA x0 lC) e_x0
   ·have e_y0 : (l : List Bytes) = (Ord.ins l s) := by
     exact c27p5_
    have e_all := (congrArg (fun (y0 : List Bytes) => [Ent.row (.slice lA y0.length lC) 9 1 y0.length (y0.map vS)]) e_y0)
    exact e_all
  ·have h5w := h5
   simp only [Bool.and_eq_true, Bool.or_eq_true, Bool.and_eq_false_iff, Bool.or_eq_false_iff, Bool.not_eq_true', Bool.not_eq_false', decide_eq_true_eq, decide_eq_false_iff_not] at h5
   refine sk_ (n_ (q_ (g_ (o_ (O_buildSlice0 Tryz.underlying40 Ty.sz9 fun b7 => ?_)))))
   refine s_ mv_ (s_ mv_ (r_ (x_subrow_row 1 (lo := 0) (hi := k) rfl rfl Tryz.underlying40 Ty.sz9 (.inr ⟨rfl, rfl⟩) (.inl rfl) lt_ lt_) ?_))
   refine JO_weaken (E' := [(0, vL lA l.length lC), (1, vS s), (4, vL none 0 0), (5, vI ((k : Nat) : Int)), (7, vI ((k : Nat) : Int)), (8, vL lA l.length lC), (9, vI ((l.length : Nat) : Int)), (10, vB (decide (((k : Nat) : Int) < ((l.length : Nat) : Int)))), (11, vB (decide (((k : Nat) : Int) < ((l.length : Nat) : Int)))), (18, vB ((decide (((k : Nat) : Int) < ((l.length : Nat) : Int))) && (Op.bytesLess (l.getD k []) s))), (21, vI ((k : Nat) : Int)), (22, vL lA l.length lC), (23, vI ((l.length : Nat) : Int)), (24, vB (decide (((k : Nat) : Int) < ((l.length : Nat) : Int)))), (25, vB (decide (((k : Nat) : Int) < ((l.length : Nat) : Int)))), (32, vB ((decide (((k : Nat) : Int) < ((l.length : Nat) : Int))) && (decide ((l.getD k []) = s)))), (34, vL (some ⟨b7, 0, none⟩) ((([] : List Bytes)).length) 0), (35, vL lA l.length lC), (36, vI ((k : Nat) : Int)), (37, vL (subA lA lC 0 1) k lC)]) (L' := [Ent.row (.slice (some ⟨b7, 0, none⟩) ([] : List Bytes).length 0) 9 1 ([] : List Bytes).length (([] : List Bytes).map vS), Ent.row (.slice lA l.length lC) 9 1 l.length (l.map vS)]) ⟨rfl, rfl, rfl, rfl, rfl, rfl, rfl, rfl, rfl, rfl, rfl, rfl, rfl, rfl, rfl, rfl, rfl, rfl, rfl, rfl, trivial⟩ (fun _ h => (St.torow (cs := []) ((h.front 1 _ rfl).front 1 _ rfl) 1 0 rfl (by decide)).keep [true, true] rfl) ?_
   refine o_ (O_append_m 0 vS ([] : List Bytes) ((l.drop 0).take (k - 0)) Tryz.underlying40 Ty.sz9 Ty.by9 Ty.ze9 rfl rfl rfl rfl c27p4_ (fun _ => rfl) (cells_sub_row 1 vS 0 k rfl lt_ lt_) lt_ lt_ fun A8 c9 => ?_)
   refine s_ av_ (z_ (xk_ [0, 1, 4, 5, 6] ?_))
   refine n_ (q_ ?_)
   refine drU [] [3, 7] 9 Ty.mixed ?_
   refine jp_ 0 rfl mv_ (jp_ 1 rfl mv_ (jp_ 4 rfl mv_ (jp_ 5 rfl mv_ ?_)))
   refine JA_finX (X := (Option Addr) × Nat) (fun ⟨A15, c16⟩ => [(4, vL A15 ((((([] : List Bytes) ++ ((l.drop 0).take (k - 0))) ++ [s]) ++ ((l.drop k).take (l.length - k))).length) c16)]) (fun ⟨A15, c16⟩ => [Ent.row (.slice A15 (((([] : List Bytes) ++ ((l.drop 0).take (k - 0))) ++ [s]) ++ ((l.drop k).take (l.length - k))).length c16) 9 1 (((([] : List Bytes) ++ ((l.drop 0).take (k - 0))) ++ [s]) ++ ((l.drop k).take (l.length - k))).length ((((([] : List Bytes) ++ ((l.drop 0).take (k - 0))) ++ [s]) ++ ((l.drop k).take (l.length - k))).map vS), Ent.row (.slice lA l.length lC) 9 1 l.length (l.map vS)]) ?_ (fun key10 => ?_)
   ·rintro ⟨A15, c16⟩
    show JX _ _ _ _ _ [(4, vL A15 ((((([] : List Bytes) ++ ((l.drop 0).take (k - 0))) ++ [s]) ++ ((l.drop k).take (l.length - k))).length) c16)] [Ent.row (.slice A15 (((([] : List Bytes) ++ ((l.drop 0).take (k - 0))) ++ [s]) ++ ((l.drop k).take (l.length - k))).length c16) 9 1 (((([] : List Bytes) ++ ((l.drop 0).take (k - 0))) ++ [s]) ++ ((l.drop k).take (l.length - k))).length ((((([] : List Bytes) ++ ((l.drop 0).take (k - 0))) ++ [s]) ++ ((l.drop k).take (l.length - k))).map vS), Ent.row (.slice lA l.length lC) 9 1 l.length (l.map vS)]
    refine n_ (rt_ ?_)
    refine JX_rets [_] _ Tryz.results37 (fun w h => ⟨rfl, trivial⟩) rfl _ (fun _ h => h.keep [true, false] rfl) ⟨A15, c16, ?_, ?_⟩
    ·have e_x0 : ((((([] : List Bytes) ++ ((l.drop 0).take (k - 0))) ++ [s]) ++ ((l.drop k).take (l.length - k))).length : Nat) = ((Ord.ins l s).length) := by first | exact congrArg List.length (R26.ins_hit i1_0 i1_1 (by assumption) (by assumption)).symm | exact congrArg List.length (R26.ins_new i1_0 i1_1 (by assumption) (by assumption)).symm
     exact congrArg (fun (x0 : Nat) => vL A15 x0 c16) e_x0
    ·have e_y0 : (((([] : List Bytes) ++ ((l.drop 0).take (k - 0))) ++ [s]) ++ ((l.drop k).take (l.length - k)) : List Bytes) = (Ord.ins l s) := by
      exact c27p5_
     have e_all := (congrArg (fun (y0 : List Bytes) => [Ent.row (.slice A15 y0.length c16) 9 1 y0.length (y0.map vS)]) e_y0)
     exact e_all
   ·refine JA_ready (rs := [2, 6]) (by kernel_rfl) (by decide) (fun _ h => ⟨h.keep [false, false] rfl, fun _ => h⟩) (List.forall_mem_cons.2 ⟨?_, (List.forall_mem_cons.2 ⟨?_, all_nil⟩)⟩)
    ·refine jio_ rfl (O_buildSlice (cs := [vS s]) Tryz.underlying40 Ty.sz9 Ty.ze9 (by decide) (by decide) (by kernel_rfl) fun b11 => ?_)
     refine JA_ready (rs := [3, 6]) (by kernel_rfl) (by decide) (fun _ h => ⟨h.keep [false, false, false] rfl, fun _ => h.keep [false, true, true] rfl⟩) (List.forall_mem_cons.2 ⟨?_, (List.forall_mem_cons.2 ⟨?_, all_nil⟩)⟩)
     ·refine jio_ rfl (O_append_m 1 vS (([] : List Bytes) ++ ((l.drop 0).take (k - 0))) [s] Tryz.underlying40 Ty.sz9 Ty.by9 Ty.ze9 rfl rfl rfl rfl rfl (fun _ => rfl) (cells_blk 0 (off := 0) (m := 1) rfl rfl) lt_ lt_ fun A12 c13 => ?_)
      refine j1_ 6 (jir_ rfl (x_subrow_row 2 (lo := k) (hi := l.length) rfl rfl Tryz.underlying40 Ty.sz9 (.inl rfl) (.inr ⟨rfl, rfl⟩) lt_ lt_) (j1_ 7 (jio_ rfl (O_append_m 1 vS ((([] : List Bytes) ++ ((l.drop 0).take (k - 0))) ++ [s]) ((l.drop k).take (l.length - k)) Tryz.underlying40 Ty.sz9 Ty.by9 Ty.ze9 rfl rfl rfl rfl c27p4_ (fun _ => rfl) (cells_sub_row 2 vS k l.length rfl lt_ lt_) lt_ lt_ fun A16 c17 => ?_)) (gl_ rfl (fun _ h => h.keep [false, false, false] rfl)))) (gl_ rfl (fun _ h => h.keep [false, false, false] rfl))
      refine jp_ 8 rfl av_ ?_
      exact JA_done (by kernel_rfl) (gl_ rfl (fun _ h => h.keep [false, false, false] rfl)) (JX_weaken (E' := [(4, vL A16 ((((([] : List Bytes) ++ ((l.drop 0).take (k - 0))) ++ [s]) ++ ((l.drop k).take (l.length - k))).length) c17)]) (L' := [Ent.row (.slice A16 (((([] : List Bytes) ++ ((l.drop 0).take (k - 0))) ++ [s]) ++ ((l.drop k).take (l.length - k))).length c17) 9 1 (((([] : List Bytes) ++ ((l.drop 0).take (k - 0))) ++ [s]) ++ ((l.drop k).take (l.length - k))).length ((((([] : List Bytes) ++ ((l.drop 0).take (k - 0))) ++ [s]) ++ ((l.drop k).take (l.length - k))).map vS), Ent.row (.slice lA l.length lC) 9 1 l.length (l.map vS)]) ⟨rfl, trivial⟩ (fun _ h => h.keep [false, true, true] rfl) (key10 (A16, c17)))
     ·refine jir_ rfl (x_subrow_row 2 (lo := k) (hi := l.length) rfl rfl Tryz.underlying40 Ty.sz9 (.inl rfl) (.inr ⟨rfl, rfl⟩) lt_ lt_) (j1_ 3 (jio_ rfl (O_append_m 1 vS (([] : List Bytes) ++ ((l.drop 0).take (k - 0))) [s] Tryz.underlying40 Ty.sz9 Ty.by9 Ty.ze9 rfl rfl rfl rfl rfl (fun _ => rfl) (cells_blk 0 (off := 0) (m := 1) rfl rfl) lt_ lt_ fun A20 c21 => ?_)) (fun _ h => ⟨h.keep [false, false, false] rfl, fun _ => h.keep [false, true, true] rfl⟩))
      refine j1_ 7 (jio_ rfl (O_append_m 1 vS ((([] : List Bytes) ++ ((l.drop 0).take (k - 0))) ++ [s]) ((l.drop k).take (l.length - k)) Tryz.underlying40 Ty.sz9 Ty.by9 Ty.ze9 rfl rfl rfl rfl c27p4_ (fun _ => rfl) (cells_sub_row 2 vS k l.length rfl lt_ lt_) lt_ lt_ fun A24 c25 => ?_)) (gl_ rfl (fun _ h => h.keep [false, false, false] rfl))
      refine jp_ 8 rfl av_ ?_
      exact JA_done (by kernel_rfl) (gl_ rfl (fun _ h => h.keep [false, false, false] rfl)) (JX_weaken (E' := [(4, vL A24 ((((([] : List Bytes) ++ ((l.drop 0).take (k - 0))) ++ [s]) ++ ((l.drop k).take (l.length - k))).length) c25)]) (L' := [Ent.row (.slice A24 (((([] : List Bytes) ++ ((l.drop 0).take (k - 0))) ++ [s]) ++ ((l.drop k).take (l.length - k))).length c25) 9 1 (((([] : List Bytes) ++ ((l.drop 0).take (k - 0))) ++ [s]) ++ ((l.drop k).take (l.length - k))).length ((((([] : List Bytes) ++ ((l.drop 0).take (k - 0))) ++ [s]) ++ ((l.drop k).take (l.length - k))).map vS), Ent.row (.slice lA l.length lC) 9 1 l.length (l.map vS)]) ⟨rfl, trivial⟩ (fun _ h => h.keep [false, true, true] rfl) (key10 (A24, c25)))
    ·refine jir_ rfl (x_subrow_row 1 (lo := k) (hi := l.length) rfl rfl Tryz.underlying40 Ty.sz9 (.inl rfl) (.inr ⟨rfl, rfl⟩) lt_ lt_) (j1_ 2 (jio_ rfl (O_buildSlice (cs := [vS s]) Tryz.underlying40 Ty.sz9 Ty.ze9 (by decide) (by decide) (by kernel_rfl) fun b27 => ?_)) (fun _ h => ⟨h.keep [false, false] rfl, fun _ => h⟩))
     refine j1_ 3 (jio_ rfl (O_append_m 1 vS (([] : List Bytes) ++ ((l.drop 0).take (k - 0))) [s] Tryz.underlying40 Ty.sz9 Ty.by9 Ty.ze9 rfl rfl rfl rfl rfl (fun _ => rfl) (cells_blk 0 (off := 0) (m := 1) rfl rfl) lt_ lt_ fun A30 c31 => ?_)) (fun _ h => ⟨h.keep [false, false, false] rfl, fun _ => h.keep [false, true, true] rfl⟩)
     refine j1_ 7 (jio_ rfl (O_append_m 1 vS ((([] : List Bytes) ++ ((l.drop 0).take (k - 0))) ++ [s]) ((l.drop k).take (l.length - k)) Tryz.underlying40 Ty.sz9 Ty.by9 Ty.ze9 rfl rfl rfl rfl c27p4_ (fun _ => rfl) (cells_sub_row 2 vS k l.length rfl lt_ lt_) lt_ lt_ fun A34 c35 => ?_)) (gl_ rfl (fun _ h => h.keep [false, false, false] rfl))
     refine jp_ 8 rfl av_ ?_
     exact JA_done (by kernel_rfl) (gl_ rfl (fun _ h => h.keep [false, false, false] rfl)) (JX_weaken (E' := [(4, vL A34 ((((([] : List Bytes) ++ ((l.drop 0).take (k - 0))) ++ [s]) ++ ((l.drop k).take (l.length - k))).length) c35)]) (L' := [Ent.row (.slice A34 (((([] : List Bytes) ++ ((l.drop 0).take (k - 0))) ++ [s]) ++ ((l.drop k).take (l.length - k))).length c35) 9 1 (((([] : List Bytes) ++ ((l.drop 0).take (k - 0))) ++ [s]) ++ ((l.drop k).take (l.length - k))).length ((((([] : List Bytes) ++ ((l.drop 0).take (k - 0))) ++ [s]) ++ ((l.drop k).take (l.length - k))).map vS), Ent.row (.slice lA l.length lC) 9 1 l.length (l.map vS)]) ⟨rfl, trivial⟩ (fun _ h => h.keep [false, true, true] rfl) (key10 (A34, c35)))
set_option maxRecDepth 20000 in
theorem f10_ok (alt : DataSet) (l : List Pair) (lA : Option Addr) (lC : Nat) (w : World) (lR : RO [] w lA (l.flatMap Pair.enc)) (q0 : l.length ≤ 1000) (q1 : ∀ i, i < l.length → (l.getD i default).key.length ≤ 1000 ∧ (l.getD i default).record.length ≤ 1000) : Calls Tryz.prog 10 #[vG (DataSet.enc alt), vL lA l.length lC] w (Gives [] w fun v L => ∃ A : Option Addr, ∃ cc : Nat, ∃ out : List Bytes, v = vL A out.length cc ∧ L = [Ent.row (.slice A out.length cc) 9 1 out.length (out.map vS)] ∧ (R27.DupF alt l (R26.recs alt l).length out)) := by
 refine calls_J [] 57 Tryz.func10 rfl Tryz.ntmps10 [(0, _), (1, _)] rfl rfl (Give.nil w) ?_
 refine q_ (g_ (o_ (bxG fun b1 => ?_)))
 refine s_ av_ (z_ (n_ (q_ (g_ (s_ av_ (z_ (n_ (q_ (g_ (s_ av_ (z_ (n_ (q_ (q_ (g_ (r_ (ldN 0 (DataSet.enc alt) Ty.ag23 Ty.sz23) (s_ mv_ ?_)))))))))))))))))
 refine c1 (cl_ Ty.ca32) (fun w hS => f32_ok alt l lA lC w (rno lR hS) hy_ hy_) ?_
 rintro _ _ ⟨A2, c3, rfl, rfl⟩
 have ha4 := R26.recs_len alt l
 refine s_ (lnS Tryz.underlying40) (s_ mv_ (z_ (n_ (k_ ?_))))
 refine J_loop (X := Nat × (List Bytes) × (Option Addr) × Nat × Bytes) (fun (⟨k, out, outA, outC, last⟩ : Nat × (List Bytes) × (Option Addr) × Nat × Bytes) => (k ≤ (R26.recs alt l).length) ∧ (R27.DupF alt l k out) ∧ (0 < k → last = R27.K1 alt l (k - 1)) ∧ (out.length ≤ k)) (fun (⟨k, out, outA, outC, last⟩ : Nat × (List Bytes) × (Option Addr) × Nat × Bytes) => [(2, pB b1 0), (4, vL none 0 0), (5, vL outA out.length outC), (6, vS last), (14, vL A2 ((R26.recs alt l).length) c3), (15, vI (((R26.recs alt l).length : Nat) : Int)), (16, vI ((k : Nat) : Int))]) (fun (⟨k, out, outA, outC, last⟩ : Nat × (List Bytes) × (Option Addr) × Nat × Bytes) => [Ent.row (.slice A2 (R26.recs alt l).length c3) 9 1 (R26.recs alt l).length ((R26.recs alt l).map vS), Ent.blk b1 23 (DataSet.enc alt), Ent.row (.slice outA out.length outC) 9 1 out.length (out.map vS)]) (fun (⟨k, out, outA, outC, last⟩ : Nat × (List Bytes) × (Option Addr) × Nat × Bytes) => (R26.recs alt l).length - k) ((0, ([] : List Bytes), none, 0, []) : Nat × (List Bytes) × (Option Addr) × Nat × Bytes) ?_ ⟨rfl, rfl, rfl, rfl, rfl, rfl, rfl, trivial⟩ (fun _ h => (((h.nilrow 9 1).front 2 _ rfl).front 2 _ rfl).keep [true, true, true] rfl) ?_
 ·try dsimp only
  refine ⟨?_, ?_, ?_, ?_⟩
  ·first | rfl | omega | (simp_all; done) | (simp_all; omega)
  ·exact ⟨fun _ i _ h => absurd h (Nat.not_lt_zero _), fun _ => rfl⟩
  ·exact fun h => absurd h (Nat.lt_irrefl _)
  ·exact Nat.le_refl _
 rintro ⟨k, out, outA, outC, last⟩ hI1
 obtain ⟨i1_0, i1_1, i1_2, i1_3⟩ := hI1
 try dsimp only at i1_0
 try dsimp only at i1_1
 try dsimp only at i1_2
 try dsimp only at i1_3
 try dsimp only
 refine q_ (g_ (s_ (x_lss_i rfl rfl) (z_ (n_ (q_ ?_)))))
 refine ifd (fun h5w h5 => ?_) (fun h5w h5 => ?_)
 ·refine sk_ (n_ (q_ (k_ (q_ (g_ (s_ mv_ (r_ (ixM (cells_row 0 rfl) Tryz.underlying40 Ty.sz9) (r_ (ldM vS [] (cells_row 0 rfl) Ty.sc9) (s_ av_ (s_ av_ (z_ (n_ (q_ (g_ (r_ (ldN 1 (DataSet.enc alt) Ty.ag23 Ty.sz23) (s_ mv_ (c0 (cl_ Ty.ca33) (fun w hS => f33_ok alt _ w) ?_)))))))))))))))))
  refine s_ mv_ (s_ (ex_ 0) (s_ (ex_ 1) (s_ (ex_ 2) (s_ av_ (s_ av_ (s_ av_ (z_ (xk_ [2, 4, 5, 6, 14, 15, 16, 7, 9] ?_))))))))
  refine n_ (q_ (q_ (g_ (s_ mv_ (s_ (x_gtr_i rfl rfl) (s_ mv_ ?_))))))
  refine and_ 3 (decide ((R26.parts alt ((R26.recs alt l).getD k [])).1 = last)) (fun g6 => ?_) ?_
  ·have g6r := g6
   have g6r := of_decide_eq_true g6r
   refine sg_ g6 mv_ (sg_ g6 mv_ (sg_ g6 (x_eql_s rfl rfl) ?_))
   exact cr_
  refine s_ mv_ ?_
  refine and_ 13 ((decide (((out.length : Nat) : Int) = 0)) || (decide ((out.getD ((((out.length : Nat) : Int) - 1).toNat) []) ≠ (R26.parts alt ((R26.recs alt l).getD k [])).1))) (fun g7 => ?_) ?_
  ·have g7r := g7
   have ⟨g7r, h8⟩ := band_true g7r
   have g7r := of_decide_eq_true g7r
   have h8 := of_decide_eq_true h8
   refine sg_ g7 mv_ (sg_ g7 (lnS Tryz.underlying40) (sg_ g7 (x_eql_i rfl rfl) (sg_ g7 mv_ ?_)))
   refine or_ 8 (decide ((out.getD ((((out.length : Nat) : Int) - 1).toNat) []) ≠ (R26.parts alt ((R26.recs alt l).getD k [])).1)) (fun g9 => ?_) ?_ (hw := by exact ⟨_, rfl, g7⟩)
   ·have g9r := g9
    have g9r := of_decide_eq_false g9r
    refine sg_ g9 mv_ (sg_ g9 mv_ (sg_ g9 (lnS Tryz.underlying40) (sg_ g9 (x_sub_i (a := ((out.length : Nat) : Int)) (b := 1) rfl rfl (by omega) (by omega)) (rg_ g9 (ixM (k := (((out.length : Nat) : Int) - 1).toNat) (hy := (ix_nat rfl (by omega))) (cells_row 2 rfl) Tryz.underlying40 Ty.sz9) (rg_ g9 (ldM vS [] (cells_row 2 rfl) Ty.sc9) (sg_ g9 mv_ (sg_ g9 (x_neq_s rfl rfl) ?_)))))))
    exact cr_
   exact cr_
  refine z_ (n_ ?_)
  refine if_ (fun h10 => ?_) (fun h10 => ?_)
  ·have h10w := h10
   have ⟨h10, h11⟩ := band_true h10
   have ⟨h10, h12⟩ := band_true h10
   have h10 := of_decide_eq_true h10
   have h12 := of_decide_eq_true h12
   simp only [Bool.and_eq_true, Bool.or_eq_true, Bool.and_eq_false_iff, Bool.or_eq_false_iff, Bool.not_eq_true', Bool.not_eq_false', decide_eq_true_eq, decide_eq_false_iff_not] at h11
   refine g_ (s_ mv_ (s_ mv_ (o_ (O_buildSlice (cs := [vS ((R26.parts alt ((R26.recs alt l).getD k [])).1)]) Tryz.underlying40 Ty.sz9 Ty.ze9 (by decide) (by decide) (by kernel_rfl) fun b13 => ?_))))
   refine o_ (O_append_m 3 vS out [(R26.parts alt ((R26.recs alt l).getD k [])).1] Tryz.underlying40 Ty.sz9 Ty.by9 Ty.ze9 rfl rfl rfl rfl rfl (fun _ => rfl) (cells_blk 0 (off := 0) (m := 1) rfl rfl) lt_ lt_ fun A14 c15 => ?_)
   refine s_ av_ (z_ (n_ (g_ (s_ mv_ (s_ av_ (z_ (kx_ (n_ (g_ (s_ (x_add_n (a := k) (b := 1) rfl rfl (by omega)) (s_ mv_ (z_ ?_))))))))))))
   refine JX_round ((k + 1, out ++ [(R26.parts alt ((R26.recs alt l).getD k [])).1], A14, c15, (R26.parts alt ((R26.recs alt l).getD k [])).1) : Nat × (List Bytes) × (Option Addr) × Nat × Bytes) ?_ ?_ ⟨rfl, rfl, rfl, rfl, rfl, rfl, rfl, trivial⟩ (fun _ h => h.keep [false, true, true, true] rfl)
   ·try dsimp only
    refine ⟨?_, ?_, ?_, ?_⟩
    ·first | rfl | omega | (simp_all; done) | (simp_all; omega)
    ·exact c27p6_
    ·exact fun _ => rfl
    ·(try simp only [List.length_append, List.length_cons, List.length_nil]); omega
   ·try dsimp only
    first | omega | (simp; omega) | (simp_all; omega)
  ·have h10w := h10
   simp only [Bool.and_eq_true, Bool.or_eq_true, Bool.and_eq_false_iff, Bool.or_eq_false_iff, Bool.not_eq_true', Bool.not_eq_false', decide_eq_true_eq, decide_eq_false_iff_not] at h10
   refine sk_ (n_ (g_ (s_ mv_ (s_ av_ (z_ (kx_ (n_ (g_ (s_ (x_add_n (a := k) (b := 1) rfl rfl (by omega)) (s_ mv_ (z_ ?_)))))))))))
   refine JX_round ((k + 1, out, outA, outC, (R26.parts alt ((R26.recs alt l).getD k [])).1) : Nat × (List Bytes) × (Option Addr) × Nat × Bytes) ?_ ?_ ⟨rfl, rfl, rfl, rfl, rfl, rfl, rfl, trivial⟩ (fun _ h => h)
   ·try dsimp only
    refine ⟨?_, ?_, ?_, ?_⟩
    ·first | rfl | omega | (simp_all; done) | (simp_all; omega)
    ·exact c27p6_
    ·exact fun _ => rfl
    ·(try simp only [List.length_append, List.length_cons, List.length_nil]); omega
   ·try dsimp only
    first | omega | (simp; omega) | (simp_all; omega)
 ·refine J_exit (ne_ (re_ (kh_ (n_ (q_ ?_)))))
  refine g_ (s_ mv_ (s_ av_ (z_ (n_ (rt_ ?_)))))
  refine JX_rets [_] _ Tryz.results10 (fun w h => ⟨rfl, trivial⟩) rfl _ (fun _ h => h.keep [false, false, true] rfl) ⟨outA, outC, out, ?_, ?_, ?_⟩
  ·rfl
  ·rfl
  ·exact (show k = (R26.recs alt l).length by omega) ▸ i1_1
set_option maxHeartbeats 2000000 in
set_option maxRecDepth 20000 in
theorem f12_ok (a : DataSet) (l : List Pair) (lA : Option Addr) (lC : Nat) (w : World) (lR : RO [] w lA (l.flatMap Pair.enc)) (q0 : l.length ≤ 400) (q1 : ∀ i, i < l.length → (l.getD i default).key.length ≤ 1000 ∧ (l.getD i default).record.length ≤ 1000) (q2 : a.KeyLength ≤ 32) (q3 : 1 ≤ a.AltLength) (q4 : a.AltLength < a.KeyLength) : Calls Tryz.prog 12 #[vG (DataSet.enc a), vL lA l.length lC] w (Gives [] w fun v L => ∃ A : Option Addr, ∃ cc : Nat, ∃ out : List Bytes, v = vL A out.length cc ∧ L = [Ent.row (.slice A out.length cc) 9 1 out.length (out.map vS)] ∧ ((out = [] ↔ ¬ R27.Two a l))) := by
 refine calls_J [] 86 Tryz.func12 rfl Tryz.ntmps12 [(0, _), (1, _)] rfl rfl (Give.nil w) ?_
 refine q_ (g_ (o_ (bxG fun b1 => ?_)))
 refine s_ av_ (z_ (n_ (q_ (g_ (o_ (O_buildSlice0 Tryz.underlying40 Ty.sz9 fun b2 => ?_))))))
 refine s_ av_ (z_ (n_ (q_ (q_ (g_ (s_ av_ (z_ (n_ (k_ ?_)))))))))
 refine J_loop (X := Nat × (List Bytes) × (Option Addr) × Nat) (fun (⟨i, out, outA, outC⟩ : Nat × (List Bytes) × (Option Addr) × Nat) => (i ≤ l.length) ∧ (R27.DupR a l i 0 out) ∧ (out.length ≤ i * 400)) (fun (⟨i, out, outA, outC⟩ : Nat × (List Bytes) × (Option Addr) × Nat) => [(1, vL lA l.length lC), (2, pB b1 0), (4, vL none 0 0), (5, vL outA out.length outC), (6, vI ((i : Nat) : Int))]) (fun (⟨i, out, outA, outC⟩ : Nat × (List Bytes) × (Option Addr) × Nat) => [Ent.blk b1 23 (DataSet.enc a), Ent.row (.slice outA out.length outC) 9 1 out.length (out.map vS)]) (fun (⟨i, out, outA, outC⟩ : Nat × (List Bytes) × (Option Addr) × Nat) => l.length - i) ((0, ([] : List Bytes), (some ⟨b2, 0, none⟩), 0) : Nat × (List Bytes) × (Option Addr) × Nat) ?_ ⟨rfl, rfl, rfl, rfl, rfl, trivial⟩ (fun _ h => ((St.torow (cs := []) h 1 0 rfl (by decide)).front 1 _ rfl).keep [true, true] rfl) ?_
 ·try dsimp only
  refine ⟨?_, ?_, ?_⟩
  ·first | rfl | omega | (simp_all; done) | (simp_all; omega)
  ·exact R27.dr_start
  ·exact Nat.zero_le _
 rintro ⟨i, out, outA, outC⟩ hI1
 obtain ⟨i1_0, i1_1, i1_2⟩ := hI1
 try dsimp only at i1_0
 try dsimp only at i1_1
 try dsimp only at i1_2
 have hqi := q1 i
 try dsimp only
 refine q_ (q_ (g_ (s_ mv_ (s_ mv_ (s_ (lnS Tryz.underlying42) (s_ (x_lss_i rfl rfl) (z_ (n_ ?_))))))))
 refine ifd (fun h3w h3 => ?_) (fun h3w h3 => ?_)
 ·refine sk_ (n_ (q_ (k_ (q_ (g_ (s_ av_ (z_ (n_ (k_ ?_)))))))))
  refine J_loop (X := Nat × (List Bytes) × (Option Addr) × Nat) (fun (⟨j, out, outA, outC⟩ : Nat × (List Bytes) × (Option Addr) × Nat) => (j ≤ i) ∧ (R27.DupR a l i j out) ∧ (out.length ≤ i * 400 + j)) (fun (⟨j, out, outA, outC⟩ : Nat × (List Bytes) × (Option Addr) × Nat) => [(1, vL lA l.length lC), (2, pB b1 0), (4, vL none 0 0), (5, vL outA out.length outC), (6, vI ((i : Nat) : Int)), (7, vI ((j : Nat) : Int))]) (fun (⟨j, out, outA, outC⟩ : Nat × (List Bytes) × (Option Addr) × Nat) => [Ent.blk b1 23 (DataSet.enc a), Ent.row (.slice outA out.length outC) 9 1 out.length (out.map vS)]) (fun (⟨j, out, outA, outC⟩ : Nat × (List Bytes) × (Option Addr) × Nat) => i - j) ((0, out, outA, outC) : Nat × (List Bytes) × (Option Addr) × Nat) ?_ ⟨rfl, rfl, rfl, rfl, rfl, rfl, trivial⟩ (fun _ h => h) ?_
  ·try dsimp only
   refine ⟨?_, ?_, ?_⟩
   ·first | rfl | omega | (simp_all; done) | (simp_all; omega)
   ·exact i1_1
   ·omega
  rintro ⟨j, out, outA, outC⟩ hI2
  obtain ⟨i2_0, i2_1, i2_2⟩ := hI2
  try dsimp only at i2_0
  try dsimp only at i2_1
  try dsimp only at i2_2
  have hqj := q1 j
  try dsimp only
  refine q_ (q_ (g_ (s_ mv_ (s_ mv_ (s_ (x_lss_i rfl rfl) (z_ (n_ ?_)))))))
  refine ifd (fun h4w h4 => ?_) (fun h4w h4 => ?_)
  ·refine sk_ (n_ (q_ (k_ (q_ ?_))))
   refine drB [] 12 Ty.mixed ?_
   refine jq_ 0 rfl (ldN 0 (DataSet.enc a) Ty.ag23 Ty.sz23) (jp_ 1 rfl mv_ (jp_ 2 rfl mv_ (jq_ 3 rfl (ixF Pair.enc_len (cells_ro lR) Tryz.underlying42 Ty.sz54) (jp_ 4 rfl (fB Ty.fi54_1) (jq_ 5 rfl (ldF 1 Pair.enc_len (cells_ro lR) Ty.sc9) (j1_ 6 (jc0_ rfl (cl_ Ty.ca35) (fun w hS => f35_ok a _ w) (jp_ 7 rfl mv_ (jp_ 8 rfl (ex_ 0) ?_))) gm_))))))
   refine jp_ 9 rfl (ex_ 1) (jp_ 10 rfl av_ (jp_ 11 rfl av_ ?_))
   refine JA_done (by kernel_rfl) gm_ ?_
   refine n_ (q_ ?_)
   refine drB [] 12 Ty.mixed ?_
   refine jq_ 0 rfl (ldN 0 (DataSet.enc a) Ty.ag23 Ty.sz23) (jp_ 1 rfl mv_ (jp_ 2 rfl mv_ (jq_ 3 rfl (ixF Pair.enc_len (cells_ro lR) Tryz.underlying42 Ty.sz54) (jp_ 4 rfl (fB Ty.fi54_1) (jq_ 5 rfl (ldF 1 Pair.enc_len (cells_ro lR) Ty.sc9) (j1_ 6 (jc0_ rfl (cl_ Ty.ca35) (fun w hS => f35_ok a _ w) (jp_ 7 rfl mv_ (jp_ 8 rfl (ex_ 0) ?_))) gm_))))))
   refine jp_ 9 rfl (ex_ 1) (jp_ 10 rfl av_ (jp_ 11 rfl av_ ?_))
   refine JA_done (by kernel_rfl) gm_ ?_
   refine n_ (q_ ?_)
   refine drB [] 38 Ty.mixed ?_
   refine jp_ 0 rfl mv_ (jp_ 1 rfl mv_ ?_)
   refine jb_ 45 (fun h5 => ?_) (fun h5 => ?_)
   ·have hi6 := R26.key_facts h5
    refine jp_ 2 rfl mv_ ?_ (hw := ⟨_, rfl, rfl⟩)
    refine jt_ 3 (vB ((R26.key a ((l.getD j default).record)).2)) rfl (fun _ _ => rfl) ?_
    refine jp_ 4 rfl mv_ ?_
    refine jb_ 48 (fun h7 => ?_) (fun h7 => ?_)
    ·have hi8 := R26.key_facts h7
     refine jp_ 5 rfl mv_ (jp_ 6 rfl mv_ (jp_ 7 rfl (x_eql_s rfl rfl) ?_ (hw := ⟨_, rfl, rfl⟩)) (hw := ⟨_, rfl, rfl⟩)) (hw := ⟨_, rfl, rfl⟩)
     refine jt_ 8 (vB (decide ((R26.key a ((l.getD i default).record)).1 = (R26.key a ((l.getD j default).record)).1))) rfl (fun _ _ => rfl) ?_
     refine jp_ 9 rfl mv_ ?_
     refine jb_ 53 (fun h9 => ?_) (fun h9 => ?_)
     ·have h9 := of_decide_eq_true h9
      refine jp_ 10 rfl mv_ (jp_ 11 rfl mv_ (jq_ 12 rfl (ixF Pair.enc_len (cells_ro lR) Tryz.underlying42 Ty.sz54) (jp_ 13 rfl (fB0 Ty.fi54_0) (jq_ 14 rfl (ldF0 Pair.enc_len (cells_ro lR) Ty.sc9) (jp_ 15 rfl mv_ (jp_ 16 rfl mv_ (jq_ 17 rfl (ixF Pair.enc_len (cells_ro lR) Tryz.underlying42 Ty.sz54) (jp_ 18 rfl (fB0 Ty.fi54_0) (jq_ 19 rfl (ldF0 Pair.enc_len (cells_ro lR) Ty.sc9) ?_ (hw := ⟨_, rfl, rfl⟩)) (hw := ⟨_, rfl, rfl⟩)) (hw := ⟨_, rfl, rfl⟩)) (hw := ⟨_, rfl, rfl⟩)) (hw := ⟨_, rfl, rfl⟩)) (hw := ⟨_, rfl, rfl⟩)) (hw := ⟨_, rfl, rfl⟩)) (hw := ⟨_, rfl, rfl⟩)) (hw := ⟨_, rfl, rfl⟩)) (hw := ⟨_, rfl, rfl⟩)
      refine jp_ 20 rfl (x_neq_s rfl rfl) ?_ (hw := ⟨_, rfl, rfl⟩)
      refine jt_ 21 (vB (decide ((l.getD i default).key ≠ (l.getD j default).key))) rfl (fun _ _ => rfl) ?_
      refine jp_ 22 rfl mv_ ?_
      refine jb_ 66 (fun h10 => ?_) (fun h10 => ?_)
      ·have h10 := of_decide_eq_true h10
       refine jq_ 23 rfl (ldN 0 (DataSet.enc a) Ty.ag23 Ty.sz23) (jp_ 24 rfl mv_ (jp_ 25 rfl mv_ (jq_ 26 rfl (ixF Pair.enc_len (cells_ro lR) Tryz.underlying42 Ty.sz54) (jq_ 27 rfl (ldFN Pair.enc_len (cells_ro lR) Ty.ag54 Ty.sz54) (j1_ 28 (jc0_ rfl (cl_ Ty.ca36) (fun w hS => f36_ok a _ w hy_ hy_ hy_) ?_ (hw := ⟨_, rfl, rfl⟩)) gm_) (hw := ⟨_, rfl, rfl⟩)) (hw := ⟨_, rfl, rfl⟩)) (hw := ⟨_, rfl, rfl⟩)) (hw := ⟨_, rfl, rfl⟩)) (hw := ⟨_, rfl, rfl⟩)
       refine jt_ 29 (vB (decide ((((l.getD i default).key.length : Nat) : Int) = a.KeyLength - a.AltLength))) rfl (fun _ _ => rfl) ?_
       refine jp_ 30 rfl mv_ ?_
       refine jb_ 74 (fun h11 => ?_) (fun h11 => ?_)
       ·have h11 := of_decide_eq_true h11
        refine jq_ 31 rfl (ldN 0 (DataSet.enc a) Ty.ag23 Ty.sz23) (jp_ 32 rfl mv_ (jp_ 33 rfl mv_ (jq_ 34 rfl (ixF Pair.enc_len (cells_ro lR) Tryz.underlying42 Ty.sz54) (jq_ 35 rfl (ldFN Pair.enc_len (cells_ro lR) Ty.ag54 Ty.sz54) (j1_ 36 (jc0_ rfl (cl_ Ty.ca36) (fun w hS => f36_ok a _ w hy_ hy_ hy_) ?_ (hw := ⟨_, rfl, rfl⟩)) gm_) (hw := ⟨_, rfl, rfl⟩)) (hw := ⟨_, rfl, rfl⟩)) (hw := ⟨_, rfl, rfl⟩)) (hw := ⟨_, rfl, rfl⟩)) (hw := ⟨_, rfl, rfl⟩)
        refine jt_ 37 (vB (decide ((((l.getD j default).key.length : Nat) : Int) = a.KeyLength - a.AltLength))) rfl (fun _ _ => rfl) ?_
        refine JA_done (by kernel_rfl) gm_ ?_
        refine n_ ?_
        refine ifd (fun h12w h12 => ?_) (fun h12w h12 => ?_)
        ·refine g_ (s_ mv_ (s_ mv_ ?_))
         refine JO_call (Lown [Ent.row (.slice outA out.length outC) 9 1 out.length (out.map vS)]) [Ent.row (.slice outA out.length outC) 9 1 out.length (out.map vS)] [Ent.blk b1 23 (DataSet.enc a)] rfl trivial (fun _ => x_call Ty.ca37 rfl) (fun _ h => (h.front 1 _ rfl).keep [true, true] rfl) lown_mem (fun w hS => f37_ok out outA outC out.length ((R26.key a ((l.getD i default).record)).1) w hy_ hy_ (hS.give lown_in)) ?_
         rintro _ _ ⟨e13, e14, rfl, rfl⟩
         have ha15 := Ord.ins_len out ((R26.key a ((l.getD i default).record)).1)
         refine s_ av_ (z_ (kx_ (n_ (g_ (s_ mv_ (s_ (x_add_n (a := j) (b := 1) rfl rfl (by omega)) (s_ av_ (z_ ?_))))))))
         refine JX_round ((j + 1, (Ord.ins out ((R26.key a ((l.getD i default).record)).1)), e13, e14) : Nat × (List Bytes) × (Option Addr) × Nat) ?_ ?_ ⟨rfl, rfl, rfl, rfl, rfl, rfl, trivial⟩ (fun _ h => (h.front 1 _ rfl).keep [true, true] rfl)
         ·try dsimp only
          refine ⟨?_, ?_, ?_⟩
          ·first | rfl | omega | (simp_all; done) | (simp_all; omega)
          ·first | exact R27.dr_yes _ c27p0_ | exact R27.dr_no i2_1 c27p1_ | exact R27.dr_yes _ (by unfold R27.twoAt; simp [*]; done) | exact R27.dr_no i2_1 (by unfold R27.twoAt; simp [*]; done)
          ·exact c27p3_
         ·try dsimp only
          first | omega | (simp; omega) | (simp_all; omega)
        ·refine sk_ (kx_ (n_ (g_ (s_ mv_ (s_ (x_add_n (a := j) (b := 1) rfl rfl (by omega)) (s_ av_ (z_ ?_)))))))
         refine JX_round ((j + 1, out, outA, outC) : Nat × (List Bytes) × (Option Addr) × Nat) ?_ ?_ ⟨rfl, rfl, rfl, rfl, rfl, rfl, trivial⟩ (fun _ h => h)
         ·try dsimp only
          refine ⟨?_, ?_, ?_⟩
          ·first | rfl | omega | (simp_all; done) | (simp_all; omega)
          ·first | exact R27.dr_yes _ c27p0_ | exact R27.dr_no i2_1 c27p1_ | exact R27.dr_yes _ (by unfold R27.twoAt; simp [*]; done) | exact R27.dr_no i2_1 (by unfold R27.twoAt; simp [*]; done)
          ·exact c27p3_
         ·try dsimp only
          first | omega | (simp; omega) | (simp_all; omega)
       ·have h11 := of_decide_eq_false h11
        refine js2_ 31 rfl (js2_ 32 rfl (js2_ 33 rfl (js2_ 34 rfl (js2_ 35 rfl (js2_ 36 rfl ?_)))))
        refine jt_ 37 (vB false) rfl (fun _ _ => rfl) ?_
        refine JA_done (by kernel_rfl) gm_ ?_
        refine n_ (iff_ (sk_ (kx_ (n_ (g_ (s_ mv_ (s_ (x_add_n (a := j) (b := 1) rfl rfl (by omega)) (s_ av_ (z_ ?_)))))))))
        refine JX_round ((j + 1, out, outA, outC) : Nat × (List Bytes) × (Option Addr) × Nat) ?_ ?_ ⟨rfl, rfl, rfl, rfl, rfl, rfl, trivial⟩ (fun _ h => h)
        ·try dsimp only
         refine ⟨?_, ?_, ?_⟩
         ·first | rfl | omega | (simp_all; done) | (simp_all; omega)
         ·first | exact R27.dr_yes _ c27p0_ | exact R27.dr_no i2_1 c27p1_ | exact R27.dr_yes _ (by unfold R27.twoAt; simp [*]; done) | exact R27.dr_no i2_1 (by unfold R27.twoAt; simp [*]; done)
         ·exact c27p3_
        ·try dsimp only
         first | omega | (simp; omega) | (simp_all; omega)
      ·have h10 := of_decide_eq_false h10
       refine js2_ 23 rfl (js2_ 24 rfl (js2_ 25 rfl (js2_ 26 rfl (js2_ 27 rfl (js2_ 28 rfl ?_)))))
       refine jt_ 29 (vB false) rfl (fun _ _ => rfl) ?_
       refine jp_ 30 rfl mv_ (js2_ 31 rfl (js2_ 32 rfl (js2_ 33 rfl (js2_ 34 rfl (js2_ 35 rfl (js2_ 36 rfl ?_))))))
       refine jt_ 37 (vB false) rfl (fun _ _ => rfl) ?_
       refine JA_done (by kernel_rfl) gm_ ?_
       refine n_ (iff_ (sk_ (kx_ (n_ (g_ (s_ mv_ (s_ (x_add_n (a := j) (b := 1) rfl rfl (by omega)) (s_ av_ (z_ ?_)))))))))
       refine JX_round ((j + 1, out, outA, outC) : Nat × (List Bytes) × (Option Addr) × Nat) ?_ ?_ ⟨rfl, rfl, rfl, rfl, rfl, rfl, trivial⟩ (fun _ h => h)
       ·try dsimp only
        refine ⟨?_, ?_, ?_⟩
        ·first | rfl | omega | (simp_all; done) | (simp_all; omega)
        ·first | exact R27.dr_yes _ c27p0_ | exact R27.dr_no i2_1 c27p1_ | exact R27.dr_yes _ (by unfold R27.twoAt; simp [*]; done) | exact R27.dr_no i2_1 (by unfold R27.twoAt; simp [*]; done)
        ·exact c27p3_
       ·try dsimp only
        first | omega | (simp; omega) | (simp_all; omega)
     ·have h9 := of_decide_eq_false h9
      refine js2_ 10 rfl (js2_ 11 rfl (js2_ 12 rfl (js2_ 13 rfl (js2_ 14 rfl (js2_ 15 rfl (js2_ 16 rfl (js2_ 17 rfl (js2_ 18 rfl (js2_ 19 rfl ?_)))))))))
      refine js2_ 20 rfl ?_
      refine jt_ 21 (vB false) rfl (fun _ _ => rfl) ?_
      refine jp_ 22 rfl mv_ (js2_ 23 rfl (js2_ 24 rfl (js2_ 25 rfl (js2_ 26 rfl (js2_ 27 rfl (js2_ 28 rfl ?_))))))
      refine jt_ 29 (vB false) rfl (fun _ _ => rfl) ?_
      refine jp_ 30 rfl mv_ (js2_ 31 rfl (js2_ 32 rfl (js2_ 33 rfl (js2_ 34 rfl (js2_ 35 rfl (js2_ 36 rfl ?_))))))
      refine jt_ 37 (vB false) rfl (fun _ _ => rfl) ?_
      refine JA_done (by kernel_rfl) gm_ ?_
      refine n_ (iff_ (sk_ (kx_ (n_ (g_ (s_ mv_ (s_ (x_add_n (a := j) (b := 1) rfl rfl (by omega)) (s_ av_ (z_ ?_)))))))))
      refine JX_round ((j + 1, out, outA, outC) : Nat × (List Bytes) × (Option Addr) × Nat) ?_ ?_ ⟨rfl, rfl, rfl, rfl, rfl, rfl, trivial⟩ (fun _ h => h)
      ·try dsimp only
       refine ⟨?_, ?_, ?_⟩
       ·first | rfl | omega | (simp_all; done) | (simp_all; omega)
       ·first | exact R27.dr_yes _ c27p0_ | exact R27.dr_no i2_1 c27p1_ | exact R27.dr_yes _ (by unfold R27.twoAt; simp [*]; done) | exact R27.dr_no i2_1 (by unfold R27.twoAt; simp [*]; done)
       ·exact c27p3_
      ·try dsimp only
       first | omega | (simp; omega) | (simp_all; omega)
    ·refine js2_ 5 rfl (js2_ 6 rfl (js2_ 7 rfl ?_))
     refine jt_ 8 (vB false) rfl (fun _ _ => rfl) ?_
     refine jp_ 9 rfl mv_ (js2_ 10 rfl (js2_ 11 rfl (js2_ 12 rfl (js2_ 13 rfl (js2_ 14 rfl (js2_ 15 rfl (js2_ 16 rfl (js2_ 17 rfl (js2_ 18 rfl ?_)))))))))
     refine js2_ 19 rfl (js2_ 20 rfl ?_)
     refine jt_ 21 (vB false) rfl (fun _ _ => rfl) ?_
     refine jp_ 22 rfl mv_ (js2_ 23 rfl (js2_ 24 rfl (js2_ 25 rfl (js2_ 26 rfl (js2_ 27 rfl (js2_ 28 rfl ?_))))))
     refine jt_ 29 (vB false) rfl (fun _ _ => rfl) ?_
     refine jp_ 30 rfl mv_ (js2_ 31 rfl (js2_ 32 rfl (js2_ 33 rfl (js2_ 34 rfl (js2_ 35 rfl (js2_ 36 rfl ?_))))))
     refine jt_ 37 (vB false) rfl (fun _ _ => rfl) ?_
     refine JA_done (by kernel_rfl) gm_ ?_
     refine n_ (iff_ (sk_ (kx_ (n_ (g_ (s_ mv_ (s_ (x_add_n (a := j) (b := 1) rfl rfl (by omega)) (s_ av_ (z_ ?_)))))))))
     refine JX_round ((j + 1, out, outA, outC) : Nat × (List Bytes) × (Option Addr) × Nat) ?_ ?_ ⟨rfl, rfl, rfl, rfl, rfl, rfl, trivial⟩ (fun _ h => h)
     ·try dsimp only
      refine ⟨?_, ?_, ?_⟩
      ·first | rfl | omega | (simp_all; done) | (simp_all; omega)
      ·first | exact R27.dr_yes _ c27p0_ | exact R27.dr_no i2_1 c27p1_ | exact R27.dr_yes _ (by unfold R27.twoAt; simp [*]; done) | exact R27.dr_no i2_1 (by unfold R27.twoAt; simp [*]; done)
      ·exact c27p3_
     ·try dsimp only
      first | omega | (simp; omega) | (simp_all; omega)
   ·refine js2_ 2 rfl ?_
    refine jt_ 3 (vB false) rfl (fun _ _ => rfl) ?_
    refine jp_ 4 rfl mv_ (js2_ 5 rfl (js2_ 6 rfl (js2_ 7 rfl ?_)))
    refine jt_ 8 (vB false) rfl (fun _ _ => rfl) ?_
    refine jp_ 9 rfl mv_ (js2_ 10 rfl (js2_ 11 rfl (js2_ 12 rfl (js2_ 13 rfl (js2_ 14 rfl (js2_ 15 rfl (js2_ 16 rfl (js2_ 17 rfl (js2_ 18 rfl ?_)))))))))
    refine js2_ 19 rfl (js2_ 20 rfl ?_)
    refine jt_ 21 (vB false) rfl (fun _ _ => rfl) ?_
    refine jp_ 22 rfl mv_ (js2_ 23 rfl (js2_ 24 rfl (js2_ 25 rfl (js2_ 26 rfl (js2_ 27 rfl (js2_ 28 rfl ?_))))))
    refine jt_ 29 (vB false) rfl (fun _ _ => rfl) ?_
    refine jp_ 30 rfl mv_ (js2_ 31 rfl (js2_ 32 rfl (js2_ 33 rfl (js2_ 34 rfl (js2_ 35 rfl (js2_ 36 rfl ?_))))))
    refine jt_ 37 (vB false) rfl (fun _ _ => rfl) ?_
    refine JA_done (by kernel_rfl) gm_ ?_
    refine n_ (iff_ (sk_ (kx_ (n_ (g_ (s_ mv_ (s_ (x_add_n (a := j) (b := 1) rfl rfl (by omega)) (s_ av_ (z_ ?_)))))))))
    refine JX_round ((j + 1, out, outA, outC) : Nat × (List Bytes) × (Option Addr) × Nat) ?_ ?_ ⟨rfl, rfl, rfl, rfl, rfl, rfl, trivial⟩ (fun _ h => h)
    ·try dsimp only
     refine ⟨?_, ?_, ?_⟩
     ·first | rfl | omega | (simp_all; done) | (simp_all; omega)
     ·first | exact R27.dr_yes _ c27p0_ | exact R27.dr_no i2_1 c27p1_ | exact R27.dr_yes _ (by unfold R27.twoAt; simp [*]; done) | exact R27.dr_no i2_1 (by unfold R27.twoAt; simp [*]; done)
     ·exact c27p3_
    ·try dsimp only
     first | omega | (simp; omega) | (simp_all; omega)
  ·refine J_exit (ne_ (re_ (kh_ (kx_ (n_ ?_)))))
   refine g_ (s_ mv_ (s_ (x_add_n (a := i) (b := 1) rfl rfl (by omega)) (s_ av_ (z_ ?_))))
   refine JX_round ((i + 1, out, outA, outC) : Nat × (List Bytes) × (Option Addr) × Nat) ?_ ?_ ⟨rfl, rfl, rfl, rfl, rfl, trivial⟩ (fun _ h => h)
   ·try dsimp only
    refine ⟨?_, ?_, ?_⟩
    ·first | rfl | omega | (simp_all; done) | (simp_all; omega)
    ·exact R27.dr_next i2_1 (by assumption) i2_0
    ·omega
   ·try dsimp only
    first | omega | (simp; omega) | (simp_all; omega)
 ·refine J_exit (ne_ (re_ (kh_ (n_ (q_ ?_)))))
  refine g_ (s_ mv_ (s_ av_ (z_ (n_ (rt_ ?_)))))
  refine JX_rets [_] _ Tryz.results12 (fun w h => ⟨rfl, trivial⟩) rfl _ (fun _ h => h.keep [false, true] rfl) ⟨outA, outC, out, ?_, ?_, ?_⟩
  ·rfl
  ·rfl
  ·exact R27.dr_two i1_1 (by omega) i1_0
set_option maxRecDepth 20000 in
theorem f_changeN (l : List Pair) (lA : Option Addr) (lC : Nat) (c : Change) (key : Bytes) (w : World) (lR : RO [] w lA (l.flatMap Pair.enc)) (q0 : ¬ (0 ≤ c.Kind ∧ c.Kind ≤ 3)) : Calls Tryz.prog 31 #[vL lA l.length lC, vG (Change.enc c), vS key] w (Gives [] w fun v L => v = vL lA ((l : List Pair).length) lC ∧ L = []) := by
 refine calls_J [] 36 Tryz.func31 rfl Tryz.ntmps31 [(0, _), (1, _), (2, _)] rfl rfl (Give.nil w) ?_
 refine q_ (g_ (o_ (bxG fun b1 => ?_)))
 refine s_ av_ (z_ (n_ (q_ (q_ (g_ (s_ (fA 0 Ty.fi27_0) (r_ (ld_ 0 Ty.sc3) (z_ (n_ (k_ (q_ (g_ (s_ (x_eql_i rfl rfl) (s_ av_ (z_ (n_ ?_))))))))))))))))
 refine ifd (fun h2w h2 => ?_) (fun h2w h2 => ?_)
 ·exact absurd (show 0 ≤ c.Kind ∧ c.Kind ≤ 3 by omega) q0
 ·refine q_ (g_ (s_ (x_eql_i rfl rfl) (s_ av_ (z_ (n_ ?_)))))
  refine ifd (fun h3w h3 => ?_) (fun h3w h3 => ?_)
  ·exact absurd (show 0 ≤ c.Kind ∧ c.Kind ≤ 3 by omega) q0
  ·refine q_ (g_ (s_ (x_eql_i rfl rfl) (s_ av_ (z_ (n_ ?_)))))
   refine ifd (fun h4w h4 => ?_) (fun h4w h4 => ?_)
   ·exact absurd (show 0 ≤ c.Kind ∧ c.Kind ≤ 3 by omega) q0
   ·refine q_ (g_ (s_ (x_eql_i rfl rfl) (s_ av_ (z_ (n_ ?_)))))
    refine ifd (fun h5w h5 => ?_) (fun h5w h5 => ?_)
    ·exact absurd (show 0 ≤ c.Kind ∧ c.Kind ≤ 3 by omega) q0
    ·refine sk_ (kx_ (n_ (q_ (g_ (s_ mv_ (s_ av_ (z_ (n_ (rt_ ?_)))))))))
     refine p1 Tryz.results31 rfl ⟨?_, rfl⟩
     have e_x0 : (l.length : Nat) = ((l : List Pair).length) := by rfl
     exact congrArg (fun (x0 : Nat) => vL lA x0 lC) e_x0
set_option maxRecDepth 20000 in
theorem f_doN (ds : List Data) (dsA : Option Addr) (dsC : Nat) (c : Change) (key : Bytes) (w : World) (dsR : RO [] w dsA (ds.flatMap Data.enc)) (dsN : ∀ i : Nat, RO [] w (ds.getD i default).PairsA (((ds.getD i default).Pairs).flatMap Pair.enc)) (q0 : ds.length ≤ 1000) (q1 : ∀ i, (ds.getD i default).Pairs.length ≤ 1000) (q2 : ¬ (0 ≤ c.Kind ∧ c.Kind ≤ 3)) : Calls Tryz.prog 9 #[vG [vL dsA ds.length dsC, Value.pointer none], vG (Change.enc c), vS key] w (Gives [] w fun v L => ∃ A : Option Addr, ∃ cc : Nat, v = vG [vL A ((R27.doN ds c).length) cc, Value.pointer none] ∧ L = [Ent.row (.slice A (R27.doN ds c).length cc) 56 2 (R27.doN ds c).length ((R27.doN ds c).flatMap Data.enc)]) := by
 refine calls_J [] 57 Tryz.func9 rfl Tryz.ntmps9 [(0, _), (1, _), (2, _)] rfl rfl (Give.nil w) ?_
 refine q_ (g_ (o_ (bxG fun b1 => ?_)))
 refine o_ (bxG fun b2 => ?_)
 refine o_ (al_ Ty.ze33 fun b3 => ?_)
 refine z_ (n_ (q_ (g_ (o_ (O_buildSlice0 Tryz.underlying30 Ty.sz56 fun b4 => ?_)))))
 refine s_ av_ (z_ (n_ (q_ (g_ (s_ av_ (z_ (n_ (q_ (q_ (g_ (s_ av_ (z_ (n_ (k_ ?_))))))))))))))
 refine J_loop (X := Nat × (List Data) × (Option Addr) × Nat × Bool) (fun (⟨k, out, outA, outC, found⟩ : Nat × (List Data) × (Option Addr) × Nat × Bool) => (k ≤ ds.length) ∧ (out = ds.take k ∧ found = R27.isAt (ds.take k) c.Id) ∧ (out.length ≤ k)) (fun (⟨k, out, outA, outC, found⟩ : Nat × (List Data) × (Option Addr) × Nat × Bool) => [(2, vS key), (3, pB b1 0), (4, pB b2 0), (6, pB b3 0), (7, vL outA out.length outC), (8, vB found), (9, vI ((k : Nat) : Int))]) (fun (⟨k, out, outA, outC, found⟩ : Nat × (List Data) × (Option Addr) × Nat × Bool) => [Ent.blk b3 33 [vL none 0 0, Value.pointer none], Ent.blk b2 27 (Change.enc c), Ent.blk b1 33 [vL dsA ds.length dsC, Value.pointer none], Ent.row (.slice outA out.length outC) 56 2 out.length (out.flatMap Data.enc)]) (fun (⟨k, out, outA, outC, found⟩ : Nat × (List Data) × (Option Addr) × Nat × Bool) => ds.length - k) ((0, [], (some ⟨b4, 0, none⟩), 0, false) : Nat × (List Data) × (Option Addr) × Nat × Bool) ?_ ⟨rfl, rfl, rfl, rfl, rfl, rfl, rfl, trivial⟩ (fun _ h => ((((St.torow (cs := []) h 2 0 rfl (by decide)).front 3 _ rfl).front 3 _ rfl).front 3 _ rfl).keep [true, true, true, true] rfl) ?_
 ·try dsimp only
  refine ⟨?_, ?_, ?_⟩
  ·first | rfl | omega | (simp_all; done) | (simp_all; omega)
  ·exact ⟨rfl, rfl⟩
  ·exact Nat.le_refl _
 rintro ⟨k, out, outA, outC, found⟩ hI1
 obtain ⟨i1_0, i1_1, i1_2⟩ := hI1
 try dsimp only at i1_0
 try dsimp only at i1_1
 try dsimp only at i1_2
 have hqk := q1 k
 try dsimp only
 refine q_ (q_ (g_ (s_ mv_ (s_ (fA 0 Ty.fi33_0) (r_ (ld_ 2 Ty.sc30) (s_ (lnS Tryz.underlying30) (s_ (x_lss_i rfl rfl) (z_ (n_ ?_)))))))))
 refine ifd (fun h5w h5 => ?_) (fun h5w h5 => ?_)
 ·refine sk_ (n_ (q_ (k_ (q_ (g_ (s_ (fA 0 Ty.fi33_0) (r_ (ld_ 2 Ty.sc30) (s_ mv_ (r_ (ixF Data.enc_len (cells_ro dsR) Tryz.underlying30 Ty.sz56) (r_ (ldFN Data.enc_len (cells_ro dsR) Ty.ag56 Ty.sz56) (o_ (al_ Ty.ze56 fun b6 => ?_))))))))))))
  refine o_ (stG 0 Ty.sz56 ?_)
  refine z_ (n_ (q_ (q_ (g_ (s_ (fA 0 Ty.fi56_0) (r_ (ld_ 0 Ty.sc3) (s_ (fA 1 Ty.fi27_1) (r_ (ld_ 2 Ty.sc3) (s_ (x_eql_i rfl rfl) (s_ mv_ ?_))))))))))
  refine and_ 2 (!found) (fun g7 => ?_) ?_
  ·have g7r := g7
   have g7r := of_decide_eq_true g7r
   refine sg_ g7 mv_ (sg_ g7 (x_not rfl) ?_)
   exact cr_
  refine z_ (xk_ [2, 3, 4, 6, 7, 8, 9, 10, 32] ?_)
  refine n_ ?_
  refine if_ (fun h8 => ?_) (fun h8 => ?_)
  ·have h8w := h8
   have ⟨h8, h9⟩ := band_true h8
   have h8 := of_decide_eq_true h8
   have h9 : (found) = false := bnot_true h9
   refine q_ (g_ (s_ av_ (z_ (n_ (g_ (s_ (fA 1 Ty.fi56_1) (r_ (ld_ 0 Ty.sc42) (r_ (ldN 2 (Change.enc c) Ty.ag27 Ty.sz27) (s_ mv_ (c0 (cl_ Ty.ca31) (fun w hS => f_changeN _ _ _ c key w (rno (dsN k) hS) hy_) (s_ (fA 1 Ty.fi56_1) (o_ (st1 0 Ty.sz42 ?_)))))))))))))
   refine z_ (n_ (g_ (s_ mv_ (r_ (ldN 0 [vI ((ds.getD k default).Id), vL ((ds.getD k default).PairsA) ((((ds.getD k default).Pairs) : List Pair).length) ((ds.getD k default).PairsC)] Ty.ag56 Ty.sz56) (o_ (O_buildSlice (cs := [vI ((ds.getD k default).Id), vL ((ds.getD k default).PairsA) ((((ds.getD k default).Pairs) : List Pair).length) ((ds.getD k default).PairsC)]) Tryz.underlying30 Ty.sz56 Ty.ze56 (by decide) (by decide) (by kernel_rfl) fun b10 => ?_))))))
   refine o_ (O_append_f 5 Data.enc 2 out [(Data.mk ((ds.getD k default).Id) ((ds.getD k default).Pairs) ((ds.getD k default).PairsA) ((ds.getD k default).PairsC))] Tryz.underlying30 Ty.sz56 Ty.by56 Ty.ze56 rfl (by decide) rfl rfl rfl rfl Data.enc_len Data.enc_one (cells_blk 0 (off := 0) (m := 2) rfl rfl) lt_ lt_ fun A11 c12 => ?_)
   refine s_ av_ (z_ (kx_ (n_ (g_ (s_ mv_ (s_ (x_add_n (a := k) (b := 1) rfl rfl (by omega)) (s_ av_ (z_ ?_))))))))
   refine JX_round ((k + 1, out ++ [(Data.mk ((ds.getD k default).Id) ((ds.getD k default).Pairs) ((ds.getD k default).PairsA) ((ds.getD k default).PairsC))], A11, c12, true) : Nat × (List Data) × (Option Addr) × Nat × Bool) ?_ ?_ ⟨rfl, rfl, rfl, rfl, rfl, rfl, rfl, trivial⟩ (fun _ h => h.keep [false, false, true, true, true, true] rfl)
   ·try dsimp only
    refine ⟨?_, ?_, ?_⟩
    ·first | rfl | omega | (simp_all; done) | (simp_all; omega)
    ·exact c27p7_
    ·(try simp only [List.length_append, List.length_cons, List.length_nil]); omega
   ·try dsimp only
    first | omega | (simp; omega) | (simp_all; omega)
  ·have h8w := h8
   simp only [Bool.and_eq_true, Bool.or_eq_true, Bool.and_eq_false_iff, Bool.or_eq_false_iff, Bool.not_eq_true', Bool.not_eq_false', decide_eq_true_eq, decide_eq_false_iff_not] at h8
   refine sk_ (n_ (g_ (s_ mv_ (r_ (ldN 0 [vI ((ds.getD k default).Id), vL ((ds.getD k default).PairsA) ((ds.getD k default).Pairs.length) ((ds.getD k default).PairsC)] Ty.ag56 Ty.sz56) (o_ (O_buildSlice (cs := [vI ((ds.getD k default).Id), vL ((ds.getD k default).PairsA) ((ds.getD k default).Pairs.length) ((ds.getD k default).PairsC)]) Tryz.underlying30 Ty.sz56 Ty.ze56 (by decide) (by decide) (by kernel_rfl) fun b13 => ?_))))))
   refine o_ (O_append_f 5 Data.enc 2 out [(Data.mk ((ds.getD k default).Id) ((ds.getD k default).Pairs) ((ds.getD k default).PairsA) ((ds.getD k default).PairsC))] Tryz.underlying30 Ty.sz56 Ty.by56 Ty.ze56 rfl (by decide) rfl rfl rfl rfl Data.enc_len Data.enc_one (cells_blk 0 (off := 0) (m := 2) rfl rfl) lt_ lt_ fun A14 c15 => ?_)
   refine s_ av_ (z_ (kx_ (n_ (g_ (s_ mv_ (s_ (x_add_n (a := k) (b := 1) rfl rfl (by omega)) (s_ av_ (z_ ?_))))))))
   refine JX_round ((k + 1, out ++ [(Data.mk ((ds.getD k default).Id) ((ds.getD k default).Pairs) ((ds.getD k default).PairsA) ((ds.getD k default).PairsC))], A14, c15, found) : Nat × (List Data) × (Option Addr) × Nat × Bool) ?_ ?_ ⟨rfl, rfl, rfl, rfl, rfl, rfl, rfl, trivial⟩ (fun _ h => h.keep [false, false, true, true, true, true] rfl)
   ·try dsimp only
    refine ⟨?_, ?_, ?_⟩
    ·first | rfl | omega | (simp_all; done) | (simp_all; omega)
    ·exact c27p7_
    ·(try simp only [List.length_append, List.length_cons, List.length_nil]); omega
   ·try dsimp only
    first | omega | (simp; omega) | (simp_all; omega)
 ·refine J_exit (ne_ (re_ (kh_ (n_ (q_ ?_)))))
  refine q_ (g_ (s_ mv_ (s_ (x_not rfl) (z_ (n_ ?_)))))
  refine if_ (fun h16 => ?_) (fun h16 => ?_)
  ·have h16w := h16
   have h16 : (found) = false := bnot_true h16
   refine drU [Ent.blk b3 33 [vL none 0 0, Value.pointer none], Ent.blk b2 27 (Change.enc c), Ent.blk b1 33 [vL dsA ds.length dsC, Value.pointer none]] [8] 10 Ty.mixed ?_
   refine jp_ 0 rfl mv_ (jp_ 1 rfl (fA 1 Ty.fi27_1) (jq_ 2 rfl (ld_ 1 Ty.sc3) (jq_ 3 rfl (ldN 1 (Change.enc c) Ty.ag27 Ty.sz27) (jp_ 4 rfl mv_ (j1_ 5 (jc0_ rfl (cl_ Ty.ca31) (fun w hS => f_changeN [] none 0 c key w RO.nil hy_) ?_) (fun _ h => ⟨h.keep [true, true, true, false] rfl, fun _ => h⟩))))))
   refine jt_ 6 (vG [vI c.Id, vL none (([] : List Pair).length) 0]) rfl (fun _ _ => x_build (by kernel_rfl)) ?_
   refine j1_ 7 (jio_ rfl (O_buildSlice (cs := [vI c.Id, vL none (([] : List Pair).length) 0]) Tryz.underlying30 Ty.sz56 Ty.ze56 (by decide) (by decide) (by kernel_rfl) fun b18 => ?_)) (fun _ h => ⟨h.keep [true, true, true, false] rfl, fun _ => h⟩)
   refine j1_ 8 (jio_ rfl (O_append_f 4 Data.enc 2 out [(Data.mk c.Id [] none 0)] Tryz.underlying30 Ty.sz56 Ty.by56 Ty.ze56 rfl (by decide) rfl rfl rfl rfl Data.enc_len Data.enc_one (cells_blk 0 (off := 0) (m := 2) rfl rfl) lt_ lt_ fun A21 c22 => ?_)) (fun _ h => ⟨h.keep [false, true, true, true, false] rfl, fun _ => h.keep [false, true, true, true, true] rfl⟩)
   refine jp_ 9 rfl av_ ?_
   refine JA_done (by kernel_rfl) (gl_ rfl (fun _ h => h.keep [false, true, true, true, false] rfl)) ?_
   refine n_ (q_ (g_ (s_ mv_ (s_ (fA 0 Ty.fi33_0) (o_ (st1 3 Ty.sz30 ?_))))))
   refine z_ (xk_ [3, 6] ?_)
   refine n_ (q_ (g_ (r_ (ldN 3 [vL A21 ((out ++ [(Data.mk c.Id [] none 0)]).length) c22, Value.pointer none] Ty.ag33 Ty.sz33) (o_ (stG 1 Ty.sz33 ?_)))))
   refine z_ (n_ (rt_ ?_))
   first
    | have hd := R27.don_old (by omega) i1_1 (by assumption)
    | have hd := R27.don_new (by omega) i1_1 (by assumption)
   refine JX_rets [_] _ Tryz.results9 (fun w h => ⟨⟨_, rfl, load_blkN 1 [vL A21 ((out ++ [(Data.mk c.Id [] none 0)]).length) c22, Value.pointer none] h rfl Ty.ag33 Ty.sz33 rfl⟩, trivial⟩) rfl _ (fun _ h => h.keep [false, false, false, false, true] rfl) ⟨A21, c22, ?_, ?_⟩
   ·have e_x0 : ((out ++ [(Data.mk c.Id [] none 0)]).length : Nat) = ((R27.doN ds c).length) := by first | exact congrArg List.length hd | exact hd
    exact congrArg (fun (x0 : Nat) => vG [vL A21 x0 c22, Value.pointer none]) e_x0
   ·have e_y0 : (out ++ [(Data.mk c.Id [] none 0)] : List Data) = (R27.doN ds c) := by
     first | exact congrArg List.length hd | exact hd
    have e_all := (congrArg (fun (y0 : List Data) => [Ent.row (.slice A21 y0.length c22) 56 2 y0.length (y0.flatMap Data.enc)]) e_y0)
    exact e_all
  ·have h16w := h16
   have h16 : (found) = true := bnot_false h16
   refine sk_ (n_ (q_ (g_ (s_ mv_ (s_ (fA 0 Ty.fi33_0) (o_ (st1 2 Ty.sz30 ?_)))))))
   refine z_ (n_ (q_ (g_ (r_ (ldN 2 [vL outA out.length outC, Value.pointer none] Ty.ag33 Ty.sz33) (o_ (stG 0 Ty.sz33 ?_))))))
   refine z_ (n_ (rt_ ?_))
   first
    | have hd := R27.don_old (by omega) i1_1 (by assumption)
    | have hd := R27.don_new (by omega) i1_1 (by assumption)
   refine JX_rets [_] _ Tryz.results9 (fun w h => ⟨⟨_, rfl, load_blkN 0 [vL outA out.length outC, Value.pointer none] h rfl Ty.ag33 Ty.sz33 rfl⟩, trivial⟩) rfl _ (fun _ h => h.keep [false, false, false, true] rfl) ⟨outA, outC, ?_, ?_⟩
   ·have e_x0 : (out.length : Nat) = ((R27.doN ds c).length) := by first | exact congrArg List.length hd | exact hd
    exact congrArg (fun (x0 : Nat) => vG [vL outA x0 outC, Value.pointer none]) e_x0
   ·have e_y0 : (out : List Data) = (R27.doN ds c) := by
     first | exact congrArg List.length hd | exact hd
    have e_all := (congrArg (fun (y0 : List Data) => [Ent.row (.slice outA y0.length outC) 56 2 y0.length (y0.flatMap Data.enc)]) e_y0)
    exact e_all
end Go.Proofs.YtmbinhhlfbgiaaaGreat
