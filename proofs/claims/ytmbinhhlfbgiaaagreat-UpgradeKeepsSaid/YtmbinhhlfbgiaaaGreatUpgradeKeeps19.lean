/- C26g, Pl27f, GvV in one text. -/
import Derived.Test.YtmbinhhlfbgiaaaGreatUpgradeKeeps16
import Derived.Test.YtmbinhhlfbgiaaaGreatUpgradeKeeps18
import Derived.Test.YtmbinhhlfbgiaaaGreatGvR
import Derived.Test.YtmbinhhlfbgiaaaGreatUpgradeKeeps5
namespace Go.Proofs.YtmbinhhlfbgiaaaGreat
open Go.GV
set_option linter.unusedVariables false
set_option linter.unusedSimpArgs false
theorem c26g0_ {p : Prop} (h : p := by simp only [List.length_take, List.length_drop]; omega) : p := h
theorem c26g1_ {p : Prop} (h : p := by first | exact (R26.add_yes (by assumption) (by omega)).symm | exact (R26.add_no (fun h3 => by simp_all; try omega)).symm) : p := h
theorem c26g2_ {p : Prop} (h : p := by first | exact (R26.ins_hit i1_0 i1_1 (by assumption) (by assumption)).symm | exact (R26.ins_new i1_0 i1_1 (by assumption) (by assumption)).symm) : p := h
theorem c26g3_ {p : Prop} (h : p := by first | exact R26.ref_yes (by omega) i1_1 (by assumption) | exact R26.ref_no (by omega) i1_1 (by assumption)) : p := h
set_option maxRecDepth 20000 in
theorem f55_ok (x : Pair) (a : Nat) (o : Nat) (xs : List Bytes) (xsA : Option Addr) (xsC : Nat) (xsN : Nat) (alt : DataSet) (w : World) (xsQ : xsN = xs.length) (q0 : x.key.length ≤ 1000) (q1 : x.record.length ≤ 1000) (q2 : xs.length ≤ 1000) (hg : Give (Lown [Ent.blk a 23 (DataSet.enc alt), Ent.blk o 40 [vL xsA xsN xsC], Ent.row (.slice xsA xsN xsC) 9 1 xsN (xs.map vS)]) w [Ent.blk a 23 (DataSet.enc alt), Ent.blk o 40 [vL xsA xsN xsC], Ent.row (.slice xsA xsN xsC) 9 1 xsN (xs.map vS)]) : Calls Tryz.prog 55 #[vG [vS x.key, vS x.record], pB a 0, pB o 0] w (Gives (Lown [Ent.blk a 23 (DataSet.enc alt), Ent.blk o 40 [vL xsA xsN xsC], Ent.row (.slice xsA xsN xsC) 9 1 xsN (xs.map vS)]) w fun v L => ∃ A2 : Option Addr, ∃ c2 : Nat, v = Value.tuple #[] ∧ L = [Ent.blk a 23 (DataSet.enc alt), Ent.blk o 40 [vL A2 ((R26.add alt x xs).length) c2], Ent.row (.slice A2 (R26.add alt x xs).length c2) 9 1 (R26.add alt x xs).length ((R26.add alt x xs).map vS)]) := by
 subst xsQ
 refine calls_J (Lown [Ent.blk a 23 (DataSet.enc alt), Ent.blk o 40 [vL xsA xs.length xsC], Ent.row (.slice xsA xs.length xsC) 9 1 xs.length (xs.map vS)]) 29 Tryz.func55 rfl Tryz.ntmps55 [(0, _), (1, _), (2, _)] rfl rfl hg ?_
 refine q_ (g_ (o_ (bxG fun b1 => ?_)))
 refine z_ (n_ (q_ (g_ (r_ (ldN 1 (DataSet.enc alt) Ty.ag23 Ty.sz23) (s_ (fA 1 Ty.fi54_1) (r_ (ld_ 0 Ty.sc9) (c0 (cl_ Ty.ca53) (fun w hS => f53_ok alt _ w) (s_ mv_ (s_ (ex_ 0) (s_ (ex_ 1) (s_ av_ (s_ av_ ?_))))))))))))
 refine z_ (n_ (q_ ?_))
 refine drB [] 9 Ty.mixed ?_
 refine jp_ 0 rfl mv_ (jp_ 1 rfl mv_ ?_)
 refine jb_ 14 (fun h2 => ?_) (fun h2 => ?_)
 ·have hi3 := R26.key_facts h2
  refine jp_ 2 rfl (fA 0 Ty.fi54_0) (jq_ 3 rfl (ld_ 0 Ty.sc9) (jp_ 4 rfl (x_len_s rfl Tryz.underlying9) (jq_ 5 rfl (ldN 1 (DataSet.enc alt) Ty.ag23 Ty.sz23) (j1_ 6 (jc0_ rfl (cl_ Ty.ca56) (fun w hS => f56_ok alt w hy_ hy_ hy_ hy_) (jp_ 7 rfl (x_eql_i rfl rfl) ?_ (hw := ⟨_, rfl, rfl⟩)) (hw := ⟨_, rfl, rfl⟩)) gm_) (hw := ⟨_, rfl, rfl⟩)) (hw := ⟨_, rfl, rfl⟩)) (hw := ⟨_, rfl, rfl⟩)) (hw := ⟨_, rfl, rfl⟩)
  refine jt_ 8 (vB (decide (((x.key.length : Nat) : Int) = alt.KeyLength - alt.AltLength))) rfl (fun _ _ => rfl) ?_
  refine JA_done (by kernel_rfl) gm_ ?_
  refine n_ ?_
  refine ifd (fun h4w h4 => ?_) (fun h4w h4 => ?_)
  ·refine g_ (r_ (ld_ 2 Ty.sc40) (s_ mv_ (s_ (fA 0 Ty.fi54_0) (r_ (ld_ 0 Ty.sc9) (s_ (x_cat_s rfl rfl (by first | omega | (simp only [List.length_append, List.length_cons, List.length_nil]; omega) | (simp; omega) | (simp_all; omega))) (o_ (O_buildSlice (cs := [vS (((R26.key alt x.record).1) ++ x.key)]) Tryz.underlying40 Ty.sz9 Ty.ze9 (by decide) (by decide) (by kernel_rfl) fun b5 => ?_)))))))
   refine o_ (O_append_m 4 vS xs [((R26.key alt x.record).1) ++ x.key] Tryz.underlying40 Ty.sz9 Ty.by9 Ty.ze9 rfl rfl rfl rfl rfl (fun _ => rfl) (cells_blk 0 (off := 0) (m := 1) rfl rfl) lt_ lt_ fun A6 c7 => ?_)
   refine o_ (st1 3 Ty.sz40 ?_)
   refine z_ ?_
   refine JX_end0 Tryz.results55 [Ent.blk a 23 (DataSet.enc alt), Ent.blk o 40 [vL A6 ((xs ++ [((R26.key alt x.record).1) ++ x.key]).length) c7], Ent.row (.slice A6 (xs ++ [((R26.key alt x.record).1) ++ x.key]).length c7) 9 1 (xs ++ [((R26.key alt x.record).1) ++ x.key]).length ((xs ++ [((R26.key alt x.record).1) ++ x.key]).map vS)] (fun _ h => h.keep [false, false, true, true, true] rfl) ⟨A6, c7, ?_, ?_⟩
   ·rfl
   ·have e_y0 : (xs ++ [((R26.key alt x.record).1) ++ x.key] : List Bytes) = (R26.add alt x xs) := by
     exact c26g1_
    have e_all := (congrArg (fun (y0 : List Bytes) => [Ent.blk a 23 (DataSet.enc alt), Ent.blk o 40 [vL A6 y0.length c7], Ent.row (.slice A6 y0.length c7) 9 1 y0.length (y0.map vS)]) e_y0)
    exact e_all
  ·refine sk_ ?_
   refine JX_end0 Tryz.results55 [Ent.blk a 23 (DataSet.enc alt), Ent.blk o 40 [vL xsA xs.length xsC], Ent.row (.slice xsA xs.length xsC) 9 1 xs.length (xs.map vS)] (fun _ h => h.keep [false, true, true, true] rfl) ⟨xsA, xsC, ?_, ?_⟩
   ·rfl
   ·have e_y0 : (xs : List Bytes) = (R26.add alt x xs) := by
     exact c26g1_
    have e_all := (congrArg (fun (y0 : List Bytes) => [Ent.blk a 23 (DataSet.enc alt), Ent.blk o 40 [vL xsA y0.length xsC], Ent.row (.slice xsA y0.length xsC) 9 1 y0.length (y0.map vS)]) e_y0)
    exact e_all
 ·refine js2_ 2 rfl (js2_ 3 rfl (js2_ 4 rfl (js2_ 5 rfl (js2_ 6 rfl (js2_ 7 rfl ?_)))))
  refine jt_ 8 (vB false) rfl (fun _ _ => rfl) ?_
  refine JA_done (by kernel_rfl) gm_ ?_
  refine n_ (iff_ (sk_ ?_))
  refine JX_end0 Tryz.results55 [Ent.blk a 23 (DataSet.enc alt), Ent.blk o 40 [vL xsA xs.length xsC], Ent.row (.slice xsA xs.length xsC) 9 1 xs.length (xs.map vS)] (fun _ h => h.keep [false, true, true, true] rfl) ⟨xsA, xsC, ?_, ?_⟩
  ·rfl
  ·have e_y0 : (xs : List Bytes) = (R26.add alt x xs) := by
    exact c26g1_
   have e_all := (congrArg (fun (y0 : List Bytes) => [Ent.blk a 23 (DataSet.enc alt), Ent.blk o 40 [vL xsA y0.length xsC], Ent.row (.slice xsA y0.length xsC) 9 1 y0.length (y0.map vS)]) e_y0)
   exact e_all
set_option maxRecDepth 20000 in
theorem f32_ok (alt : DataSet) (l : List Pair) (lA : Option Addr) (lC : Nat) (w : World) (lR : RO [] w lA (l.flatMap Pair.enc)) (q0 : l.length ≤ 1000) (q1 : ∀ i, i < l.length → (l.getD i default).key.length ≤ 1000 ∧ (l.getD i default).record.length ≤ 1000) : Calls Tryz.prog 32 #[vG (DataSet.enc alt), vL lA l.length lC] w (Gives [] w fun v L => ∃ A : Option Addr, ∃ c : Nat, v = vL A ((R26.recs alt l).length) c ∧ L = [Ent.row (.slice A (R26.recs alt l).length c) 9 1 (R26.recs alt l).length ((R26.recs alt l).map vS)]) := by
 refine calls_J [] 24 Tryz.func32 rfl Tryz.ntmps32 [(0, _), (1, _)] rfl rfl (Give.nil w) ?_
 refine q_ (g_ (o_ (bxG fun b1 => ?_)))
 refine s_ av_ (z_ (n_ (q_ (g_ (o_ (al_ Ty.ze40 fun b2 => ?_))))))
 refine z_ (n_ (q_ (g_ (js_ (Value.func (.func 55) #[] #[pB b1 0, pB b2 0]) (x_makeFunc rfl rfl) (s_ av_ (z_ (n_ (q_ (q_ (g_ (s_ mv_ (s_ (lnS Tryz.underlying42) (s_ mv_ (z_ (n_ (k_ ?_))))))))))))))))
 refine J_loop (X := Nat × (List Bytes) × (Option Addr) × Nat) (fun (⟨k, xs, xsA, xsC⟩ : Nat × (List Bytes) × (Option Addr) × Nat) => (k ≤ l.length) ∧ (xs = R26.ents alt (l.take k)) ∧ (xs.length ≤ k)) (fun (⟨k, xs, xsA, xsC⟩ : Nat × (List Bytes) × (Option Addr) × Nat) => [(4, vL none 0 0), (5, pB b2 0), (6, Value.func (.func 55) #[] #[pB b1 0, pB b2 0]), (10, vL lA l.length lC), (11, vI ((l.length : Nat) : Int)), (12, vI ((k : Nat) : Int))]) (fun (⟨k, xs, xsA, xsC⟩ : Nat × (List Bytes) × (Option Addr) × Nat) => [Ent.blk b2 40 [vL xsA xs.length xsC], Ent.blk b1 23 (DataSet.enc alt), Ent.row (.slice xsA xs.length xsC) 9 1 xs.length (xs.map vS)]) (fun (⟨k, xs, xsA, xsC⟩ : Nat × (List Bytes) × (Option Addr) × Nat) => l.length - k) ((0, ([] : List Bytes), none, 0) : Nat × (List Bytes) × (Option Addr) × Nat) ?_ ⟨rfl, rfl, rfl, rfl, rfl, rfl, trivial⟩ (fun _ h => (((h.nilrow 9 1).front 2 _ rfl).front 2 _ rfl).keep [true, true, true] rfl) ?_
 ·try dsimp only
  refine ⟨?_, ?_, ?_⟩
  ·first | rfl | omega | (simp_all; done) | (simp_all; omega)
  ·rfl
  ·exact Nat.le_refl _
 rintro ⟨k, xs, xsA, xsC⟩ hI1
 obtain ⟨i1_0, i1_1, i1_2⟩ := hI1
 try dsimp only at i1_0
 try dsimp only at i1_1
 try dsimp only at i1_2
 have hqk := q1 k
 try dsimp only
 refine q_ (g_ (s_ (x_lss_i rfl rfl) (z_ (n_ (q_ ?_)))))
 refine ifd (fun h3w h3 => ?_) (fun h3w h3 => ?_)
 ·refine sk_ (n_ (q_ (k_ (q_ (g_ (r_ (ixF Pair.enc_len (cells_ro lR) Tryz.underlying42 Ty.sz54) (r_ (ldFN Pair.enc_len (cells_ro lR) Ty.ag54 Ty.sz54) (o_ (al_ Ty.ze54 fun b4 => ?_)))))))))
  refine o_ (stG 0 Ty.sz54 ?_)
  refine z_ (n_ (g_ (s_ mv_ (r_ (ldN 0 [vS ((l.getD k default).key), vS ((l.getD k default).record)] Ty.ag54 Ty.sz54) ?_))))
  refine JO_call (Lown [Ent.blk b1 23 (DataSet.enc alt), Ent.blk b2 40 [vL xsA xs.length xsC], Ent.row (.slice xsA xs.length xsC) 9 1 xs.length (xs.map vS)]) [Ent.blk b1 23 (DataSet.enc alt), Ent.blk b2 40 [vL xsA xs.length xsC], Ent.row (.slice xsA xs.length xsC) 9 1 xs.length (xs.map vS)] [Ent.blk b4 54 [vS ((l.getD k default).key), vS ((l.getD k default).record)]] rfl trivial (fun _ => x_callv (first := []) (caps := [pB b1 0, pB b2 0]) rfl Ty.ca55 rfl) (fun _ h => (((h.front 3 _ rfl).front 2 _ rfl).front 3 _ rfl).keep [true, true, true, true] rfl) lown_mem (fun w hS => f55_ok (l.getD k default) b1 b2 xs xsA xsC xs.length alt w hy_ hy_ hy_ hy_ (hS.give lown_in)) ?_
  rintro _ _ ⟨e5, e6, rfl, rfl⟩
  have ha7 := R26.add_len alt (l.getD k default) xs
  refine z_ (kx_ (n_ (g_ (s_ (x_add_n (a := k) (b := 1) rfl rfl (by omega)) (s_ mv_ (z_ ?_))))))
  refine JX_round ((k + 1, (R26.add alt (l.getD k default) xs), e5, e6) : Nat × (List Bytes) × (Option Addr) × Nat) ?_ ?_ ⟨rfl, rfl, rfl, rfl, rfl, rfl, trivial⟩ (fun _ h => (((h.front 2 _ rfl).front 1 _ rfl).front 2 _ rfl).keep [true, true, true, false] rfl)
  ·try dsimp only
   refine ⟨?_, ?_, ?_⟩
   ·first | rfl | omega | (simp_all; done) | (simp_all; omega)
   ·rw [i1_1]; exact (R26.flat_step (by omega)).symm
   ·omega
  ·try dsimp only
   first | omega | (simp; omega) | (simp_all; omega)
 ·refine J_exit (ne_ (re_ (kh_ (n_ (q_ ?_)))))
  refine g_ (r_ (ld_ 0 Ty.sc40) ?_)
  refine JO_call (Lown [Ent.row (.slice xsA xs.length xsC) 9 1 xs.length (xs.map vS)]) [Ent.row (.slice xsA xs.length xsC) 9 1 xs.length (xs.map vS)] [Ent.blk b2 40 [vL xsA xs.length xsC], Ent.blk b1 23 (DataSet.enc alt)] rfl trivial (fun _ => x_call Ty.ca42 rfl) (fun _ h => (((h.front 1 _ rfl).front 1 _ rfl).front 2 _ rfl).keep [true, true, true] rfl) lown_mem (fun w hS => sort_ok xs xsA xsC xs.length w (by first | rfl | exact (srt_length _).symm) (by first | omega | (rw [srt_length]; omega)) (hS.give lown_in)) ?_
  rintro _ _ ⟨rfl, rfl⟩
  refine z_ (n_ (q_ (g_ (r_ (ld_ 1 Ty.sc40) ?_))))
  refine JO_call (Lown [Ent.row (.slice xsA xs.length xsC) 9 1 xs.length ((srt xs).map vS)]) [Ent.row (.slice xsA xs.length xsC) 9 1 xs.length ((srt xs).map vS)] [Ent.blk b2 40 [vL xsA xs.length xsC], Ent.blk b1 23 (DataSet.enc alt)] rfl trivial (fun _ => x_call Ty.ca57 rfl) (fun _ h => h) lown_mem (fun w hS => compact_ok (srt xs) xsA xsC xs.length w (by first | rfl | exact (srt_length _).symm) (by first | omega | (rw [srt_length]; omega)) (hS.give lown_in)) ?_
  rintro _ _ ⟨rfl, rfl⟩
  refine s_ av_ (z_ (n_ (rt_ ?_)))
  refine JX_rets [_] _ Tryz.results32 (fun w h => ⟨rfl, trivial⟩) rfl _ (fun _ h => h.keep [true, false, false] rfl) ⟨xsA, xsC, ?_, ?_⟩
  ·have e_x0 : ((cmp (srt xs)).length : Nat) = ((R26.recs alt l).length) := by rw [i1_1, show k = l.length by omega, List.take_length]; rfl
   exact congrArg (fun (x0 : Nat) => vL xsA x0 xsC) e_x0
  ·have e_y0 : (cmp (srt xs) : List Bytes) = (R26.recs alt l) := by
    rw [i1_1, show k = l.length by omega, List.take_length]; rfl
   have e_all := (congrArg (fun (y0 : List Bytes) => [Ent.row (.slice xsA y0.length xsC) 9 1 y0.length (y0.map vS)]) e_y0)
   exact e_all
set_option maxRecDepth 20000 in
theorem f44_ok (l : List Bytes) (lA : Option Addr) (lC : Nat) (lN : Nat) (s : Bytes) (w : World) (lQ : lN = l.length) (q0 : l.length ≤ 1000) (hg : Give (Lown [Ent.row (.slice lA lN lC) 9 1 lN (l.map vS)]) w [Ent.row (.slice lA lN lC) 9 1 lN (l.map vS)]) : Calls Tryz.prog 44 #[vL lA lN lC, vS s] w (Gives (Lown [Ent.row (.slice lA lN lC) 9 1 lN (l.map vS)]) w fun v L => ∃ A2 : Option Addr, ∃ c2 : Nat, v = vL A2 ((Ord.ins l s).length) c2 ∧ L = [Ent.row (.slice A2 (Ord.ins l s).length c2) 9 1 (Ord.ins l s).length ((Ord.ins l s).map vS)]) := by
 subst lQ
 refine calls_J (Lown [Ent.row (.slice lA l.length lC) 9 1 l.length (l.map vS)]) 47 Tryz.func44 rfl Tryz.ntmps44 [(0, _), (1, _)] rfl rfl hg ?_
 refine q_ (g_ (s_ av_ (z_ (n_ (q_ (g_ (s_ av_ (z_ (n_ (q_ (k_ ?_)))))))))))
 refine J_loop (X := Nat) (fun (k : Nat) => (k ≤ l.length) ∧ (∀ i, i < k → Op.bytesLess (l.getD i []) s = true)) (fun (k : Nat) => [(0, vL lA l.length lC), (1, vS s), (4, vL none 0 0), (5, vI ((k : Nat) : Int))]) (fun (k : Nat) => [Ent.row (.slice lA l.length lC) 9 1 l.length (l.map vS)]) (fun (k : Nat) => l.length - k) (0 : Nat) ?_ ⟨rfl, rfl, rfl, rfl, trivial⟩ (fun _ h => h) ?_
 ·try dsimp only
  refine ⟨?_, ?_⟩
  ·first | rfl | omega | (simp_all; done) | (simp_all; omega)
  ·intro i hi; omega
 intro k hI1
 obtain ⟨i1_0, i1_1⟩ := hI1
 try dsimp only at i1_0
 try dsimp only at i1_1
 try dsimp only
 refine q_ (q_ (g_ (s_ mv_ (s_ mv_ (s_ (lnS Tryz.underlying40) (s_ (x_lss_i rfl rfl) (s_ mv_ ?_)))))))
 refine and_ 6 (Op.bytesLess (l.getD k []) s) (fun g1 => ?_) ?_
 ·have g1r := g1
  have g1r := of_decide_eq_true g1r
  refine sg_ g1 mv_ (sg_ g1 mv_ (rg_ g1 (ixM (cells_row 0 rfl) Tryz.underlying40 Ty.sz9) (rg_ g1 (ldM vS [] (cells_row 0 rfl) Ty.sc9) (sg_ g1 mv_ (sg_ g1 (x_lss_s rfl rfl) ?_)))))
  exact cr_
 refine z_ (n_ ?_)
 refine if_ (fun h2 => ?_) (fun h2 => ?_)
 ·have h2w := h2
  have ⟨h2, h3⟩ := band_true h2
  have h2 := of_decide_eq_true h2
  refine sk_ (n_ (k_ (g_ (s_ mv_ (s_ (x_add_n (a := k) (b := 1) rfl rfl (by omega)) (s_ av_ (z_ (kx_ ?_))))))))
  refine JX_round (k + 1 : Nat) ?_ ?_ ⟨rfl, rfl, rfl, rfl, trivial⟩ (fun _ h => h)
  ·try dsimp only
   refine ⟨?_, ?_⟩
   ·first | rfl | omega | (simp_all; done) | (simp_all; omega)
   ·intro i hi
    by_cases hik : i = k
    ·subst hik; exact (R26.ins_go (by assumption)).2
    ·exact i1_1 i (by omega)
  ·try dsimp only
   first | omega | (simp; omega) | (simp_all; omega)
 ·have h2w := h2
  simp only [Bool.and_eq_true, Bool.or_eq_true, Bool.and_eq_false_iff, Bool.or_eq_false_iff, Bool.not_eq_true', Bool.not_eq_false', decide_eq_true_eq, decide_eq_false_iff_not] at h2
  refine J_exit (ne_ (re_ (kh_ (n_ (q_ ?_)))))
  refine q_ (g_ (s_ mv_ (s_ mv_ (s_ (lnS Tryz.underlying40) (s_ (x_lss_i rfl rfl) (s_ mv_ ?_))))))
  refine and_ 6 (decide ((l.getD k []) = s)) (fun g4 => ?_) ?_
  ·have g4r := g4
   have g4r := of_decide_eq_true g4r
   refine sg_ g4 mv_ (sg_ g4 mv_ (rg_ g4 (ixM (cells_row 0 rfl) Tryz.underlying40 Ty.sz9) (rg_ g4 (ldM vS [] (cells_row 0 rfl) Ty.sc9) (sg_ g4 mv_ (sg_ g4 (x_eql_s rfl rfl) ?_)))))
   exact cr_
  refine z_ (n_ ?_)
  refine if_ (fun h5 => ?_) (fun h5 => ?_)
  ·have h5w := h5
   have ⟨h5, h6⟩ := band_true h5
   have h5 := of_decide_eq_true h5
   have h6 := of_decide_eq_true h6
   refine q_ (g_ (s_ mv_ (s_ av_ (z_ (n_ (rt_ (nr_ ?_)))))))
   refine JX_rets [_] _ Tryz.results44 (fun w h => ⟨rfl, trivial⟩) rfl _ (fun _ h => h) ⟨lA, lC, ?_, ?_⟩
   ·have e_x0 : (l.length : Nat) = ((Ord.ins l s).length) := by first | exact congrArg List.length (R26.ins_hit i1_0 i1_1 (by assumption) (by assumption)).symm | exact congrArg List.length (R26.ins_new i1_0 i1_1 (by assumption) (by assumption)).symm
    exact congrArg (fun (x0 : Nat) => vL lA x0 lC) e_x0
   ·have e_y0 : (l : List Bytes) = (Ord.ins l s) := by
     exact c26g2_
    have e_all := (congrArg (fun (y0 : List Bytes) => [Ent.row (.slice lA y0.length lC) 9 1 y0.length (y0.map vS)]) e_y0)
    exact e_all
  ·have h5w := h5
   simp only [Bool.and_eq_true, Bool.or_eq_true, Bool.and_eq_false_iff, Bool.or_eq_false_iff, Bool.not_eq_true', Bool.not_eq_false', decide_eq_true_eq, decide_eq_false_iff_not] at h5
   refine sk_ (n_ (q_ (g_ (o_ (O_buildSlice0 Tryz.underlying40 Ty.sz9 fun b7 => ?_)))))
   refine s_ mv_ (s_ mv_ (r_ (x_subrow_row 1 (lo := 0) (hi := k) rfl rfl Tryz.underlying40 Ty.sz9 (.inr ⟨rfl, rfl⟩) (.inl rfl) lt_ lt_) ?_))
   refine JO_weaken (E' := [(0, vL lA l.length lC), (1, vS s), (4, vL none 0 0), (5, vI ((k : Nat) : Int)), (7, vI ((k : Nat) : Int)), (8, vL lA l.length lC), (9, vI ((l.length : Nat) : Int)), (10, vB (decide (((k : Nat) : Int) < ((l.length : Nat) : Int)))), (11, vB (decide (((k : Nat) : Int) < ((l.length : Nat) : Int)))), (18, vB ((decide (((k : Nat) : Int) < ((l.length : Nat) : Int))) && (Op.bytesLess (l.getD k []) s))), (21, vI ((k : Nat) : Int)), (22, vL lA l.length lC), (23, vI ((l.length : Nat) : Int)), (24, vB (decide (((k : Nat) : Int) < ((l.length : Nat) : Int)))), (25, vB (decide (((k : Nat) : Int) < ((l.length : Nat) : Int)))), (32, vB ((decide (((k : Nat) : Int) < ((l.length : Nat) : Int))) && (decide ((l.getD k []) = s)))), (34, vL (some ⟨b7, 0, none⟩) ((([] : List Bytes)).length) 0), (35, vL lA l.length lC), (36, vI ((k : Nat) : Int)), (37, vL (subA lA lC 0 1) k lC)]) (L' := [Ent.row (.slice (some ⟨b7, 0, none⟩) ([] : List Bytes).length 0) 9 1 ([] : List Bytes).length (([] : List Bytes).map vS), Ent.row (.slice lA l.length lC) 9 1 l.length (l.map vS)]) ⟨rfl, rfl, rfl, rfl, rfl, rfl, rfl, rfl, rfl, rfl, rfl, rfl, rfl, rfl, rfl, rfl, rfl, rfl, rfl, rfl, trivial⟩ (fun _ h => (St.torow (cs := []) ((h.front 1 _ rfl).front 1 _ rfl) 1 0 rfl (by decide)).keep [true, true] rfl) ?_
   refine o_ (O_append_m 0 vS ([] : List Bytes) ((l.drop 0).take (k - 0)) Tryz.underlying40 Ty.sz9 Ty.by9 Ty.ze9 rfl rfl rfl rfl c26g0_ (fun _ => rfl) (cells_sub_row 1 vS 0 k rfl lt_ lt_) lt_ lt_ fun A8 c9 => ?_)
   refine s_ av_ (z_ (xk_ [0, 1, 4, 5, 6] ?_))
   refine n_ (q_ ?_)
   refine drU [] [3, 7] 9 Ty.mixed ?_
   refine jp_ 0 rfl mv_ (jp_ 1 rfl mv_ (jp_ 4 rfl mv_ (jp_ 5 rfl mv_ ?_)))
   refine JA_finX (X := (Option Addr) × Nat) (fun ⟨A15, c16⟩ => [(4, vL A15 ((((([] : List Bytes) ++ ((l.drop 0).take (k - 0))) ++ [s]) ++ ((l.drop k).take (l.length - k))).length) c16)]) (fun ⟨A15, c16⟩ => [Ent.row (.slice A15 (((([] : List Bytes) ++ ((l.drop 0).take (k - 0))) ++ [s]) ++ ((l.drop k).take (l.length - k))).length c16) 9 1 (((([] : List Bytes) ++ ((l.drop 0).take (k - 0))) ++ [s]) ++ ((l.drop k).take (l.length - k))).length ((((([] : List Bytes) ++ ((l.drop 0).take (k - 0))) ++ [s]) ++ ((l.drop k).take (l.length - k))).map vS), Ent.row (.slice lA l.length lC) 9 1 l.length (l.map vS)]) ?_ (fun key10 => ?_)
   ·rintro ⟨A15, c16⟩
    show JX _ _ _ _ _ [(4, vL A15 ((((([] : List Bytes) ++ ((l.drop 0).take (k - 0))) ++ [s]) ++ ((l.drop k).take (l.length - k))).length) c16)] [Ent.row (.slice A15 (((([] : List Bytes) ++ ((l.drop 0).take (k - 0))) ++ [s]) ++ ((l.drop k).take (l.length - k))).length c16) 9 1 (((([] : List Bytes) ++ ((l.drop 0).take (k - 0))) ++ [s]) ++ ((l.drop k).take (l.length - k))).length ((((([] : List Bytes) ++ ((l.drop 0).take (k - 0))) ++ [s]) ++ ((l.drop k).take (l.length - k))).map vS), Ent.row (.slice lA l.length lC) 9 1 l.length (l.map vS)]
    refine n_ (rt_ ?_)
    refine JX_rets [_] _ Tryz.results44 (fun w h => ⟨rfl, trivial⟩) rfl _ (fun _ h => h.keep [true, false] rfl) ⟨A15, c16, ?_, ?_⟩
    ·have e_x0 : ((((([] : List Bytes) ++ ((l.drop 0).take (k - 0))) ++ [s]) ++ ((l.drop k).take (l.length - k))).length : Nat) = ((Ord.ins l s).length) := by first | exact congrArg List.length (R26.ins_hit i1_0 i1_1 (by assumption) (by assumption)).symm | exact congrArg List.length (R26.ins_new i1_0 i1_1 (by assumption) (by assumption)).symm
     exact congrArg (fun (x0 : Nat) => vL A15 x0 c16) e_x0
    ·have e_y0 : (((([] : List Bytes) ++ ((l.drop 0).take (k - 0))) ++ [s]) ++ ((l.drop k).take (l.length - k)) : List Bytes) = (Ord.ins l s) := by
      exact c26g2_
     have e_all := (congrArg (fun (y0 : List Bytes) => [Ent.row (.slice A15 y0.length c16) 9 1 y0.length (y0.map vS)]) e_y0)
     exact e_all
   ·refine JA_ready (rs := [2, 6]) (by kernel_rfl) (by decide) (fun _ h => ⟨h.keep [false, false] rfl, fun _ => h⟩) (List.forall_mem_cons.2 ⟨?_, (List.forall_mem_cons.2 ⟨?_, all_nil⟩)⟩)
    ·refine jio_ rfl (O_buildSlice (cs := [vS s]) Tryz.underlying40 Ty.sz9 Ty.ze9 (by decide) (by decide) (by kernel_rfl) fun b11 => ?_)
     refine JA_ready (rs := [3, 6]) (by kernel_rfl) (by decide) (fun _ h => ⟨h.keep [false, false, false] rfl, fun _ => h.keep [false, true, true] rfl⟩) (List.forall_mem_cons.2 ⟨?_, (List.forall_mem_cons.2 ⟨?_, all_nil⟩)⟩)
     ·refine jio_ rfl (O_append_m 1 vS (([] : List Bytes) ++ ((l.drop 0).take (k - 0))) [s] Tryz.underlying40 Ty.sz9 Ty.by9 Ty.ze9 rfl rfl rfl rfl rfl (fun _ => rfl) (cells_blk 0 (off := 0) (m := 1) rfl rfl) lt_ lt_ fun A12 c13 => ?_)
      refine j1_ 6 (jir_ rfl (x_subrow_row 2 (lo := k) (hi := l.length) rfl rfl Tryz.underlying40 Ty.sz9 (.inl rfl) (.inr ⟨rfl, rfl⟩) lt_ lt_) (j1_ 7 (jio_ rfl (O_append_m 1 vS ((([] : List Bytes) ++ ((l.drop 0).take (k - 0))) ++ [s]) ((l.drop k).take (l.length - k)) Tryz.underlying40 Ty.sz9 Ty.by9 Ty.ze9 rfl rfl rfl rfl c26g0_ (fun _ => rfl) (cells_sub_row 2 vS k l.length rfl lt_ lt_) lt_ lt_ fun A16 c17 => ?_)) (gl_ rfl (fun _ h => h.keep [false, false, false] rfl)))) (gl_ rfl (fun _ h => h.keep [false, false, false] rfl))
      refine jp_ 8 rfl av_ ?_
      exact JA_done (by kernel_rfl) (gl_ rfl (fun _ h => h.keep [false, false, false] rfl)) (JX_weaken (E' := [(4, vL A16 ((((([] : List Bytes) ++ ((l.drop 0).take (k - 0))) ++ [s]) ++ ((l.drop k).take (l.length - k))).length) c17)]) (L' := [Ent.row (.slice A16 (((([] : List Bytes) ++ ((l.drop 0).take (k - 0))) ++ [s]) ++ ((l.drop k).take (l.length - k))).length c17) 9 1 (((([] : List Bytes) ++ ((l.drop 0).take (k - 0))) ++ [s]) ++ ((l.drop k).take (l.length - k))).length ((((([] : List Bytes) ++ ((l.drop 0).take (k - 0))) ++ [s]) ++ ((l.drop k).take (l.length - k))).map vS), Ent.row (.slice lA l.length lC) 9 1 l.length (l.map vS)]) ⟨rfl, trivial⟩ (fun _ h => h.keep [false, true, true] rfl) (key10 (A16, c17)))
     ·refine jir_ rfl (x_subrow_row 2 (lo := k) (hi := l.length) rfl rfl Tryz.underlying40 Ty.sz9 (.inl rfl) (.inr ⟨rfl, rfl⟩) lt_ lt_) (j1_ 3 (jio_ rfl (O_append_m 1 vS (([] : List Bytes) ++ ((l.drop 0).take (k - 0))) [s] Tryz.underlying40 Ty.sz9 Ty.by9 Ty.ze9 rfl rfl rfl rfl rfl (fun _ => rfl) (cells_blk 0 (off := 0) (m := 1) rfl rfl) lt_ lt_ fun A20 c21 => ?_)) (fun _ h => ⟨h.keep [false, false, false] rfl, fun _ => h.keep [false, true, true] rfl⟩))
      refine j1_ 7 (jio_ rfl (O_append_m 1 vS ((([] : List Bytes) ++ ((l.drop 0).take (k - 0))) ++ [s]) ((l.drop k).take (l.length - k)) Tryz.underlying40 Ty.sz9 Ty.by9 Ty.ze9 rfl rfl rfl rfl c26g0_ (fun _ => rfl) (cells_sub_row 2 vS k l.length rfl lt_ lt_) lt_ lt_ fun A24 c25 => ?_)) (gl_ rfl (fun _ h => h.keep [false, false, false] rfl))
      refine jp_ 8 rfl av_ ?_
      exact JA_done (by kernel_rfl) (gl_ rfl (fun _ h => h.keep [false, false, false] rfl)) (JX_weaken (E' := [(4, vL A24 ((((([] : List Bytes) ++ ((l.drop 0).take (k - 0))) ++ [s]) ++ ((l.drop k).take (l.length - k))).length) c25)]) (L' := [Ent.row (.slice A24 (((([] : List Bytes) ++ ((l.drop 0).take (k - 0))) ++ [s]) ++ ((l.drop k).take (l.length - k))).length c25) 9 1 (((([] : List Bytes) ++ ((l.drop 0).take (k - 0))) ++ [s]) ++ ((l.drop k).take (l.length - k))).length ((((([] : List Bytes) ++ ((l.drop 0).take (k - 0))) ++ [s]) ++ ((l.drop k).take (l.length - k))).map vS), Ent.row (.slice lA l.length lC) 9 1 l.length (l.map vS)]) ⟨rfl, trivial⟩ (fun _ h => h.keep [false, true, true] rfl) (key10 (A24, c25)))
    ·refine jir_ rfl (x_subrow_row 1 (lo := k) (hi := l.length) rfl rfl Tryz.underlying40 Ty.sz9 (.inl rfl) (.inr ⟨rfl, rfl⟩) lt_ lt_) (j1_ 2 (jio_ rfl (O_buildSlice (cs := [vS s]) Tryz.underlying40 Ty.sz9 Ty.ze9 (by decide) (by decide) (by kernel_rfl) fun b27 => ?_)) (fun _ h => ⟨h.keep [false, false] rfl, fun _ => h⟩))
     refine j1_ 3 (jio_ rfl (O_append_m 1 vS (([] : List Bytes) ++ ((l.drop 0).take (k - 0))) [s] Tryz.underlying40 Ty.sz9 Ty.by9 Ty.ze9 rfl rfl rfl rfl rfl (fun _ => rfl) (cells_blk 0 (off := 0) (m := 1) rfl rfl) lt_ lt_ fun A30 c31 => ?_)) (fun _ h => ⟨h.keep [false, false, false] rfl, fun _ => h.keep [false, true, true] rfl⟩)
     refine j1_ 7 (jio_ rfl (O_append_m 1 vS ((([] : List Bytes) ++ ((l.drop 0).take (k - 0))) ++ [s]) ((l.drop k).take (l.length - k)) Tryz.underlying40 Ty.sz9 Ty.by9 Ty.ze9 rfl rfl rfl rfl c26g0_ (fun _ => rfl) (cells_sub_row 2 vS k l.length rfl lt_ lt_) lt_ lt_ fun A34 c35 => ?_)) (gl_ rfl (fun _ h => h.keep [false, false, false] rfl))
     refine jp_ 8 rfl av_ ?_
     exact JA_done (by kernel_rfl) (gl_ rfl (fun _ h => h.keep [false, false, false] rfl)) (JX_weaken (E' := [(4, vL A34 ((((([] : List Bytes) ++ ((l.drop 0).take (k - 0))) ++ [s]) ++ ((l.drop k).take (l.length - k))).length) c35)]) (L' := [Ent.row (.slice A34 (((([] : List Bytes) ++ ((l.drop 0).take (k - 0))) ++ [s]) ++ ((l.drop k).take (l.length - k))).length c35) 9 1 (((([] : List Bytes) ++ ((l.drop 0).take (k - 0))) ++ [s]) ++ ((l.drop k).take (l.length - k))).length ((((([] : List Bytes) ++ ((l.drop 0).take (k - 0))) ++ [s]) ++ ((l.drop k).take (l.length - k))).map vS), Ent.row (.slice lA l.length lC) 9 1 l.length (l.map vS)]) ⟨rfl, trivial⟩ (fun _ h => h.keep [false, true, true] rfl) (key10 (A34, c35)))
set_option maxRecDepth 20000 in
theorem f17_ok (alt : DataSet) (l : List Pair) (lA : Option Addr) (lC : Nat) (w : World) (lR : RO [] w lA (l.flatMap Pair.enc)) (q0 : l.length ≤ 1000) (q1 : ∀ i, i < l.length → (l.getD i default).key.length ≤ 1000 ∧ (l.getD i default).record.length ≤ 1000) : Calls Tryz.prog 17 #[vG (DataSet.enc alt), vL lA l.length lC] w (Gives [] w fun v L => ∃ A : Option Addr, ∃ c : Nat, v = vL A ((R26.recs alt l).length) c ∧ L = [Ent.row (.slice A (R26.recs alt l).length c) 9 1 (R26.recs alt l).length ((R26.recs alt l).map vS)]) := by
 refine calls_J [] 48 Tryz.func17 rfl Tryz.ntmps17 [(0, _), (1, _)] rfl rfl (Give.nil w) ?_
 refine q_ (g_ (o_ (bxG fun b1 => ?_)))
 refine s_ av_ (z_ (n_ (q_ (g_ (o_ (O_buildSlice0 Tryz.underlying40 Ty.sz9 fun b2 => ?_))))))
 refine s_ av_ (z_ (n_ (q_ (q_ (g_ (s_ av_ (z_ (n_ (k_ ?_)))))))))
 refine J_loop (X := Nat × (List Bytes) × (Option Addr) × Nat) (fun (⟨k, xs, xsA, xsC⟩ : Nat × (List Bytes) × (Option Addr) × Nat) => (k ≤ l.length) ∧ (xs = Ord.insl (R26.ents alt (l.take k))) ∧ (xs.length ≤ k)) (fun (⟨k, xs, xsA, xsC⟩ : Nat × (List Bytes) × (Option Addr) × Nat) => [(1, vL lA l.length lC), (2, pB b1 0), (4, vL none 0 0), (5, vL xsA xs.length xsC), (6, vI ((k : Nat) : Int))]) (fun (⟨k, xs, xsA, xsC⟩ : Nat × (List Bytes) × (Option Addr) × Nat) => [Ent.blk b1 23 (DataSet.enc alt), Ent.row (.slice xsA xs.length xsC) 9 1 xs.length (xs.map vS)]) (fun (⟨k, xs, xsA, xsC⟩ : Nat × (List Bytes) × (Option Addr) × Nat) => l.length - k) ((0, ([] : List Bytes), (some ⟨b2, 0, none⟩), 0) : Nat × (List Bytes) × (Option Addr) × Nat) ?_ ⟨rfl, rfl, rfl, rfl, rfl, trivial⟩ (fun _ h => ((St.torow (cs := []) h 1 0 rfl (by decide)).front 1 _ rfl).keep [true, true] rfl) ?_
 ·try dsimp only
  refine ⟨?_, ?_, ?_⟩
  ·first | rfl | omega | (simp_all; done) | (simp_all; omega)
  ·rfl
  ·exact Nat.le_refl _
 rintro ⟨k, xs, xsA, xsC⟩ hI1
 obtain ⟨i1_0, i1_1, i1_2⟩ := hI1
 try dsimp only at i1_0
 try dsimp only at i1_1
 try dsimp only at i1_2
 have hqk := q1 k
 try dsimp only
 refine q_ (q_ (g_ (s_ mv_ (s_ mv_ (s_ (lnS Tryz.underlying42) (s_ (x_lss_i rfl rfl) (z_ (n_ ?_))))))))
 refine ifd (fun h3w h3 => ?_) (fun h3w h3 => ?_)
 ·refine sk_ (n_ (q_ (k_ (q_ ?_))))
  refine drB [] 12 Ty.mixed ?_
  refine jq_ 0 rfl (ldN 0 (DataSet.enc alt) Ty.ag23 Ty.sz23) (jp_ 1 rfl mv_ (jp_ 2 rfl mv_ (jq_ 3 rfl (ixF Pair.enc_len (cells_ro lR) Tryz.underlying42 Ty.sz54) (jp_ 4 rfl (fB Ty.fi54_1) (jq_ 5 rfl (ldF 1 Pair.enc_len (cells_ro lR) Ty.sc9) (j1_ 6 (jc0_ rfl (cl_ Ty.ca35) (fun w hS => f35_ok alt _ w) (jp_ 7 rfl mv_ (jp_ 8 rfl (ex_ 0) ?_))) gm_))))))
  refine jp_ 9 rfl (ex_ 1) (jp_ 10 rfl av_ (jp_ 11 rfl av_ ?_))
  refine JA_done (by kernel_rfl) gm_ ?_
  refine n_ (q_ ?_)
  refine drB [] 13 Ty.mixed ?_
  refine jq_ 0 rfl (ldN 0 (DataSet.enc alt) Ty.ag23 Ty.sz23) (jp_ 1 rfl mv_ (jp_ 2 rfl mv_ (jp_ 3 rfl mv_ (jq_ 4 rfl (ixF Pair.enc_len (cells_ro lR) Tryz.underlying42 Ty.sz54) (jp_ 5 rfl (fB0 Ty.fi54_0) (jq_ 6 rfl (ldF0 Pair.enc_len (cells_ro lR) Ty.sc9) (j1_ 7 (jc0_ rfl (cl_ Ty.ca43) (fun w hS => f43_ok alt _ _ w) (jp_ 8 rfl mv_ ?_)) gm_)))))))
  refine jp_ 9 rfl (ex_ 0) (jp_ 10 rfl (ex_ 1) (jp_ 11 rfl av_ (jp_ 12 rfl av_ ?_)))
  refine JA_done (by kernel_rfl) gm_ ?_
  refine n_ (q_ (g_ (s_ mv_ (s_ mv_ ?_))))
  refine and_ 2 (decide ((R26.record alt ((R26.key alt ((l.getD k default).record)).1) ((l.getD k default).key)).2 = 0)) (fun g4 => ?_) ?_
  ·have g4r := g4
   have hi5 := R26.key_facts g4r
   refine sg_ g4 mv_ (sg_ g4 (x_eql_i rfl rfl) ?_)
   exact cr_
  refine z_ (xk_ [1, 2, 4, 5, 6, 9, 43] ?_)
  refine n_ ?_
  refine if_ (fun h6 => ?_) (fun h6 => ?_)
  ·have h6w := h6
   have ⟨h6, h7⟩ := band_true h6
   have hi8 := R26.key_facts h6
   have h7 := of_decide_eq_true h7
   refine g_ (s_ mv_ (s_ mv_ ?_))
   refine JO_call (Lown [Ent.row (.slice xsA xs.length xsC) 9 1 xs.length (xs.map vS)]) [Ent.row (.slice xsA xs.length xsC) 9 1 xs.length (xs.map vS)] [Ent.blk b1 23 (DataSet.enc alt)] rfl trivial (fun _ => x_call Ty.ca44 rfl) (fun _ h => (h.front 1 _ rfl).keep [true, true] rfl) lown_mem (fun w hS => f44_ok xs xsA xsC xs.length ((R26.record alt ((R26.key alt ((l.getD k default).record)).1) ((l.getD k default).key)).1) w hy_ hy_ (hS.give lown_in)) ?_
   rintro _ _ ⟨e9, e10, rfl, rfl⟩
   have ha11 := Ord.ins_len xs ((R26.record alt ((R26.key alt ((l.getD k default).record)).1) ((l.getD k default).key)).1)
   refine s_ av_ (z_ (kx_ (n_ (g_ (s_ mv_ (s_ (x_add_n (a := k) (b := 1) rfl rfl (by omega)) (s_ av_ (z_ ?_))))))))
   refine JX_round ((k + 1, (Ord.ins xs ((R26.record alt ((R26.key alt ((l.getD k default).record)).1) ((l.getD k default).key)).1)), e9, e10) : Nat × (List Bytes) × (Option Addr) × Nat) ?_ ?_ ⟨rfl, rfl, rfl, rfl, rfl, trivial⟩ (fun _ h => (h.front 1 _ rfl).keep [true, true] rfl)
   ·try dsimp only
    refine ⟨?_, ?_, ?_⟩
    ·first | rfl | omega | (simp_all; done) | (simp_all; omega)
    ·exact c26g3_
    ·omega
   ·try dsimp only
    first | omega | (simp; omega) | (simp_all; omega)
  ·have h6w := h6
   simp only [Bool.and_eq_true, Bool.or_eq_true, Bool.and_eq_false_iff, Bool.or_eq_false_iff, Bool.not_eq_true', Bool.not_eq_false', decide_eq_true_eq, decide_eq_false_iff_not] at h6
   refine sk_ (kx_ (n_ (g_ (s_ mv_ (s_ (x_add_n (a := k) (b := 1) rfl rfl (by omega)) (s_ av_ (z_ ?_)))))))
   refine JX_round ((k + 1, xs, xsA, xsC) : Nat × (List Bytes) × (Option Addr) × Nat) ?_ ?_ ⟨rfl, rfl, rfl, rfl, rfl, trivial⟩ (fun _ h => h)
   ·try dsimp only
    refine ⟨?_, ?_, ?_⟩
    ·first | rfl | omega | (simp_all; done) | (simp_all; omega)
    ·exact c26g3_
    ·omega
   ·try dsimp only
    first | omega | (simp; omega) | (simp_all; omega)
 ·refine J_exit (ne_ (re_ (kh_ (n_ (q_ ?_)))))
  refine g_ (s_ mv_ (s_ av_ (z_ (n_ (rt_ ?_)))))
  refine JX_rets [_] _ Tryz.results17 (fun w h => ⟨rfl, trivial⟩) rfl _ (fun _ h => h.keep [false, true] rfl) ⟨xsA, xsC, ?_, ?_⟩
  ·have e_x0 : (xs.length : Nat) = ((R26.recs alt l).length) := by rw [i1_1, show k = l.length by omega, List.take_length, R26.recs_same]
   exact congrArg (fun (x0 : Nat) => vL xsA x0 xsC) e_x0
  ·have e_y0 : (xs : List Bytes) = (R26.recs alt l) := by
    rw [i1_1, show k = l.length by omega, List.take_length, R26.recs_same]
   have e_all := (congrArg (fun (y0 : List Bytes) => [Ent.row (.slice xsA y0.length xsC) 9 1 y0.length (y0.map vS)]) e_y0)
   exact e_all
end Go.Proofs.YtmbinhhlfbgiaaaGreat

namespace Go.Proofs.YtmbinhhlfbgiaaaGreat
open Go.GV
namespace R27
theorem sub_len : ∀ (l m : List Bytes), l.Nodup → (∀ x ∈ l, x ∈ m) → l.length ≤ m.length
  | [], _, _, _ => Nat.zero_le _
  | x :: l, m, h, hs => by
    have hx := hs x (by simp)
    have h1 := List.nodup_cons.1 h
    have := sub_len l (m.erase x) h1.2 (fun y hy => (List.mem_erase_of_ne (fun e : y = x => h1.1 (by rw [← e]; exact hy))).2 (hs y (by simp [hy])))
    rw [List.length_erase_of_mem hx] at this
    have : 0 < m.length := List.length_pos_of_mem hx
    rw [List.length_cons]; omega
theorem take_get {α : Type} {l : List α} {k : Nat} (d : α) (hk : k < l.length) : l.take (k + 1) = l.take k ++ [l.getD k d] := by
  rw [List.take_add_one, List.getElem?_eq_getElem hk]; simp [List.getElem?_eq_getElem hk]
def sets (l : List Bytes) : List Bytes := l.foldl addK []
theorem sets_step {l : List Bytes} {k : Nat} {ids : List Bytes} (hk : k < l.length) (h : ids = sets (l.take k)) : addK ids (l.getD k []) = sets (l.take (k + 1)) := by
  subst h
  rw [take_get [] hk]
  unfold sets
  rw [List.foldl_append]; rfl
theorem fold_addK : ∀ (l m : List Bytes), m.Nodup → (l.foldl addK m).Nodup ∧ ∀ s, s ∈ l.foldl addK m ↔ s ∈ l ∨ s ∈ m
  | [], m, h => ⟨h, fun s => by simp⟩
  | x :: l, m, h => by
    obtain ⟨h1, h2⟩ := fold_addK l (addK m x) (addK_nodup h)
    refine ⟨h1, fun s => ?_⟩
    rw [List.foldl_cons, h2, addK_mem, List.mem_cons]
    constructor
    · rintro (h | h | h)
      · exact .inl (.inr h)
      · exact .inr h
      · exact .inl (.inl h)
    · rintro ((h | h) | h)
      · exact .inr (.inr h)
      · exact .inl h
      · exact .inr (.inl h)
theorem sets_nodup (l : List Bytes) : (sets l).Nodup := (fold_addK l [] List.nodup_nil).1
theorem sets_mem {l : List Bytes} {s : Bytes} : s ∈ sets l ↔ s ∈ l := by
  unfold sets
  rw [(fold_addK l [] List.nodup_nil).2]; simp
theorem sets_len (l : List Bytes) : (sets l).length ≤ l.length := sub_len _ _ (sets_nodup l) (fun s hs => sets_mem.1 hs)
def Miss (a b xs left zs : List Bytes) : Prop := ∃ ys, zs = xs ++ ys ∧ ys.Nodup ∧ left.Nodup ∧ (∀ s ∈ left, s ∈ a) ∧ ∀ s, s ∈ ys ↔ (s ∈ a ∧ s ∉ b ∧ s ∉ left)
def Got (a b xs zs : List Bytes) : Prop := Miss a b xs [] zs
section
variable {a b xs left zs : List Bytes} {n : Nat} {s : Bytes}
theorem miss_start (h : a.Nodup) : Miss a b xs a xs := ⟨[], by simp, List.nodup_nil, h, fun _ h => h, fun s => by simp; intro h1 _; exact h1⟩
theorem erase_mem {l : List Bytes} (hd : l.Nodup) {n : Nat} {s : Bytes} (hn : l[n]? = some s) : ∀ x, x ∈ l.eraseIdx n ↔ x ∈ l ∧ x ≠ s := by
  intro x
  obtain ⟨hlt, he⟩ := List.getElem?_eq_some_iff.1 hn
  have hp := perm_front l n hlt
  have hnd : (l[n] :: l.eraseIdx n).Nodup := hp.symm.nodup hd
  rw [he] at hnd hp
  have hm := hp.mem_iff (a := x)
  rw [← hm, List.mem_cons]
  constructor
  · intro h
    exact ⟨.inr h, fun e => by subst e; exact (List.nodup_cons.1 hnd).1 h⟩
  · rintro ⟨rfl | h, h2⟩
    · exact absurd rfl h2
    · exact h
theorem erase_nodup {l : List Bytes} (hd : l.Nodup) (n : Nat) : (l.eraseIdx n).Nodup := hd.sublist (List.eraseIdx_sublist l n)
theorem miss_add (h : Miss a b xs left zs) (hn : left[n]? = some s) (hb : s ∉ b) : Miss a b xs (left.eraseIdx n) (zs ++ [s]) := by
  obtain ⟨ys, rfl, hy, hl, hsub, hm⟩ := h
  have hs := List.mem_of_getElem? hn
  refine ⟨ys ++ [s], by simp, ?_, erase_nodup hl n, fun x hx => hsub x (List.mem_of_mem_eraseIdx hx), fun x => ?_⟩
  · rw [List.nodup_append]
    exact ⟨hy, by simp, fun x hx y hy2 e => by simp at hy2; subst hy2; subst e; exact ((hm x).1 hx).2.2 hs⟩
  · rw [List.mem_append, hm, erase_mem hl hn, List.mem_singleton]
    by_cases hx : x = s
    · subst hx
      simp only [ne_eq, not_true, and_false, not_false_iff, and_true, or_true, true_iff]
      exact ⟨hsub x hs, hb⟩
    · simp [hx]
theorem miss_skip (h : Miss a b xs left zs) (hn : left[n]? = some s) (hb : s ∈ b) : Miss a b xs (left.eraseIdx n) zs := by
  obtain ⟨ys, rfl, hy, hl, hsub, hm⟩ := h
  refine ⟨ys, rfl, hy, erase_nodup hl n, fun x hx => hsub x (List.mem_of_mem_eraseIdx hx), fun x => ?_⟩
  rw [hm, erase_mem hl hn]
  constructor
  · rintro ⟨h1, h2, h3⟩; exact ⟨h1, h2, fun h => h3 h.1⟩
  · rintro ⟨h1, h2, h3⟩; exact ⟨h1, h2, fun h => h3 ⟨h, fun e => h2 (e ▸ hb)⟩⟩
theorem miss_len (h : Miss a b xs left zs) : zs.length ≤ xs.length + a.length := by
  obtain ⟨ys, rfl, hy, _, _, hm⟩ := h
  rw [List.length_append]
  have : ys.length ≤ a.length := sub_len _ _ hy (fun s hs => ((hm s).1 hs).1)
  omega
end
def dif (W H : List Bytes) : List Bytes := Ord.insl (W.filter (fun s => decide (s ∉ H)) ++ H.filter (fun s => decide (s ∉ W)))
theorem dif_sorted (W H : List Bytes) : (dif W H).Pairwise Ord.lt := (Ord.fold_spec _ [] List.Pairwise.nil).1
theorem dif_mem {W H : List Bytes} {s : Bytes} : s ∈ dif W H ↔ (s ∈ W ∧ s ∉ H) ∨ (s ∈ H ∧ s ∉ W) := by
  unfold dif Ord.insl
  rw [(Ord.fold_spec _ [] List.Pairwise.nil).2]
  simp
theorem dif_got {W H zs zt : List Bytes} (h1 : Got (sets W) (sets H) [] zs) (h2 : Got (sets H) (sets W) zs zt) : srt zt = dif W H := by
  obtain ⟨ys, e1, hy, _, _, hm⟩ := h1
  obtain ⟨us, e2, hu, _, _, hk⟩ := h2
  rw [List.nil_append] at e1
  subst e1; subst e2
  have hnd : (zs ++ us).Nodup := by
    rw [List.nodup_append]
    exact ⟨hy, hu, fun x hx y hy e => by subst e; exact ((hm x).1 hx).2.1 (((hk x).1 hy).1)⟩
  have hmem : ∀ s, s ∈ srt (zs ++ us) ↔ s ∈ dif W H := fun s => by
    rw [Ord.srt_mem, dif_mem, List.mem_append, hm, hk, sets_mem, sets_mem]; simp
  refine Ord.unique ?_ (dif_sorted W H) hmem
  have hs := Ord.srt_sorted (zs ++ us)
  have hn2 : (srt (zs ++ us)).Nodup := (List.mergeSort_perm _ _).symm.nodup hnd
  refine (hs.and hn2).imp fun {x y} hxy => ?_
  rcases Ord.tri x y with h | h | h
  · exact h
  · exact absurd h hxy.2
  · exact absurd h hxy.1
def flaws (l : List Bytes) : List Flaw := l.map fun s => Flaw.mk 6 0 s
theorem flaws_step {l : List Bytes} {k : Nat} {out : List Flaw} (hk : k < l.length) (h : out = flaws (l.take k)) : out ++ [Flaw.mk 6 0 (l.getD k [])] = flaws (l.take (k + 1)) := by
  subst h
  rw [take_get [] hk]; unfold flaws; rw [List.map_append]; rfl
theorem flaws_end {W H zt : List Bytes} {k : Nat} {out : List Flaw} (h : out = flaws ((srt zt).take k)) (hk : (srt zt).length ≤ k) (hd : srt zt = dif W H) : out = flaws (dif W H) := by rw [h, List.take_of_length_le hk, hd]
def keysOf (l : List Pair) : List Bytes := l.map (·.key)
theorem keys_step {l : List Pair} {k : Nat} {out : List Bytes} (hk : k < l.length) (h : out = keysOf (l.take k)) : out ++ [(l.getD k default).key] = keysOf (l.take (k + 1)) := by
  subst h
  rw [take_get default hk]; unfold keysOf; rw [List.map_append]; rfl
theorem keys_len (l : List Pair) : (keysOf l).length = l.length := List.length_map _
theorem isIx_keys {a : DataSet} {A B : List Pair} (h : IsIx a A B) : keysOf A = R26.recs a B := by
  refine Ord.unique ?_ (R26.recs_sorted a B) fun s => ?_
  · exact List.pairwise_map.2 h.1
  · rw [R26.recs_mem]
    unfold keysOf
    rw [List.mem_map]
    constructor
    · rintro ⟨p, hp, rfl⟩; exact ((h.2 p).1 hp).2
    · intro hs; exact ⟨⟨s, s⟩, (h.2 _).2 ⟨rfl, hs⟩, rfl⟩
theorem dif_same {K : List Bytes} : dif K K = [] := by
  refine Ord.unique (dif_sorted _ _) List.Pairwise.nil fun s => ?_
  rw [dif_mem]; simp
def hasS (l : List Bytes) (m : Bytes) : Bool := l.any fun r => decide (r = m)
section
variable {a : DataSet} {A B : List Pair} {i j : Nat} {more : Bytes} {t : Bool}
theorem keep_b1 (hx : IsIx a A B) (h : (0 : Int) < (((flaws (dif (R26.recs a B) (keysOf A))).length : Nat) : Int)) : False := by
  rw [isIx_keys hx, dif_same] at h; simp [flaws] at h
theorem keep_b2 (hx : IsIx a A B) (h : (!decide (keysOf A = R26.recs a B)) = true) : False := by
  rw [decide_eq_true (isIx_keys hx)] at h; cases h
end
section
variable {ds : List Data} {base : DataSet} {alts : List DataSet} {l : List Change} {n : Nat}
theorem reach_s1 (h : Reach base alts l n ds) (hn : n ≤ 41) : ds.length ≤ 1000 := Nat.le_trans h.2.1 (by omega)
theorem reach_s2 (h : Reach base alts l n ds) (hn : n ≤ 41) : ∀ i, (ds.getD i default).Pairs.length ≤ 1000 := fun i => Nat.le_trans (small_get h.2 i) (by omega)
theorem reach_len (h : Reach base alts l n ds) (hn : n ≤ 41) (id : Int) : (ofD ds id).Pairs.length ≤ 400 := Nat.le_trans (ofP_len (id := id) h.2) (by omega)
theorem reach_s3 (h : Reach base alts l n ds) : Shorts ds := h.2.2.2
theorem shorts_of (h : Shorts ds) (id : Int) : ∀ i, i < (ofD ds id).Pairs.length → ((ofD ds id).Pairs.getD i default).key.length ≤ 1000 ∧ ((ofD ds id).Pairs.getD i default).record.length ≤ 1000 := fun i hi => by
  have hm : (ofD ds id).Pairs.getD i default ∈ (ofD ds id).Pairs := by rw [List.getD_eq_getElem?_getD, List.getElem?_eq_getElem hi]; exact List.getElem_mem hi
  rcases ofP_in (ds := ds) (id := id) with e | ⟨d, hd, e⟩
  · have e2 : (ofD ds id).Pairs = [] := e
    rw [e2] at hm; cases hm
  · have e2 : (ofD ds id).Pairs = d.Pairs := e
    rw [e2] at hm ⊢
    exact h d hd _ hm
end
end R27
end Go.Proofs.YtmbinhhlfbgiaaaGreat

namespace Go.GV
theorem St.turn {S : List Nat} {w0 w : World} {L : List Ent} {e e' : Ent} (h : St S w0 w (e :: L)) (ho : e'.own = e.own) (hp : ∀ o, e.prop o → e'.prop o) : St S w0 w (e' :: L) := by
  have hd := List.pairwise_cons.1 h.dis
  refine ⟨h.fr, fun x hx => ?_, List.pairwise_cons.2 ⟨fun x hx b hb => hd.1 x hx b (by rw [← ho]; exact hb), hd.2⟩, fun x hx b hb => ?_⟩
  · rcases List.mem_cons.1 hx with rfl | hx
    · have := h.hold e (by simp)
      exact ⟨by rw [ho]; exact hp _ this.1, fun b hb => this.2 b (by rw [← ho]; exact hb)⟩
    · exact h.hold x (by simp [hx])
  · rcases List.mem_cons.1 hx with rfl | hx
    · exact h.own e (by simp) b (by rw [← ho]; exact hb)
    · exact h.own x (by simp [hx]) b hb
theorem St.mxmp {S : List Nat} {w0 w : World} {L : List Ent} (j : Nat) {κ : Type} {f : κ → Value} {b ck : Nat} {es : Array MapEntry} {l : List (κ × Value)} (h : St S w0 w L) (hj : L[j]? = some (Ent.mx b es ck)) (he : Holds' f es l) (hb : Born es ck) : St S w0 w (L.set j (Ent.mp f b l)) :=
  ((h.front j _ hj).turn (e' := Ent.mp f b l) rfl (fun o ho => ⟨es, ck, ho, he, hb⟩)).perm (set_perm L j _ (List.getElem?_eq_some_iff.1 hj).1)
theorem mm_ {n : Nat} {S : List Nat} {w0 : World} {Q : Post} {E : Env} {L L' : List Ent} {x : Exit} (j : Nat) {κ : Type} {f : κ → Value} {b ck : Nat} {es : Array MapEntry} {l : List (κ × Value)} (he : Holds' f es l) (hb : Born es ck) (hj : L[j]? = some (Ent.mx b es ck)) (h : JX n S w0 Q x E L')
    (hL : SetA L j (Ent.mp f b l) L' := by repeat (first | exact SetA.here | apply SetA.there)) : JX n S w0 Q x E L := fun a w hR hS => h a w hR (hL.set ▸ hS.mxmp j hj he hb)
end Go.GV
