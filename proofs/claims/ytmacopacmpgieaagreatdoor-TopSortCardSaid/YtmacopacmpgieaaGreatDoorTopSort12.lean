/- C44a, C44b, C44c in one text. -/
import Derived.Test.YtmacopacmpgieaaGreatDoorTopSort3
import Derived.Test.YtmacopacmpgieaaGreatDoorTopSort11
import Derived.Test.YtmacopacmpgieaaGreatDoorTopSort5
import Derived.Test.YtmacopacmpgieaaGreatDoorTopSort9
import Derived.Test.YtmacopacmpgieaaGreatDoorTopSort6
set_option linter.unusedVariables false
set_option linter.unusedSimpArgs false
namespace Go.Proofs.YtmacopacmpgieaaGreatDoor
open Go.GV
set_option linter.unusedVariables false
set_option linter.unusedSimpArgs false
theorem c44a0_ {p : Prop} (h : p := by first | (rw [R44.dec_none (by assumption)]; rfl) | (rw [R44.dec_bad (R44.num_badP i1_0 (by omega) (by assumption))]; rfl) | (rw [R44.dec_neg' (by assumption) (R44.num_endP i1_0 (by omega)) (by assumption)]; rfl) | (rw [R44.dec_pos' (by assumption) (R44.num_endP i1_0 (by omega)) (by assumption)]; rfl)) : p := h
theorem c44a1_ {p : Prop} (h : p := by unfold R44.cmpI; first | exact (if_pos (by omega)).symm | (rw [if_neg (by omega), if_pos (by omega)]; done) | (rw [if_neg (by omega), if_neg (by omega)]; done)) : p := h
theorem c44a5_ {p : Prop} (h : p := by first | exact (R44.valid_bad (k := k) (by omega) (R44.fok_bad (by omega))).symm | exact (R44.valid_end (fun i hi => i1_1 i (by omega))).symm) : p := h
theorem c44a6_ {p : Prop} (h : p := by first | omega | (simp only [List.length_append, List.length_cons, List.length_nil]; omega) | (simp; omega) | (simp_all; omega)) : p := h
theorem c44a7_ {p : Prop} (h : p := by first | exact R44.fld_none (by omega) | exact R44.fld_some (by omega) (by omega) (by omega) (by omega)) : p := h
theorem c44a8_ {p : Prop} (h : p := by first | omega | (simp only [sub, List.length_drop, List.length_take]; omega) | (simp; omega) | (simp_all; omega)) : p := h
set_option maxRecDepth 20000 in
theorem f10_ok (l : List SortField) (lA : Option Addr) (lC : Nat) (w : World) (lR : RO [] w lA (l.flatMap SortField.enc)) (q0 : l.length ≤ 9223372036854775807) : Calls Tryz.prog 10 #[vL lA l.length lC] w (Gives [] w fun v L => v = vB (R44.valid l) ∧ L = []) := by
 refine calls_J [] 48 Tryz.func10 rfl Tryz.ntmps10 [(0, _)] rfl rfl (Give.nil w) ?_
 refine q_ (g_ (s_ av_ (z_ (n_ (q_ (g_ (o_ (O_makeMap vI fun b1 => ?_))))))))
 refine o_ (O_insert 0 (f := vI) (k := 0) [(0, vI 200)] [Ent.mp vI b1 [(0, vI 200)]] rfl rfl rfl rfl Tryz.underlying63 (mapK_i Tryz.underlying3) rfl rfl ?_)
 refine o_ (O_insert 0 (f := vI) (k := 1) [(0, vI 200), (1, vI 18)] [Ent.mp vI b1 [(0, vI 200), (1, vI 18)]] rfl rfl rfl rfl Tryz.underlying63 (mapK_i Tryz.underlying3) rfl rfl ?_)
 refine o_ (O_insert 0 (f := vI) (k := 2) [(0, vI 200), (1, vI 18), (2, vI 8)] [Ent.mp vI b1 [(0, vI 200), (1, vI 18), (2, vI 8)]] rfl rfl rfl rfl Tryz.underlying63 (mapK_i Tryz.underlying3) rfl rfl ?_)
 refine s_ mv_ (s_ av_ (z_ (n_ (q_ (q_ (g_ (s_ mv_ (s_ (lnS Tryz.underlying23) (s_ mv_ (z_ (n_ (k_ ?_))))))))))))
 refine J_loop (X := Nat) (fun (k : Nat) => (k ≤ l.length) ∧ (∀ i, i < k → R44.fok (l.getD i default) = true)) (fun (k : Nat) => [(0, vL lA l.length lC), (3, Value.map (some b1)), (8, vL lA l.length lC), (9, vI ((l.length : Nat) : Int)), (10, vI ((k : Nat) : Int))]) (fun (k : Nat) => [Ent.mp vI b1 [(0, vI 200), (1, vI 18), (2, vI 8)]]) (fun (k : Nat) => l.length - k) (0 : Nat) ?_ ⟨rfl, rfl, rfl, rfl, rfl, trivial⟩ (fun _ h => h) ?_
 ·try dsimp only
  refine ⟨?_, ?_⟩
  ·first | rfl | omega | (simp_all; done) | (simp_all; omega)
  ·intro i hi; omega
 intro k hI1
 obtain ⟨i1_0, i1_1⟩ := hI1
 try dsimp only at i1_0
 try dsimp only at i1_1
 have hmo := R44.most_le (l.getD k default).Kind
 try dsimp only
 refine q_ (g_ (s_ (x_lss_i rfl rfl) (z_ (n_ (q_ ?_)))))
 refine ifd (fun h2w h2 => ?_) (fun h2w h2 => ?_)
 ·refine sk_ (n_ (q_ (k_ (q_ (g_ (r_ (ixF SortField.enc_len (cells_ro lR) Tryz.underlying23 Ty.sz65) (r_ (ldFN SortField.enc_len (cells_ro lR) Ty.ag65 Ty.sz65) (o_ (al_ Ty.ze65 fun b3 => ?_)))))))))
  refine o_ (stG 0 Ty.sz65 ?_)
  refine z_ (n_ (q_ (g_ (s_ (fA 0 Ty.fi65_0) (r_ (ld_ 0 Ty.sc3) (s_ (x_lss_i rfl rfl) (s_ mv_ ?_)))))))
  refine or_ 3 (decide ((1000 : Int) < (l.getD k default).At)) (fun g4 => ?_) ?_
  ·have g4r := g4
   have g4r := of_decide_eq_false g4r
   refine sg_ g4 (fA 0 Ty.fi65_0) (rg_ g4 (ld_ 0 Ty.sc3) (sg_ g4 (x_gtr_i rfl rfl) ?_))
   exact cr_
  refine s_ mv_ ?_
  refine or_ 3 (decide ((l.getD k default).Length < 1)) (fun g5 => ?_) ?_
  ·have g5r := g5
   have ⟨g5r, h6⟩ := bor_false g5r
   have g5r := of_decide_eq_false g5r
   have h6 := of_decide_eq_false h6
   refine sg_ g5 (fA 1 Ty.fi65_1) (rg_ g5 (ld_ 0 Ty.sc3) (sg_ g5 (x_lss_i rfl rfl) ?_))
   exact cr_
  refine s_ mv_ ?_
  refine or_ 7 (decide ((R44.most ((l.getD k default).Kind)) < (l.getD k default).Length)) (fun g7 => ?_) ?_
  ·have g7r := g7
   have ⟨g7r, h8⟩ := bor_false g7r
   have ⟨g7r, h9⟩ := bor_false g7r
   have g7r := of_decide_eq_false g7r
   have h9 := of_decide_eq_false h9
   have h8 := of_decide_eq_false h8
   refine sg_ g7 (fA 1 Ty.fi65_1) (rg_ g7 (ld_ 0 Ty.sc3) (sg_ g7 mv_ (sg_ g7 (fA 2 Ty.fi65_2) (rg_ g7 (ld_ 0 Ty.sc3) ?_))))
   refine JO_read (vI (R44.most ((l.getD k default).Kind))) rfl ⟨_, rfl, g7⟩ (x_lookup_v 1 (f := vI) (k := (l.getD k default).Kind) rfl rfl rfl Tryz.underlying63 (mapK_i Tryz.underlying3) Ty.ze3 rfl (R44.most_look _)) ?_
   refine sg_ g7 (x_gtr_i rfl rfl) ?_
   exact cr_
  refine s_ mv_ ?_
  refine or_ 6 (decide ((1000 : Int) < ((l.getD k default).At) + ((l.getD k default).Length))) (fun g10 => ?_) ?_
  ·have g10r := g10
   have ⟨g10r, h11⟩ := bor_false g10r
   have ⟨g10r, h12⟩ := bor_false g10r
   have ⟨g10r, h13⟩ := bor_false g10r
   have g10r := of_decide_eq_false g10r
   have h13 := of_decide_eq_false h13
   have h12 := of_decide_eq_false h12
   have h11 := of_decide_eq_false h11
   refine sg_ g10 (fA 0 Ty.fi65_0) (rg_ g10 (ld_ 0 Ty.sc3) (sg_ g10 (fA 1 Ty.fi65_1) (rg_ g10 (ld_ 0 Ty.sc3) (sg_ g10 (x_add_i (a := (l.getD k default).At) (b := (l.getD k default).Length) rfl rfl (by omega) (by omega)) (sg_ g10 (x_gtr_i rfl rfl) ?_)))))
   exact cr_
  refine z_ (n_ ?_)
  refine if_ (fun h14 => ?_) (fun h14 => ?_)
  ·simp only [Bool.and_eq_true, Bool.or_eq_true, Bool.and_eq_false_iff, Bool.or_eq_false_iff, Bool.not_eq_true', Bool.not_eq_false', decide_eq_true_eq, decide_eq_false_iff_not] at h14
   refine q_ (g_ (s_ av_ (z_ (xk_ [0, 3, 8, 9, 10, 2] ?_))))
   refine n_ (rt_ (kq_ (nr_ (rr_ (kq_ (nr_ ?_))))))
   exact p1 Tryz.results10 rfl ⟨(eB c44a5_), rfl⟩
  ·have ⟨h14, h15⟩ := bor_false h14
   have ⟨h14, h16⟩ := bor_false h14
   have ⟨h14, h17⟩ := bor_false h14
   have ⟨h14, h18⟩ := bor_false h14
   have h14 := of_decide_eq_false h14
   have h18 := of_decide_eq_false h18
   have h17 := of_decide_eq_false h17
   have h16 := of_decide_eq_false h16
   have h15 := of_decide_eq_false h15
   refine sk_ (kx_ (n_ (g_ (s_ (x_add_n (a := k) (b := 1) rfl rfl (by omega)) (s_ mv_ (z_ ?_))))))
   refine JX_round (k + 1 : Nat) ?_ ?_ ⟨rfl, rfl, rfl, rfl, rfl, trivial⟩ (fun _ h => h.keep [false, true] rfl)
   ·try dsimp only
    refine ⟨?_, ?_⟩
    ·first | rfl | omega | (simp_all; done) | (simp_all; omega)
    ·intro i hi
     by_cases hik : i = k
     ·subst hik; exact R44.fok_good (by omega)
     ·exact i1_1 i (by omega)
   ·try dsimp only
    first | omega | (simp; omega) | (simp_all; omega)
 ·refine J_exit (ne_ (re_ (kh_ (n_ (q_ ?_)))))
  refine g_ (s_ mv_ (s_ (lnS Tryz.underlying23) (s_ (x_leq_i rfl rfl) (s_ av_ (z_ (n_ (rt_ ?_)))))))
  exact p1 Tryz.results10 rfl ⟨(eB c44a5_), rfl⟩
set_option maxRecDepth 20000 in
theorem f73_ok (s : Bytes) (f : SortField) (w : World) (q0 : R44.fok f = true) (q1 : s.length ≤ 1000000000) : Calls Tryz.prog 73 #[vS s, vG (SortField.enc f)] w (Gives [] w fun v L => v = vS (R44.fld s f) ∧ L = []) := by
 have hff := R44.fok_facts q0
 have hfm := R44.most_le f.Kind
 refine calls_J [] 30 Tryz.func73 rfl Tryz.ntmps73 [(0, _), (1, _)] rfl rfl (Give.nil w) ?_
 refine q_ (g_ (o_ (bxG fun b1 => ?_)))
 refine s_ av_ (z_ (n_ (q_ (q_ (g_ (s_ (fA 0 Ty.fi65_0) (r_ (ld_ 0 Ty.sc3) (s_ mv_ (s_ (x_len_s rfl Tryz.underlying9) (s_ (x_geq_i rfl rfl) (z_ (n_ ?_))))))))))))
 refine ifd (fun h2w h2 => ?_) (fun h2w h2 => ?_)
 ·refine g_ (s_ av_ (z_ (n_ (q_ (g_ (s_ mv_ (s_ (fA 1 Ty.fi65_1) (r_ (ld_ 0 Ty.sc3) (s_ mv_ (s_ (x_len_s rfl Tryz.underlying9) (s_ (x_sub_i (a := f.Length) (b := 0) rfl rfl (by omega) (by omega)) (c0 (cl_ Ty.ca20) (fun w hS => repeat_spec [32] _ w hy_ hy_ hy_) ?_))))))))))))
  have ha3 := rep_length [32] (f.Length - 0).toNat
  try simp only [List.length_cons, List.length_nil, Nat.zero_add, Nat.reduceAdd, Nat.reduceMul] at ha3
  refine s_ (x_cat_s rfl rfl c44a6_) (s_ av_ (z_ (n_ (rt_ ?_))))
  exact p1 Tryz.results73 rfl ⟨(eS c44a7_), rfl⟩
 ·refine g_ (s_ mv_ (s_ (fA 0 Ty.fi65_0) (r_ (ld_ 0 Ty.sc3) (s_ mv_ (s_ (x_len_s rfl Tryz.underlying9) (s_ (fA 0 Ty.fi65_0) (r_ (ld_ 0 Ty.sc3) (s_ (fA 1 Ty.fi65_1) (r_ (ld_ 0 Ty.sc3) ?_)))))))))
  refine s_ (x_add_i (a := f.At) (b := f.Length) rfl rfl (by omega) (by omega)) (s_ (x_min_i (a := ((s.length : Nat) : Int)) (b := f.At + f.Length) rfl rfl) (s_ (x_sub_s (lo := (f.At).toNat) (hi := (min ((s.length : Nat) : Int) (f.At + f.Length)).toNat) rfl Tryz.underlying9 (.inl (lo_i (by omega))) (.inl (lo_i (by omega))) lt_ c44a8_) ?_))
  have hsl4 := sub_length s ((f.At).toNat) ((min ((s.length : Nat) : Int) (f.At + f.Length)).toNat) lt_
  refine s_ av_ (z_ (xk_ [0, 3, 4] ?_))
  refine n_ (q_ (g_ (s_ mv_ (s_ (fA 1 Ty.fi65_1) (r_ (ld_ 0 Ty.sc3) (s_ mv_ (s_ (x_len_s rfl Tryz.underlying9) (s_ (x_sub_i (a := f.Length) (b := (((sub s ((f.At).toNat) ((min ((s.length : Nat) : Int) (f.At + f.Length)).toNat)).length : Nat) : Int)) rfl rfl (by omega) (by omega)) (c0 (cl_ Ty.ca20) (fun w hS => repeat_spec [32] _ w hy_ hy_ hy_) ?_)))))))))
  have ha5 := rep_length [32] (f.Length - (((sub s ((f.At).toNat) ((min ((s.length : Nat) : Int) (f.At + f.Length)).toNat)).length : Nat) : Int)).toNat
  try simp only [List.length_cons, List.length_nil, Nat.zero_add, Nat.reduceAdd, Nat.reduceMul] at ha5
  refine s_ (x_cat_s rfl rfl c44a6_) (s_ av_ (z_ (n_ (rt_ ?_))))
  exact p1 Tryz.results73 rfl ⟨(eS c44a7_), rfl⟩
set_option maxRecDepth 20000 in
theorem f72_ok (x : Int) (w : World) : Calls Tryz.prog 72 #[vI x] w (Gives [] w fun v L => v = vB false ∧ L = []) := by
 refine calls_J [] 6 Tryz.func72 rfl Tryz.ntmps72 [(0, _)] rfl rfl (Give.nil w) ?_
 refine q_ (g_ (s_ av_ (z_ (n_ (q_ (g_ (s_ mv_ (s_ mv_ (s_ (x_neq_i rfl rfl) (s_ av_ (z_ (n_ (rt_ ?_)))))))))))))
 exact p1 Tryz.results72 rfl ⟨(eB (decide_eq_false (fun h => h rfl))), rfl⟩
set_option maxRecDepth 20000 in
theorem f90_ok (x : Int) (w : World) : Calls Tryz.prog 90 #[vI x] w (Gives [] w fun v L => v = vB false ∧ L = []) := by
 refine calls_J [] 6 Tryz.func90 rfl Tryz.ntmps90 [(0, _)] rfl rfl (Give.nil w) ?_
 refine q_ (g_ (s_ av_ (z_ (n_ (q_ (g_ (s_ mv_ (s_ mv_ (s_ (x_neq_i rfl rfl) (s_ av_ (z_ (n_ (rt_ ?_)))))))))))))
 exact p1 Tryz.results90 rfl ⟨(eB (decide_eq_false (fun h => h rfl))), rfl⟩
set_option maxRecDepth 20000 in
theorem f58_ok (x : Int) (y : Int) (w : World) : Calls Tryz.prog 58 #[vI x, vI y] w (Gives [] w fun v L => v = vI (R44.cmpI x y) ∧ L = []) := by
 refine calls_J [] 20 Tryz.func58 rfl Tryz.ntmps58 [(0, _), (1, _)] rfl rfl (Give.nil w) ?_
 refine q_ (g_ (s_ av_ (z_ (n_ (q_ (g_ (s_ mv_ (c0 (cl_ Ty.ca72) (fun w hS => f72_ok x w) (s_ av_ (z_ (n_ (q_ (g_ (s_ mv_ (c0 (cl_ Ty.ca72) (fun w hS => f72_ok y w) (s_ av_ ?_))))))))))))))))
 refine z_ (n_ (q_ (q_ (g_ (s_ mv_ (z_ (n_ (iff_ (sk_ (n_ (q_ (q_ (g_ (s_ mv_ (z_ (n_ (iff_ (sk_ (n_ (q_ (q_ (g_ (s_ mv_ (s_ mv_ (s_ (x_lss_i rfl rfl) ?_)))))))))))))))))))))))))
 refine z_ (n_ ?_)
 refine ifd (fun h1w h1 => ?_) (fun h1w h1 => ?_)
 ·refine q_ (g_ (s_ av_ (z_ (n_ (rt_ (nr_ ?_))))))
  exact p1 Tryz.results58 rfl ⟨(eI c44a1_), rfl⟩
 ·refine sk_ (n_ (q_ (q_ (g_ (s_ mv_ (s_ mv_ (s_ (x_gtr_i rfl rfl) (z_ (n_ ?_)))))))))
  refine ifd (fun h2w h2 => ?_) (fun h2w h2 => ?_)
  ·refine q_ (g_ (s_ av_ (z_ (n_ (rt_ (nr_ ?_))))))
   exact p1 Tryz.results58 rfl ⟨(eI c44a1_), rfl⟩
  ·refine sk_ (n_ (q_ (g_ (s_ av_ (z_ (n_ (rt_ ?_)))))))
   exact p1 Tryz.results58 rfl ⟨(eI c44a1_), rfl⟩
set_option maxRecDepth 20000 in
theorem f75_ok (x : Int) (y : Int) (w : World) : Calls Tryz.prog 75 #[vI x, vI y] w (Gives [] w fun v L => v = vI (R44.cmpI x y) ∧ L = []) := by
 refine calls_J [] 20 Tryz.func75 rfl Tryz.ntmps75 [(0, _), (1, _)] rfl rfl (Give.nil w) ?_
 refine q_ (g_ (s_ av_ (z_ (n_ (q_ (g_ (s_ mv_ (c0 (cl_ Ty.ca90) (fun w hS => f90_ok x w) (s_ av_ (z_ (n_ (q_ (g_ (s_ mv_ (c0 (cl_ Ty.ca90) (fun w hS => f90_ok y w) (s_ av_ ?_))))))))))))))))
 refine z_ (n_ (q_ (q_ (g_ (s_ mv_ (z_ (n_ (iff_ (sk_ (n_ (q_ (q_ (g_ (s_ mv_ (z_ (n_ (iff_ (sk_ (n_ (q_ (q_ (g_ (s_ mv_ (s_ mv_ (s_ (x_lss_i rfl rfl) ?_)))))))))))))))))))))))))
 refine z_ (n_ ?_)
 refine ifd (fun h1w h1 => ?_) (fun h1w h1 => ?_)
 ·refine q_ (g_ (s_ av_ (z_ (n_ (rt_ (nr_ ?_))))))
  exact p1 Tryz.results75 rfl ⟨(eI c44a1_), rfl⟩
 ·refine sk_ (n_ (q_ (q_ (g_ (s_ mv_ (s_ mv_ (s_ (x_gtr_i rfl rfl) (z_ (n_ ?_)))))))))
  refine ifd (fun h2w h2 => ?_) (fun h2w h2 => ?_)
  ·refine q_ (g_ (s_ av_ (z_ (n_ (rt_ (nr_ ?_))))))
   exact p1 Tryz.results75 rfl ⟨(eI c44a1_), rfl⟩
  ·refine sk_ (n_ (q_ (g_ (s_ av_ (z_ (n_ (rt_ ?_)))))))
   exact p1 Tryz.results75 rfl ⟨(eI c44a1_), rfl⟩
set_option maxRecDepth 20000 in
theorem f74_ok (s : Bytes) (w : World) (q0 : s.length ≤ 18) : Calls Tryz.prog 74 #[vS s] w (Gives [] w fun v L => v = Value.tuple #[vI ((R44.dec s).getD 0), vB ((R44.dec s).isSome)] ∧ L = []) := by
 refine calls_J [] 42 Tryz.func74 rfl Tryz.ntmps74 [(0, _)] rfl rfl (Give.nil w) ?_
 refine q_ (g_ (s_ av_ (s_ av_ (z_ (n_ (q_ (g_ (s_ mv_ (c0 (cl_ Ty.ca88) (fun w hS => trim_ok s w hy_) ?_)))))))))
 have ha1 := R44.trims_len s
 refine s_ av_ (z_ (n_ (q_ (g_ (s_ mv_ (c0 (cl_ Ty.ca89) (fun w hS => cutp_ok _ w) ?_))))))
 have ha2 := R44.cutM_len (R44.trimR (R44.trimL s))
 refine s_ mv_ (s_ (ex_ 0) (s_ (ex_ 1) (s_ av_ (s_ av_ (z_ (n_ (q_ (q_ (g_ (s_ mv_ (js_ (vB (decide ((R44.cutM (R44.trimR (R44.trimL s))).1 = ([] : Bytes)))) (x_eql_s rfl rfl) (z_ (n_ ?_)))))))))))))
 refine ifd (fun h3w h3 => ?_) (fun h3w h3 => ?_)
 ·try have hi4 := R44.digP h3w
  try have hi5 := R44.digN h3w
  refine q_ (g_ (s_ av_ (s_ av_ (z_ (n_ (rt_ (nr_ ?_)))))))
  exact p2 Tryz.results74 rfl rfl ⟨t2 (eI c44a0_) (eB c44a0_), rfl⟩
 ·try have hi6 := R44.digP h3w
  try have hi7 := R44.digN h3w
  have h3l := List.length_pos_iff.2 h3
  refine sk_ (n_ (q_ (g_ (s_ av_ (z_ (n_ (q_ (q_ (g_ (s_ mv_ (o_ (O_str_bytes ((R44.cutM (R44.trimR (R44.trimL s))).1) rfl Tryz.underlying9 Tryz.underlying91 Tryz.underlying5 fun b8 c9 z10 hz11 => ?_))))))))))))
  refine s_ (lnS Tryz.underlying91) (s_ mv_ (z_ (n_ (k_ ?_))))
  refine J_loop (X := Nat × Int) (fun (⟨k, n⟩ : Nat × Int) => (R44.num ((R44.cutM (R44.trimR (R44.trimL s))).1.drop k) n = R44.num (R44.cutM (R44.trimR (R44.trimL s))).1 0) ∧ (k ≤ (R44.cutM (R44.trimR (R44.trimL s))).1.length) ∧ (0 ≤ n) ∧ (n < 10 ^ k)) (fun (⟨k, n⟩ : Nat × Int) => [(5, vB ((R44.cutM (R44.trimR (R44.trimL s))).2)), (6, vI n), (19, vL (some ⟨b8, 0, none⟩) (((R44.cutM (R44.trimR (R44.trimL s))).1).length) c9), (20, vI ((((R44.cutM (R44.trimR (R44.trimL s))).1).length : Nat) : Int)), (21, vI ((k : Nat) : Int))]) (fun (⟨k, n⟩ : Nat × Int) => [Ent.blk b8 5 ((((R44.cutM (R44.trimR (R44.trimL s))).1) ++ List.replicate z10 (0 : UInt8)).map vU8) (((R44.cutM (R44.trimR (R44.trimL s))).1).length + z10, ((R44.cutM (R44.trimR (R44.trimL s))).1).length + z10 + 1)]) (fun (⟨k, n⟩ : Nat × Int) => (R44.cutM (R44.trimR (R44.trimL s))).1.length - k) ((0, 0) : Nat × Int) ?_ ⟨rfl, rfl, rfl, rfl, rfl, trivial⟩ (fun _ h => h) ?_
  ·try dsimp only
   refine ⟨?_, ?_, ?_, ?_⟩
   ·rfl
   ·first | rfl | omega | (simp_all; done) | (simp_all; omega)
   ·first | rfl | omega | (simp_all; done) | (simp_all; omega)
   ·decide
  rintro ⟨k, n⟩ hI1
  obtain ⟨i1_0, i1_1, i1_2, i1_3⟩ := hI1
  try dsimp only at i1_0
  try dsimp only at i1_1
  try dsimp only at i1_2
  try dsimp only at i1_3
  have hpl := R44.pow_or (k := k) (by omega)
  try dsimp only
  refine q_ (g_ (s_ (x_lss_i rfl rfl) (z_ (n_ (q_ ?_)))))
  refine ifd (fun h12w h12 => ?_) (fun h12w h12 => ?_)
  ·try have hi13 := R44.digP h12w
   try have hi14 := R44.digN h12w
   refine sk_ (n_ (q_ (k_ (q_ (g_ (s_ (x_indexAddr_sl (k := k) Tryz.underlying91 Ty.sz5 rfl rfl lt_ (add_0k1 _ _)) (r_ (x_load_arr 0 vU8 0 rfl rfl Ty.sc5 lt_) (s_ av_ (z_ (n_ (q_ (q_ (g_ (s_ mv_ (js_ (vB (decide (((((R44.cutM (R44.trimR (R44.trimL s))).1) ++ List.replicate z10 (0 : UInt8)).getD k 0) < (48 : UInt8)))) (x_lss_u8 rfl rfl) (s_ mv_ ?_))))))))))))))))
   refine or_ 2 (decide ((57 : UInt8) < ((((R44.cutM (R44.trimR (R44.trimL s))).1) ++ List.replicate z10 (0 : UInt8)).getD k 0))) (fun g15 => ?_) ?_
   ·have g15r := g15
    have g15r := of_decide_eq_false g15r
    have g15ru := g15r
    try simp only [UInt8.lt_iff_toNat_lt, UInt8.le_iff_toNat_le, UInt8.reduceToNat, UInt32.lt_iff_toNat_lt, UInt32.le_iff_toNat_le, UInt32.reduceToNat, UInt64.lt_iff_toNat_lt, UInt64.le_iff_toNat_le, UInt64.reduceToNat] at g15ru
    refine sg_ g15 mv_ (jg_ g15 (vB (decide ((57 : UInt8) < ((((R44.cutM (R44.trimR (R44.trimL s))).1) ++ List.replicate z10 (0 : UInt8)).getD k 0)))) (x_gtr_u8 rfl rfl) ?_)
    exact cr_
   refine z_ (n_ ?_)
   refine if_ (fun h16 => ?_) (fun h16 => ?_)
   ·have h16w := h16
    try have hi17 := R44.digP h16w
    try have hi18 := R44.digN h16w
    simp only [Bool.and_eq_true, Bool.or_eq_true, Bool.and_eq_false_iff, Bool.or_eq_false_iff, Bool.not_eq_true', Bool.not_eq_false', decide_eq_true_eq, decide_eq_false_iff_not] at h16
    refine q_ (g_ (s_ av_ (s_ av_ (z_ (n_ (rt_ (nr_ (kq_ (nr_ (rr_ (kq_ (nr_ ?_))))))))))))
    exact p2 Tryz.results74 rfl rfl ⟨t2 (eI c44a0_) (eB c44a0_), rfl⟩
   ·have h16w := h16
    try have hi19 := R44.digP h16w
    try have hi20 := R44.digN h16w
    have ⟨h16, h21⟩ := bor_false h16
    have h16 := of_decide_eq_false h16
    have h16u := h16
    try simp only [UInt8.lt_iff_toNat_lt, UInt8.le_iff_toNat_le, UInt8.reduceToNat, UInt32.lt_iff_toNat_lt, UInt32.le_iff_toNat_le, UInt32.reduceToNat, UInt64.lt_iff_toNat_lt, UInt64.le_iff_toNat_le, UInt64.reduceToNat] at h16u
    have h21 := of_decide_eq_false h21
    have h21u := h21
    try simp only [UInt8.lt_iff_toNat_lt, UInt8.le_iff_toNat_le, UInt8.reduceToNat, UInt32.lt_iff_toNat_lt, UInt32.le_iff_toNat_le, UInt32.reduceToNat, UInt64.lt_iff_toNat_lt, UInt64.le_iff_toNat_le, UInt64.reduceToNat] at h21u
    refine sk_ (n_ (g_ (s_ mv_ (s_ (x_mul_i (a := 10) (b := n) rfl rfl (by omega) (by omega)) (s_ mv_ (js_ (vU8 (((((R44.cutM (R44.trimR (R44.trimL s))).1) ++ List.replicate z10 (0 : UInt8)).getD k 0) - 48)) (x_sub_u8 rfl rfl) (s_ (x_conv_u8_i64 rfl Tryz.underlying5 Tryz.underlying2) (s_ (x_add_i (a := 10 * n) (b := (((((((R44.cutM (R44.trimR (R44.trimL s))).1) ++ List.replicate z10 (0 : UInt8)).getD k 0) - 48).toNat : Nat) : Int)) rfl rfl lt_ lt_) (s_ av_ (z_ (kx_ (n_ (g_ (s_ (x_add_n (a := k) (b := 1) rfl rfl (by omega)) ?_))))))))))))))
    refine s_ mv_ (z_ ?_)
    refine JX_round ((k + 1, (10 * n) + (((((((R44.cutM (R44.trimR (R44.trimL s))).1) ++ List.replicate z10 (0 : UInt8)).getD k 0) - 48).toNat : Nat) : Int)) : Nat × Int) ?_ ?_ ⟨rfl, rfl, rfl, rfl, rfl, trivial⟩ (fun _ h => h)
    ·try dsimp only
     refine ⟨?_, ?_, ?_, ?_⟩
     ·rw [← i1_0]; exact R44.num_stepP (by omega) (by omega) (by omega)
     ·first | rfl | omega | (simp_all; done) | (simp_all; omega)
     ·exact (R44.pow_stepP i1_2 i1_3 (by omega) (by omega)).1
     ·exact (R44.pow_stepP i1_2 i1_3 (by omega) (by omega)).2
    ·try dsimp only
     first | omega | (simp; omega) | (simp_all; omega)
  ·try have hi22 := R44.digP h12w
   try have hi23 := R44.digN h12w
   refine J_exit (ne_ (re_ (kh_ (n_ (q_ ?_)))))
   refine q_ (g_ (s_ mv_ (z_ (n_ ?_))))
   refine if_ (fun h24 => ?_) (fun h24 => ?_)
   ·have h24w := h24
    try have hi25 := R44.digP h24w
    try have hi26 := R44.digN h24w
    refine g_ (s_ mv_ (s_ (x_neg_i (a := n) rfl (by omega) (by omega)) (s_ av_ (z_ (n_ (q_ (g_ (s_ mv_ (s_ av_ (s_ av_ (z_ (n_ (rt_ ?_)))))))))))))
    exact p2 Tryz.results74 rfl rfl ⟨t2 (eI c44a0_) (eB c44a0_), rfl⟩
   ·have h24w := h24
    try have hi27 := R44.digP h24w
    try have hi28 := R44.digN h24w
    refine sk_ (n_ (q_ (g_ (s_ mv_ (s_ av_ (s_ av_ (z_ (n_ (rt_ ?_)))))))))
    exact p2 Tryz.results74 rfl rfl ⟨t2 (eI c44a0_) (eB c44a0_), rfl⟩
set_option maxRecDepth 20000 in
theorem f76_ok (s : Bytes) (w : World) (q0 : 0 < s.length) (q1 : s.length ≤ 8) : Calls Tryz.prog 76 #[vS s] w (Gives [] w fun v L => v = vI (R44.bin s) ∧ L = []) := by
 refine calls_J [] 25 Tryz.func76 rfl Tryz.ntmps76 [(0, _)] rfl rfl (Give.nil w) ?_
 refine q_ (g_ (s_ av_ (z_ (n_ (q_ (g_ (s_ mv_ (s_ (x_idx_s (k := 0) rfl rfl Tryz.underlying9 (by omega)) (s_ (x_conv_u8_i8 rfl Tryz.underlying5 Tryz.underlying138) (s_ (x_conv_i8_i64 rfl Tryz.underlying138 Tryz.underlying2 (int8_lt _).1 (int8_lt _).2) (s_ av_ (z_ (n_ (q_ (q_ (g_ (s_ mv_ ?_)))))))))))))))))
 refine s_ (x_sub_s (lo := 1) (hi := s.length) rfl Tryz.underlying9 (.inl rfl) (.inr ⟨rfl, rfl⟩) lt_ c44a8_) ?_
 have hsl1 := sub_length s 1 s.length lt_
 refine o_ (O_str_bytes (sub s 1 s.length) rfl Tryz.underlying9 Tryz.underlying91 Tryz.underlying5 fun b2 c3 z4 hz5 => ?_)
 refine s_ (lnS Tryz.underlying91) (s_ mv_ (z_ (n_ (k_ ?_))))
 refine J_loop (X := Nat × Int) (fun (⟨k, n⟩ : Nat × Int) => (k ≤ s.length - 1) ∧ (n = R44.bin (s.take (k + 1)))) (fun (⟨k, n⟩ : Nat × Int) => [(2, vI 0), (3, vI n), (12, vL (some ⟨b2, 0, none⟩) ((sub s 1 s.length).length) c3), (13, vI (((sub s 1 s.length).length : Nat) : Int)), (14, vI ((k : Nat) : Int))]) (fun (⟨k, n⟩ : Nat × Int) => [Ent.blk b2 5 (((sub s 1 s.length) ++ List.replicate z4 (0 : UInt8)).map vU8) ((sub s 1 s.length).length + z4, (sub s 1 s.length).length + z4 + 1)]) (fun (⟨k, n⟩ : Nat × Int) => s.length - 1 - k) ((0, (int8 (s.getD 0 0))) : Nat × Int) ?_ ⟨rfl, rfl, rfl, rfl, rfl, trivial⟩ (fun _ h => h) ?_
 ·try dsimp only
  refine ⟨?_, ?_⟩
  ·first | rfl | omega | (simp_all; done) | (simp_all; omega)
  ·exact R44.bin_first q0
 rintro ⟨k, n⟩ hI1
 obtain ⟨i1_0, i1_1⟩ := hI1
 try dsimp only at i1_0
 try dsimp only at i1_1
 have hbb := R44.bin_or (k := k) q0 q1
 try dsimp only
 refine q_ (g_ (s_ (x_lss_i rfl rfl) (z_ (n_ (q_ ?_)))))
 refine ifd (fun h6w h6 => ?_) (fun h6w h6 => ?_)
 ·refine sk_ (n_ (q_ (k_ (q_ (g_ (s_ (x_indexAddr_sl (k := k) Tryz.underlying91 Ty.sz5 rfl rfl lt_ (add_0k1 _ _)) (r_ (x_load_arr 0 vU8 0 rfl rfl Ty.sc5 lt_) (s_ av_ (z_ (n_ (g_ (s_ mv_ (js_ (vI (n * 2 ^ 8)) (x_shl_i (a := n) (m := 8) rfl rfl (by decide) (by omega) (by omega)) (s_ mv_ (s_ (x_conv_u8_i64 rfl Tryz.underlying5 Tryz.underlying2) (s_ (x_or_hi (n := n) (a := n * 2 ^ 8) (c := (((sub s 1 s.length) ++ List.replicate z4 (0 : UInt8)).getD k 0).toNat) rfl rfl (by omega) (by first | omega | exact UInt8.toNat_lt _ | (simp; omega)) (by omega) (by omega)) ?_))))))))))))))))
  refine s_ av_ (z_ (kx_ (n_ (g_ (s_ (x_add_n (a := k) (b := 1) rfl rfl (by omega)) (s_ mv_ (z_ ?_)))))))
  refine JX_round ((k + 1, (n * 2 ^ 8) + (((((sub s 1 s.length) ++ List.replicate z4 (0 : UInt8)).getD k 0).toNat : Nat) : Int)) : Nat × Int) ?_ ?_ ⟨rfl, rfl, rfl, rfl, rfl, trivial⟩ (fun _ h => h)
  ·try dsimp only
   refine ⟨?_, ?_⟩
   ·first | rfl | omega | (simp_all; done) | (simp_all; omega)
   ·exact R44.bin_stepP (by omega) q0 i1_1
  ·try dsimp only
   first | omega | (simp; omega) | (simp_all; omega)
 ·refine J_exit (ne_ (re_ (kh_ (n_ (q_ ?_)))))
  refine g_ (s_ mv_ (s_ av_ (z_ (n_ (rt_ ?_)))))
  exact p1 Tryz.results76 rfl ⟨(eI (by rw [i1_1, show k + 1 = s.length by omega, List.take_length])), rfl⟩
end Go.Proofs.YtmacopacmpgieaaGreatDoor

namespace Go.Proofs.YtmacopacmpgieaaGreatDoor
open Go.GV
set_option linter.unusedVariables false
set_option linter.unusedSimpArgs false
theorem c44b0_ {p : Prop} (h : p := by first | exact R44.cf_ss (by assumption) (by assumption) (by assumption) | exact R44.cf_2 (by assumption) (by assumption) | exact R44.cf_0 (by assumption) (by assumption) | exact R44.cf_lt (by assumption) (by assumption) (by assumption) | exact R44.cf_gt (by assumption) (by assumption) (by assumption) (by assumption) | exact R44.cf_eq (by assumption) (by assumption) (by assumption) (by simp_all) | exact R44.cf_sn (by assumption) (by assumption) (by simp_all) | exact R44.cf_ns (by assumption) (by assumption) (by assumption) | exact R44.cf_nn (by assumption) (by assumption) (by assumption)) : p := h
theorem c44b2_ {p : Prop} (h : p := by first | exact R44.cmpL_hit (by omega) i1_1 (by assumption) | exact R44.cmpL_end (by omega) i1_1) : p := h
set_option maxRecDepth 20000 in
theorem f59_ok (a : Bytes) (b : Bytes) (f : SortField) (w : World) (q0 : R44.fok f = true) (q1 : a.length ≤ 1000000000) (q2 : b.length ≤ 1000000000) : Calls Tryz.prog 59 #[vS a, vS b, vG (SortField.enc f)] w (Gives [] w fun v L => v = vI (R44.cmpF f a b) ∧ L = []) := by
 have hff := R44.fok_facts q0
 have hfk := R44.fok_kind q0
 have hfm := R44.most_le f.Kind
 refine calls_J [] 53 Tryz.func59 rfl Tryz.ntmps59 [(0, _), (1, _), (2, _)] rfl rfl (Give.nil w) ?_
 refine q_ (g_ (o_ (bxG fun b1 => ?_)))
 refine s_ av_ (z_ (n_ (q_ ?_)))
 refine drB [] 8 Ty.mixed ?_
 refine jp_ 0 rfl mv_ (jq_ 1 rfl (ldN 0 (SortField.enc f) Ty.ag65 Ty.sz65) (jp_ 3 rfl mv_ (jq_ 4 rfl (ldN 0 (SortField.enc f) Ty.ag65 Ty.sz65) (j1_ 2 (jc0_ rfl (cl_ Ty.ca73) (fun w hS => f73_ok a f w hy_ hy_) ?_) gm_))))
 have ha2 := R44.fld_len a f
 refine j1_ 5 (jc0_ rfl (cl_ Ty.ca73) (fun w hS => f73_ok b f w hy_ hy_) ?_) gm_
 have ha3 := R44.fld_len b f
 refine jp_ 6 rfl av_ (jp_ 7 rfl av_ ?_)
 refine JA_done (by kernel_rfl) gm_ ?_
 refine n_ (q_ (q_ (g_ (s_ (fA 2 Ty.fi65_2) (r_ (ld_ 0 Ty.sc3) (z_ (n_ (k_ (q_ (g_ (s_ (x_eql_i rfl rfl) (s_ av_ (z_ (n_ ?_))))))))))))))
 refine ifd (fun h4w h4 => ?_) (fun h4w h4 => ?_)
 ·refine q_ (g_ (s_ mv_ (c0 (cl_ Ty.ca74) (fun w hS => f74_ok _ w hy_) (s_ mv_ (s_ (ex_ 0) (s_ (ex_ 1) (s_ av_ (s_ av_ (z_ (xk_ [0, 1, 6, 7, 8] ?_))))))))))
  refine n_ (q_ (g_ (s_ mv_ (c0 (cl_ Ty.ca74) (fun w hS => f74_ok _ w hy_) (s_ mv_ (s_ (ex_ 0) (s_ (ex_ 1) (s_ av_ (s_ av_ (z_ (n_ (q_ (k_ (q_ (g_ (s_ mv_ ?_))))))))))))))))
  refine s_ mv_ ?_
  refine and_ 1 ((R44.dec (R44.fld b f)).isSome) (fun g5 => ?_) ?_
  ·have g5r := g5
   refine sg_ g5 mv_ ?_
   exact cr_
  refine s_ av_ (z_ (n_ ?_))
  refine if_ (fun h6 => ?_) (fun h6 => ?_)
  ·have ⟨h6, h7⟩ := band_true h6
   refine q_ (g_ (s_ mv_ (s_ mv_ (c0 (cl_ Ty.ca75) (fun w hS => f75_ok _ _ w) ?_))))
   have ha8 := R44.cmpI_bd ((R44.dec (R44.fld a f)).getD 0) ((R44.dec (R44.fld b f)).getD 0)
   refine s_ av_ (z_ (n_ (rt_ (kq_ (nr_ (kq_ (nr_ ?_)))))))
   exact p1 Tryz.results59 rfl ⟨(eI c44b0_), rfl⟩
  ·simp only [Bool.and_eq_true, Bool.or_eq_true, Bool.and_eq_false_iff, Bool.or_eq_false_iff, Bool.not_eq_true', Bool.not_eq_false', decide_eq_true_eq, decide_eq_false_iff_not] at h6
   refine q_ (g_ (s_ mv_ (s_ av_ (z_ (n_ ?_)))))
   refine if_ (fun h9 => ?_) (fun h9 => ?_)
   ·refine q_ (g_ (s_ av_ (z_ (n_ (rt_ (kq_ (nr_ (kq_ (nr_ ?_)))))))))
    exact p1 Tryz.results59 rfl ⟨(eI c44b0_), rfl⟩
   ·refine q_ (g_ (s_ mv_ (s_ av_ (z_ (n_ ?_)))))
    refine if_ (fun h10 => ?_) (fun h10 => ?_)
    ·refine q_ (g_ (s_ av_ (z_ (n_ (rt_ (kq_ (nr_ (kq_ (nr_ ?_)))))))))
     exact p1 Tryz.results59 rfl ⟨(eI c44b0_), rfl⟩
    ·refine sk_ (kx_ (n_ (q_ (g_ (s_ av_ (z_ (n_ (rt_ (kq_ (nr_ ?_))))))))))
     exact p1 Tryz.results59 rfl ⟨(eI c44b0_), rfl⟩
 ·refine q_ (g_ (s_ (x_eql_i rfl rfl) (s_ av_ (z_ (n_ ?_)))))
  refine ifd (fun h11w h11 => ?_) (fun h11w h11 => ?_)
  ·refine q_ (g_ (s_ mv_ (c0 (cl_ Ty.ca76) (fun w hS => f76_ok _ w hy_ hy_) (s_ mv_ (c0 (cl_ Ty.ca76) (fun w hS => f76_ok _ w hy_ hy_) (c0 (cl_ Ty.ca75) (fun w hS => f75_ok _ _ w) ?_))))))
   have ha12 := R44.cmpI_bd (R44.bin (R44.fld a f)) (R44.bin (R44.fld b f))
   refine s_ av_ (z_ (xk_ [0, 1, 6] ?_))
   refine n_ (rt_ (kq_ (nr_ ?_)))
   exact p1 Tryz.results59 rfl ⟨(eI c44b0_), rfl⟩
  ·refine sk_ (kx_ (n_ (q_ (g_ (s_ mv_ (s_ mv_ (c0 (cl_ Ty.ca77) (fun w hS => scmp_ok _ _ w) ?_)))))))
   have ha13 := R44.cmpS_tri (R44.fld a f) (R44.fld b f)
   refine s_ av_ (z_ (n_ (rt_ ?_)))
   exact p1 Tryz.results59 rfl ⟨(eI c44b0_), rfl⟩
set_option maxRecDepth 20000 in
theorem f38_ok (a : Bytes) (b : Bytes) (l : List SortField) (lA : Option Addr) (lC : Nat) (w : World) (lR : RO [] w lA (l.flatMap SortField.enc)) (q0 : R44.valid l = true) (q1 : a.length ≤ 1000000000) (q2 : b.length ≤ 1000000000) : Calls Tryz.prog 38 #[vS a, vS b, vL lA l.length lC] w (Gives [] w fun v L => v = vI (R44.cmpL l a b) ∧ L = []) := by
 have hv0 := R44.valid_facts q0
 refine calls_J [] 28 Tryz.func38 rfl Tryz.ntmps38 [(0, _), (1, _), (2, _)] rfl rfl (Give.nil w) ?_
 refine q_ (g_ (s_ av_ (z_ (n_ (q_ (q_ (g_ (s_ mv_ (s_ (lnS Tryz.underlying23) (s_ mv_ (z_ (n_ (k_ ?_)))))))))))))
 refine J_loop (X := Nat) (fun (k : Nat) => (k ≤ l.length) ∧ (R44.cmpL (l.drop k) a b = R44.cmpL l a b)) (fun (k : Nat) => [(0, vS a), (1, vS b), (10, vL lA l.length lC), (11, vI ((l.length : Nat) : Int)), (12, vI ((k : Nat) : Int))]) (fun (k : Nat) => []) (fun (k : Nat) => l.length - k) (0 : Nat) ?_ ⟨rfl, rfl, rfl, rfl, rfl, trivial⟩ (fun _ h => h) ?_
 ·try dsimp only
  refine ⟨?_, ?_⟩
  ·first | rfl | omega | (simp_all; done) | (simp_all; omega)
  ·rfl
 intro k hI1
 obtain ⟨i1_0, i1_1⟩ := hI1
 try dsimp only at i1_0
 try dsimp only at i1_1
 have hfo := hv0.2 k
 have hbd := R44.cmpF_bd (l.getD k default) a b
 try dsimp only
 refine q_ (g_ (s_ (x_lss_i rfl rfl) (z_ (n_ (q_ ?_)))))
 refine ifd (fun h1w h1 => ?_) (fun h1w h1 => ?_)
 ·refine sk_ (n_ (q_ (k_ (q_ (g_ (r_ (ixF SortField.enc_len (cells_ro lR) Tryz.underlying23 Ty.sz65) (r_ (ldFN SortField.enc_len (cells_ro lR) Ty.ag65 Ty.sz65) (o_ (al_ Ty.ze65 fun b2 => ?_)))))))))
  refine o_ (stG 0 Ty.sz65 ?_)
  refine z_ (n_ (q_ (g_ (s_ mv_ (s_ mv_ (r_ (ldN 0 (SortField.enc (l.getD k default)) Ty.ag65 Ty.sz65) (c0 (cl_ Ty.ca59) (fun w hS => f59_ok a b _ w hy_ hy_ hy_) ?_)))))))
  have ha3 := R44.cmpF_bd (l.getD k default) a b
  refine s_ av_ (z_ (n_ (q_ (q_ (g_ (s_ (fA 3 Ty.fi65_3) (r_ (ld_ 0 Ty.sc4) (z_ (n_ ?_)))))))))
  refine J_cutK (X := Int) (fun (m4 : Int) => m4 = (if ((l.getD k default).Descending) = true then -(R44.cmpF (l.getD k default) a b) else R44.cmpF (l.getD k default) a b)) (fun (m4 : Int) => [(0, vS a), (1, vS b), (10, vL lA l.length lC), (11, vI ((l.length : Nat) : Int)), (12, vI ((k : Nat) : Int)), (9, vI m4)]) (fun (m4 : Int) => [Ent.blk b2 65 (SortField.enc (l.getD k default))]) ?_ ?_
  ·refine if_ (fun h5 => ?_) (fun h5 => ?_)
   ·have h5r := h5
    have h5 : (((l.getD k default).Descending) = true) := by exact h5
    refine g_ (s_ mv_ (s_ (x_neg_i (a := R44.cmpF (l.getD k default) a b) rfl (by omega) (by omega)) (s_ av_ (z_ ?_))))
    exact JX_cut (-(R44.cmpF (l.getD k default) a b)) (if_pos h5).symm ⟨rfl, rfl, rfl, rfl, rfl, rfl, trivial⟩ (fun _ h => h)
   ·have h5r := h5
    have h5 : ¬ (((l.getD k default).Descending) = true) := by simp only [h5]; decide
    refine sk_ ?_
    exact JX_cut (R44.cmpF (l.getD k default) a b) (if_neg h5).symm ⟨rfl, rfl, rfl, rfl, rfl, rfl, trivial⟩ (fun _ h => h)
  rintro m4 rfl
  refine n_ (q_ (g_ (s_ mv_ (s_ (x_neq_i rfl rfl) (z_ (n_ ?_))))))
  refine ifd (fun h6w h6 => ?_) (fun h6w h6 => ?_)
  ·refine q_ (g_ (s_ mv_ (s_ av_ (z_ (n_ (rt_ (kq_ (nr_ (rr_ (kq_ (nr_ ?_)))))))))))
   exact p1 Tryz.results38 rfl ⟨(eI c44b2_), rfl⟩
  ·refine sk_ (kx_ (n_ (g_ (s_ (x_add_n (a := k) (b := 1) rfl rfl (by omega)) (s_ mv_ (z_ ?_))))))
   refine JX_round (k + 1 : Nat) ?_ ?_ ⟨rfl, rfl, rfl, rfl, rfl, trivial⟩ (fun _ h => h.keep [false] rfl)
   ·try dsimp only
    refine ⟨?_, ?_⟩
    ·first | rfl | omega | (simp_all; done) | (simp_all; omega)
    ·exact R44.cmpL_go (by omega) i1_1 (Decidable.not_not.1 (by assumption))
   ·try dsimp only
    first | omega | (simp; omega) | (simp_all; omega)
 ·refine J_exit (ne_ (re_ (kh_ (n_ (q_ ?_)))))
  refine g_ (s_ av_ (z_ (n_ (rt_ ?_))))
  exact p1 Tryz.results38 rfl ⟨(eI c44b2_), rfl⟩
end Go.Proofs.YtmacopacmpgieaaGreatDoor

namespace Go.Proofs.YtmacopacmpgieaaGreatDoor
open Go.GV
set_option linter.unusedVariables false
set_option linter.unusedSimpArgs false
theorem c44c0_ {p : Prop} (h : p := by first | exact Hp.or_hit (by omega) i1_1 (by omega) | exact Hp.or_end (by omega) i1_1) : p := h
theorem c44c1_ {p : Prop} (h : p := by rw [flat_length element.enc 3 element.enc_len]; first | omega | (simp only [List.length_append, List.length_cons, List.length_nil]; omega) | (simp; omega) | (simp_all; omega) | (simp_all; done)) : p := h
theorem c44c3_ {p : Prop} (h : p := by exact Hp.up_end hec i1_0 (fun hk0 => by first | (exfalso; omega) | assumption | simp_all)) : p := h
set_option maxRecDepth 20000 in
theorem f57_ok (xs : List Int) (xsA : Option Addr) (xsC : Nat) (w : World) (xsR : RO [] w xsA (xs.map vI)) (q0 : xs.length ≤ 9223372036854775807) : Calls Tryz.prog 57 #[vL xsA xs.length xsC] w (Gives [] w fun v L => v = vI (Hp.orL xs) ∧ L = []) := by
 refine calls_J [] 18 Tryz.func57 rfl Tryz.ntmps57 [(0, _)] rfl rfl (Give.nil w) ?_
 refine q_ (g_ (s_ av_ (z_ (n_ (q_ (g_ (s_ av_ (z_ (n_ (q_ (q_ (g_ (s_ mv_ (s_ (lnS Tryz.underlying119) (s_ mv_ (z_ (n_ (k_ ?_))))))))))))))))))
 refine J_loop (X := Nat) (fun (k : Nat) => (k ≤ xs.length) ∧ (Hp.orL (xs.drop k) = Hp.orL xs)) (fun (k : Nat) => [(3, vI 0), (6, vL xsA xs.length xsC), (7, vI ((xs.length : Nat) : Int)), (8, vI ((k : Nat) : Int))]) (fun (k : Nat) => []) (fun (k : Nat) => xs.length - k) (0 : Nat) ?_ ⟨rfl, rfl, rfl, rfl, trivial⟩ (fun _ h => h) ?_
 ·try dsimp only
  refine ⟨?_, ?_⟩
  ·first | rfl | omega | (simp_all; done) | (simp_all; omega)
  ·rfl
 intro k hI1
 obtain ⟨i1_0, i1_1⟩ := hI1
 try dsimp only at i1_0
 try dsimp only at i1_1
 try dsimp only
 refine q_ (g_ (s_ (x_lss_i rfl rfl) (z_ (n_ (q_ ?_)))))
 refine ifd (fun h1w h1 => ?_) (fun h1w h1 => ?_)
 ·refine sk_ (n_ (q_ (k_ (q_ (g_ (r_ (ixM (cells_ro xsR) Tryz.underlying119 Ty.sz3) (r_ (ldM vI 0 (cells_ro xsR) Ty.sc3) (s_ av_ (z_ (n_ (q_ (g_ (s_ mv_ (s_ mv_ (s_ (x_neq_i rfl rfl) (z_ (n_ ?_)))))))))))))))))
  refine ifd (fun h2w h2 => ?_) (fun h2w h2 => ?_)
  ·refine q_ (g_ (s_ mv_ (s_ av_ (z_ (n_ (rt_ (kq_ (nr_ (rr_ (kq_ (nr_ ?_)))))))))))
   exact p1 Tryz.results57 rfl ⟨(eI c44c0_), rfl⟩
  ·refine sk_ (kx_ (n_ (g_ (s_ (x_add_n (a := k) (b := 1) rfl rfl (by omega)) (s_ mv_ (z_ ?_))))))
   refine JX_round (k + 1 : Nat) ?_ ?_ ⟨rfl, rfl, rfl, rfl, trivial⟩ (fun _ h => h)
   ·try dsimp only
    refine ⟨?_, ?_⟩
    ·first | rfl | omega | (simp_all; done) | (simp_all; omega)
    ·exact Hp.or_go (by omega) i1_1 (by omega)
   ·try dsimp only
    first | omega | (simp; omega) | (simp_all; omega)
 ·refine J_exit (ne_ (re_ (kh_ (n_ (q_ ?_)))))
  refine g_ (s_ mv_ (s_ av_ (z_ (n_ (rt_ ?_)))))
  exact p1 Tryz.results57 rfl ⟨(eI c44c0_), rfl⟩
set_option maxRecDepth 20000 in
theorem f35_ok (l : List SortField) (lA : Option Addr) (lC : Nat) (p : element) (q : element) (w : World) (lR : RO [] w lA (l.flatMap SortField.enc)) (q0 : R44.valid l = true) (q1 : p.record.length ≤ 1000000000) (q2 : q.record.length ≤ 1000000000) : Calls Tryz.prog 35 #[vG [vL lA l.length lC], vG [vI p.run, vI p.no, vS p.record], vG [vI q.run, vI q.no, vS q.record]] w (Gives [] w fun v L => v = vB (decide (Hp.ec l p q < 0)) ∧ L = []) := by
 have hb1 := R44.cmpI_bd p.run q.run
 have hb2 := R44.cmpL_bd l p.record q.record
 have hb3 := R44.cmpI_bd p.no q.no
 refine calls_J [] 27 Tryz.func35 rfl Tryz.ntmps35 [(0, _), (1, _), (2, _)] rfl rfl (Give.nil w) ?_
 refine q_ (g_ (o_ (bxG fun b1 => ?_)))
 refine o_ (bxG fun b2 => ?_)
 refine o_ (bxG fun b3 => ?_)
 refine s_ av_ (z_ (n_ (q_ ?_)))
 refine drB [] 21 Ty.mixed ?_
 refine jp_ 0 rfl (fA 0 Ty.fi78_0) (jq_ 1 rfl (ld_ 1 Ty.sc3) (jp_ 2 rfl (fA 0 Ty.fi78_0) (jq_ 3 rfl (ld_ 0 Ty.sc3) (jp_ 5 rfl (fA 2 Ty.fi78_2) (jq_ 6 rfl (ld_ 1 Ty.sc9) (jp_ 7 rfl (fA 2 Ty.fi78_2) (jq_ 8 rfl (ld_ 0 Ty.sc9) (jp_ 9 rfl (fA 0 Ty.fi72_0) (jq_ 10 rfl (ld_ 2 Ty.sc23) ?_)))))))))
 refine jp_ 12 rfl (fA 1 Ty.fi78_1) (jq_ 13 rfl (ld_ 1 Ty.sc3) (jp_ 14 rfl (fA 1 Ty.fi78_1) (jq_ 15 rfl (ld_ 0 Ty.sc3) (j1_ 4 (jc0_ rfl (cl_ Ty.ca58) (fun w hS => f58_ok _ _ w) ?_) gm_))))
 have ha4 := R44.cmpI_bd p.run q.run
 refine j1_ 11 (jc0_ rfl (cl_ Ty.ca38) (fun w hS => f38_ok _ _ l lA lC w (rno lR hS) hy_ hy_ hy_) ?_) gm_
 have ha5 := R44.cmpL_bd l p.record q.record
 refine j1_ 16 (jc0_ rfl (cl_ Ty.ca58) (fun w hS => f58_ok p.no q.no w) ?_) gm_
 have ha6 := R44.cmpI_bd p.no q.no
 refine j1_ 17 (jio_ rfl (O_buildSlice (cs := [vI (R44.cmpI p.run q.run), vI (R44.cmpL l p.record q.record), vI (R44.cmpI p.no q.no)]) Tryz.underlying119 Ty.sz3 Ty.ze3 (by decide) (by decide) (by kernel_rfl) fun b8 => ?_)) gm_
 refine j1_ 18 (jc0_ rfl (cl_ Ty.ca57) (fun w hS => f57_ok [R44.cmpI p.run q.run, R44.cmpL l p.record q.record, R44.cmpI p.no q.no] _ 3 w (RO.of_blk hS 0 (off := 0) (m := 3) rfl rfl) hy_) (jp_ 19 rfl (x_lss_i rfl rfl) (jp_ 20 rfl av_ ?_))) (fun _ h => ⟨h.keep [false, true, true, true] rfl, fun _ => h.keep [false, true, true, true] rfl⟩)
 refine JA_done (by kernel_rfl) (fun _ h => ⟨h.keep [false, true, true, true] rfl, fun _ => h.keep [false, true, true, true] rfl⟩) ?_
 refine n_ (rt_ ?_)
 exact p1 Tryz.results35 rfl ⟨(eB (by rfl)), rfl⟩
set_option maxRecDepth 20000 in
theorem f36_ok (h : Nat) (l : List SortField) (lA : Option Addr) (lC : Nat) (xs : List element) (xsA : Option Addr) (xsC : Nat) (xsN : Nat) (x : element) (w : World) (lR : RO (Lown [Ent.blk h 75 [vL xsA xsN xsC, Value.func (.func 35) #[vG [vL lA l.length lC]] #[]], Ent.row (.slice xsA xsN xsC) 78 3 xsN (xs.flatMap element.enc)]) w lA (l.flatMap SortField.enc)) (xsQ : xsN = xs.length) (q0 : R44.valid l = true) (q1 : Hp.Heap (Hp.ec l) default xs) (q2 : Hp.Rok xs) (q3 : xs.length ≤ 1000000) (q4 : x.record.length ≤ 1000000000) (hg : Give (Lown [Ent.blk h 75 [vL xsA xsN xsC, Value.func (.func 35) #[vG [vL lA l.length lC]] #[]], Ent.row (.slice xsA xsN xsC) 78 3 xsN (xs.flatMap element.enc)]) w [Ent.blk h 75 [vL xsA xsN xsC, Value.func (.func 35) #[vG [vL lA l.length lC]] #[]], Ent.row (.slice xsA xsN xsC) 78 3 xsN (xs.flatMap element.enc)]) : Calls Tryz.prog 36 #[pB h 0, vG [vI x.run, vI x.no, vS x.record]] w (Gives (Lown [Ent.blk h 75 [vL xsA xsN xsC, Value.func (.func 35) #[vG [vL lA l.length lC]] #[]], Ent.row (.slice xsA xsN xsC) 78 3 xsN (xs.flatMap element.enc)]) w fun v L => ∃ ys : List element, ∃ ysA : Option Addr, ∃ ysC : Nat, v = Value.tuple #[] ∧ L = [Ent.blk h 75 [vL ysA ys.length ysC, Value.func (.func 35) #[vG [vL lA l.length lC]] #[]], Ent.row (.slice ysA ys.length ysC) 78 3 ys.length (ys.flatMap element.enc)] ∧ (Hp.Heap (Hp.ec l) default ys) ∧ (ys.Perm (xs ++ [x])) ∧ (Hp.Rok ys) ∧ (ys.length = xs.length + 1)) := by
 subst xsQ
 refine calls_J (Lown [Ent.blk h 75 [vL xsA xs.length xsC, Value.func (.func 35) #[vG [vL lA l.length lC]] #[]], Ent.row (.slice xsA xs.length xsC) 78 3 xs.length (xs.flatMap element.enc)]) 79 Tryz.func36 rfl Tryz.ntmps36 [(0, _), (1, _)] rfl rfl hg ?_
 refine q_ (g_ (o_ (bxG fun b1 => ?_)))
 refine z_ (n_ (q_ ?_))
 refine drU [] [7, 10] 11 Ty.mixed ?_
 refine jp_ 0 rfl mv_ (jp_ 1 rfl mv_ (jp_ 2 rfl (x_nilCheck rfl) (jp_ 3 rfl (fA 0 Ty.fi75_0) ?_)))
 refine JA_early 4 (vL xsA xs.length xsC) rfl (by kernel_rfl) (by kernel_rfl) (by kernel_rfl) rfl (by kernel_rfl) (fun _ _ _ h => h) rfl trivial (x_load 1 rfl rfl Ty.sc73 rfl) ?_
 refine j1_ 5 (jir_ rfl (ldN 0 [vI x.run, vI x.no, vS x.record] Ty.ag78 Ty.sz78) (j1_ 6 (jio_ rfl (O_buildSlice (cs := [vI x.run, vI x.no, vS x.record]) Tryz.underlying73 Ty.sz78 Ty.ze78 (by decide) (by decide) (by kernel_rfl) fun b3 => ?_)) (fun _ h => ⟨h.keep [false, false, false] rfl, fun _ => h⟩))) (fun _ h => ⟨h.keep [false, false, false] rfl, fun _ => h⟩)
 refine j1_ 7 (jio_ rfl (O_append_f 3 element.enc 3 xs [x] Tryz.underlying73 Ty.sz78 Ty.by78 Ty.ze78 rfl (by decide) rfl rfl rfl rfl element.enc_len element.enc_one (cells_blk 0 (off := 0) (m := 3) rfl rfl) lt_ lt_ fun A6 c7 => ?_)) (fun _ h => ⟨h.keep [false, false, false, false] rfl, fun _ => h.keep [false, true, true, true] rfl⟩)
 refine jp_ 8 rfl (x_nilCheck rfl) (jp_ 9 rfl (fA 0 Ty.fi75_0) (j1_ 10 (jio_ rfl (st1 2 Ty.sz73 ?_)) (gl_ rfl (fun _ h => h.keep [false, false, false, false] rfl))))
 refine JA_done (by kernel_rfl) (gl_ rfl (fun _ h => h.keep [false, false, false, false] rfl)) ?_
 refine n_ (q_ (g_ (s_ mv_ (s_ (x_nilCheck rfl) (s_ (fA 0 Ty.fi75_0) (r_ (ld_ 2 Ty.sc73) (s_ (lnS Tryz.underlying73) (s_ (x_sub_i (a := (((xs ++ [x]).length : Nat) : Int)) (b := 1) rfl rfl lt_ lt_) (s_ av_ (z_ (n_ (k_ ?_))))))))))))
 refine J_loop (X := Nat × (List element) × (Option Addr) × Nat) (fun (⟨k, ys, ysA, ysC⟩ : Nat × (List element) × (Option Addr) × Nat) => (Hp.Up (Hp.ec l) default ys k) ∧ (ys.Perm (xs ++ [x]))) (fun (⟨k, ys, ysA, ysC⟩ : Nat × (List element) × (Option Addr) × Nat) => [(0, pB h 0), (4, vI ((k : Nat) : Int))]) (fun (⟨k, ys, ysA, ysC⟩ : Nat × (List element) × (Option Addr) × Nat) => [Ent.blk h 75 [vL ysA ys.length ysC, Value.func (.func 35) #[vG [vL lA l.length lC]] #[]], Ent.row (.slice ysA ys.length ysC) 78 3 ys.length (ys.flatMap element.enc)]) (fun (⟨k, ys, ysA, ysC⟩ : Nat × (List element) × (Option Addr) × Nat) => k) ((xs.length, xs ++ [x], A6, c7) : Nat × (List element) × (Option Addr) × Nat) ?_ ⟨rfl, (sE_ (by first | omega | (simp; done) | (simp; omega))), trivial⟩ (fun _ h => h.keep [false, false, true, true] rfl) ?_
 ·try dsimp only
  refine ⟨?_, ?_⟩
  ·exact Hp.up_start q1 x
  ·exact .refl _
 rintro ⟨k, ys, ysA, ysC⟩ hI1
 obtain ⟨i1_0, i1_1⟩ := hI1
 try dsimp only at i1_0
 try dsimp only at i1_1
 have hec := Hp.ec_ok l
 have hlt := i1_0.lt
 have hle := i1_1.length_eq
 simp only [List.length_append, List.length_cons, List.length_nil] at hle
 have hrk := (q2.snoc q4).perm i1_1
 have hr1 := hrk.at_ (i := k) (by omega)
 have hr2 := hrk.at_ (i := (k - 1) / 2) (by omega)
 try dsimp only
 refine q_ (q_ ?_)
 refine drB [] 25 Ty.mixed ?_
 refine jp_ 0 rfl mv_ (jp_ 1 rfl (x_gtr_i rfl rfl) (jp_ 2 rfl mv_ ?_))
 refine jb_ 23 (fun h8 => ?_) (fun h8 => ?_)
 ·have h8 := of_decide_eq_true h8
  refine jp_ 3 rfl mv_ (jp_ 4 rfl (x_nilCheck rfl) (jp_ 5 rfl (fA 1 Ty.fi75_1) (jq_ 6 rfl (ld_ 0 Ty.sc70) (jp_ 7 rfl mv_ (jp_ 8 rfl (x_nilCheck rfl) (jp_ 9 rfl (fA 0 Ty.fi75_0) (jq_ 10 rfl (ld_ 0 Ty.sc73) (jp_ 11 rfl mv_ (jq_ 12 rfl (ixF element.enc_len (cells_row 1 rfl) Tryz.underlying73 Ty.sz78) ?_ (hw := ⟨_, rfl, rfl⟩)) (hw := ⟨_, rfl, rfl⟩)) (hw := ⟨_, rfl, rfl⟩)) (hw := ⟨_, rfl, rfl⟩)) (hw := ⟨_, rfl, rfl⟩)) (hw := ⟨_, rfl, rfl⟩)) (hw := ⟨_, rfl, rfl⟩)) (hw := ⟨_, rfl, rfl⟩)) (hw := ⟨_, rfl, rfl⟩)) (hw := ⟨_, rfl, rfl⟩)
  refine jq_ 13 rfl (ldFN element.enc_len (cells_row 1 rfl) Ty.ag78 Ty.sz78) (jp_ 14 rfl mv_ (jp_ 15 rfl (x_nilCheck rfl) (jp_ 16 rfl (fA 0 Ty.fi75_0) (jq_ 17 rfl (ld_ 0 Ty.sc73) (jp_ 18 rfl mv_ (jp_ 19 rfl (x_sub_i (a := ((k : Nat) : Int)) (b := 1) rfl rfl (by omega) (by omega)) (jp_ 20 rfl (x_quo_i (a := ((k : Nat) : Int) - 1) (b := 2) rfl rfl (by omega) (by omega) (by omega)) (jq_ 21 rfl (ixF (k := ((k - 1) / 2)) (hy := (ix_nat rfl (by omega))) element.enc_len (cells_row 1 rfl) Tryz.underlying73 Ty.sz78) (jq_ 22 rfl (ldFN element.enc_len (cells_row 1 rfl) Ty.ag78 Ty.sz78) ?_ (hw := ⟨_, rfl, rfl⟩)) (hw := ⟨_, rfl, rfl⟩)) (hw := ⟨_, rfl, rfl⟩)) (hw := ⟨_, rfl, rfl⟩)) (hw := ⟨_, rfl, rfl⟩)) (hw := ⟨_, rfl, rfl⟩)) (hw := ⟨_, rfl, rfl⟩)) (hw := ⟨_, rfl, rfl⟩)) (hw := ⟨_, rfl, rfl⟩)) (hw := ⟨_, rfl, rfl⟩)
  refine j1_ 23 (jc0_ rfl (x_callv (first := [vG [vL lA l.length lC]]) (caps := []) rfl Ty.ca35 rfl) (fun w hS => f35_ok l lA lC _ _ w (rno lR hS) hy_ hy_ hy_) ?_ (hw := ⟨_, rfl, rfl⟩)) gm_
  refine jt_ 24 (vB (decide (Hp.ec l (ys.getD k default) (ys.getD ((k - 1) / 2) default) < 0))) rfl (fun _ _ => rfl) ?_
  refine JA_done (by kernel_rfl) gm_ ?_
  refine n_ ?_
  refine ifd (fun h9w h9 => ?_) (fun h9w h9 => ?_)
  ·refine sk_ (n_ (q_ (k_ ?_)))
   refine drU [] [29, 31] 32 Ty.mixed ?_
   refine jp_ 0 rfl mv_ (jp_ 1 rfl (x_nilCheck rfl) (jp_ 2 rfl (fA 0 Ty.fi75_0) ?_))
   refine JA_early 3 (vL ysA ys.length ysC) rfl (by kernel_rfl) (by kernel_rfl) (by kernel_rfl) rfl (by kernel_rfl) (fun _ _ _ h => h) rfl trivial (x_load 0 rfl rfl Ty.sc73 rfl) ?_
   refine jp_ 4 rfl mv_ (jp_ 5 rfl mv_ (jp_ 6 rfl (x_nilCheck rfl) (jp_ 7 rfl (fA 0 Ty.fi75_0) ?_)))
   refine JA_early 8 (vL ysA ys.length ysC) rfl (by kernel_rfl) (by kernel_rfl) (by kernel_rfl) rfl (by kernel_rfl) (fun _ _ _ h => h) rfl trivial (x_load 0 rfl rfl Ty.sc73 rfl) ?_
   refine jp_ 9 rfl mv_ (jp_ 10 rfl (x_sub_i (a := ((k : Nat) : Int)) (b := 1) rfl rfl (by omega) (by omega)) (jp_ 11 rfl (x_quo_i (a := ((k : Nat) : Int) - 1) (b := 2) rfl rfl (by omega) (by omega) (by omega)) (jp_ 12 rfl mv_ (jp_ 13 rfl (x_nilCheck rfl) (jp_ 14 rfl (fA 0 Ty.fi75_0) ?_)))))
   refine JA_early 15 (vL ysA ys.length ysC) rfl (by kernel_rfl) (by kernel_rfl) (by kernel_rfl) rfl (by kernel_rfl) (fun _ _ _ h => h) rfl trivial (x_load 0 rfl rfl Ty.sc73 rfl) ?_
   refine jp_ 16 rfl mv_ (jp_ 17 rfl (x_sub_i (a := ((k : Nat) : Int)) (b := 1) rfl rfl (by omega) (by omega)) (jp_ 18 rfl (x_quo_i (a := ((k : Nat) : Int) - 1) (b := 2) rfl rfl (by omega) (by omega) (by omega)) ?_))
   refine JA_early 19 (pA ysA (((k - 1) / 2) * 3)) rfl (by kernel_rfl) (by kernel_rfl) (by kernel_rfl) rfl (by kernel_rfl) (fun _ _ _ h => h) rfl trivial (x_indexAddr_at (k := ((k - 1) / 2)) (off := ((k - 1) / 2) * 3) (cells_row 1 rfl) Tryz.underlying73 Ty.sz78 rfl (ix_nat rfl (by omega)) lt_ c44c1_ rfl) ?_
   refine JA_early 20 (vG [vI ((ys.getD ((k - 1) / 2) default).run), vI ((ys.getD ((k - 1) / 2) default).no), vS ((ys.getD ((k - 1) / 2) default).record)]) rfl (by kernel_rfl) (by kernel_rfl) (by kernel_rfl) rfl (by kernel_rfl) (fun _ _ _ h => h) rfl trivial (x_loadN_at [vI ((ys.getD ((k - 1) / 2) default).run), vI ((ys.getD ((k - 1) / 2) default).no), vS ((ys.getD ((k - 1) / 2) default).record)] (cells_row 1 rfl) rfl Ty.ag78 Ty.sz78 (flat_drop element.enc 3 element.enc_len ys default ((k - 1) / 2) lt_)) ?_
   refine jp_ 21 rfl mv_ (jp_ 22 rfl (x_nilCheck rfl) (jp_ 23 rfl (fA 0 Ty.fi75_0) ?_))
   refine JA_early 24 (vL ysA ys.length ysC) rfl (by kernel_rfl) (by kernel_rfl) (by kernel_rfl) rfl (by kernel_rfl) (fun _ _ _ h => h) rfl trivial (x_load 0 rfl rfl Ty.sc73 rfl) ?_
   refine jp_ 25 rfl mv_ (j1_ 26 (jir_ rfl (ixF element.enc_len (cells_row 1 rfl) Tryz.underlying73 Ty.sz78) ?_) (fun _ h => ⟨h.keep [false, false] rfl, fun _ => h⟩))
   refine JA_early 27 (vG [vI ((ys.getD k default).run), vI ((ys.getD k default).no), vS ((ys.getD k default).record)]) rfl (by kernel_rfl) (by kernel_rfl) (by kernel_rfl) rfl (by kernel_rfl) (fun _ _ _ h => h) rfl trivial (x_loadN_at [vI ((ys.getD k default).run), vI ((ys.getD k default).no), vS ((ys.getD k default).record)] (cells_row 1 rfl) rfl Ty.ag78 Ty.sz78 (flat_drop element.enc 3 element.enc_len ys default k lt_)) ?_
   refine JA_early 28 (pA ysA (k * 3)) rfl (by kernel_rfl) (by kernel_rfl) (by kernel_rfl) rfl (by kernel_rfl) (fun _ _ _ h => h) rfl trivial (x_indexAddr_at (k := k) (off := k * 3) (cells_row 1 rfl) Tryz.underlying73 Ty.sz78 rfl rfl lt_ c44c1_ rfl) ?_
   refine j1_ 29 (jio_ rfl (O_store_row_f (a := (ys.getD ((k - 1) / 2) default)) (xs := ys) (k := k) 1 element.enc [Ent.blk h 75 [vL ysA ys.length ysC, Value.func (.func 35) #[vG [vL lA l.length lC]] #[]], Ent.row (.slice ysA (ys.set k (ys.getD ((k - 1) / 2) default)).length ysC) 78 3 (ys.set k (ys.getD ((k - 1) / 2) default)).length ((ys.set k (ys.getD ((k - 1) / 2) default)).flatMap element.enc)] rfl rfl rfl Ty.sz78 element.enc_len element.enc_one lt_ rfl ?_)) (fun _ h => ⟨h.keep [false, false] rfl, fun _ => h⟩)
   refine JA_weaken (E' := [(0, pB h 0), (4, vI ((k : Nat) : Int)), (21, vI ((k : Nat) : Int)), (22, vB (decide ((0 : Int) < ((k : Nat) : Int)))), (23, vB true), (24, pB h 0), (25, pB h 0), (26, pB h 1), (27, Value.func (.func 35) #[vG [vL lA l.length lC]] #[]), (28, pB h 0), (29, pB h 0), (30, pB h 0), (31, vL ysA ((ys.set k (ys.getD ((k - 1) / 2) default)).length) ysC), (32, vI ((k : Nat) : Int)), (33, pA ysA (k * 3)), (34, vG [vI ((ys.getD k default).run), vI ((ys.getD k default).no), vS ((ys.getD k default).record)]), (35, pB h 0), (36, pB h 0), (37, pB h 0), (38, vL ysA ((ys.set k (ys.getD ((k - 1) / 2) default)).length) ysC), (39, vI ((k : Nat) : Int)), (40, vI (((k : Nat) : Int) - 1)), (41, vI ((((k : Nat) : Int) - 1) / 2)), (42, pA ysA (((k - 1) / 2) * 3)), (43, vG [vI ((ys.getD ((k - 1) / 2) default).run), vI ((ys.getD ((k - 1) / 2) default).no), vS ((ys.getD ((k - 1) / 2) default).record)]), (44, vB (decide (Hp.ec l (ys.getD k default) (ys.getD ((k - 1) / 2) default) < 0))), (45, vB (decide (Hp.ec l (ys.getD k default) (ys.getD ((k - 1) / 2) default) < 0))), (49, pB h 0), (50, pB h 0), (51, pB h 0), (52, vL ysA ((ys.set k (ys.getD ((k - 1) / 2) default)).length) ysC), (53, vI ((k : Nat) : Int)), (54, pB h 0), (55, pB h 0), (56, pB h 0), (57, vL ysA ((ys.set k (ys.getD ((k - 1) / 2) default)).length) ysC), (58, vI ((k : Nat) : Int)), (59, vI (((k : Nat) : Int) - 1)), (60, vI ((((k : Nat) : Int) - 1) / 2)), (61, pB h 0), (62, pB h 0), (63, pB h 0), (64, vL ysA ((ys.set k (ys.getD ((k - 1) / 2) default)).length) ysC), (65, vI ((k : Nat) : Int)), (66, vI (((k : Nat) : Int) - 1)), (67, vI ((((k : Nat) : Int) - 1) / 2)), (68, pA ysA (((k - 1) / 2) * 3)), (69, vG [vI ((ys.getD ((k - 1) / 2) default).run), vI ((ys.getD ((k - 1) / 2) default).no), vS ((ys.getD ((k - 1) / 2) default).record)]), (70, pB h 0), (71, pB h 0), (72, pB h 0), (73, vL ysA ((ys.set k (ys.getD ((k - 1) / 2) default)).length) ysC), (74, vI ((k : Nat) : Int)), (75, pA ysA (k * 3)), (76, vG [vI ((ys.getD k default).run), vI ((ys.getD k default).no), vS ((ys.getD k default).record)]), (77, pA ysA (k * 3))]) (L' := [Ent.blk h 75 [vL ysA ((ys.set k (ys.getD ((k - 1) / 2) default)).length) ysC, Value.func (.func 35) #[vG [vL lA l.length lC]] #[]], Ent.row (.slice ysA (ys.set k (ys.getD ((k - 1) / 2) default)).length ysC) 78 3 (ys.set k (ys.getD ((k - 1) / 2) default)).length ((ys.set k (ys.getD ((k - 1) / 2) default)).flatMap element.enc)]) ⟨rfl, rfl, rfl, rfl, rfl, rfl, rfl, rfl, rfl, rfl, rfl, rfl, (congrArg (fun n : Nat => some (Value.slice ysA n ysC)) (set_len ys k (ys.getD ((k - 1) / 2) default)).symm), rfl, rfl, rfl, rfl, rfl, rfl, (congrArg (fun n : Nat => some (Value.slice ysA n ysC)) (set_len ys k (ys.getD ((k - 1) / 2) default)).symm), rfl, rfl, rfl, rfl, rfl, rfl, rfl, rfl, rfl, rfl, (congrArg (fun n : Nat => some (Value.slice ysA n ysC)) (set_len ys k (ys.getD ((k - 1) / 2) default)).symm), rfl, rfl, rfl, rfl, (congrArg (fun n : Nat => some (Value.slice ysA n ysC)) (set_len ys k (ys.getD ((k - 1) / 2) default)).symm), rfl, rfl, rfl, rfl, rfl, rfl, (congrArg (fun n : Nat => some (Value.slice ysA n ysC)) (set_len ys k (ys.getD ((k - 1) / 2) default)).symm), rfl, rfl, rfl, rfl, rfl, rfl, rfl, rfl, (congrArg (fun n : Nat => some (Value.slice ysA n ysC)) (set_len ys k (ys.getD ((k - 1) / 2) default)).symm), rfl, rfl, rfl, rfl, trivial⟩ (fun _ h => by rw [set_len ys k (ys.getD ((k - 1) / 2) default)] at h ⊢; exact h) ?_
   refine j1_ 30 (jir_ rfl (ixF (k := ((k - 1) / 2)) (hy := (ix_nat rfl (by omega))) element.enc_len (cells_row 1 rfl) Tryz.underlying73 Ty.sz78) (j1_ 31 (jio_ rfl (O_store_row_f (a := (ys.getD k default)) (xs := (ys.set k (ys.getD ((k - 1) / 2) default))) (k := ((k - 1) / 2)) 1 element.enc [Ent.blk h 75 [vL ysA ((ys.set k (ys.getD ((k - 1) / 2) default)).length) ysC, Value.func (.func 35) #[vG [vL lA l.length lC]] #[]], Ent.row (.slice ysA ((ys.set k (ys.getD ((k - 1) / 2) default)).set ((k - 1) / 2) (ys.getD k default)).length ysC) 78 3 ((ys.set k (ys.getD ((k - 1) / 2) default)).set ((k - 1) / 2) (ys.getD k default)).length (((ys.set k (ys.getD ((k - 1) / 2) default)).set ((k - 1) / 2) (ys.getD k default)).flatMap element.enc)] rfl rfl rfl Ty.sz78 element.enc_len element.enc_one lt_ rfl ?_)) (gl_ rfl (fun _ h => h.keep [false, false] rfl)))) (gl_ rfl (fun _ h => h.keep [false, false] rfl))
   refine JA_weaken (E' := [(0, pB h 0), (4, vI ((k : Nat) : Int)), (21, vI ((k : Nat) : Int)), (22, vB (decide ((0 : Int) < ((k : Nat) : Int)))), (23, vB true), (24, pB h 0), (25, pB h 0), (26, pB h 1), (27, Value.func (.func 35) #[vG [vL lA l.length lC]] #[]), (28, pB h 0), (29, pB h 0), (30, pB h 0), (31, vL ysA (((ys.set k (ys.getD ((k - 1) / 2) default)).set ((k - 1) / 2) (ys.getD k default)).length) ysC), (32, vI ((k : Nat) : Int)), (33, pA ysA (k * 3)), (34, vG [vI ((ys.getD k default).run), vI ((ys.getD k default).no), vS ((ys.getD k default).record)]), (35, pB h 0), (36, pB h 0), (37, pB h 0), (38, vL ysA (((ys.set k (ys.getD ((k - 1) / 2) default)).set ((k - 1) / 2) (ys.getD k default)).length) ysC), (39, vI ((k : Nat) : Int)), (40, vI (((k : Nat) : Int) - 1)), (41, vI ((((k : Nat) : Int) - 1) / 2)), (42, pA ysA (((k - 1) / 2) * 3)), (43, vG [vI ((ys.getD ((k - 1) / 2) default).run), vI ((ys.getD ((k - 1) / 2) default).no), vS ((ys.getD ((k - 1) / 2) default).record)]), (44, vB (decide (Hp.ec l (ys.getD k default) (ys.getD ((k - 1) / 2) default) < 0))), (45, vB (decide (Hp.ec l (ys.getD k default) (ys.getD ((k - 1) / 2) default) < 0))), (49, pB h 0), (50, pB h 0), (51, pB h 0), (52, vL ysA (((ys.set k (ys.getD ((k - 1) / 2) default)).set ((k - 1) / 2) (ys.getD k default)).length) ysC), (53, vI ((k : Nat) : Int)), (54, pB h 0), (55, pB h 0), (56, pB h 0), (57, vL ysA (((ys.set k (ys.getD ((k - 1) / 2) default)).set ((k - 1) / 2) (ys.getD k default)).length) ysC), (58, vI ((k : Nat) : Int)), (59, vI (((k : Nat) : Int) - 1)), (60, vI ((((k : Nat) : Int) - 1) / 2)), (61, pB h 0), (62, pB h 0), (63, pB h 0), (64, vL ysA (((ys.set k (ys.getD ((k - 1) / 2) default)).set ((k - 1) / 2) (ys.getD k default)).length) ysC), (65, vI ((k : Nat) : Int)), (66, vI (((k : Nat) : Int) - 1)), (67, vI ((((k : Nat) : Int) - 1) / 2)), (68, pA ysA (((k - 1) / 2) * 3)), (69, vG [vI ((ys.getD ((k - 1) / 2) default).run), vI ((ys.getD ((k - 1) / 2) default).no), vS ((ys.getD ((k - 1) / 2) default).record)]), (70, pB h 0), (71, pB h 0), (72, pB h 0), (73, vL ysA (((ys.set k (ys.getD ((k - 1) / 2) default)).set ((k - 1) / 2) (ys.getD k default)).length) ysC), (74, vI ((k : Nat) : Int)), (75, pA ysA (k * 3)), (76, vG [vI ((ys.getD k default).run), vI ((ys.getD k default).no), vS ((ys.getD k default).record)]), (77, pA ysA (k * 3)), (78, pA ysA (((k - 1) / 2) * 3))]) (L' := [Ent.blk h 75 [vL ysA (((ys.set k (ys.getD ((k - 1) / 2) default)).set ((k - 1) / 2) (ys.getD k default)).length) ysC, Value.func (.func 35) #[vG [vL lA l.length lC]] #[]], Ent.row (.slice ysA ((ys.set k (ys.getD ((k - 1) / 2) default)).set ((k - 1) / 2) (ys.getD k default)).length ysC) 78 3 ((ys.set k (ys.getD ((k - 1) / 2) default)).set ((k - 1) / 2) (ys.getD k default)).length (((ys.set k (ys.getD ((k - 1) / 2) default)).set ((k - 1) / 2) (ys.getD k default)).flatMap element.enc)]) ⟨rfl, rfl, rfl, rfl, rfl, rfl, rfl, rfl, rfl, rfl, rfl, rfl, (congrArg (fun n : Nat => some (Value.slice ysA n ysC)) (set_len (ys.set k (ys.getD ((k - 1) / 2) default)) ((k - 1) / 2) (ys.getD k default)).symm), rfl, rfl, rfl, rfl, rfl, rfl, (congrArg (fun n : Nat => some (Value.slice ysA n ysC)) (set_len (ys.set k (ys.getD ((k - 1) / 2) default)) ((k - 1) / 2) (ys.getD k default)).symm), rfl, rfl, rfl, rfl, rfl, rfl, rfl, rfl, rfl, rfl, (congrArg (fun n : Nat => some (Value.slice ysA n ysC)) (set_len (ys.set k (ys.getD ((k - 1) / 2) default)) ((k - 1) / 2) (ys.getD k default)).symm), rfl, rfl, rfl, rfl, (congrArg (fun n : Nat => some (Value.slice ysA n ysC)) (set_len (ys.set k (ys.getD ((k - 1) / 2) default)) ((k - 1) / 2) (ys.getD k default)).symm), rfl, rfl, rfl, rfl, rfl, rfl, (congrArg (fun n : Nat => some (Value.slice ysA n ysC)) (set_len (ys.set k (ys.getD ((k - 1) / 2) default)) ((k - 1) / 2) (ys.getD k default)).symm), rfl, rfl, rfl, rfl, rfl, rfl, rfl, rfl, (congrArg (fun n : Nat => some (Value.slice ysA n ysC)) (set_len (ys.set k (ys.getD ((k - 1) / 2) default)) ((k - 1) / 2) (ys.getD k default)).symm), rfl, rfl, rfl, rfl, rfl, trivial⟩ (fun _ h => by rw [set_len (ys.set k (ys.getD ((k - 1) / 2) default)) ((k - 1) / 2) (ys.getD k default)] at h ⊢; exact h) ?_
   refine JA_done (by kernel_rfl) (gl_ rfl (fun _ h => h.keep [false, false] rfl)) ?_
   refine kx_ (n_ (g_ (s_ mv_ (s_ (x_sub_i (a := ((k : Nat) : Int)) (b := 1) rfl rfl (by omega) (by omega)) (s_ (x_quo_i (a := ((k : Nat) : Int) - 1) (b := 2) rfl rfl (by omega) (by omega) (by omega)) (s_ av_ (z_ ?_)))))))
   refine JX_round (((k - 1) / 2, ((ys.set k (ys.getD ((k - 1) / 2) default)).set ((k - 1) / 2) (ys.getD k default)), ysA, ysC) : Nat × (List element) × (Option Addr) × Nat) ?_ ?_ ⟨rfl, (sE_ (by first | omega | (simp; done) | (simp; omega))), trivial⟩ (fun _ h => h)
   ·try dsimp only
    refine ⟨?_, ?_⟩
    ·exact Hp.up_swap hec i1_0 (by omega) (by assumption)
    ·exact Hp.swap_perm2 (by omega) (by omega) i1_1
   ·try dsimp only
    first | omega | (simp; omega) | (simp_all; omega)
  ·refine J_exit (ne_ (re_ (kh_ ?_)))
   refine JX_end0 Tryz.results36 [Ent.blk h 75 [vL ysA ys.length ysC, Value.func (.func 35) #[vG [vL lA l.length lC]] #[]], Ent.row (.slice ysA ys.length ysC) 78 3 ys.length (ys.flatMap element.enc)] (fun _ h => h) ⟨ys, ysA, ysC, ?_, ?_, ?_, ?_, ?_, ?_⟩
   ·rfl
   ·rfl
   ·exact c44c3_
   ·exact i1_1
   ·exact hrk
   ·omega
 ·have h8 := of_decide_eq_false h8
  refine js2_ 3 rfl (js2_ 4 rfl (js2_ 5 rfl (js2_ 6 rfl (js2_ 7 rfl (js2_ 8 rfl (js2_ 9 rfl (js2_ 10 rfl (js2_ 11 rfl (js2_ 12 rfl ?_)))))))))
  refine js2_ 13 rfl (js2_ 14 rfl (js2_ 15 rfl (js2_ 16 rfl (js2_ 17 rfl (js2_ 18 rfl (js2_ 19 rfl (js2_ 20 rfl (js2_ 21 rfl (js2_ 22 rfl ?_)))))))))
  refine js2_ 23 rfl ?_
  refine jt_ 24 (vB false) rfl (fun _ _ => rfl) ?_
  refine JA_done (by kernel_rfl) gm_ ?_
  refine n_ (iff_ (J_exit (ne_ (re_ (kh_ ?_)))))
  refine JX_end0 Tryz.results36 [Ent.blk h 75 [vL ysA ys.length ysC, Value.func (.func 35) #[vG [vL lA l.length lC]] #[]], Ent.row (.slice ysA ys.length ysC) 78 3 ys.length (ys.flatMap element.enc)] (fun _ h => h) ⟨ys, ysA, ysC, ?_, ?_, ?_, ?_, ?_, ?_⟩
  ·rfl
  ·rfl
  ·exact c44c3_
  ·exact i1_1
  ·exact hrk
  ·omega
end Go.Proofs.YtmacopacmpgieaaGreatDoor
