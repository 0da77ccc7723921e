/- contracts C39n -/
import Derived.Test.YtbfiibgmgopnaaaDoorAll18
set_option linter.unusedVariables false
set_option linter.unusedSimpArgs false
namespace Go.Proofs.YtbfiibgmgopnaaaDoor
open Go.GV
set_option linter.unusedVariables false
set_option linter.unusedSimpArgs false
theorem c39n0_ {p : Prop} (h : p := by first | omega | (simp only [List.length_append, List.length_cons, List.length_nil]; omega) | (simp; omega) | (simp_all; omega)) : p := h
theorem c39n1_ {p : Prop} (h : p := by first | exact R39.shortV_put R39.shortV_nil (by omega) | exact R39.shortV_put (R39.shortV_put R39.shortV_nil (by omega)) (by decide)) : p := h
theorem c39n2_ {p : Prop} (h : p := by first | exact R39.sym_big i1_0 (by rfl) (by assumption) | exact R39.sym_ok i1_0 (by rfl) (by rfl) (by rfl) (by assumption)) : p := h
set_option maxRecDepth 20000 in
theorem f4_ok (parts : List Bytes) (partsA : Option Addr) (partsC : Nat) (value : Bytes) (w : World) (partsR : RO [] w partsA (parts.map vS)) (hT : Tab [] w) (q0 : parts.length ≤ 9223372036854775807) : Calls Tryd.prog 4 #[vL partsA parts.length partsC, vS value] w (Gives [] w fun v L => v = vB true ∧ L = []) := by
 refine calls_J [] 101 Tryd.func4 rfl Tryd.ntmps4 [(0, _), (1, _)] rfl rfl (Give.nil w) ?_
 refine q_ (g_ (s_ av_ (z_ (n_ (q_ (q_ (g_ (c0 (cl_ Ty.ca9) (fun w hS => f9_ok w (hT.on hS (fun _ h => by cases h))) (jr_ (vB false) (z_ (n_ (iff_ (sk_ (n_ (q_ (q_ (g_ (s_ mv_ (s_ (lnS Tryd.underlying24) (s_ (x_gtr_i rfl rfl) ?_))))))))))))))))))))
 refine s_ mv_ ?_
 refine or_ 3 (decide ((40 : Int) < ((value.length : Nat) : Int))) (fun g1 => ?_) ?_
 ·have g1r := g1
  have g1r := of_decide_eq_false g1r
  refine sg_ g1 mv_ (sg_ g1 (x_len_s rfl Tryd.underlying9) (sg_ g1 (x_gtr_i rfl rfl) ?_))
  exact cr_
 refine z_ (n_ ?_)
 refine if_ (fun h2 => ?_) (fun h2 => ?_)
 ·have h2w := h2
  simp only [Bool.and_eq_true, Bool.or_eq_true, Bool.and_eq_false_iff, Bool.or_eq_false_iff, Bool.not_eq_true', Bool.not_eq_false', decide_eq_true_eq, decide_eq_false_iff_not] at h2
  refine q_ (g_ (s_ av_ (z_ (n_ (rt_ (nr_ ?_))))))
  exact p1 Tryd.results4 rfl ⟨rfl, rfl⟩
 ·have h2w := h2
  have ⟨h2, h3⟩ := bor_false h2
  have h2 := of_decide_eq_false h2
  have h3 := of_decide_eq_false h3
  refine sk_ (n_ (q_ (g_ (s_ av_ (s_ av_ (z_ (n_ (q_ (q_ (g_ (s_ mv_ (s_ (lnS Tryd.underlying24) (s_ mv_ (z_ (n_ (k_ ?_))))))))))))))))
  refine J_loop (X := Nat × Bytes × Bytes) (fun (⟨k, line, want⟩ : Nat × Bytes × Bytes) => (R39.SymJ value line want) ∧ (k ≤ parts.length) ∧ (line.length ≤ 80 * k) ∧ (want.length ≤ 40 * k)) (fun (⟨k, line, want⟩ : Nat × Bytes × Bytes) => [(1, vS value), (5, vS line), (6, vS want), (25, vL partsA parts.length partsC), (26, vI ((parts.length : Nat) : Int)), (27, vI ((k : Nat) : Int))]) (fun (⟨k, line, want⟩ : Nat × Bytes × Bytes) => []) (fun (⟨k, line, want⟩ : Nat × Bytes × Bytes) => parts.length - k) ((0, [], []) : Nat × Bytes × Bytes) ?_ ⟨rfl, rfl, rfl, rfl, rfl, rfl, trivial⟩ (fun _ h => h) ?_
  ·try dsimp only
   refine ⟨?_, ?_, ?_, ?_⟩
   ·exact R39.SymJ.start
   ·first | rfl | omega | (simp_all; done) | (simp_all; omega)
   ·first | rfl | omega | (simp_all; done) | (simp_all; omega)
   ·first | rfl | omega | (simp_all; done) | (simp_all; omega)
  rintro ⟨k, line, want⟩ hI1
  obtain ⟨i1_0, i1_1, i1_2, i1_3⟩ := hI1
  try dsimp only at i1_0
  try dsimp only at i1_1
  try dsimp only at i1_2
  try dsimp only at i1_3
  try dsimp only
  refine q_ (g_ (s_ (x_lss_i rfl rfl) (z_ (n_ (q_ ?_)))))
  refine ifd (fun h4w h4 => ?_) (fun h4w h4 => ?_)
  ·refine sk_ (n_ (q_ (k_ (q_ (g_ (s_ mv_ (r_ (ixM (cells_ro partsR) Tryd.underlying24 Ty.sz9) (r_ (ldM vS [] (cells_ro partsR) Ty.sc9) (s_ av_ (s_ av_ (z_ (n_ (q_ (q_ (g_ (s_ mv_ (s_ (x_len_s rfl Tryd.underlying9) (s_ (x_gtr_i rfl rfl) ?_))))))))))))))))))
   refine z_ (n_ ?_)
   refine ifd (fun h5w h5 => ?_) (fun h5w h5 => ?_)
   ·refine q_ (g_ (s_ av_ (z_ (n_ (rt_ (nr_ (kq_ (nr_ (rr_ (kq_ (nr_ ?_)))))))))))
    exact p1 Tryd.results4 rfl ⟨rfl, rfl⟩
   ·refine sk_ (n_ (q_ (g_ (s_ mv_ (s_ (x_rem_n (a := k) (b := 2) rfl rfl (by omega) (by omega)) (s_ (x_eql_i rfl rfl) (z_ (n_ ?_))))))))
    refine ifd (fun h6w h6 => ?_) (fun h6w h6 => ?_)
    ·refine q_ (g_ (s_ mv_ (s_ mv_ (c0 (cl_ Ty.ca17) (fun w hS => repl_ok 38 _ w (hT.on hS (fun _ h => by cases h)) hy_) ?_))))
     have ha7 := R39.dbl_len 38 (parts.getD k [])
     try simp only [List.length_cons, List.length_nil, Nat.zero_add, Nat.reduceAdd, Nat.reduceMul] at ha7
     refine s_ (x_cat_s rfl rfl c39n0_) (s_ av_ (z_ (xk_ [1, 5, 6, 25, 26, 27, 8] ?_)))
     refine n_ (g_ (s_ mv_ (s_ mv_ (s_ (x_cat_s rfl rfl c39n0_) (s_ av_ (z_ (kx_ (n_ (g_ (s_ (x_add_n (a := k) (b := 1) rfl rfl (by omega)) (s_ mv_ (z_ ?_))))))))))))
     refine JX_round ((k + 1, line ++ (R39.dblC 38 (parts.getD k [])), want ++ (parts.getD k [])) : Nat × Bytes × Bytes) ?_ ?_ ⟨rfl, rfl, rfl, rfl, rfl, rfl, trivial⟩ (fun _ h => h)
     ·try dsimp only
      refine ⟨?_, ?_, ?_, ?_⟩
      ·first | exact i1_0.textC _ | exact i1_0.sym
      ·first | rfl | omega | (simp_all; done) | (simp_all; omega)
      ·(try simp only [List.length_append, List.length_cons, List.length_nil]); omega
      ·(try simp only [List.length_append, List.length_cons, List.length_nil]); omega
     ·try dsimp only
      first | omega | (simp; omega) | (simp_all; omega)
    ·refine q_ (g_ (s_ mv_ (js_ (vS (line ++ [38, 68, 65, 89, 49, 59])) (x_cat_s rfl rfl c39n0_) (s_ av_ (z_ (n_ (g_ (s_ mv_ (s_ mv_ (s_ (x_cat_s rfl rfl c39n0_) (s_ av_ (z_ (kx_ (n_ (g_ ?_)))))))))))))))
     refine s_ (x_add_n (a := k) (b := 1) rfl rfl (by omega)) (s_ mv_ (z_ ?_))
     refine JX_round ((k + 1, line ++ [38, 68, 65, 89, 49, 59], want ++ value) : Nat × Bytes × Bytes) ?_ ?_ ⟨rfl, rfl, rfl, rfl, rfl, rfl, trivial⟩ (fun _ h => h)
     ·try dsimp only
      refine ⟨?_, ?_, ?_, ?_⟩
      ·first | exact i1_0.textC _ | exact i1_0.sym
      ·first | rfl | omega | (simp_all; done) | (simp_all; omega)
      ·(try simp only [List.length_append, List.length_cons, List.length_nil]); omega
      ·(try simp only [List.length_append, List.length_cons, List.length_nil]); omega
     ·try dsimp only
      first | omega | (simp; omega) | (simp_all; omega)
  ·refine J_exit (ne_ (re_ (kh_ (n_ (q_ ?_)))))
   refine g_ (s_ mv_ (o_ (O_makeMap vS fun b8 => ?_)))
   refine s_ mv_ (o_ (O_insert 0 (f := vS) (k := [68, 65, 89, 49]) ((putK ([] : List (Bytes × Bytes)) [68, 65, 89, 49] value).map kvS) [Ent.mp vS b8 ((putK ([] : List (Bytes × Bytes)) [68, 65, 89, 49] value).map kvS)] rfl rfl rfl rfl Tryd.underlying22 (mapK_s Tryd.underlying9) (upd_kv ([] : List (Bytes × Bytes)) [68, 65, 89, 49] value) rfl ?_))
   refine o_ (O_insert 0 (f := vS) (k := [68, 65, 89]) ((putK (putK ([] : List (Bytes × Bytes)) [68, 65, 89, 49] value) [68, 65, 89] [63]).map kvS) [Ent.mp vS b8 ((putK (putK ([] : List (Bytes × Bytes)) [68, 65, 89, 49] value) [68, 65, 89] [63]).map kvS)] rfl rfl rfl rfl Tryd.underlying22 (mapK_s Tryd.underlying9) (upd_kv (putK ([] : List (Bytes × Bytes)) [68, 65, 89, 49] value) [68, 65, 89] [63]) rfl ?_)
   refine s_ mv_ (c0 (cl_ Ty.ca12) (fun w hS => f12_ok line _ b8 w (Kp.of_ent hS 0 rfl) (hT.on hS (fun _ h => by cases h)) hy_ c39n1_) ?_)
   have ha9 := R39.exV_len (m := lookK (putK (putK ([] : List (Bytes × Bytes)) [68, 65, 89, 49] value) [68, 65, 89] [63])) (s := line)
   try simp only [List.length_cons, List.length_nil, Nat.zero_add, Nat.reduceAdd, Nat.reduceMul] at ha9
   refine s_ mv_ (s_ (ex_ 0) (s_ (ex_ 1) (s_ av_ (s_ av_ (z_ (n_ (q_ (q_ (g_ (s_ mv_ (s_ (x_len_s rfl Tryd.underlying9) (s_ (x_gtr_i rfl rfl) (z_ (n_ ?_))))))))))))))
   refine ifd (fun h10w h10 => ?_) (fun h10w h10 => ?_)
   ·refine q_ (g_ (s_ mv_ (s_ (x_eql_i rfl rfl) (s_ mv_ ?_))))
    refine and_ 2 (decide (R39.exV (R39.replV (lookK (putK (putK ([] : List (Bytes × Bytes)) [68, 65, 89, 49] value) [68, 65, 89] [63])) line) = ([] : Bytes))) (fun g11 => ?_) ?_
    ·have g11r := g11
     have g11r := of_decide_eq_true g11r
     refine sg_ g11 mv_ (jg_ g11 (vB (decide (R39.exV (R39.replV (lookK (putK (putK ([] : List (Bytes × Bytes)) [68, 65, 89, 49] value) [68, 65, 89] [63])) line) = ([] : Bytes)))) (x_eql_s rfl rfl) ?_)
     exact cr_
    refine s_ av_ (z_ (xk_ [1, 5, 6, 9, 10, 4] ?_))
    refine n_ (rt_ (nr_ ?_))
    exact p1 Tryd.results4 rfl ⟨(eB c39n2_), rfl⟩
   ·refine sk_ (n_ (q_ (g_ (s_ mv_ (js_ (vS (line ++ [38, 78, 79, 78, 69, 59])) (x_cat_s rfl rfl c39n0_) (o_ (O_makeMap vS fun b12 => ?_)))))))
    refine s_ mv_ (o_ (O_insert 0 (f := vS) (k := [68, 65, 89, 49]) ((putK ([] : List (Bytes × Bytes)) [68, 65, 89, 49] value).map kvS) [Ent.mp vS b12 ((putK ([] : List (Bytes × Bytes)) [68, 65, 89, 49] value).map kvS), Ent.mp vS b8 ((putK (putK ([] : List (Bytes × Bytes)) [68, 65, 89, 49] value) [68, 65, 89] [63]).map kvS)] rfl rfl rfl rfl Tryd.underlying22 (mapK_s Tryd.underlying9) (upd_kv ([] : List (Bytes × Bytes)) [68, 65, 89, 49] value) rfl ?_))
    refine s_ mv_ (c0 (cl_ Ty.ca12) (fun w hS => f12_ok _ _ b12 w (Kp.of_ent hS 0 rfl) (hT.on hS (fun _ h => by cases h)) hy_ c39n1_) ?_)
    have ha13 := R39.exV_len (m := lookK (putK ([] : List (Bytes × Bytes)) [68, 65, 89, 49] value)) (s := (line ++ [38, 78, 79, 78, 69, 59]))
    try simp only [List.length_cons, List.length_nil, Nat.zero_add, Nat.reduceAdd, Nat.reduceMul] at ha13
    refine s_ mv_ (s_ (ex_ 0) (s_ (ex_ 1) (s_ av_ (s_ av_ (z_ (xk_ [1, 5, 6, 9, 10, 12] ?_))))))
    refine n_ (q_ (g_ (s_ mv_ (js_ (vS (line ++ [38, 68, 65, 89, 49])) (x_cat_s rfl rfl c39n0_) (o_ (O_makeMap vS fun b14 => ?_))))))
    refine s_ mv_ (o_ (O_insert 0 (f := vS) (k := [68, 65, 89, 49]) ((putK ([] : List (Bytes × Bytes)) [68, 65, 89, 49] value).map kvS) [Ent.mp vS b14 ((putK ([] : List (Bytes × Bytes)) [68, 65, 89, 49] value).map kvS), Ent.mp vS b12 ((putK ([] : List (Bytes × Bytes)) [68, 65, 89, 49] value).map kvS), Ent.mp vS b8 ((putK (putK ([] : List (Bytes × Bytes)) [68, 65, 89, 49] value) [68, 65, 89] [63]).map kvS)] rfl rfl rfl rfl Tryd.underlying22 (mapK_s Tryd.underlying9) (upd_kv ([] : List (Bytes × Bytes)) [68, 65, 89, 49] value) rfl ?_))
    refine s_ mv_ (c0 (cl_ Ty.ca12) (fun w hS => f12_ok _ _ b14 w (Kp.of_ent hS 0 rfl) (hT.on hS (fun _ h => by cases h)) hy_ c39n1_) ?_)
    have ha15 := R39.exV_len (m := lookK (putK ([] : List (Bytes × Bytes)) [68, 65, 89, 49] value)) (s := (line ++ [38, 68, 65, 89, 49]))
    try simp only [List.length_cons, List.length_nil, Nat.zero_add, Nat.reduceAdd, Nat.reduceMul] at ha15
    refine s_ mv_ (s_ (ex_ 0) (s_ (ex_ 1) (s_ av_ (s_ av_ (z_ (n_ (q_ (g_ (s_ mv_ (s_ (x_eql_i rfl rfl) (s_ mv_ ?_)))))))))))
    refine and_ 3 (decide (R39.exV (R39.replV (lookK (putK (putK ([] : List (Bytes × Bytes)) [68, 65, 89, 49] value) [68, 65, 89] [63])) line) = want)) (fun g16 => ?_) ?_
    ·have g16r := g16
     have g16r := of_decide_eq_true g16r
     refine sg_ g16 mv_ (sg_ g16 mv_ (sg_ g16 (x_eql_s rfl rfl) ?_))
     exact cr_
    refine s_ mv_ ?_
    refine and_ 2 (decide (R39.exE (R39.replV (lookK (putK ([] : List (Bytes × Bytes)) [68, 65, 89, 49] value)) (line ++ [38, 78, 79, 78, 69, 59])) = 4)) (fun g17 => ?_) ?_
    ·have g17r := g17
     have ⟨g17r, h18⟩ := band_true g17r
     have g17r := of_decide_eq_true g17r
     have h18 := of_decide_eq_true h18
     refine sg_ g17 mv_ (sg_ g17 (x_eql_i rfl rfl) ?_)
     exact cr_
    refine s_ mv_ ?_
    refine and_ 2 (decide (R39.exE (R39.replV (lookK (putK ([] : List (Bytes × Bytes)) [68, 65, 89, 49] value)) (line ++ [38, 68, 65, 89, 49])) = 3)) (fun g19 => ?_) ?_
    ·have g19r := g19
     have ⟨g19r, h20⟩ := band_true g19r
     have ⟨g19r, h21⟩ := band_true g19r
     have g19r := of_decide_eq_true g19r
     have h21 := of_decide_eq_true h21
     have h20 := of_decide_eq_true h20
     refine sg_ g19 mv_ (sg_ g19 (x_eql_i rfl rfl) ?_)
     exact cr_
    refine s_ av_ (z_ (xk_ [4] ?_))
    refine n_ (rt_ ?_)
    exact p1 Tryd.results4 rfl ⟨(eB c39n2_), rfl⟩
end Go.Proofs.YtbfiibgmgopnaaaDoor
