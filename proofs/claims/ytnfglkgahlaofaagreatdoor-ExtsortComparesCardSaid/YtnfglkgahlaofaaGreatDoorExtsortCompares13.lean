/- C44q, Pl44l, C44r in one text. -/
import Derived.Test.YtnfglkgahlaofaaGreatDoorExtsortCompares7
import Derived.Test.YtnfglkgahlaofaaGreatDoorExtsortCompares11
import Derived.Test.YtnfglkgahlaofaaGreatDoorC44a
import Derived.Test.YtnfglkgahlaofaaGreatDoorExtsortCompares6
import Derived.Lib.Join
namespace Go.Proofs.YtnfglkgahlaofaaGreatDoor
open Go.GV
set_option linter.unusedVariables false
set_option linter.unusedSimpArgs false
theorem c44q2_ {p : Prop} (h : p := by first | exact R44.ix_hit (by omega) i1_1 (by assumption) | exact R44.ix_end (by omega) i1_1) : p := h
set_option maxRecDepth 20000 in
theorem f53_ok (s : Bytes) (w : World) (q0 : s.length ≤ 1000000) : Calls Tryz.prog 53 #[vS s] w (GivesW [] w fun v L wx => ∃ out : List Bytes, ∃ outA : Option Addr, ∃ outC : Nat, v = vL outA out.length outC ∧ L = [] ∧ RO (List.range w.heap.size) wx outA (out.map vS) ∧ out.length ≤ outC ∧ (out = R44.words s)) := by
 refine calls_JW [] 5 Tryz.func53 rfl Tryz.ntmps53 [(0, _)] rfl rfl (Give.nil w) ?_
 refine q_ (g_ (s_ av_ (z_ (n_ (q_ (g_ (s_ mv_ ?_)))))))
 refine c1 (cl_ Ty.ca78) (fun w hS => fields1_ok s w hy_) ?_
 rintro _ _ ⟨e1, e2, rfl, rfl⟩
 refine s_ av_ (z_ (n_ (rt_ ?_)))
 refine JX_retsD [_] _ Tryz.results53 (fun w h => ⟨rfl, trivial⟩) rfl _ (fun _ h => h.keep [false] rfl) (fun _ _ h => h) (fun wx hw => ⟨(R44.words s), e1, e2, ?_, ?_, (RO.of_rowF (Lc := []) hw hw 0 rfl), (row_le (hw.mem (j := 0) rfl)), ?_⟩)
 ·rfl
 ·rfl
 ·rfl
set_option maxRecDepth 20000 in
theorem f55_ok (s : Bytes) (w : World) (hT : Tab [] w) (q0 : s.length ≤ 1000000) : Calls Tryz.prog 55 #[vS s] w (Gives [] w fun v L => ∃ n : Int, ∃ ok : Bool, v = Value.tuple #[vI n, vB ok] ∧ L = [] ∧ (R44.SmallJ s n ok)) := by
 refine calls_J [] 28 Tryz.func55 rfl Tryz.ntmps55 [(0, _)] rfl rfl (Give.nil w) ?_
 refine q_ (g_ (s_ av_ (s_ av_ (z_ (n_ (q_ (g_ (s_ mv_ ?_))))))))
 refine c1 (cl_ Ty.ca81) (fun w hS => atoi_ok s w (hT.on hS (fun _ h => by cases h)) hy_) ?_
 rintro _ _ ⟨n1, er2, N3, rfl, rfl, hf4⟩
 have ha5 := R44.atoi_bd (by assumption)
 refine s_ mv_ (s_ (ex_ 0) (s_ (ex_ 1) (s_ av_ (s_ av_ (z_ (n_ (q_ (g_ (s_ mv_ (s_ mv_ (s_ (x_eql_err rfl Tryz.underlying125) (s_ mv_ ?_))))))))))))
 refine and_ 2 (decide ((0 : Int) ≤ n1)) (fun g6 => ?_) ?_
 ·have g6r := g6
  refine sg_ g6 mv_ (sg_ g6 (x_geq_i rfl rfl) ?_)
  exact cr_
 refine s_ mv_ ?_
 refine and_ 2 (decide (n1 ≤ 9999)) (fun g7 => ?_) ?_
 ·have g7r := g7
  have ⟨g7r, h8⟩ := band_true g7r
  have h8 := of_decide_eq_true h8
  refine sg_ g7 mv_ (sg_ g7 (x_leq_i rfl rfl) ?_)
  exact cr_
 refine s_ mv_ ?_
 refine and_ 4 (decide (Lib.decDigits n1.toNat = s)) (fun g9 => ?_) ?_
 ·have g9r := g9
  have ⟨g9r, h10⟩ := band_true g9r
  have ⟨g9r, h11⟩ := band_true g9r
  have h11 := of_decide_eq_true h11
  have h10 := of_decide_eq_true h10
  refine sg_ g9 mv_ (c0g g9 (cl_ Ty.ca50) (fun w hS => itoa_ok n1 w (hT.on hS (fun _ h => by cases h)) hy_ hy_) ?_)
  have ha12 := R44.dec_lenI n1 (by omega)
  refine sg_ g9 mv_ (sg_ g9 (x_eql_s rfl rfl) ?_)
  exact cr_
 refine s_ av_ (s_ av_ (z_ (n_ (rt_ ?_))))
 refine JX_rets [_, _] (Value.tuple #[_, _]) Tryz.results55 (fun w h => ⟨rfl, rfl, trivial⟩) rfl _ (fun _ h => h) ⟨n1, (((er2 && (decide ((0 : Int) ≤ n1))) && (decide (n1 ≤ 9999))) && (decide (Lib.decDigits n1.toNat = s))), ?_, ?_, ?_⟩
 ·rfl
 ·rfl
 ·exact R44.small_of (by assumption)
set_option maxRecDepth 20000 in
theorem f57_ok (xs : List Bytes) (xsA : Option Addr) (xsC : Nat) (x : Bytes) (w : World) (xsR : RO [] w xsA (xs.map vS)) (q0 : xs.length ≤ 9223372036854775807) : Calls Tryz.prog 57 #[vL xsA xs.length xsC, vS x] w (Gives [] w fun v L => v = vI (R44.ixOf xs x) ∧ L = []) := by
 refine calls_J [] 19 Tryz.func57 rfl Tryz.ntmps57 [(0, _), (1, _)] rfl rfl (Give.nil w) ?_
 refine q_ (g_ (s_ av_ (z_ (n_ (q_ (q_ (g_ (s_ mv_ (s_ (lnS Tryz.underlying22) (s_ mv_ (z_ (n_ (k_ ?_)))))))))))))
 refine J_loop (X := Nat) (fun (k : Nat) => (k ≤ xs.length) ∧ (R44.ixFrom (xs.drop k) x k = R44.ixOf xs x)) (fun (k : Nat) => [(0, vL xsA xs.length xsC), (1, vS x), (7, vI ((xs.length : Nat) : Int)), (8, vI ((k : Nat) : Int))]) (fun (k : Nat) => []) (fun (k : Nat) => xs.length - k) (0 : Nat) ?_ ⟨rfl, rfl, rfl, rfl, trivial⟩ (fun _ h => h) ?_
 ·try dsimp only
  refine ⟨?_, ?_⟩
  ·first | rfl | omega | (simp_all; done) | (simp_all; omega)
  ·rfl
 intro k hI1
 obtain ⟨i1_0, i1_1⟩ := hI1
 try dsimp only at i1_0
 try dsimp only at i1_1
 try dsimp only
 refine q_ (g_ (s_ (x_lss_i rfl rfl) (z_ (n_ (q_ ?_)))))
 refine ifd (fun h1w h1 => ?_) (fun h1w h1 => ?_)
 ·refine sk_ (n_ (q_ (k_ (q_ (g_ (s_ mv_ (s_ av_ (z_ (n_ (q_ (g_ (s_ mv_ (s_ mv_ (s_ mv_ (r_ (ixM (cells_ro xsR) Tryz.underlying22 Ty.sz9) (r_ (ldM vS [] (cells_ro xsR) Ty.sc9) (s_ (x_eql_s rfl rfl) ?_)))))))))))))))))
  refine z_ (n_ ?_)
  refine ifd (fun h2w h2 => ?_) (fun h2w h2 => ?_)
  ·refine q_ (g_ (s_ mv_ (s_ av_ (z_ (n_ (rt_ (kq_ (nr_ (rr_ (kq_ (nr_ ?_)))))))))))
   exact p1 Tryz.results57 rfl ⟨(eI c44q2_), rfl⟩
  ·refine sk_ (kx_ (n_ (g_ (s_ (x_add_n (a := k) (b := 1) rfl rfl (by omega)) (s_ mv_ (z_ ?_))))))
   refine JX_round (k + 1 : Nat) ?_ ?_ ⟨rfl, rfl, rfl, rfl, trivial⟩ (fun _ h => h)
   ·try dsimp only
    refine ⟨?_, ?_⟩
    ·first | rfl | omega | (simp_all; done) | (simp_all; omega)
    ·exact R44.ix_go (by omega) i1_1 (by assumption)
   ·try dsimp only
    first | omega | (simp; omega) | (simp_all; omega)
 ·refine J_exit (ne_ (re_ (kh_ (n_ (q_ ?_)))))
  refine g_ (s_ av_ (z_ (n_ (rt_ ?_))))
  exact p1 Tryz.results57 rfl ⟨(eI c44q2_), rfl⟩
set_option maxRecDepth 20000 in
theorem f56_ok (xs : List Bytes) (xsA : Option Addr) (xsC : Nat) (x : Bytes) (w : World) (xsR : RO [] w xsA (xs.map vS)) (q0 : xs.length ≤ 9223372036854775807) : Calls Tryz.prog 56 #[vL xsA xs.length xsC, vS x] w (Gives [] w fun v L => v = vB (decide (0 ≤ R44.ixOf xs x)) ∧ L = []) := by
 refine calls_J [] 9 Tryz.func56 rfl Tryz.ntmps56 [(0, _), (1, _)] rfl rfl (Give.nil w) ?_
 refine q_ (g_ (s_ av_ (z_ (n_ (q_ (g_ (s_ mv_ (s_ mv_ (c0 (cl_ Ty.ca57) (fun w hS => f57_ok xs xsA xsC x w (rno xsR hS) hy_) ?_)))))))))
 have ha1 := R44.ixOf_bd xs x
 refine s_ (x_geq_i rfl rfl) (s_ av_ (z_ (n_ (rt_ ?_))))
 exact p1 Tryz.results56 rfl ⟨(eB (by rfl)), rfl⟩
set_option maxRecDepth 20000 in
theorem f52_ok (n : Int) (w : World) (q0 : n ≤ 1000000) (q1 : 0 ≤ n) : Calls Tryz.prog 52 #[vI n, vI 1] w (Gives [] w fun v L => v = vS (Lib.decDigits n.toNat) ∧ L = []) := by
 refine calls_J [] 25 Tryz.func52 rfl Tryz.ntmps52 [(0, _), (1, _)] rfl rfl (Give.nil w) ?_
 refine q_ (g_ (s_ av_ (z_ (n_ (q_ (g_ (s_ av_ (z_ (n_ (q_ (k_ ?_)))))))))))
 refine J_loop (X := Nat × Bytes) (fun (⟨m, s⟩ : Nat × Bytes) => (R44.DigJ n.toNat m s) ∧ (m ≤ n.toNat) ∧ (s.length ≤ 1000000 - m)) (fun (⟨m, s⟩ : Nat × Bytes) => [(0, vI ((m : Nat) : Int)), (1, vI 1), (4, vS []), (5, vS s)]) (fun (⟨m, s⟩ : Nat × Bytes) => []) (fun (⟨m, s⟩ : Nat × Bytes) => 2 * m + (1 - s.length)) ((n.toNat, []) : Nat × Bytes) ?_ ⟨(sE_ (by omega)), rfl, rfl, rfl, trivial⟩ (fun _ h => h) ?_
 ·try dsimp only
  refine ⟨?_, ?_, ?_⟩
  ·exact R44.DigJ.start _
  ·omega
  ·exact Nat.zero_le _
 rintro ⟨m, s⟩ hI1
 obtain ⟨i1_0, i1_1, i1_2⟩ := hI1
 try dsimp only at i1_0
 try dsimp only at i1_1
 try dsimp only at i1_2
 try dsimp only
 refine q_ (q_ (g_ (s_ mv_ (s_ (x_gtr_i rfl rfl) (s_ mv_ ?_)))))
 refine or_ 4 (decide (((s.length : Nat) : Int) < 1)) (fun g1 => ?_) ?_
 ·have g1r := g1
  have g1r := of_decide_eq_false g1r
  refine sg_ g1 mv_ (sg_ g1 (x_len_s rfl Tryz.underlying9) (sg_ g1 mv_ (sg_ g1 (x_lss_i rfl rfl) ?_)))
  exact cr_
 refine z_ (n_ ?_)
 refine if_ (fun h2 => ?_) (fun h2 => ?_)
 ·simp only [Bool.and_eq_true, Bool.or_eq_true, Bool.and_eq_false_iff, Bool.or_eq_false_iff, Bool.not_eq_true', Bool.not_eq_false', decide_eq_true_eq, decide_eq_false_iff_not] at h2
  refine sk_ (n_ (k_ (q_ (g_ (s_ mv_ (s_ (x_rem_n (a := m) (b := 10) rfl rfl (by omega) (by omega)) (s_ (x_add_n (a := 48) (b := m % 10) rfl rfl (by omega)) (s_ (x_conv_n_u8 (a := 48 + (m % 10)) rfl Tryz.underlying3 Tryz.underlying5) (o_ (O_buildSlice (cs := [vU8 (UInt8.ofNat (48 + (m % 10)))]) Tryz.underlying120 Ty.sz5 Ty.ze5 (by decide) (by decide) (by kernel_rfl) fun b3 => ?_))))))))))
  refine JO_read (vS [UInt8.ofNat (48 + (m % 10))]) rfl trivial (x_str_blk 0 (l := [UInt8.ofNat (48 + (m % 10))]) rfl Tryz.underlying120 Tryz.underlying5 Tryz.underlying9 rfl rfl rfl) ?_
  refine s_ mv_ (s_ (x_cat_s rfl rfl (by first | omega | (simp only [List.length_append, List.length_cons, List.length_nil]; omega) | (simp; omega) | (simp_all; omega))) (s_ av_ (z_ (n_ (g_ (s_ mv_ (s_ (x_quo_n (a := m) (b := 10) rfl rfl (by omega) (by omega)) (s_ av_ (z_ (kx_ ?_))))))))))
  refine JX_round ((m / 10, [UInt8.ofNat (48 + (m % 10))] ++ s) : Nat × Bytes) ?_ ?_ ⟨rfl, rfl, rfl, rfl, trivial⟩ (fun _ h => h.keep [false] rfl)
  ·try dsimp only
   refine ⟨?_, ?_, ?_⟩
   ·exact i1_0.stepI (by omega)
   ·first | rfl | omega | (simp_all; done) | (simp_all; omega)
   ·simp only [List.length_append, List.length_cons, List.length_nil]; omega
  ·try dsimp only
   simp only [List.length_append, List.length_cons, List.length_nil]; omega
 ·have ⟨h2, h4⟩ := bor_false h2
  have h2 := of_decide_eq_false h2
  have h4 := of_decide_eq_false h4
  refine J_exit (ne_ (re_ (kh_ (n_ (q_ ?_)))))
  refine g_ (s_ mv_ (s_ av_ (z_ (n_ (rt_ ?_)))))
  exact p1 Tryz.results52 rfl ⟨(eS (i1_0.done (by omega) (List.length_pos_iff.1 (by omega)))), rfl⟩
end Go.Proofs.YtnfglkgahlaofaaGreatDoor

namespace Go.Proofs.YtnfglkgahlaofaaGreatDoor
open Go.GV
namespace R44
def kindT (k : Int) : Bytes := if k = 1 then [32, 110, 117, 109, 98, 101, 114] else if k = 2 then [32, 98, 105, 110, 97, 114, 121] else []
theorem kindT_len (k : Int) : (kindT k).length ≤ 7 := by unfold kindT; split <;> (try split) <;> simp
theorem kindT_look (k : Int) : (lk [((1 : Int), vS [32, 110, 117, 109, 98, 101, 114]), (2, vS [32, 98, 105, 110, 97, 114, 121])] k).getD (vS []) = vS (kindT k) := by
  unfold kindT
  by_cases h1 : k = 1
  · subst h1; rfl
  · by_cases h2 : k = 2
    · subst h2; rfl
    · rw [if_neg h1, if_neg h2]
      have : lk [((1 : Int), vS [32, 110, 117, 109, 98, 101, 114]), (2, vS [32, 98, 105, 110, 97, 114, 121])] k = none := lk_ne (fun e => h1 e) (lk_ne (fun e => h2 e) lk_nil)
      rw [this]; rfl
theorem kindT_at {k : Int} (h : k = 0 ∨ k = 1 ∨ k = 2) : (([[], [32, 110, 117, 109, 98, 101, 114], [32, 98, 105, 110, 97, 114, 121]] : List Bytes).getD k.toNat []) = kindT k := by
  rcases h with rfl | rfl | rfl <;> rfl
theorem kindT_atlen (n : Nat) : (([[], [32, 110, 117, 109, 98, 101, 114], [32, 98, 105, 110, 97, 114, 121]] : List Bytes).getD n []).length ≤ 7 := by
  rcases n with _ | _ | _ | n
  · decide
  · decide
  · decide
  · exact Nat.zero_le _
abbrev desT : Bytes := [32, 100, 101, 115, 99, 101, 110, 100, 105, 110, 103]
def fmt1 (f : SortField) : Bytes := (((Lib.decDigits f.At.toNat ++ [32]) ++ Lib.decDigits f.Length.toNat) ++ kindT f.Kind) ++ (if f.Descending = true then desT else [])
def fmtV (l : List SortField) : Bytes := if valid l = true then Lib.join (l.map fmt1) [44, 32] else []
theorem fmt1_t {f : SortField} (h : f.Descending = true) : (((Lib.decDigits f.At.toNat ++ [32]) ++ Lib.decDigits f.Length.toNat) ++ kindT f.Kind) ++ desT = fmt1 f := by unfold fmt1; rw [if_pos h]
theorem fmt1_f {f : SortField} (h : f.Descending = false) : (((Lib.decDigits f.At.toNat ++ [32]) ++ Lib.decDigits f.Length.toNat) ++ kindT f.Kind) = fmt1 f := by unfold fmt1; rw [if_neg (by rw [h]; decide), List.append_nil]
theorem fmt_snoc {l : List SortField} {k : Nat} (hk : k < l.length) {x : Bytes} (hx : x = fmt1 (l.getD k default)) : (l.take k).map fmt1 ++ [x] = (l.take (k + 1)).map fmt1 := by
  rw [take_snoc (d := default) hk, List.map_append, hx]; rfl
theorem fmt1_len {f : SortField} (h : fok f = true) : (fmt1 f).length ≤ 60 := by
  have hf := fok_facts h
  have hm := most_le f.Kind
  have h1 := dec_len19 (n := f.At.toNat) (by omega)
  have h2 := dec_len19 (n := f.Length.toNat) (by omega)
  have h3 := kindT_len f.Kind
  unfold fmt1
  simp only [List.length_append, List.length_cons, List.length_nil]
  split <;> simp <;> omega
theorem join_snoc (xs : List Bytes) (y sep : Bytes) : Lib.join (xs ++ [y]) sep = if xs = [] then y else (Lib.join xs sep ++ sep) ++ y := by
  cases xs with
  | nil => rw [if_pos rfl]; exact Lib.join_one y sep
  | cons x r =>
    rw [if_neg (List.cons_ne_nil _ _), List.cons_append, Lib.join_cons, Lib.join_cons]
    unfold Lib.joinTail
    rw [List.map_append, List.flatten_append]; simp
theorem fmt_join {l : List SortField} (hv : valid l = true) : ∀ k, k ≤ l.length → (Lib.join ((l.take k).map fmt1) [44, 32]).length ≤ 62 * k
  | 0, _ => by simp [Lib.join_nil]
  | k + 1, hk => by
    have ih := fmt_join hv k (by omega)
    have h1 := fmt1_len ((valid_facts hv).2 k (by omega))
    rw [← fmt_snoc (by omega) rfl, join_snoc]
    split
    · omega
    · simp only [List.length_append, List.length_cons, List.length_nil]; omega
theorem fmt_small {l : List SortField} {k : Nat} (hv : valid l = true) (hk : k ≤ l.length) : (Lib.join ((l.take k).map fmt1) [44, 32]).length ≤ 1000000 := by
  have := fmt_join hv k hk
  have := (valid_facts hv).1
  omega
theorem fmtV_no {l : List SortField} (h : valid l = false) : [] = fmtV l := by unfold fmtV; rw [h]; rfl
theorem fmtV_end {l : List SortField} {k : Nat} (h : valid l = true) (hk : l.length ≤ k) : Lib.join ((l.take k).map fmt1) [44, 32] = fmtV l := by unfold fmtV; rw [if_pos h, List.take_of_length_le hk]
theorem map_nil_take {l : List SortField} {k : Nat} (hk : k ≤ l.length) (h0 : 0 < k) : (l.take k).map fmt1 ≠ [] := by
  intro e
  have := congrArg List.length e
  rw [List.length_map, List.length_take, List.length_nil] at this; omega
section
variable {l : List SortField} {k : Nat} {s x : Bytes}
theorem rf_first (hk : k < l.length) (h0 : ¬ 0 < k) (hs : s = Lib.join ((l.take k).map fmt1) [44, 32]) (hx : x = fmt1 (l.getD k default)) : s ++ x = Lib.join ((l.take (k + 1)).map fmt1) [44, 32] := by
  have : k = 0 := by omega
  subst this
  rw [← fmt_snoc hk hx, hs]; exact (Lib.join_one x _).symm
theorem rf_next (hk : k < l.length) (h0 : 0 < k) (hs : s = Lib.join ((l.take k).map fmt1) [44, 32]) (hx : x = fmt1 (l.getD k default)) : (s ++ [44, 32]) ++ x = Lib.join ((l.take (k + 1)).map fmt1) [44, 32] := by
  rw [← fmt_snoc hk hx, join_snoc, if_neg (map_nil_take (by omega) h0), hs]
theorem rf_assoc {a b c d e : Bytes} : (((((s ++ a) ++ b) ++ c) ++ d) ++ e) = s ++ ((((a ++ b) ++ c) ++ d) ++ e) := by simp
theorem rf_assoc4 {a b c d : Bytes} : ((((s ++ a) ++ b) ++ c) ++ d) = s ++ (((a ++ b) ++ c) ++ d) := by simp
end
section
variable {R : List Bytes}
end
theorem fw_of {W : List Bytes} {p : Bytes} {x : Option SortField} (hw : W = words p) (h : fieldW W = x) : fieldW (words p) = x := by rw [← hw]; exact h
theorem ne_of {W : List Bytes} {s : Bytes} (hw : W = words s) (h : W.length ≠ 0) : words s ≠ [] := fun e => by rw [hw, e] at h; exact h rfl
theorem eq_of {W : List Bytes} {s : Bytes} (hw : W = words s) (h : W.length = 0) : words s = [] := by rw [← hw]; exact List.length_eq_zero_iff.1 h
section
variable {W R1 R2 : List Bytes} {n1 n2 kd : Int} {o1 o2 de : Bool}
theorem fw_go (h : 2 ≤ W.length) (s1 : SmallJ (W.getD 0 []) n1 o1) (h1 : o1 = true) (s2 : SmallJ (W.getD 1 []) n2 o2) (h2 : o2 = true) (hk : kindOf (W.drop 2) = (kd, R1)) (hd : descOf R1 = (de, R2)) (he : R2.length = 0) : fieldW W = some ⟨n1, n2, kd, de⟩ := fw_yes h h1 s1 h2 s2 hk hd (List.length_eq_zero_iff.1 he)
theorem fw_no2 (s1 : SmallJ (W.getD 0 []) n1 o1) (s2 : SmallJ (W.getD 1 []) n2 o2) (h : ((!o1) || (!o2)) = true) : fieldW W = none := by
  cases h1 : o1 with
  | false => exact fw_n1 h1 s1
  | true => cases h2 : o2 with
    | false => exact fw_n2 h2 s2
    | true => rw [h1, h2] at h; cases h
theorem fw_no3 (s1 : SmallJ (W.getD 0 []) n1 o1) (s2 : SmallJ (W.getD 1 []) n2 o2) (hk : kindOf (W.drop 2) = (kd, R1)) (hd : descOf R1 = (de, R2)) (h : (((!o1) || (!o2)) || decide ((0 : Int) < ((R2.length : Nat) : Int))) = true) : fieldW W = none := by
  rcases Bool.or_eq_true_iff.1 h with h | h
  · exact fw_no2 s1 s2 h
  · exact fw_rest hk hd fun e => by rw [e] at h; simp at h
end
end R44
end Go.Proofs.YtnfglkgahlaofaaGreatDoor

namespace Go.Proofs.YtnfglkgahlaofaaGreatDoor
open Go.GV
set_option linter.unusedVariables false
set_option linter.unusedSimpArgs false
theorem c44r0_ {p : Prop} (h : p := by first | omega | (simp only [List.length_append, List.length_cons, List.length_nil]; omega) | (simp; omega) | (simp_all; omega)) : p := h
theorem c44r1_ {p : Prop} (h : p := by exact JA_done (by kernel_rfl) (fun _ h => ⟨h.keep [false] rfl, fun _ => h.keep [false] rfl⟩) (JX_weaken (E' := [(0, vL lA l.length lC), (2, vS []), (3, vS (((((s ++ [44, 32]) ++ (Lib.decDigits ((l.getD k default).At).toNat)) ++ [32]) ++ (Lib.decDigits ((l.getD k default).Length).toNat)) ++ (([[], [32, 110, 117, 109, 98, 101, 114], [32, 98, 105, 110, 97, 114, 121]] : List Bytes).getD (((l.getD k default).Kind).toNat) []))), (4, vI ((k : Nat) : Int))]) (L' := []) ⟨rfl, rfl, rfl, rfl, trivial⟩ (fun _ h => h.keep [false] rfl) key5)) : p := h
theorem c44r2_ {p : Prop} (h : p := by exact JA_done (by kernel_rfl) (fun _ h => ⟨h.keep [false] rfl, fun _ => h.keep [false] rfl⟩) (JX_weaken (E' := [(0, vL lA l.length lC), (2, vS []), (3, vS ((((s ++ (Lib.decDigits ((l.getD k default).At).toNat)) ++ [32]) ++ (Lib.decDigits ((l.getD k default).Length).toNat)) ++ (([[], [32, 110, 117, 109, 98, 101, 114], [32, 98, 105, 110, 97, 114, 121]] : List Bytes).getD (((l.getD k default).Kind).toNat) []))), (4, vI ((k : Nat) : Int))]) (L' := []) ⟨rfl, rfl, rfl, rfl, trivial⟩ (fun _ h => h.keep [false] rfl) key20)) : p := h
theorem c44r3_ {p : Prop} (h : p := by first | exact R44.fmtV_no (by simp_all) | (rw [i1_1]; exact R44.fmtV_end (by assumption) (by omega))) : p := h
theorem c44r4_ {p : Prop} (h : p := by rw [hkt (by omega)]; first | (rw [R44.rf_assoc]; exact R44.rf_next (by omega) (by omega) i1_1 (R44.fmt1_t (by assumption))) | (rw [R44.rf_assoc4]; exact R44.rf_next (by omega) (by omega) i1_1 (R44.fmt1_f (by assumption))) | (rw [R44.rf_assoc]; exact R44.rf_first (by omega) (by omega) i1_1 (R44.fmt1_t (by assumption))) | (rw [R44.rf_assoc4]; exact R44.rf_first (by omega) (by omega) i1_1 (R44.fmt1_f (by assumption)))) : p := h
theorem c44r10_ {p : Prop} (h : p := by rw [i1_1]; first | exact R44.fmt_snoc (by omega) (R44.fmt1_t (by assumption)) | exact R44.fmt_snoc (by omega) (R44.fmt1_f (by assumption))) : p := h
set_option maxRecDepth 20000 in
theorem f25_ok (l : List SortField) (lA : Option Addr) (lC : Nat) (w : World) (lR : RO [] w lA (l.flatMap SortField.enc)) (hT : Tab [] w) (q0 : l.length ≤ 9223372036854775807) : Calls Tryz.prog 25 #[vL lA l.length lC] w (Gives [] w fun v L => v = vS (R44.fmtV l) ∧ L = []) := by
 refine calls_J [] 42 Tryz.func25 rfl Tryz.ntmps25 [(0, _)] rfl rfl (Give.nil w) ?_
 refine q_ (g_ (s_ av_ (z_ (n_ (q_ (q_ (g_ (s_ mv_ (c0 (cl_ Ty.ca21) (fun w hS => f21_ok l lA lC w (rno lR hS) hy_) (s_ (x_not rfl) (z_ (n_ ?_))))))))))))
 refine if_ (fun h1 => ?_) (fun h1 => ?_)
 ·have h1 : (R44.valid l) = false := bnot_true h1
  refine q_ (g_ (s_ av_ (z_ (n_ (rt_ (nr_ ?_))))))
  exact p1 Tryz.results25 rfl ⟨(eS c44r3_), rfl⟩
 ·have h1 : (R44.valid l) = true := bnot_false h1
  have hi2 := R44.valid_facts h1
  refine sk_ (n_ (q_ (g_ (s_ av_ (z_ (n_ (q_ (q_ (g_ (s_ mv_ (s_ (lnS Tryz.underlying24) (s_ mv_ (z_ (n_ (k_ ?_)))))))))))))))
  refine J_loop (X := Nat × (List Bytes) × (Option Addr) × Nat) (fun (⟨k, out, outA, outC⟩ : Nat × (List Bytes) × (Option Addr) × Nat) => (k ≤ l.length) ∧ (out = (l.take k).map R44.fmt1) ∧ (out.length = k)) (fun (⟨k, out, outA, outC⟩ : Nat × (List Bytes) × (Option Addr) × Nat) => [(2, vS []), (3, vL outA out.length outC), (10, vL lA l.length lC), (11, vI ((l.length : Nat) : Int)), (12, vI ((k : Nat) : Int))]) (fun (⟨k, out, outA, outC⟩ : Nat × (List Bytes) × (Option Addr) × Nat) => [Ent.row (.slice outA out.length outC) 9 1 out.length (out.map vS)]) (fun (⟨k, out, outA, outC⟩ : Nat × (List Bytes) × (Option Addr) × Nat) => l.length - k) ((0, ([] : List Bytes), none, 0) : Nat × (List Bytes) × (Option Addr) × Nat) ?_ ⟨rfl, rfl, rfl, rfl, rfl, trivial⟩ (fun _ h => (h.nilrow 9 1).keep [true] rfl) ?_
  ·try dsimp only
   refine ⟨?_, ?_, ?_⟩
   ·first | rfl | omega | (simp_all; done) | (simp_all; omega)
   ·rfl
   ·rfl
  rintro ⟨k, out, outA, outC⟩ hI1
  obtain ⟨i1_0, i1_1, i1_2⟩ := hI1
  try dsimp only at i1_0
  try dsimp only at i1_1
  try dsimp only at i1_2
  have hv0 := R44.valid_facts (l := l) (by assumption)
  have hfo := fun h => R44.fok_facts (hv0.2 k h)
  have hkl := R44.kindT_len (l.getD k default).Kind
  try dsimp only
  refine q_ (g_ (s_ (x_lss_i rfl rfl) (z_ (n_ (q_ ?_)))))
  refine ifd (fun h3w h3 => ?_) (fun h3w h3 => ?_)
  ·refine sk_ (n_ (q_ (k_ (q_ (g_ (r_ (ixF SortField.enc_len (cells_ro lR) Tryz.underlying24 Ty.sz50) (r_ (ldFN SortField.enc_len (cells_ro lR) Ty.ag50 Ty.sz50) (o_ (al_ Ty.ze50 fun b4 => ?_)))))))))
   refine o_ (stG 0 Ty.sz50 ?_)
   refine z_ (n_ (q_ ?_))
   refine drB [] 9 Ty.mixed ?_
   refine jp_ 0 rfl (fA 0 Ty.fi50_0) (jq_ 1 rfl (ld_ 0 Ty.sc3) (jp_ 4 rfl (fA 1 Ty.fi50_1) (jq_ 5 rfl (ld_ 0 Ty.sc3) (j1_ 2 (jc0_ rfl (cl_ Ty.ca50) (fun w hS => itoa_ok _ w (hT.on hS (fun _ h => by cases h)) hy_ hy_) ?_) gm_))))
   have ha5 := R44.dec_lenI ((l.getD k default).At) (by omega)
   refine jt_ 3 (vS ((Lib.decDigits ((l.getD k default).At).toNat) ++ [32])) rfl (fun _ _ => x_cat_s rfl rfl c44r0_) ?_
   refine j1_ 6 (jc0_ rfl (cl_ Ty.ca50) (fun w hS => itoa_ok _ w (hT.on hS (fun _ h => by cases h)) hy_ hy_) ?_) gm_
   have ha6 := R44.dec_lenI ((l.getD k default).Length) (by omega)
   refine jp_ 7 rfl (x_cat_s rfl rfl c44r0_) (jp_ 8 rfl av_ ?_)
   refine JA_done (by kernel_rfl) gm_ ?_
   refine n_ (q_ (g_ (s_ mv_ (o_ (O_makeMap vI fun b7 => ?_)))))
   refine o_ (O_insert 0 (f := vI) (k := 1) [(1, vS [32, 110, 117, 109, 98, 101, 114])] [Ent.mp vI b7 [(1, vS [32, 110, 117, 109, 98, 101, 114])], Ent.blk b4 50 (SortField.enc (l.getD k default)), Ent.row (.slice outA out.length outC) 9 1 out.length (out.map vS)] rfl rfl rfl rfl Tryz.underlying98 (mapK_i Tryz.underlying3) rfl rfl ?_)
   refine o_ (O_insert 0 (f := vI) (k := 2) [(1, vS [32, 110, 117, 109, 98, 101, 114]), (2, vS [32, 98, 105, 110, 97, 114, 121])] [Ent.mp vI b7 [(1, vS [32, 110, 117, 109, 98, 101, 114]), (2, vS [32, 98, 105, 110, 97, 114, 121])], Ent.blk b4 50 (SortField.enc (l.getD k default)), Ent.row (.slice outA out.length outC) 9 1 out.length (out.map vS)] rfl rfl rfl rfl Tryz.underlying98 (mapK_i Tryz.underlying3) rfl rfl ?_)
   refine s_ mv_ (s_ (fA 2 Ty.fi50_2) (r_ (ld_ 1 Ty.sc3) ?_))
   refine JO_read (vS (R44.kindT ((l.getD k default).Kind))) rfl trivial (x_lookup_v 0 (f := vI) (k := (l.getD k default).Kind) rfl rfl rfl Tryz.underlying98 (mapK_i Tryz.underlying3) Ty.ze9 rfl (R44.kindT_look _)) ?_
   refine s_ (x_cat_s rfl rfl c44r0_) (s_ av_ (z_ (xk_ [2, 3, 10, 11, 12, 5, 6] ?_)))
   refine n_ (q_ (q_ (g_ (s_ (fA 3 Ty.fi50_3) (r_ (ld_ 1 Ty.sc4) (z_ (n_ ?_)))))))
   refine if_ (fun h8 => ?_) (fun h8 => ?_)
   ·refine g_ (s_ mv_ (js_ (vS (((((Lib.decDigits ((l.getD k default).At).toNat) ++ [32]) ++ (Lib.decDigits ((l.getD k default).Length).toNat)) ++ (R44.kindT ((l.getD k default).Kind))) ++ [32, 100, 101, 115, 99, 101, 110, 100, 105, 110, 103])) (x_cat_s rfl rfl c44r0_) (s_ av_ (z_ (n_ (g_ (s_ mv_ (s_ mv_ (o_ (O_buildSlice (cs := [vS (((((Lib.decDigits ((l.getD k default).At).toNat) ++ [32]) ++ (Lib.decDigits ((l.getD k default).Length).toNat)) ++ (R44.kindT ((l.getD k default).Kind))) ++ [32, 100, 101, 115, 99, 101, 110, 100, 105, 110, 103])]) Tryz.underlying22 Ty.sz9 Ty.ze9 (by decide) (by decide) (by kernel_rfl) fun b9 => ?_))))))))))
    refine o_ (O_append_m 3 vS out [((((Lib.decDigits ((l.getD k default).At).toNat) ++ [32]) ++ (Lib.decDigits ((l.getD k default).Length).toNat)) ++ (R44.kindT ((l.getD k default).Kind))) ++ [32, 100, 101, 115, 99, 101, 110, 100, 105, 110, 103]] Tryz.underlying22 Ty.sz9 Ty.by9 Ty.ze9 rfl rfl rfl rfl rfl (fun _ => rfl) (cells_blk 0 (off := 0) (m := 1) rfl rfl) lt_ lt_ fun A10 c11 => ?_)
    refine s_ av_ (z_ (kx_ (n_ (g_ (s_ (x_add_n (a := k) (b := 1) rfl rfl (by omega)) (s_ mv_ (z_ ?_)))))))
    refine JX_round ((k + 1, out ++ [((((Lib.decDigits ((l.getD k default).At).toNat) ++ [32]) ++ (Lib.decDigits ((l.getD k default).Length).toNat)) ++ (R44.kindT ((l.getD k default).Kind))) ++ [32, 100, 101, 115, 99, 101, 110, 100, 105, 110, 103]], A10, c11) : Nat × (List Bytes) × (Option Addr) × Nat) ?_ ?_ ⟨rfl, rfl, rfl, rfl, rfl, trivial⟩ (fun _ h => h.keep [false, false, false, true] rfl)
    ·try dsimp only
     refine ⟨?_, ?_, ?_⟩
     ·first | rfl | omega | (simp_all; done) | (simp_all; omega)
     ·exact c44r10_
     ·rw [List.length_append, List.length_singleton]; omega
    ·try dsimp only
     first | omega | (simp; omega) | (simp_all; omega)
   ·refine sk_ (n_ (g_ (s_ mv_ (s_ mv_ (o_ (O_buildSlice (cs := [vS ((((Lib.decDigits ((l.getD k default).At).toNat) ++ [32]) ++ (Lib.decDigits ((l.getD k default).Length).toNat)) ++ (R44.kindT ((l.getD k default).Kind)))]) Tryz.underlying22 Ty.sz9 Ty.ze9 (by decide) (by decide) (by kernel_rfl) fun b12 => ?_))))))
    refine o_ (O_append_m 3 vS out [(((Lib.decDigits ((l.getD k default).At).toNat) ++ [32]) ++ (Lib.decDigits ((l.getD k default).Length).toNat)) ++ (R44.kindT ((l.getD k default).Kind))] Tryz.underlying22 Ty.sz9 Ty.by9 Ty.ze9 rfl rfl rfl rfl rfl (fun _ => rfl) (cells_blk 0 (off := 0) (m := 1) rfl rfl) lt_ lt_ fun A13 c14 => ?_)
    refine s_ av_ (z_ (kx_ (n_ (g_ (s_ (x_add_n (a := k) (b := 1) rfl rfl (by omega)) (s_ mv_ (z_ ?_)))))))
    refine JX_round ((k + 1, out ++ [(((Lib.decDigits ((l.getD k default).At).toNat) ++ [32]) ++ (Lib.decDigits ((l.getD k default).Length).toNat)) ++ (R44.kindT ((l.getD k default).Kind))], A13, c14) : Nat × (List Bytes) × (Option Addr) × Nat) ?_ ?_ ⟨rfl, rfl, rfl, rfl, rfl, trivial⟩ (fun _ h => h.keep [false, false, false, true] rfl)
    ·try dsimp only
     refine ⟨?_, ?_, ?_⟩
     ·first | rfl | omega | (simp_all; done) | (simp_all; omega)
     ·exact c44r10_
     ·rw [List.length_append, List.length_singleton]; omega
    ·try dsimp only
     first | omega | (simp; omega) | (simp_all; omega)
  ·refine J_exit (ne_ (re_ (kh_ (n_ (q_ ?_)))))
   refine g_ (s_ mv_ (c0 (cl_ Ty.ca51) (fun w hS => join_ok out outA outC w (RO.of_row hS 0 rfl) (by first | assumption | exact row_addr (hS.mem (j := 0) rfl) | exact row_addr (hS.mem (j := 1) rfl) | exact row_addr (hS.mem (j := 2) rfl) | exact row_addr (hS.mem (j := 3) rfl) | exact row_addr (hS.mem (j := 4) rfl) | exact ⟨Nat.le_refl _, .inl ⟨rfl, rfl⟩⟩) hy_ (by rw [i1_1]; exact R44.fmt_small (by assumption) i1_0)) (s_ av_ (z_ (n_ (rt_ ?_))))))
   exact p1 Tryz.results25 rfl ⟨(eS c44r3_), rfl⟩
set_option maxRecDepth 20000 in
theorem f26_ok (l : List SortField) (lA : Option Addr) (lC : Nat) (w : World) (lR : RO [] w lA (l.flatMap SortField.enc)) (q0 : l.length ≤ 9223372036854775807) : Calls Tryz.prog 26 #[vL lA l.length lC] w (Gives [] w fun v L => v = vS (R44.fmtV l) ∧ L = []) := by
 refine calls_J [] 51 Tryz.func26 rfl Tryz.ntmps26 [(0, _)] rfl rfl (Give.nil w) ?_
 refine q_ (g_ (s_ av_ (z_ (n_ (q_ (q_ (g_ (s_ mv_ (c0 (cl_ Ty.ca23) (fun w hS => f23_ok l lA lC w (rno lR hS) hy_) (s_ (x_not rfl) (z_ (n_ ?_))))))))))))
 refine if_ (fun h1 => ?_) (fun h1 => ?_)
 ·have h1 : (R44.valid l) = false := bnot_true h1
  refine q_ (g_ (s_ av_ (z_ (n_ (rt_ (nr_ ?_))))))
  exact p1 Tryz.results26 rfl ⟨(eS c44r3_), rfl⟩
 ·have h1 : (R44.valid l) = true := bnot_false h1
  have hi2 := R44.valid_facts h1
  refine sk_ (n_ (q_ (g_ (s_ av_ (z_ (n_ (q_ (q_ (g_ (s_ av_ (z_ (n_ (k_ ?_)))))))))))))
  refine J_loop (X := Nat × Bytes) (fun (⟨k, s⟩ : Nat × Bytes) => (k ≤ l.length) ∧ (s = Lib.join ((l.take k).map R44.fmt1) [44, 32])) (fun (⟨k, s⟩ : Nat × Bytes) => [(0, vL lA l.length lC), (2, vS []), (3, vS s), (4, vI ((k : Nat) : Int))]) (fun (⟨k, s⟩ : Nat × Bytes) => []) (fun (⟨k, s⟩ : Nat × Bytes) => l.length - k) ((0, []) : Nat × Bytes) ?_ ⟨rfl, rfl, rfl, rfl, trivial⟩ (fun _ h => h) ?_
  ·try dsimp only
   refine ⟨?_, ?_⟩
   ·first | rfl | omega | (simp_all; done) | (simp_all; omega)
   ·rfl
  rintro ⟨k, s⟩ hI1
  obtain ⟨i1_0, i1_1⟩ := hI1
  try dsimp only at i1_0
  try dsimp only at i1_1
  have hv0 := R44.valid_facts (l := l) (by assumption)
  have hfo := fun h => R44.fok_facts (hv0.2 k h)
  have hfk := fun h => R44.fok_kind (hv0.2 k h)
  have hfm := R44.most_le (l.getD k default).Kind
  have hkl := R44.kindT_len (l.getD k default).Kind
  have hkt := fun h => R44.kindT_at (k := (l.getD k default).Kind) h
  have hkn := R44.kindT_atlen (l.getD k default).Kind.toNat
  have hd1 := fun h => R44.dec_lenI (l.getD k default).At h
  have hd2 := fun h => R44.dec_lenI (l.getD k default).Length h
  have hsm : s.length ≤ 1000000 := by rw [i1_1]; exact R44.fmt_small (by assumption) i1_0
  try dsimp only
  refine q_ (q_ (g_ (s_ mv_ (s_ mv_ (s_ (lnS Tryz.underlying24) (s_ (x_lss_i rfl rfl) (z_ (n_ ?_))))))))
  refine ifd (fun h3w h3 => ?_) (fun h3w h3 => ?_)
  ·refine sk_ (n_ (q_ (k_ (q_ (q_ (g_ (s_ mv_ (s_ (x_gtr_i rfl rfl) (z_ (n_ ?_))))))))))
   refine ifd (fun h4w h4 => ?_) (fun h4w h4 => ?_)
   ·refine g_ (s_ mv_ (js_ (vS (s ++ [44, 32])) (x_cat_s rfl rfl c44r0_) (s_ av_ (z_ (n_ (q_ ?_))))))
    refine drB [] 26 Ty.mixed ?_
    refine jp_ 0 rfl mv_ (jp_ 1 rfl mv_ (jp_ 2 rfl mv_ (jq_ 3 rfl (ixF SortField.enc_len (cells_ro lR) Tryz.underlying24 Ty.sz50) (jp_ 4 rfl (fB0 Ty.fi50_0) (jq_ 5 rfl (ldF0 SortField.enc_len (cells_ro lR) Ty.sc3) (jp_ 9 rfl mv_ (jp_ 10 rfl mv_ (jq_ 11 rfl (ixF SortField.enc_len (cells_ro lR) Tryz.underlying24 Ty.sz50) (jp_ 12 rfl (fB Ty.fi50_1) ?_)))))))))
    refine jq_ 13 rfl (ldF 1 SortField.enc_len (cells_ro lR) Ty.sc3) (jp_ 17 rfl mv_ (jp_ 18 rfl mv_ (jq_ 19 rfl (ixF SortField.enc_len (cells_ro lR) Tryz.underlying24 Ty.sz50) (jp_ 20 rfl (fB Ty.fi50_2) (jq_ 21 rfl (ldF 2 SortField.enc_len (cells_ro lR) Ty.sc3) ?_)))))
    refine JA_fin [(0, vL lA l.length lC), (2, vS []), (3, vS (((((s ++ [44, 32]) ++ (Lib.decDigits ((l.getD k default).At).toNat)) ++ [32]) ++ (Lib.decDigits ((l.getD k default).Length).toNat)) ++ (([[], [32, 110, 117, 109, 98, 101, 114], [32, 98, 105, 110, 97, 114, 121]] : List Bytes).getD (((l.getD k default).Kind).toNat) []))), (4, vI ((k : Nat) : Int))] [] ?_ (fun key5 => ?_)
    ·refine n_ (q_ (g_ (s_ mv_ (s_ mv_ (r_ (ixF SortField.enc_len (cells_ro lR) Tryz.underlying24 Ty.sz50) (s_ (fB Ty.fi50_3) (r_ (ldF 3 SortField.enc_len (cells_ro lR) Ty.sc4) (z_ (n_ ?_)))))))))
     refine if_ (fun h6 => ?_) (fun h6 => ?_)
     ·refine g_ (s_ mv_ (js_ (vS ((((((s ++ [44, 32]) ++ (Lib.decDigits ((l.getD k default).At).toNat)) ++ [32]) ++ (Lib.decDigits ((l.getD k default).Length).toNat)) ++ (([[], [32, 110, 117, 109, 98, 101, 114], [32, 98, 105, 110, 97, 114, 121]] : List Bytes).getD (((l.getD k default).Kind).toNat) [])) ++ [32, 100, 101, 115, 99, 101, 110, 100, 105, 110, 103])) (x_cat_s rfl rfl c44r0_) (s_ av_ (z_ (kx_ (n_ (g_ (s_ mv_ (s_ (x_add_n (a := k) (b := 1) rfl rfl (by omega)) (s_ av_ (z_ ?_)))))))))))
      refine JX_round ((k + 1, (((((s ++ [44, 32]) ++ (Lib.decDigits ((l.getD k default).At).toNat)) ++ [32]) ++ (Lib.decDigits ((l.getD k default).Length).toNat)) ++ (([[], [32, 110, 117, 109, 98, 101, 114], [32, 98, 105, 110, 97, 114, 121]] : List Bytes).getD (((l.getD k default).Kind).toNat) [])) ++ [32, 100, 101, 115, 99, 101, 110, 100, 105, 110, 103]) : Nat × Bytes) ?_ ?_ ⟨rfl, rfl, rfl, rfl, trivial⟩ (fun _ h => h)
      ·try dsimp only
       refine ⟨?_, ?_⟩
       ·first | rfl | omega | (simp_all; done) | (simp_all; omega)
       ·exact c44r4_
      ·try dsimp only
       first | omega | (simp; omega) | (simp_all; omega)
     ·refine sk_ (kx_ (n_ (g_ (s_ mv_ (s_ (x_add_n (a := k) (b := 1) rfl rfl (by omega)) (s_ av_ (z_ ?_)))))))
      refine JX_round ((k + 1, ((((s ++ [44, 32]) ++ (Lib.decDigits ((l.getD k default).At).toNat)) ++ [32]) ++ (Lib.decDigits ((l.getD k default).Length).toNat)) ++ (([[], [32, 110, 117, 109, 98, 101, 114], [32, 98, 105, 110, 97, 114, 121]] : List Bytes).getD (((l.getD k default).Kind).toNat) [])) : Nat × Bytes) ?_ ?_ ⟨rfl, rfl, rfl, rfl, trivial⟩ (fun _ h => h)
      ·try dsimp only
       refine ⟨?_, ?_⟩
       ·first | rfl | omega | (simp_all; done) | (simp_all; omega)
       ·exact c44r4_
      ·try dsimp only
       first | omega | (simp; omega) | (simp_all; omega)
    ·refine JA_ready (rs := [6, 16]) (by kernel_rfl) (by decide) gm_ (List.forall_mem_cons.2 ⟨?_, (List.forall_mem_cons.2 ⟨?_, all_nil⟩)⟩)
     ·refine jc0_ rfl (cl_ Ty.ca52) (fun w hS => f52_ok _ w hy_ hy_) ?_
      have ha7 := R44.dec_lenI ((l.getD k default).At) (by omega)
      refine jp_ 7 rfl (x_cat_s rfl rfl c44r0_) ?_
      refine jt_ 8 (vS (((s ++ [44, 32]) ++ (Lib.decDigits ((l.getD k default).At).toNat)) ++ [32])) rfl (fun _ _ => x_cat_s rfl rfl c44r0_) ?_
      refine JA_ready (rs := [14, 16]) (by kernel_rfl) (by decide) gm_ (List.forall_mem_cons.2 ⟨?_, (List.forall_mem_cons.2 ⟨?_, all_nil⟩)⟩)
      ·refine jc0_ rfl (cl_ Ty.ca52) (fun w hS => f52_ok _ w hy_ hy_) ?_
       have ha8 := R44.dec_lenI ((l.getD k default).Length) (by omega)
       refine jp_ 15 rfl (x_cat_s rfl rfl c44r0_) (j1_ 16 (jio_ rfl (O_buildSlice (cs := [vS [], vS [32, 110, 117, 109, 98, 101, 114], vS [32, 98, 105, 110, 97, 114, 121]]) Tryz.underlying22 Ty.sz9 Ty.ze9 (by decide) (by decide) (by kernel_rfl) fun b10 => ?_)) gm_)
       refine jp_ 22 rfl (x_indexAddr_sl (k := ((l.getD k default).Kind).toNat) Tryz.underlying22 Ty.sz9 rfl (ix_nat rfl (by omega)) lt_ (add_0k1 _ _)) (j1_ 23 (jir_ rfl (x_load_arr 0 (xs := ([[], [32, 110, 117, 109, 98, 101, 114], [32, 98, 105, 110, 97, 114, 121]] : List Bytes)) vS [] rfl rfl Ty.sc9 lt_) (jp_ 24 rfl (x_cat_s rfl rfl c44r0_) (jp_ 25 rfl av_ ?_))) (fun _ h => ⟨h.keep [false] rfl, fun _ => h.keep [false] rfl⟩))
       exact c44r1_
      ·refine jio_ rfl (O_buildSlice (cs := [vS [], vS [32, 110, 117, 109, 98, 101, 114], vS [32, 98, 105, 110, 97, 114, 121]]) Tryz.underlying22 Ty.sz9 Ty.ze9 (by decide) (by decide) (by kernel_rfl) fun b11 => ?_)
       refine jp_ 22 rfl (x_indexAddr_sl (k := ((l.getD k default).Kind).toNat) Tryz.underlying22 Ty.sz9 rfl (ix_nat rfl (by omega)) lt_ (add_0k1 _ _)) ?_
       refine JA_ready (rs := [14, 23]) (by kernel_rfl) (by decide) (fun _ h => ⟨h.keep [false] rfl, fun _ => h.keep [false] rfl⟩) (List.forall_mem_cons.2 ⟨?_, (List.forall_mem_cons.2 ⟨?_, all_nil⟩)⟩)
       ·refine jc0_ rfl (cl_ Ty.ca52) (fun w hS => f52_ok _ w hy_ hy_) ?_
        have ha12 := R44.dec_lenI ((l.getD k default).Length) (by omega)
        refine jp_ 15 rfl (x_cat_s rfl rfl c44r0_) (j1_ 23 (jir_ rfl (x_load_arr 0 (xs := ([[], [32, 110, 117, 109, 98, 101, 114], [32, 98, 105, 110, 97, 114, 121]] : List Bytes)) vS [] rfl rfl Ty.sc9 lt_) (jp_ 24 rfl (x_cat_s rfl rfl c44r0_) (jp_ 25 rfl av_ ?_))) (fun _ h => ⟨h.keep [false] rfl, fun _ => h.keep [false] rfl⟩))
        exact c44r1_
       ·refine jir_ rfl (x_load_arr 0 (xs := ([[], [32, 110, 117, 109, 98, 101, 114], [32, 98, 105, 110, 97, 114, 121]] : List Bytes)) vS [] rfl rfl Ty.sc9 lt_) (j1_ 14 (jc0_ rfl (cl_ Ty.ca52) (fun w hS => f52_ok _ w hy_ hy_) ?_) (fun _ h => ⟨h.keep [false] rfl, fun _ => h.keep [false] rfl⟩))
        have ha13 := R44.dec_lenI ((l.getD k default).Length) (by omega)
        refine jp_ 15 rfl (x_cat_s rfl rfl c44r0_) (jp_ 24 rfl (x_cat_s rfl rfl c44r0_) (jp_ 25 rfl av_ ?_))
        exact c44r1_
     ·refine jio_ rfl (O_buildSlice (cs := [vS [], vS [32, 110, 117, 109, 98, 101, 114], vS [32, 98, 105, 110, 97, 114, 121]]) Tryz.underlying22 Ty.sz9 Ty.ze9 (by decide) (by decide) (by kernel_rfl) fun b14 => ?_)
      refine jp_ 22 rfl (x_indexAddr_sl (k := ((l.getD k default).Kind).toNat) Tryz.underlying22 Ty.sz9 rfl (ix_nat rfl (by omega)) lt_ (add_0k1 _ _)) ?_
      refine JA_ready (rs := [6, 23]) (by kernel_rfl) (by decide) (fun _ h => ⟨h.keep [false] rfl, fun _ => h.keep [false] rfl⟩) (List.forall_mem_cons.2 ⟨?_, (List.forall_mem_cons.2 ⟨?_, all_nil⟩)⟩)
      ·refine jc0_ rfl (cl_ Ty.ca52) (fun w hS => f52_ok _ w hy_ hy_) ?_
       have ha15 := R44.dec_lenI ((l.getD k default).At) (by omega)
       refine jp_ 7 rfl (x_cat_s rfl rfl c44r0_) ?_
       refine jt_ 8 (vS (((s ++ [44, 32]) ++ (Lib.decDigits ((l.getD k default).At).toNat)) ++ [32])) rfl (fun _ _ => x_cat_s rfl rfl c44r0_) ?_
       refine JA_ready (rs := [14, 23]) (by kernel_rfl) (by decide) (fun _ h => ⟨h.keep [false] rfl, fun _ => h.keep [false] rfl⟩) (List.forall_mem_cons.2 ⟨?_, (List.forall_mem_cons.2 ⟨?_, all_nil⟩)⟩)
       ·refine jc0_ rfl (cl_ Ty.ca52) (fun w hS => f52_ok _ w hy_ hy_) ?_
        have ha16 := R44.dec_lenI ((l.getD k default).Length) (by omega)
        refine jp_ 15 rfl (x_cat_s rfl rfl c44r0_) (j1_ 23 (jir_ rfl (x_load_arr 0 (xs := ([[], [32, 110, 117, 109, 98, 101, 114], [32, 98, 105, 110, 97, 114, 121]] : List Bytes)) vS [] rfl rfl Ty.sc9 lt_) (jp_ 24 rfl (x_cat_s rfl rfl c44r0_) (jp_ 25 rfl av_ ?_))) (fun _ h => ⟨h.keep [false] rfl, fun _ => h.keep [false] rfl⟩))
        exact c44r1_
       ·refine jir_ rfl (x_load_arr 0 (xs := ([[], [32, 110, 117, 109, 98, 101, 114], [32, 98, 105, 110, 97, 114, 121]] : List Bytes)) vS [] rfl rfl Ty.sc9 lt_) (j1_ 14 (jc0_ rfl (cl_ Ty.ca52) (fun w hS => f52_ok _ w hy_ hy_) ?_) (fun _ h => ⟨h.keep [false] rfl, fun _ => h.keep [false] rfl⟩))
        have ha17 := R44.dec_lenI ((l.getD k default).Length) (by omega)
        refine jp_ 15 rfl (x_cat_s rfl rfl c44r0_) (jp_ 24 rfl (x_cat_s rfl rfl c44r0_) (jp_ 25 rfl av_ ?_))
        exact c44r1_
      ·refine jir_ rfl (x_load_arr 0 (xs := ([[], [32, 110, 117, 109, 98, 101, 114], [32, 98, 105, 110, 97, 114, 121]] : List Bytes)) vS [] rfl rfl Ty.sc9 lt_) (j1_ 6 (jc0_ rfl (cl_ Ty.ca52) (fun w hS => f52_ok _ w hy_ hy_) ?_) (fun _ h => ⟨h.keep [false] rfl, fun _ => h.keep [false] rfl⟩))
       have ha18 := R44.dec_lenI ((l.getD k default).At) (by omega)
       refine jp_ 7 rfl (x_cat_s rfl rfl c44r0_) ?_
       refine jt_ 8 (vS (((s ++ [44, 32]) ++ (Lib.decDigits ((l.getD k default).At).toNat)) ++ [32])) rfl (fun _ _ => x_cat_s rfl rfl c44r0_) ?_
       refine j1_ 14 (jc0_ rfl (cl_ Ty.ca52) (fun w hS => f52_ok _ w hy_ hy_) ?_) (fun _ h => ⟨h.keep [false] rfl, fun _ => h.keep [false] rfl⟩)
       have ha19 := R44.dec_lenI ((l.getD k default).Length) (by omega)
       refine jp_ 15 rfl (x_cat_s rfl rfl c44r0_) (jp_ 24 rfl (x_cat_s rfl rfl c44r0_) (jp_ 25 rfl av_ ?_))
       exact c44r1_
   ·refine sk_ (n_ (q_ ?_))
    refine drB [] 26 Ty.mixed ?_
    refine jp_ 0 rfl mv_ (jp_ 1 rfl mv_ (jp_ 2 rfl mv_ (jq_ 3 rfl (ixF SortField.enc_len (cells_ro lR) Tryz.underlying24 Ty.sz50) (jp_ 4 rfl (fB0 Ty.fi50_0) (jq_ 5 rfl (ldF0 SortField.enc_len (cells_ro lR) Ty.sc3) (jp_ 9 rfl mv_ (jp_ 10 rfl mv_ (jq_ 11 rfl (ixF SortField.enc_len (cells_ro lR) Tryz.underlying24 Ty.sz50) (jp_ 12 rfl (fB Ty.fi50_1) ?_)))))))))
    refine jq_ 13 rfl (ldF 1 SortField.enc_len (cells_ro lR) Ty.sc3) (jp_ 17 rfl mv_ (jp_ 18 rfl mv_ (jq_ 19 rfl (ixF SortField.enc_len (cells_ro lR) Tryz.underlying24 Ty.sz50) (jp_ 20 rfl (fB Ty.fi50_2) (jq_ 21 rfl (ldF 2 SortField.enc_len (cells_ro lR) Ty.sc3) ?_)))))
    refine JA_fin [(0, vL lA l.length lC), (2, vS []), (3, vS ((((s ++ (Lib.decDigits ((l.getD k default).At).toNat)) ++ [32]) ++ (Lib.decDigits ((l.getD k default).Length).toNat)) ++ (([[], [32, 110, 117, 109, 98, 101, 114], [32, 98, 105, 110, 97, 114, 121]] : List Bytes).getD (((l.getD k default).Kind).toNat) []))), (4, vI ((k : Nat) : Int))] [] ?_ (fun key20 => ?_)
    ·refine n_ (q_ (g_ (s_ mv_ (s_ mv_ (r_ (ixF SortField.enc_len (cells_ro lR) Tryz.underlying24 Ty.sz50) (s_ (fB Ty.fi50_3) (r_ (ldF 3 SortField.enc_len (cells_ro lR) Ty.sc4) (z_ (n_ ?_)))))))))
     refine if_ (fun h21 => ?_) (fun h21 => ?_)
     ·refine g_ (s_ mv_ (js_ (vS (((((s ++ (Lib.decDigits ((l.getD k default).At).toNat)) ++ [32]) ++ (Lib.decDigits ((l.getD k default).Length).toNat)) ++ (([[], [32, 110, 117, 109, 98, 101, 114], [32, 98, 105, 110, 97, 114, 121]] : List Bytes).getD (((l.getD k default).Kind).toNat) [])) ++ [32, 100, 101, 115, 99, 101, 110, 100, 105, 110, 103])) (x_cat_s rfl rfl c44r0_) (s_ av_ (z_ (kx_ (n_ (g_ (s_ mv_ (s_ (x_add_n (a := k) (b := 1) rfl rfl (by omega)) (s_ av_ (z_ ?_)))))))))))
      refine JX_round ((k + 1, ((((s ++ (Lib.decDigits ((l.getD k default).At).toNat)) ++ [32]) ++ (Lib.decDigits ((l.getD k default).Length).toNat)) ++ (([[], [32, 110, 117, 109, 98, 101, 114], [32, 98, 105, 110, 97, 114, 121]] : List Bytes).getD (((l.getD k default).Kind).toNat) [])) ++ [32, 100, 101, 115, 99, 101, 110, 100, 105, 110, 103]) : Nat × Bytes) ?_ ?_ ⟨rfl, rfl, rfl, rfl, trivial⟩ (fun _ h => h)
      ·try dsimp only
       refine ⟨?_, ?_⟩
       ·first | rfl | omega | (simp_all; done) | (simp_all; omega)
       ·exact c44r4_
      ·try dsimp only
       first | omega | (simp; omega) | (simp_all; omega)
     ·refine sk_ (kx_ (n_ (g_ (s_ mv_ (s_ (x_add_n (a := k) (b := 1) rfl rfl (by omega)) (s_ av_ (z_ ?_)))))))
      refine JX_round ((k + 1, (((s ++ (Lib.decDigits ((l.getD k default).At).toNat)) ++ [32]) ++ (Lib.decDigits ((l.getD k default).Length).toNat)) ++ (([[], [32, 110, 117, 109, 98, 101, 114], [32, 98, 105, 110, 97, 114, 121]] : List Bytes).getD (((l.getD k default).Kind).toNat) [])) : Nat × Bytes) ?_ ?_ ⟨rfl, rfl, rfl, rfl, trivial⟩ (fun _ h => h)
      ·try dsimp only
       refine ⟨?_, ?_⟩
       ·first | rfl | omega | (simp_all; done) | (simp_all; omega)
       ·exact c44r4_
      ·try dsimp only
       first | omega | (simp; omega) | (simp_all; omega)
    ·refine JA_ready (rs := [6, 16]) (by kernel_rfl) (by decide) gm_ (List.forall_mem_cons.2 ⟨?_, (List.forall_mem_cons.2 ⟨?_, all_nil⟩)⟩)
     ·refine jc0_ rfl (cl_ Ty.ca52) (fun w hS => f52_ok _ w hy_ hy_) ?_
      have ha22 := R44.dec_lenI ((l.getD k default).At) (by omega)
      refine jp_ 7 rfl (x_cat_s rfl rfl c44r0_) ?_
      refine jt_ 8 (vS ((s ++ (Lib.decDigits ((l.getD k default).At).toNat)) ++ [32])) rfl (fun _ _ => x_cat_s rfl rfl c44r0_) ?_
      refine JA_ready (rs := [14, 16]) (by kernel_rfl) (by decide) gm_ (List.forall_mem_cons.2 ⟨?_, (List.forall_mem_cons.2 ⟨?_, all_nil⟩)⟩)
      ·refine jc0_ rfl (cl_ Ty.ca52) (fun w hS => f52_ok _ w hy_ hy_) ?_
       have ha23 := R44.dec_lenI ((l.getD k default).Length) (by omega)
       refine jp_ 15 rfl (x_cat_s rfl rfl c44r0_) (j1_ 16 (jio_ rfl (O_buildSlice (cs := [vS [], vS [32, 110, 117, 109, 98, 101, 114], vS [32, 98, 105, 110, 97, 114, 121]]) Tryz.underlying22 Ty.sz9 Ty.ze9 (by decide) (by decide) (by kernel_rfl) fun b25 => ?_)) gm_)
       refine jp_ 22 rfl (x_indexAddr_sl (k := ((l.getD k default).Kind).toNat) Tryz.underlying22 Ty.sz9 rfl (ix_nat rfl (by omega)) lt_ (add_0k1 _ _)) (j1_ 23 (jir_ rfl (x_load_arr 0 (xs := ([[], [32, 110, 117, 109, 98, 101, 114], [32, 98, 105, 110, 97, 114, 121]] : List Bytes)) vS [] rfl rfl Ty.sc9 lt_) (jp_ 24 rfl (x_cat_s rfl rfl c44r0_) (jp_ 25 rfl av_ ?_))) (fun _ h => ⟨h.keep [false] rfl, fun _ => h.keep [false] rfl⟩))
       exact c44r2_
      ·refine jio_ rfl (O_buildSlice (cs := [vS [], vS [32, 110, 117, 109, 98, 101, 114], vS [32, 98, 105, 110, 97, 114, 121]]) Tryz.underlying22 Ty.sz9 Ty.ze9 (by decide) (by decide) (by kernel_rfl) fun b26 => ?_)
       refine jp_ 22 rfl (x_indexAddr_sl (k := ((l.getD k default).Kind).toNat) Tryz.underlying22 Ty.sz9 rfl (ix_nat rfl (by omega)) lt_ (add_0k1 _ _)) ?_
       refine JA_ready (rs := [14, 23]) (by kernel_rfl) (by decide) (fun _ h => ⟨h.keep [false] rfl, fun _ => h.keep [false] rfl⟩) (List.forall_mem_cons.2 ⟨?_, (List.forall_mem_cons.2 ⟨?_, all_nil⟩)⟩)
       ·refine jc0_ rfl (cl_ Ty.ca52) (fun w hS => f52_ok _ w hy_ hy_) ?_
        have ha27 := R44.dec_lenI ((l.getD k default).Length) (by omega)
        refine jp_ 15 rfl (x_cat_s rfl rfl c44r0_) (j1_ 23 (jir_ rfl (x_load_arr 0 (xs := ([[], [32, 110, 117, 109, 98, 101, 114], [32, 98, 105, 110, 97, 114, 121]] : List Bytes)) vS [] rfl rfl Ty.sc9 lt_) (jp_ 24 rfl (x_cat_s rfl rfl c44r0_) (jp_ 25 rfl av_ ?_))) (fun _ h => ⟨h.keep [false] rfl, fun _ => h.keep [false] rfl⟩))
        exact c44r2_
       ·refine jir_ rfl (x_load_arr 0 (xs := ([[], [32, 110, 117, 109, 98, 101, 114], [32, 98, 105, 110, 97, 114, 121]] : List Bytes)) vS [] rfl rfl Ty.sc9 lt_) (j1_ 14 (jc0_ rfl (cl_ Ty.ca52) (fun w hS => f52_ok _ w hy_ hy_) ?_) (fun _ h => ⟨h.keep [false] rfl, fun _ => h.keep [false] rfl⟩))
        have ha28 := R44.dec_lenI ((l.getD k default).Length) (by omega)
        refine jp_ 15 rfl (x_cat_s rfl rfl c44r0_) (jp_ 24 rfl (x_cat_s rfl rfl c44r0_) (jp_ 25 rfl av_ ?_))
        exact c44r2_
     ·refine jio_ rfl (O_buildSlice (cs := [vS [], vS [32, 110, 117, 109, 98, 101, 114], vS [32, 98, 105, 110, 97, 114, 121]]) Tryz.underlying22 Ty.sz9 Ty.ze9 (by decide) (by decide) (by kernel_rfl) fun b29 => ?_)
      refine jp_ 22 rfl (x_indexAddr_sl (k := ((l.getD k default).Kind).toNat) Tryz.underlying22 Ty.sz9 rfl (ix_nat rfl (by omega)) lt_ (add_0k1 _ _)) ?_
      refine JA_ready (rs := [6, 23]) (by kernel_rfl) (by decide) (fun _ h => ⟨h.keep [false] rfl, fun _ => h.keep [false] rfl⟩) (List.forall_mem_cons.2 ⟨?_, (List.forall_mem_cons.2 ⟨?_, all_nil⟩)⟩)
      ·refine jc0_ rfl (cl_ Ty.ca52) (fun w hS => f52_ok _ w hy_ hy_) ?_
       have ha30 := R44.dec_lenI ((l.getD k default).At) (by omega)
       refine jp_ 7 rfl (x_cat_s rfl rfl c44r0_) ?_
       refine jt_ 8 (vS ((s ++ (Lib.decDigits ((l.getD k default).At).toNat)) ++ [32])) rfl (fun _ _ => x_cat_s rfl rfl c44r0_) ?_
       refine JA_ready (rs := [14, 23]) (by kernel_rfl) (by decide) (fun _ h => ⟨h.keep [false] rfl, fun _ => h.keep [false] rfl⟩) (List.forall_mem_cons.2 ⟨?_, (List.forall_mem_cons.2 ⟨?_, all_nil⟩)⟩)
       ·refine jc0_ rfl (cl_ Ty.ca52) (fun w hS => f52_ok _ w hy_ hy_) ?_
        have ha31 := R44.dec_lenI ((l.getD k default).Length) (by omega)
        refine jp_ 15 rfl (x_cat_s rfl rfl c44r0_) (j1_ 23 (jir_ rfl (x_load_arr 0 (xs := ([[], [32, 110, 117, 109, 98, 101, 114], [32, 98, 105, 110, 97, 114, 121]] : List Bytes)) vS [] rfl rfl Ty.sc9 lt_) (jp_ 24 rfl (x_cat_s rfl rfl c44r0_) (jp_ 25 rfl av_ ?_))) (fun _ h => ⟨h.keep [false] rfl, fun _ => h.keep [false] rfl⟩))
        exact c44r2_
       ·refine jir_ rfl (x_load_arr 0 (xs := ([[], [32, 110, 117, 109, 98, 101, 114], [32, 98, 105, 110, 97, 114, 121]] : List Bytes)) vS [] rfl rfl Ty.sc9 lt_) (j1_ 14 (jc0_ rfl (cl_ Ty.ca52) (fun w hS => f52_ok _ w hy_ hy_) ?_) (fun _ h => ⟨h.keep [false] rfl, fun _ => h.keep [false] rfl⟩))
        have ha32 := R44.dec_lenI ((l.getD k default).Length) (by omega)
        refine jp_ 15 rfl (x_cat_s rfl rfl c44r0_) (jp_ 24 rfl (x_cat_s rfl rfl c44r0_) (jp_ 25 rfl av_ ?_))
        exact c44r2_
      ·refine jir_ rfl (x_load_arr 0 (xs := ([[], [32, 110, 117, 109, 98, 101, 114], [32, 98, 105, 110, 97, 114, 121]] : List Bytes)) vS [] rfl rfl Ty.sc9 lt_) (j1_ 6 (jc0_ rfl (cl_ Ty.ca52) (fun w hS => f52_ok _ w hy_ hy_) ?_) (fun _ h => ⟨h.keep [false] rfl, fun _ => h.keep [false] rfl⟩))
       have ha33 := R44.dec_lenI ((l.getD k default).At) (by omega)
       refine jp_ 7 rfl (x_cat_s rfl rfl c44r0_) ?_
       refine jt_ 8 (vS ((s ++ (Lib.decDigits ((l.getD k default).At).toNat)) ++ [32])) rfl (fun _ _ => x_cat_s rfl rfl c44r0_) ?_
       refine j1_ 14 (jc0_ rfl (cl_ Ty.ca52) (fun w hS => f52_ok _ w hy_ hy_) ?_) (fun _ h => ⟨h.keep [false] rfl, fun _ => h.keep [false] rfl⟩)
       have ha34 := R44.dec_lenI ((l.getD k default).Length) (by omega)
       refine jp_ 15 rfl (x_cat_s rfl rfl c44r0_) (jp_ 24 rfl (x_cat_s rfl rfl c44r0_) (jp_ 25 rfl av_ ?_))
       exact c44r2_
  ·refine J_exit (ne_ (re_ (kh_ (n_ (q_ ?_)))))
   refine g_ (s_ mv_ (s_ av_ (z_ (n_ (rt_ ?_)))))
   exact p1 Tryz.results26 rfl ⟨(eS c44r3_), rfl⟩
end Go.Proofs.YtnfglkgahlaofaaGreatDoor
