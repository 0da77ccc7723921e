/- C26d, C26e, Mt27, Sh26b, Ss, Pl26c, GvR in one text. -/
import Derived.Test.YtmbinhhlfbgiaaaGreatUpgradeUnique7
import Derived.Test.YtmbinhhlfbgiaaaGreatUpgradeUnique3
import Derived.Test.YtmbinhhlfbgiaaaGreatUpgradeUnique4
import Derived.Shelf.Strings.Builder1
import Derived.Shelf.Strings.Builder2
import Derived.Shelf.Small.Bits
import Derived.Shelf.Strings.BuilderF
import Derived.Shelf.Strings.Builder2Cap
import Derived.Shelf.Strconv.Itoa0
import Derived.Shelf.Sort.Plain
import Derived.Shelf.Strings.Prefix
import Derived.Shelf.Bits.Mul64
import Derived.Shelf.Strings.Repeat
import Derived.Shelf.Slices.CompactS
import Derived.Shelf.Slices.Cells
import Derived.Shelf.Slices.In.SortNone
import Derived.Test.YtmbinhhlfbgiaaaGreatRows
import Derived.Laws.IdiomRangeMap
namespace Go.Proofs.YtmbinhhlfbgiaaaGreat
open Go.GV
set_option linter.unusedVariables false
set_option linter.unusedSimpArgs false
theorem c26d0_ {p : Prop} (h : p := by first | omega | (simp only [sub, List.length_drop, List.length_take]; omega) | (simp; omega) | (simp_all; omega)) : p := h
theorem c26d1_ {p : Prop} (h : p := by rintro ⟨g1, g2⟩; simp only [g1, Bool.true_eq_false, false_or] at *; omega) : p := h
theorem c26d3_ {p : Prop} (h : p := by exact p3 Tryz.results33 rfl rfl rfl ⟨t3 (eS (Tf33_ok_)) (eS (Tf33_ok_)) (eI (Tf33_ok_)), rfl⟩) : p := h
theorem c26d4_ {p : Prop} (h : p := by first | (rw [hd]; done) | (rw [hd]; exact R26.sub_sub2 (by omega) (by omega) (by omega))) : p := h
theorem c26d5_ {p : Prop} (h : p := by first | omega | (simp only [List.length_append, List.length_cons, List.length_nil]; omega) | (simp; omega) | (simp_all; omega)) : p := h
set_option maxRecDepth 20000 in
theorem f56_ok (a : DataSet) (w : World) (q0 : 0 ≤ a.AltLength) (q1 : a.AltLength ≤ 10000) (q2 : 0 ≤ a.KeyLength) (q3 : a.KeyLength ≤ 10000) : Calls Tryz.prog 56 #[vG (DataSet.enc a)] w (Gives [] w fun v L => v = vI (a.KeyLength - a.AltLength) ∧ L = []) := by
 refine calls_J [] 8 Tryz.func56 rfl Tryz.ntmps56 [(0, _)] rfl rfl (Give.nil w) ?_
 refine q_ (g_ (o_ (bxG fun b1 => ?_)))
 refine s_ av_ (z_ (n_ (q_ (g_ (s_ (fA 6 Ty.fi23_6) (r_ (ld_ 0 Ty.sc3) (s_ (fA 13 Ty.fi23_13) (r_ (ld_ 0 Ty.sc3) (s_ (x_sub_i (a := a.KeyLength) (b := a.AltLength) rfl rfl (by omega) (by omega)) (s_ av_ (z_ (n_ (rt_ ?_)))))))))))))
 exact p1 Tryz.results56 rfl ⟨rfl, rfl⟩
set_option maxRecDepth 20000 in
theorem f53_ok (a : DataSet) (r : Bytes) (w : World) : Calls Tryz.prog 53 #[vG (DataSet.enc a), vS r] w (Gives [] w fun v L => v = Value.tuple #[vS ((R26.key a r).1), vB ((R26.key a r).2)] ∧ L = []) := by
 refine calls_J [] 26 Tryz.func53 rfl Tryz.ntmps53 [(0, _), (1, _)] rfl rfl (Give.nil w) ?_
 refine q_ (g_ (o_ (bxG fun b1 => ?_)))
 refine s_ av_ (s_ av_ (z_ (n_ (q_ (q_ (g_ (r_ (ldN 0 (DataSet.enc a) Ty.ag23 Ty.sz23) (c0 (cl_ Ty.ca58) (fun w hS => f58_ok a w) (s_ (x_not rfl) (s_ mv_ ?_))))))))))
 refine or_ 8 (decide (((r.length : Nat) : Int) < a.AltAt + a.AltLength)) (fun g2 => ?_) ?_
 ·have g2r := g2
  have g2r : (R26.isAlt a) = true := bnot_false g2r
  have hi3 := R26.isAlt_facts g2r
  refine sg_ g2 mv_ (sg_ g2 (x_len_s rfl Tryz.underlying9) (sg_ g2 (fA 12 Ty.fi23_12) (rg_ g2 (ld_ 0 Ty.sc3) (sg_ g2 (fA 13 Ty.fi23_13) (rg_ g2 (ld_ 0 Ty.sc3) (sg_ g2 (x_add_i (a := a.AltAt) (b := a.AltLength) rfl rfl (by omega) (by omega)) (sg_ g2 (x_lss_i rfl rfl) ?_)))))))
  exact cr_
 refine z_ (n_ ?_)
 refine if_ (fun h4 => ?_) (fun h4 => ?_)
 ·simp only [Bool.and_eq_true, Bool.or_eq_true, Bool.and_eq_false_iff, Bool.or_eq_false_iff, Bool.not_eq_true', Bool.not_eq_false', decide_eq_true_eq, decide_eq_false_iff_not] at h4
  refine q_ (g_ (s_ av_ (s_ av_ (z_ (n_ (rt_ (nr_ ?_)))))))
  first
   | have hd := R26.key_no (a := a) (r := r) c26d1_
   | have hd := R26.key_yes (a := a) (r := r) (by assumption) (by omega)
  exact p2 Tryz.results53 rfl rfl ⟨t2 (eS c26d4_) (eB (by first | (rw [hd]; done) | (rw [hd]; rfl))), rfl⟩
 ·have ⟨h4, h5⟩ := bor_false h4
  have h4 : (R26.isAlt a) = true := bnot_false h4
  have hi6 := R26.isAlt_facts h4
  have h5 := of_decide_eq_false h5
  refine sk_ (n_ (q_ ?_))
  refine drB [] 9 Ty.mixed ?_
  refine jp_ 0 rfl mv_ (jp_ 1 rfl (fA 12 Ty.fi23_12) (jq_ 2 rfl (ld_ 0 Ty.sc3) (jp_ 3 rfl (x_sub_s (lo := (a.AltAt).toNat) (hi := r.length) rfl Tryz.underlying9 (.inl (lo_i (by omega))) (.inr ⟨rfl, rfl⟩) lt_ c26d0_) (jp_ 4 rfl (fA 13 Ty.fi23_13) (jq_ 5 rfl (ld_ 0 Ty.sc3) (jp_ 6 rfl (x_sub_s (lo := 0) (hi := (a.AltLength).toNat) rfl Tryz.underlying9 (.inr ⟨rfl, rfl⟩) (.inl (lo_i (by omega))) lt_ c26d0_) (jp_ 7 rfl av_ (jp_ 8 rfl av_ ?_))))))))
  refine JA_done (by kernel_rfl) gm_ ?_
  refine n_ (rt_ ?_)
  first
   | have hd := R26.key_no (a := a) (r := r) c26d1_
   | have hd := R26.key_yes (a := a) (r := r) (by assumption) (by omega)
  exact p2 Tryz.results53 rfl rfl ⟨t2 (eS c26d4_) (eB (by first | (rw [hd]; done) | (rw [hd]; rfl))), rfl⟩
theorem Tf35_ok_ {p : Prop} (h : p := by first | (have hd := R26.key_no (a := a) (r := r) c26d1_; first | (rw [hd]; done) | (rw [hd]; rfl)) | (have hd := R26.key_yes (a := a) (r := r) (by assumption) (by omega); first | (rw [hd]; done) | (rw [hd]; rfl))) : p := h
set_option maxRecDepth 20000 in
theorem f35_ok (a : DataSet) (r : Bytes) (w : World) : Calls Tryz.prog 35 #[vG (DataSet.enc a), vS r] w (Gives [] w fun v L => v = Value.tuple #[vS ((R26.key a r).1), vB ((R26.key a r).2)] ∧ L = []) := by
 refine calls_J [] 28 Tryz.func35 rfl Tryz.ntmps35 [(0, _), (1, _)] rfl rfl (Give.nil w) ?_
 refine q_ (g_ (o_ (bxG fun b1 => ?_)))
 refine s_ av_ (s_ av_ (z_ (n_ (q_ (q_ (g_ (r_ (ldN 0 (DataSet.enc a) Ty.ag23 Ty.sz23) (c0 (cl_ Ty.ca59) (fun w hS => f59_ok a w) (s_ (x_not rfl) (s_ mv_ ?_))))))))))
 refine or_ 8 (decide (((r.length : Nat) : Int) < a.AltAt + a.AltLength)) (fun g2 => ?_) ?_
 ·have g2r := g2
  have g2r : (R26.isAlt a) = true := bnot_false g2r
  have hi3 := R26.isAlt_facts g2r
  refine sg_ g2 mv_ (sg_ g2 (x_len_s rfl Tryz.underlying9) (sg_ g2 (fA 12 Ty.fi23_12) (rg_ g2 (ld_ 0 Ty.sc3) (sg_ g2 (fA 13 Ty.fi23_13) (rg_ g2 (ld_ 0 Ty.sc3) (sg_ g2 (x_add_i (a := a.AltAt) (b := a.AltLength) rfl rfl (by omega) (by omega)) (sg_ g2 (x_lss_i rfl rfl) ?_)))))))
  exact cr_
 refine z_ (n_ ?_)
 refine if_ (fun h4 => ?_) (fun h4 => ?_)
 ·simp only [Bool.and_eq_true, Bool.or_eq_true, Bool.and_eq_false_iff, Bool.or_eq_false_iff, Bool.not_eq_true', Bool.not_eq_false', decide_eq_true_eq, decide_eq_false_iff_not] at h4
  refine q_ (g_ (s_ av_ (s_ av_ (z_ (n_ (rt_ (nr_ ?_)))))))
  exact p2 Tryz.results35 rfl rfl ⟨t2 (eS (Tf35_ok_)) (eB (Tf35_ok_)), rfl⟩
 ·have ⟨h4, h5⟩ := bor_false h4
  have h4 : (R26.isAlt a) = true := bnot_false h4
  have hi6 := R26.isAlt_facts h4
  have h5 := of_decide_eq_false h5
  refine sk_ (n_ (q_ (g_ (s_ mv_ (s_ (fA 12 Ty.fi23_12) (r_ (ld_ 0 Ty.sc3) (s_ (fA 12 Ty.fi23_12) (r_ (ld_ 0 Ty.sc3) (s_ (fA 13 Ty.fi23_13) (r_ (ld_ 0 Ty.sc3) (s_ (x_add_i (a := a.AltAt) (b := a.AltLength) rfl rfl (by omega) (by omega)) (s_ (x_sub_s (lo := (a.AltAt).toNat) (hi := (a.AltAt + a.AltLength).toNat) rfl Tryz.underlying9 (.inl (lo_i (by omega))) (.inl (lo_i (by omega))) lt_ c26d0_) ?_))))))))))))
  refine s_ av_ (s_ av_ (z_ (n_ (rt_ ?_))))
  exact p2 Tryz.results35 rfl rfl ⟨t2 (eS (Tf35_ok_)) (eB (Tf35_ok_)), rfl⟩
theorem Tf33_ok_ {p : Prop} (h : p := by first | (have hd := R26.parts_no (a := a) (r := r) (by assumption); first | (rw [hd]; done) | (rw [hd]; rfl)) | (have hd := R26.parts_bad (a := a) (r := r) (by assumption) (by omega); first | (rw [hd]; done) | (rw [hd]; rfl)) | (have hd := R26.parts_ok (a := a) (r := r) (by assumption) (by omega); first | (rw [hd]; done) | (rw [hd]; rfl))) : p := h
set_option maxRecDepth 20000 in
theorem f33_ok (a : DataSet) (r : Bytes) (w : World) : Calls Tryz.prog 33 #[vG (DataSet.enc a), vS r] w (Gives [] w fun v L => v = Value.tuple #[vS ((R26.parts a r).1), vS ((R26.parts a r).2.1), vI ((R26.parts a r).2.2)] ∧ L = []) := by
 refine calls_J [] 25 Tryz.func33 rfl Tryz.ntmps33 [(0, _), (1, _)] rfl rfl (Give.nil w) ?_
 refine q_ (g_ (o_ (bxG fun b1 => ?_)))
 refine s_ av_ (s_ av_ (s_ av_ (z_ (n_ (q_ (k_ (q_ (g_ (r_ (ldN 0 (DataSet.enc a) Ty.ag23 Ty.sz23) (c0 (cl_ Ty.ca58) (fun w hS => f58_ok a w) (s_ (x_not rfl) (s_ av_ (z_ (n_ ?_))))))))))))))
 refine if_ (fun h2 => ?_) (fun h2 => ?_)
 ·have h2 : (R26.isAlt a) = false := bnot_true h2
  refine q_ (g_ (s_ av_ (s_ av_ (s_ av_ (z_ (n_ (rt_ (kq_ (nr_ ?_)))))))))
  exact c26d3_
 ·have h2 : (R26.isAlt a) = true := bnot_false h2
  have hi3 := R26.isAlt_facts h2
  refine q_ (g_ (s_ mv_ (s_ (x_len_s rfl Tryz.underlying9) (s_ (fA 6 Ty.fi23_6) (r_ (ld_ 0 Ty.sc3) (s_ (x_neq_i rfl rfl) (s_ av_ (z_ (n_ ?_)))))))))
  refine ifd (fun h4w h4 => ?_) (fun h4w h4 => ?_)
  ·refine q_ (g_ (s_ av_ (s_ av_ (s_ av_ (z_ (n_ (rt_ (kq_ (nr_ ?_)))))))))
   exact c26d3_
  ·refine sk_ (kx_ (n_ (q_ ?_)))
   refine drB [] 11 Ty.mixed ?_
   refine jp_ 0 rfl mv_ (jp_ 1 rfl (fA 13 Ty.fi23_13) (jq_ 2 rfl (ld_ 0 Ty.sc3) (jp_ 3 rfl (x_sub_s (lo := 0) (hi := (a.AltLength).toNat) rfl Tryz.underlying9 (.inr ⟨rfl, rfl⟩) (.inl (lo_i (by omega))) lt_ c26d0_) (jp_ 4 rfl mv_ (jp_ 5 rfl (fA 13 Ty.fi23_13) (jq_ 6 rfl (ld_ 0 Ty.sc3) (jp_ 7 rfl (x_sub_s (lo := (a.AltLength).toNat) (hi := r.length) rfl Tryz.underlying9 (.inl (lo_i (by omega))) (.inr ⟨rfl, rfl⟩) lt_ c26d0_) (jp_ 8 rfl av_ (jp_ 9 rfl av_ ?_)))))))))
   refine jp_ 10 rfl av_ ?_
   refine JA_done (by kernel_rfl) gm_ ?_
   refine n_ (rt_ ?_)
   exact c26d3_
theorem Tf46_ok_ {p : Prop} (h : p := by first | (have hd := R26.span_no (a := a) (k := k) (by assumption); first | (rw [hd]; done) | (rw [hd]; rfl)) | (have hd := R26.span_bad (a := a) (k := k) (by assumption) (by omega); first | (rw [hd]; done) | (rw [hd]; rfl)) | (have hd := R26.span_ok (a := a) (k := k) (by assumption) (by omega); first | (rw [hd]; done) | (rw [hd]; rfl))) : p := h
set_option maxRecDepth 20000 in
theorem f46_ok (a : DataSet) (k : Bytes) (w : World) : Calls Tryz.prog 46 #[vG (DataSet.enc a), vS k] w (Gives [] w fun v L => v = Value.tuple #[vG [vS (((R26.span a k).1).Low), vS (((R26.span a k).1).High), vB (((R26.span a k).1).End)], vI ((R26.span a k).2)] ∧ L = []) := by
 refine calls_J [] 25 Tryz.func46 rfl Tryz.ntmps46 [(0, _), (1, _)] rfl rfl (Give.nil w) ?_
 refine q_ (g_ (o_ (bxG fun b1 => ?_)))
 refine o_ (al_ Ty.ze94 fun b2 => ?_)
 refine s_ av_ (z_ (n_ (q_ (k_ (q_ (g_ (r_ (ldN 1 (DataSet.enc a) Ty.ag23 Ty.sz23) (c0 (cl_ Ty.ca58) (fun w hS => f58_ok a w) (s_ (x_not rfl) (s_ av_ (z_ (n_ ?_))))))))))))
 refine if_ (fun h3 => ?_) (fun h3 => ?_)
 ·have h3 : (R26.isAlt a) = false := bnot_true h3
  refine q_ (g_ (js_ (vG [vS [], vS [], vB false]) (x_build (by kernel_rfl)) (o_ (stG 0 Ty.sz94 ?_))))
  refine s_ av_ (z_ (n_ (rt_ (kq_ (nr_ ?_)))))
  refine JX_rets [_, _] (Value.tuple #[_, _]) Tryz.results46 (fun w h => ⟨⟨_, rfl, load_blkN 0 [vS [], vS [], vB false] h rfl Ty.ag94 Ty.sz94 rfl⟩, rfl, trivial⟩) rfl _ (fun _ h => h.keep [false, false] rfl) ⟨?_, ?_⟩
  ·have e_x0 : ([] : Bytes) = (((R26.span a k).1).Low) := Tf46_ok_
   have e_x1 : ([] : Bytes) = (((R26.span a k).1).High) := Tf46_ok_
   have e_x2 : (false : Bool) = (((R26.span a k).1).End) := Tf46_ok_
   have e_x3 : (1 : Int) = ((R26.span a k).2) := Tf46_ok_
   have e_all := (congr (congr (congr (congrArg (fun (x0 : Bytes) (x1 : Bytes) (x2 : Bool) (x3 : Int) => Value.tuple #[vG [vS x0, vS x1, vB x2], vI x3]) e_x0) e_x1) e_x2) e_x3)
   exact e_all
  ·rfl
 ·have h3 : (R26.isAlt a) = true := bnot_false h3
  have hi4 := R26.isAlt_facts h3
  refine q_ (g_ (s_ mv_ (s_ (x_len_s rfl Tryz.underlying9) (s_ (fA 13 Ty.fi23_13) (r_ (ld_ 1 Ty.sc3) (s_ (x_neq_i rfl rfl) (s_ av_ (z_ (n_ ?_)))))))))
  refine ifd (fun h5w h5 => ?_) (fun h5w h5 => ?_)
  ·refine q_ (g_ (js_ (vG [vS [], vS [], vB false]) (x_build (by kernel_rfl)) (o_ (stG 0 Ty.sz94 ?_))))
   refine s_ av_ (z_ (n_ (rt_ (kq_ (nr_ ?_)))))
   refine JX_rets [_, _] (Value.tuple #[_, _]) Tryz.results46 (fun w h => ⟨⟨_, rfl, load_blkN 0 [vS [], vS [], vB false] h rfl Ty.ag94 Ty.sz94 rfl⟩, rfl, trivial⟩) rfl _ (fun _ h => h.keep [false, false] rfl) ⟨?_, ?_⟩
   ·have e_x0 : ([] : Bytes) = (((R26.span a k).1).Low) := Tf46_ok_
    have e_x1 : ([] : Bytes) = (((R26.span a k).1).High) := Tf46_ok_
    have e_x2 : (false : Bool) = (((R26.span a k).1).End) := Tf46_ok_
    have e_x3 : (2 : Int) = ((R26.span a k).2) := Tf46_ok_
    have e_all := (congr (congr (congr (congrArg (fun (x0 : Bytes) (x1 : Bytes) (x2 : Bool) (x3 : Int) => Value.tuple #[vG [vS x0, vS x1, vB x2], vI x3]) e_x0) e_x1) e_x2) e_x3)
    exact e_all
   ·rfl
  ·refine sk_ (kx_ (n_ (q_ (g_ (s_ mv_ (s_ mv_ (r_ (ldN 1 (DataSet.enc a) Ty.ag23 Ty.sz23) (c0 (cl_ Ty.ca56) (fun w hS => f56_ok a w hy_ hy_ hy_ hy_) (c0 (cl_ Ty.ca66) (fun w hS => repeat_spec [255] _ w hy_ hy_ hy_) ?_)))))))))
   have ha6 := rep_length [255] (a.KeyLength - a.AltLength).toNat
   try simp only [List.length_cons, List.length_nil, Nat.zero_add, Nat.reduceAdd, Nat.reduceMul] at ha6
   refine s_ (x_cat_s rfl rfl c26d5_) (js_ (vG [vS k, vS (k ++ (rep [255] (a.KeyLength - a.AltLength).toNat)), vB false]) (x_build (by kernel_rfl)) (o_ (stG 0 Ty.sz94 ?_)))
   refine s_ av_ (z_ (xk_ [4, 5] ?_))
   refine n_ (rt_ ?_)
   refine JX_rets [_, _] (Value.tuple #[_, _]) Tryz.results46 (fun w h => ⟨⟨_, rfl, load_blkN 0 [vS k, vS (k ++ (rep [255] (a.KeyLength - a.AltLength).toNat)), vB false] h rfl Ty.ag94 Ty.sz94 rfl⟩, rfl, trivial⟩) rfl _ (fun _ h => h.keep [false, false] rfl) ⟨?_, ?_⟩
   ·have e_x0 : (k : Bytes) = (((R26.span a k).1).Low) := Tf46_ok_
    have e_x1 : (k ++ (rep [255] (a.KeyLength - a.AltLength).toNat) : Bytes) = (((R26.span a k).1).High) := Tf46_ok_
    have e_x2 : (false : Bool) = (((R26.span a k).1).End) := Tf46_ok_
    have e_x3 : (0 : Int) = ((R26.span a k).2) := Tf46_ok_
    have e_all := (congr (congr (congr (congrArg (fun (x0 : Bytes) (x1 : Bytes) (x2 : Bool) (x3 : Int) => Value.tuple #[vG [vS x0, vS x1, vB x2], vI x3]) e_x0) e_x1) e_x2) e_x3)
    exact e_all
   ·rfl
end Go.Proofs.YtmbinhhlfbgiaaaGreat

namespace Go.Proofs.YtmbinhhlfbgiaaaGreat
open Go.GV
set_option linter.unusedVariables false
set_option linter.unusedSimpArgs false
set_option maxRecDepth 20000 in
theorem f18_ok (w : World) : Calls Tryz.prog 18 #[] w (Gives [] w fun v L => v = Value.tuple #[vG (DataSet.enc R26.exBase), vG (DataSet.enc R26.exAlt)] ∧ L = []) := by
 refine calls_J [] 13 Tryz.func18 rfl Tryz.ntmps18 [] rfl rfl (Give.nil w) ?_
 refine q_ (g_ (o_ (al_ Ty.ze23 fun b1 => ?_)))
 refine o_ (al_ Ty.ze23 fun b2 => ?_)
 refine z_ (n_ (q_ (g_ (js_ (vG [vI 3, vI 3, vI 0, vI 20, vI 0, vI 0, vI 3, vI 128, vI 2, vI 0, vI 0, vI 0, vI 0, vI 0, vB false, vI 0, vS [], vS [], vI 0, vI 0, vB false]) (x_build (by kernel_rfl)) (o_ (al_ Ty.ze23 fun b3 => ?_))))))
 refine o_ (stG 0 Ty.sz23 ?_)
 refine z_ (n_ (q_ (g_ (r_ (ldN 0 [vI 3, vI 3, vI 0, vI 20, vI 0, vI 0, vI 3, vI 128, vI 2, vI 0, vI 0, vI 0, vI 0, vI 0, vB false, vI 0, vS [], vS [], vI 0, vI 0, vB false] Ty.ag23 Ty.sz23) (c0 (cl_ Ty.ca45) (fun w hS => f45_ok (DataSet.mk 3 3 0 20 0 0 3 128 2 0 0 0 0 0 false 0 [] [] 0 0 false) 4 5 2 _ w) (s_ mv_ (s_ (ex_ 0) (s_ (ex_ 1) (o_ (al_ Ty.ze23 fun b4 => ?_))))))))))
 refine o_ (stG 0 Ty.sz23 ?_)
 refine s_ av_ (z_ (n_ (q_ ?_)))
 refine drU [Ent.blk b4 23 (DataSet.enc ((R26.describe (DataSet.mk 3 3 0 20 0 0 3 128 2 0 0 0 0 0 false 0 [] [] 0 0 false) 4 5 2 false).1)), Ent.blk b3 23 [vI 3, vI 3, vI 0, vI 20, vI 0, vI 0, vI 3, vI 128, vI 2, vI 0, vI 0, vI 0, vI 0, vI 0, vB false, vI 0, vS [], vS [], vI 0, vI 0, vB false]] [2, 3] 4 Ty.mixed ?_
 refine jq_ 0 rfl (ldN 1 [vI 3, vI 3, vI 0, vI 20, vI 0, vI 0, vI 3, vI 128, vI 2, vI 0, vI 0, vI 0, vI 0, vI 0, vB false, vI 0, vS [], vS [], vI 0, vI 0, vB false] Ty.ag23 Ty.sz23) (jq_ 1 rfl (ldN 0 (DataSet.enc ((R26.describe (DataSet.mk 3 3 0 20 0 0 3 128 2 0 0 0 0 0 false 0 [] [] 0 0 false) 4 5 2 false).1)) Ty.ag23 Ty.sz23) (j1_ 2 (jio_ rfl (stG 3 Ty.sz23 ?_)) (fun _ h => ⟨h.keep [true, true, false, false] rfl, fun _ => h⟩)))
 refine j1_ 3 (jio_ rfl (stG 2 Ty.sz23 ?_)) (gl_ rfl (fun _ h => h.keep [true, true, false, false] rfl))
 refine JA_done (by kernel_rfl) (gl_ rfl (fun _ h => h.keep [true, true, false, false] rfl)) ?_
 refine n_ (rt_ ?_)
 refine JX_rets [_, _] (Value.tuple #[_, _]) Tryz.results18 (fun w h => ⟨⟨_, rfl, load_blkN 3 [vI 3, vI 3, vI 0, vI 20, vI 0, vI 0, vI 3, vI 128, vI 2, vI 0, vI 0, vI 0, vI 0, vI 0, vB false, vI 0, vS [], vS [], vI 0, vI 0, vB false] h rfl Ty.ag23 Ty.sz23 rfl⟩, ⟨_, rfl, load_blkN 2 (DataSet.enc ((R26.describe (DataSet.mk 3 3 0 20 0 0 3 128 2 0 0 0 0 0 false 0 [] [] 0 0 false) 4 5 2 false).1)) h rfl Ty.ag23 Ty.sz23 rfl⟩, trivial⟩) rfl _ (fun _ h => h.keep [false, false, false, false] rfl) ⟨?_, ?_⟩
 ·have e_x0 : ((DataSet.mk 3 3 0 20 0 0 3 128 2 0 0 0 0 0 false 0 [] [] 0 0 false) : DataSet) = R26.exBase := by first | rfl | omega | (simp_all; done) | (simp_all; omega)
  have e_x1 : (((R26.describe (DataSet.mk 3 3 0 20 0 0 3 128 2 0 0 0 0 0 false 0 [] [] 0 0 false) 4 5 2 false).1) : DataSet) = R26.exAlt := by first | rfl | omega | (simp_all; done) | (simp_all; omega)
  have e_all := (congr (congrArg (fun (x0 : DataSet) (x1 : DataSet) => Value.tuple #[vG (DataSet.enc x0), vG (DataSet.enc x1)]) e_x0) e_x1)
  exact e_all
 ·rfl
end Go.Proofs.YtmbinhhlfbgiaaaGreat

namespace Go.Proofs.YtmbinhhlfbgiaaaGreat
open Go.GV
namespace Ty
theorem mtd : 0 < Tryz.prog.types.size + Made.depth := of_decide_eq_true (by kernel_rfl)
theorem mt128 : methIs Tryz.prog 33 "Get" = some 128 := by kernel_rfl
theorem mt129 : methIs Tryz.prog 33 "Next" = some 129 := by kernel_rfl
end Ty
end Go.Proofs.YtmbinhhlfbgiaaaGreat

namespace Go.Proofs
open Go.Shelf
open Go.RowKit Go.Lib Go.Sort
def Tryz.lays190_ren : Go.Shelf.Ren := ⟨fun | 190 => 42 | 125 => 61 | 258 => 60 | 128 => 90 | 129 => 91 | 302 => 81 | 303 => 82 | 304 => 83 | 305 => 84 | 306 => 85 | 307 => 86 | 308 => 87 | 309 => 88 | 310 => 89 | 333 => 100 | 329 => 101 | 330 => 102 | 334 => 103 | 335 => 104 | 336 => 105 | 344 => 110 | n => n, fun | 31 => 40 | 9 => 9 | 3 => 3 | 46 => 112 | 0 => 0 | 51 => 126 | 53 => 128 | 4 => 4 | 183 => 120 | 182 => 119 | 131 => 81 | 5 => 5 | 218 => 144 | 222 => 148 | 228 => 156 | 229 => 157 | n => n, fun | n => n⟩
theorem Tryz.lays190 : Go.Proofs.Lays.n190 Tryz.prog Tryz.lays190_ren := {
  mixed := by kernel_rfl
  f125 := Tryz.func61.trans (congrArg some (by kernel_rfl))
  f128 := Tryz.func90.trans (congrArg some (by kernel_rfl))
  f129 := Tryz.func91.trans (congrArg some (by kernel_rfl))
  f190 := Tryz.func42.trans (congrArg some (by kernel_rfl))
  f258 := Tryz.func60.trans (congrArg some (by kernel_rfl))
  f302 := Tryz.func81.trans (congrArg some (by kernel_rfl))
  f303 := Tryz.func82.trans (congrArg some (by kernel_rfl))
  f304 := Tryz.func83.trans (congrArg some (by kernel_rfl))
  f305 := Tryz.func84.trans (congrArg some (by kernel_rfl))
  f306 := Tryz.func85.trans (congrArg some (by kernel_rfl))
  f307 := Tryz.func86.trans (congrArg some (by kernel_rfl))
  f308 := Tryz.func87.trans (congrArg some (by kernel_rfl))
  f309 := Tryz.func88.trans (congrArg some (by kernel_rfl))
  f310 := Tryz.func89.trans (congrArg some (by kernel_rfl))
  f329 := Tryz.func101.trans (congrArg some (by kernel_rfl))
  f330 := Tryz.func102.trans (congrArg some (by kernel_rfl))
  f333 := Tryz.func100.trans (congrArg some (by kernel_rfl))
  f334 := Tryz.func103.trans (congrArg some (by kernel_rfl))
  f335 := Tryz.func104.trans (congrArg some (by kernel_rfl))
  f336 := Tryz.func105.trans (congrArg some (by kernel_rfl))
  f344 := Tryz.func110.trans (congrArg some (by kernel_rfl))
  t0 := Tryz.underlying0
  a0 := Tryz.isAgg0
  z0 := Tryz.sizeOf0
  v0 := Tryz.zeroValue0
  t3 := Tryz.underlying3
  a3 := Tryz.isAgg3
  z3 := Tryz.sizeOf3
  v3 := Tryz.zeroValue3
  t4 := Tryz.underlying4
  a4 := Tryz.isAgg4
  z4 := Tryz.sizeOf4
  v4 := Tryz.zeroValue4
  t5 := Tryz.underlying5
  a5 := Tryz.isAgg5
  z5 := Tryz.sizeOf5
  v5 := Tryz.zeroValue5
  t9 := Tryz.underlying9
  a9 := Tryz.isAgg9
  z9 := Tryz.sizeOf9
  v9 := Tryz.zeroValue9
  t31 := Tryz.underlying40
  a31 := Tryz.isAgg40
  z31 := Tryz.sizeOf40
  v31 := Tryz.zeroValue40
  t46 := Tryz.underlying112
  a46 := Tryz.isAgg112
  z46 := Tryz.sizeOf112
  v46 := Tryz.zeroValue112
  t51 := Tryz.underlying126
  a51 := Tryz.isAgg126
  z51 := Tryz.sizeOf126
  v51 := Tryz.zeroValue126
  t53 := Tryz.underlying128
  a53 := Tryz.isAgg128
  z53 := Tryz.sizeOf128
  v53 := Tryz.zeroValue128
  t131 := Tryz.underlying81
  a131 := Tryz.isAgg81
  z131 := Tryz.sizeOf81
  v131 := Tryz.zeroValue81
  t182 := Tryz.underlying119
  a182 := Tryz.isAgg119
  z182 := Tryz.sizeOf119
  v182 := Tryz.zeroValue119
  t183 := Tryz.underlying120
  a183 := Tryz.isAgg120
  z183 := Tryz.sizeOf120
  v183 := Tryz.zeroValue120
  t218 := Tryz.underlying144
  a218 := Tryz.isAgg144
  z218 := Tryz.sizeOf144
  v218 := Tryz.zeroValue144
  t222 := Tryz.underlying148
  a222 := Tryz.isAgg148
  z222 := Tryz.sizeOf148
  v222 := Tryz.zeroValue148
  t228 := Tryz.underlying156
  a228 := Tryz.isAgg156
  z228 := Tryz.sizeOf156
  v228 := Tryz.zeroValue156
  t229 := Tryz.underlying157
  a229 := Tryz.isAgg157
  z229 := Tryz.sizeOf157
  v229 := Tryz.zeroValue157 }
theorem Tryz.slices_Sort_string (blk off cap : Nat) (ss : List (List UInt8)) (w : World) (hH : Holds encStr w blk off ss.toArray) (hblk : blk < w.heap.size) (hsz : ss.length < 4611686018427387904) :
    Calls Tryz.prog 42 #[.slice (some ⟨blk, off, none⟩) ss.length cap] w fun e w' =>
      e = .returned (.tuple #[]) ∧ ∃ n os, w' = grow (putRow encStr (Sort.ahead w n) blk off (ss.mergeSort fun x y => decide (x ≤ y)).toArray) os := Any.slices_Sort_string Tryz.lays190 blk off cap ss w hH hblk hsz
def Tryz.lays194_ren : Go.Shelf.Ren := ⟨fun | 194 => 57 | n => n, fun | 31 => 40 | 9 => 9 | 3 => 3 | 4 => 4 | 0 => 0 | n => n, fun | n => n⟩
theorem Tryz.lays194 : Go.Proofs.Lays.n194 Tryz.prog Tryz.lays194_ren := {
  mixed := by kernel_rfl
  f194 := Tryz.func57.trans (congrArg some (by kernel_rfl))
  t0 := Tryz.underlying0
  a0 := Tryz.isAgg0
  z0 := Tryz.sizeOf0
  v0 := Tryz.zeroValue0
  t3 := Tryz.underlying3
  a3 := Tryz.isAgg3
  z3 := Tryz.sizeOf3
  v3 := Tryz.zeroValue3
  t4 := Tryz.underlying4
  a4 := Tryz.isAgg4
  z4 := Tryz.sizeOf4
  v4 := Tryz.zeroValue4
  t9 := Tryz.underlying9
  a9 := Tryz.isAgg9
  z9 := Tryz.sizeOf9
  v9 := Tryz.zeroValue9
  t31 := Tryz.underlying40
  a31 := Tryz.isAgg40
  z31 := Tryz.sizeOf40
  v31 := Tryz.zeroValue40 }
theorem Tryz.slices_Compact_string (blk off cap : Nat) (zs : List (List UInt8)) (w : World) (hH : Holds encStr w blk off zs.toArray) (hsz : zs.length ≤ 9223372036854775807) (hcap : zs.length ≤ cap) :
    Calls Tryz.prog 57 #[.slice (some ⟨blk, off, none⟩) zs.length cap] w fun e w' => e = .returned (.slice (some ⟨blk, off, none⟩) (Lib.compact zs).length cap) ∧ ∃ q, w' = putRow encStr (Sort.ahead w q) blk off (Lib.compact zs ++ List.replicate (zs.length - (Lib.compact zs).length) []).toArray := Any.slices_Compact_string Tryz.lays194 blk off cap zs w hH hsz hcap
theorem Tryz.slices_Compact_string_empty (a : Option Addr) (cap : Nat) (w : World) :
    Calls Tryz.prog 57 #[.slice a 0 cap] w fun e w' => e = .returned (.slice a 0 cap) ∧ w' = w := Any.slices_Compact_string_empty Tryz.lays194 a cap w
theorem Tryz.slices_Sort_string_none (p : Option Addr) (cap : Nat) (w : World) :
    Calls Tryz.prog 42 #[.slice p 0 cap] w fun e w' => e = .returned (.tuple #[]) ∧ w' = w := Any.slices_Sort_string_none Tryz.lays190 p cap w
end Go.Proofs

namespace Go.Proofs.YtmbinhhlfbgiaaaGreat
open Go.GV Go.RowKit Go.Sort
def srt (xs : List Bytes) : List Bytes := xs.mergeSort fun x y => decide (x ≤ y)
def cmp (xs : List Bytes) : List Bytes := Lib.compact xs
theorem srt_length (xs : List Bytes) : (srt xs).length = xs.length := List.length_mergeSort xs
theorem cmp_length (xs : List Bytes) : (cmp xs).length ≤ xs.length := by
  unfold cmp Lib.compact Lib.compactUpTo
  rw [List.length_map]
  exact Nat.le_trans (List.length_filter_le _ _) (by simp)
theorem sort_ok (xs : List Bytes) (xsA : Option Addr) (xsC xsN : Nat) (w : World) (hN : xsN = xs.length) (q0 : xs.length ≤ 1000000000) (hg : Give (Lown [Ent.row (.slice xsA xsN xsC) 9 1 xsN (xs.map vS)]) w [Ent.row (.slice xsA xsN xsC) 9 1 xsN (xs.map vS)]) :
    Calls Tryz.prog 42 #[Value.slice xsA xsN xsC] w (Gives (Lown [Ent.row (.slice xsA xsN xsC) 9 1 xsN (xs.map vS)]) w fun v L => v = Value.tuple #[] ∧ L = [Ent.row (.slice xsA xsN xsC) 9 1 xsN ((srt xs).map vS)]) := by
  subst hN
  have hat := give_one hg
  by_cases hx : xs = []
  · subst hx
    refine (Tryz.slices_Sort_string_none xsA xsC w).mono ?_
    rintro e w' ⟨rfl, rfl⟩
    refine ⟨_, _, rfl, ⟨rfl, rfl⟩, ?_⟩
    rw [show srt [] = [] by simp [srt]]
    exact st_same hg
  · obtain ⟨g, hA, cur, ho, _, _, _, _⟩ := row_some hat hx
    subst hA
    refine (Tryz.slices_Sort_string g 0 xsC xs w (row_holds hat hx) (Array.getElem?_eq_some_iff.1 ho).1 (by omega)).mono ?_
    rintro e w' ⟨rfl, k, os, hw⟩
    have hl := srt_length xs
    obtain ⟨h1, h2⟩ := row_put hat rfl hx hw hl xs.length (by rw [← hl]; exact Nat.le_refl _) (ys := srt xs) (by rw [← hl]; exact List.take_length)
    exact ⟨_, _, rfl, ⟨rfl, rfl⟩, st_one rfl rfl h1 h2⟩
theorem compact_ok (xs : List Bytes) (xsA : Option Addr) (xsC xsN : Nat) (w : World) (hN : xsN = xs.length) (q0 : xs.length ≤ 1000000000) (hg : Give (Lown [Ent.row (.slice xsA xsN xsC) 9 1 xsN (xs.map vS)]) w [Ent.row (.slice xsA xsN xsC) 9 1 xsN (xs.map vS)]) :
    Calls Tryz.prog 57 #[Value.slice xsA xsN xsC] w (Gives (Lown [Ent.row (.slice xsA xsN xsC) 9 1 xsN (xs.map vS)]) w fun v L => v = Value.slice xsA (cmp xs).length xsC ∧ L = [Ent.row (.slice xsA (cmp xs).length xsC) 9 1 (cmp xs).length ((cmp xs).map vS)]) := by
  subst hN
  have hat := give_one hg
  by_cases hx : xs = []
  · subst hx
    refine (Tryz.slices_Compact_string_empty xsA xsC w).mono ?_
    rintro e w' ⟨rfl, rfl⟩
    exact ⟨_, _, rfl, ⟨rfl, rfl⟩, st_same hg⟩
  · obtain ⟨g, hA, cur, ho, hcap, _, _, _⟩ := row_some hat hx
    subst hA
    refine (Tryz.slices_Compact_string g 0 xsC xs w (row_holds hat hx) (by omega) hcap).mono ?_
    rintro e w' ⟨rfl, q, hw⟩
    have hc := cmp_length xs
    have hl : (cmp xs ++ List.replicate (xs.length - (cmp xs).length) []).length = xs.length := by rw [List.length_append, List.length_replicate]; omega
    obtain ⟨h1, h2⟩ := row_put (k := q) (os := #[]) hat rfl hx (hw.trans (grow_empty _).symm) hl (cmp xs).length (by show (cmp xs).length ≤ (cmp xs ++ List.replicate (xs.length - (cmp xs).length) []).length; rw [hl]; exact hc) (ys := cmp xs) (List.take_left' rfl)
    exact ⟨_, _, rfl, ⟨rfl, rfl⟩, st_one rfl rfl h1 h2⟩
theorem less_iff : ∀ (a b : Bytes), Op.bytesLess a b = true ↔ a < b
  | _, [] => by constructor <;> intro h <;> simp_all [Op.bytesLess]
  | [], y :: b => by simp [Op.bytesLess]
  | x :: a, y :: b => by
    rw [Op.bytesLess, List.cons_lt_cons_iff, Bool.or_eq_true, Bool.and_eq_true, less_iff a b]
    simp
end Go.Proofs.YtmbinhhlfbgiaaaGreat

namespace Go.Proofs.YtmbinhhlfbgiaaaGreat
open Go.GV
namespace Ord
def lt (a b : Bytes) : Prop := Op.bytesLess a b = true
theorem irr (a : Bytes) : ¬ lt a a := by unfold lt; rw [R26.less_self]; decide
theorem lt_cons {x y : UInt8} {a b : Bytes} : lt (x :: a) (y :: b) ↔ (x.toNat < y.toNat ∨ (x.toNat = y.toNat ∧ lt a b)) := by
  unfold lt
  rw [Op.bytesLess, Bool.or_eq_true, Bool.and_eq_true, decide_eq_true_eq, beq_iff_eq, UInt8.lt_iff_toNat_lt, ← UInt8.toNat_inj]
theorem trans : ∀ {a b c : Bytes}, lt a b → lt b c → lt a c
  | _, _, [], _, h => by simp [lt, Op.bytesLess] at h
  | _, [], _ :: _, h, _ => by simp [lt, Op.bytesLess] at h
  | [], _ :: _, _ :: _, _, _ => rfl
  | x :: a, y :: b, z :: c, h, h2 => by
    rw [lt_cons] at *
    rcases h with h | ⟨h, h3⟩ <;> rcases h2 with h2 | ⟨h2, h4⟩
    · left; omega
    · left; omega
    · left; omega
    · exact .inr ⟨by omega, trans h3 h4⟩
theorem tri : ∀ (a b : Bytes), lt a b ∨ a = b ∨ lt b a
  | [], [] => .inr (.inl rfl)
  | [], _ :: _ => .inl rfl
  | _ :: _, [] => .inr (.inr rfl)
  | x :: a, y :: b => by
    rw [lt_cons, lt_cons]
    rcases Nat.lt_trichotomy x.toNat y.toNat with h | h | h
    · exact .inl (.inl h)
    · rcases tri a b with h2 | h2 | h2
      · exact .inl (.inr ⟨h, h2⟩)
      · exact .inr (.inl (by rw [UInt8.toNat_inj.1 h, h2]))
      · exact .inr (.inr (.inr ⟨h.symm, h2⟩))
    · exact .inr (.inr (.inl h))
theorem asymm {a b : Bytes} (h : lt a b) : ¬ lt b a := fun h2 => irr a (trans h h2)
theorem le_iff (a b : Bytes) : decide (a ≤ b) = !Op.bytesLess b a := by
  rw [Bool.eq_iff_iff, decide_eq_true_eq, Bool.not_eq_true']
  show ¬ b < a ↔ _
  rw [← less_iff]
  simp
theorem not_lt {a b : Bytes} (h : ¬ lt a b) : b = a ∨ lt b a := by
  rcases tri a b with h2 | h2 | h2
  · exact absurd h2 h
  · exact .inl h2.symm
  · exact .inr h2
theorem unique : ∀ {l m : List Bytes}, l.Pairwise lt → m.Pairwise lt → (∀ x, x ∈ l ↔ x ∈ m) → l = m
  | [], [], _, _, _ => rfl
  | [], y :: m, _, _, h => by have := (h y).2 (by simp); cases this
  | x :: l, [], _, _, h => by have := (h x).1 (by simp); cases this
  | x :: l, y :: m, h1, h2, h => by
    rw [List.pairwise_cons] at h1 h2
    have hxy : x = y := by
      rcases tri x y with h3 | h3 | h3
      · rcases List.mem_cons.1 ((h x).1 (by simp)) with h4 | h4
        · exact h4
        · exact absurd (h2.1 x h4) (asymm h3)
      · exact h3
      · rcases List.mem_cons.1 ((h y).2 (by simp)) with h4 | h4
        · exact h4.symm
        · exact absurd (h1.1 y h4) (asymm h3)
    subst hxy
    congr 1
    refine unique h1.2 h2.2 fun z => ⟨fun hz => ?_, fun hz => ?_⟩
    · rcases List.mem_cons.1 ((h z).1 (by simp [hz])) with h4 | h4
      · subst h4; exact absurd (h1.1 z hz) (irr z)
      · exact h4
    · rcases List.mem_cons.1 ((h z).2 (by simp [hz])) with h4 | h4
      · subst h4; exact absurd (h2.1 z hz) (irr z)
      · exact h4
theorem compact_inv (d : Array Bytes) (hs : ∀ i j, i < j → j < d.size → ¬ lt d[j]! d[i]!) : ∀ m, m ≤ d.size → (Lib.compactUpTo d m).Pairwise lt ∧ ∀ x, x ∈ Lib.compactUpTo d m ↔ ∃ j, j < m ∧ d[j]! = x
  | 0, _ => ⟨.nil, fun x => ⟨fun h => (by cases h), fun ⟨j, h, _⟩ => absurd h (Nat.not_lt_zero _)⟩⟩
  | m + 1, hm => by
    obtain ⟨h1, h2⟩ := compact_inv d hs m (by omega)
    rw [Lib.compactUpTo_succ]
    cases hk : Lib.keeps d m with
    | true =>
      rw [if_pos rfl]
      refine ⟨List.pairwise_append.2 ⟨h1, List.pairwise_singleton _ _, fun x hx y hy => ?_⟩, fun x => ?_⟩
      · rw [List.mem_singleton] at hy; subst hy
        obtain ⟨j, hj, rfl⟩ := (h2 x).1 hx
        rcases not_lt (hs j m hj (by omega)) with h3 | h3
        · exfalso
          have hne : d[m]! ≠ d[m - 1]! := by
            intro e
            rw [Lib.keeps_neg (by omega) e] at hk; cases hk
          by_cases hjm : j = m - 1
          · subst hjm; exact hne h3.symm
          · rcases not_lt (hs j (m - 1) (by omega) (by omega)) with h4 | h4
            · exact hne (by rw [← h3, h4])
            · have := hs (m - 1) m (by omega) (by omega)
              rw [← h3] at this
              exact this h4
        · exact h3
      · rw [List.mem_append, h2 x, List.mem_singleton]
        constructor
        · rintro (⟨j, hj, e⟩ | rfl)
          · exact ⟨j, by omega, e⟩
          · exact ⟨m, by omega, rfl⟩
        · rintro ⟨j, hj, e⟩
          by_cases h : j = m
          · subst h; exact .inr e.symm
          · exact .inl ⟨j, by omega, e⟩
    | false =>
      rw [if_neg (by decide), List.append_nil]
      refine ⟨h1, fun x => ?_⟩
      rw [h2 x]
      constructor
      · rintro ⟨j, hj, e⟩; exact ⟨j, by omega, e⟩
      · rintro ⟨j, hj, e⟩
        by_cases h : j = m
        · subst h
          have h0 : 0 < j := by
            rcases Nat.eq_zero_or_pos j with h0 | h0
            · subst h0
              rw [Lib.keeps_lt_one d 0 (by omega)] at hk; cases hk
            · exact h0
          by_cases he : d[j]! = d[j - 1]!
          · exact ⟨j - 1, by omega, by rw [← he]; exact e⟩
          · rw [Lib.keeps_pos he] at hk; cases hk
        · exact ⟨j, by omega, e⟩
theorem srt_sorted (xs : List Bytes) : (srt xs).Pairwise fun a b => ¬ lt b a := by
  have h := List.pairwise_mergeSort (le := fun x y : Bytes => decide (x ≤ y)) (fun a b c h1 h2 => ?_) (fun a b => ?_) xs
  · refine List.Pairwise.imp (fun {a b} hab => ?_) h
    rw [le_iff] at hab
    intro h2
    unfold lt at h2
    rw [h2] at hab; cases hab
  · rw [le_iff] at *
    rw [Bool.not_eq_true'] at *
    rw [Bool.eq_false_iff]
    intro h3
    have n1 : ¬ lt b a := by unfold lt; rw [h1]; decide
    have n2 : ¬ lt c b := by unfold lt; rw [h2]; decide
    have h3 : lt c a := h3
    rcases not_lt n1 with e | e
    · subst e; exact n2 h3
    · exact n2 (trans h3 e)
  · rw [le_iff, le_iff]
    cases h1 : Op.bytesLess b a with
    | false => rfl
    | true =>
      have : ¬ lt a b := asymm h1
      cases h2 : Op.bytesLess a b with
      | false => rfl
      | true => exact absurd h2 this
theorem srt_mem (xs : List Bytes) (x : Bytes) : x ∈ srt xs ↔ x ∈ xs := (List.mergeSort_perm xs _).mem_iff
theorem cs_spec (xs : List Bytes) : (cmp (srt xs)).Pairwise lt ∧ ∀ x, x ∈ cmp (srt xs) ↔ x ∈ xs := by
  have hget : ∀ j, j < (srt xs).length → (srt xs).toArray[j]! = (srt xs).getD j [] := fun j hj => by
    rw [List.getD_eq_getElem?_getD, List.getElem?_eq_getElem hj]
    simp [getElem!_pos, hj]
  have h := compact_inv (srt xs).toArray (fun i j hij hj => ?_) (srt xs).length (by simp)
  · refine ⟨h.1, fun x => ?_⟩
    have := h.2 x
    show x ∈ Lib.compactUpTo (srt xs).toArray (srt xs).length ↔ _
    rw [this, ← srt_mem]
    constructor
    · rintro ⟨j, hj, rfl⟩
      rw [hget j hj, List.getD_eq_getElem?_getD, List.getElem?_eq_getElem hj]
      exact List.getElem_mem hj
    · intro hx
      obtain ⟨j, hj, rfl⟩ := List.getElem_of_mem hx
      exact ⟨j, hj, by rw [hget j hj, List.getD_eq_getElem?_getD, List.getElem?_eq_getElem hj]; rfl⟩
  · have hj' : j < (srt xs).length := by simpa using hj
    rw [hget j hj', hget i (by omega), List.getD_eq_getElem?_getD, List.getElem?_eq_getElem hj', List.getD_eq_getElem?_getD, List.getElem?_eq_getElem (show i < (srt xs).length by omega)]
    exact List.pairwise_iff_getElem.1 (srt_sorted xs) i j (by omega) hj' hij
def ins : List Bytes → Bytes → List Bytes
  | [], s => [s]
  | x :: l, s => if Op.bytesLess x s = true then x :: ins l s else if x = s then x :: l else s :: x :: l
theorem ins_mem : ∀ (l : List Bytes) (s x : Bytes), x ∈ ins l s ↔ x = s ∨ x ∈ l
  | [], s, x => by simp [ins]
  | y :: l, s, x => by
    unfold ins
    split
    · rw [List.mem_cons, ins_mem l s x, List.mem_cons]
      constructor
      · rintro (h | h | h)
        · exact .inr (.inl h)
        · exact .inl h
        · exact .inr (.inr h)
      · rintro (h | h | h)
        · exact .inr (.inl h)
        · exact .inl h
        · exact .inr (.inr h)
    · split
      · rename_i h; subst h
        constructor
        · intro h; exact .inr h
        · rintro (rfl | h)
          · simp
          · exact h
      · rw [List.mem_cons]
theorem ins_sorted : ∀ (l : List Bytes) (s : Bytes), l.Pairwise lt → (ins l s).Pairwise lt
  | [], s, _ => List.pairwise_singleton _ _
  | y :: l, s, h => by
    rw [List.pairwise_cons] at h
    unfold ins
    split
    · rename_i h1
      refine List.pairwise_cons.2 ⟨fun z hz => ?_, ins_sorted l s h.2⟩
      rcases (ins_mem l s z).1 hz with rfl | hz
      · exact h1
      · exact h.1 z hz
    · rename_i h1
      split
      · exact List.pairwise_cons.2 h
      · rename_i h2
        have hsy : lt s y := by
          rcases not_lt (a := y) (b := s) h1 with e | e
          · exact absurd e.symm h2
          · exact e
        exact List.pairwise_cons.2 ⟨fun z hz => by
          rcases List.mem_cons.1 hz with rfl | hz
          · exact hsy
          · exact trans hsy (h.1 z hz), List.pairwise_cons.2 h⟩
def insl (ys : List Bytes) : List Bytes := ys.foldl ins []
theorem fold_spec : ∀ (ys l : List Bytes), l.Pairwise lt → (ys.foldl ins l).Pairwise lt ∧ ∀ x, x ∈ ys.foldl ins l ↔ x ∈ ys ∨ x ∈ l
  | [], l, h => ⟨h, fun x => by simp⟩
  | y :: ys, l, h => by
    obtain ⟨h1, h2⟩ := fold_spec ys (ins l y) (ins_sorted l y h)
    refine ⟨h1, fun x => ?_⟩
    rw [List.foldl_cons, h2 x, ins_mem, List.mem_cons]
    constructor
    · rintro (h | h | h)
      · exact .inl (.inr h)
      · exact .inl (.inl h)
      · exact .inr h
    · rintro ((h | h) | h)
      · exact .inr (.inl h)
      · exact .inl h
      · exact .inr (.inr h)
theorem same (ys : List Bytes) : cmp (srt ys) = insl ys := by
  have h1 := cs_spec ys
  have h2 := fold_spec ys [] .nil
  refine unique h1.1 h2.1 fun x => ?_
  rw [h1.2 x]
  show _ ↔ x ∈ ys.foldl ins []
  rw [h2.2 x]
  simp
theorem ins_len (l : List Bytes) (s : Bytes) : (ins l s).length ≤ l.length + 1 := by
  induction l with
  | nil => exact Nat.le_refl _
  | cons x l ih =>
    unfold ins
    split
    · rw [List.length_cons, List.length_cons]; omega
    · split
      · rw [List.length_cons]; omega
      · rw [List.length_cons]; exact Nat.le_refl _
theorem ins_at : ∀ (k : Nat) (l : List Bytes) (s : Bytes), k ≤ l.length → (∀ i, i < k → Op.bytesLess (l.getD i []) s = true) → (k < l.length → Op.bytesLess (l.getD k []) s = false) → ins l s = l.take k ++ (if k < l.length ∧ l.getD k [] = s then l.drop k else s :: l.drop k)
  | 0, [], s, _, _, _ => rfl
  | 0, x :: l, s, _, _, h3 => by
    have h4 : Op.bytesLess x s = false := h3 (by simp)
    unfold ins
    rw [if_neg (by rw [h4]; decide)]
    by_cases h : x = s
    · rw [if_pos h, if_pos ⟨by simp, h⟩]; rfl
    · rw [if_neg h, if_neg (fun h2 => h h2.2)]; rfl
  | k + 1, [], s, h, _, _ => by simp at h
  | k + 1, x :: l, s, h, h2, h3 => by
    have h4 : Op.bytesLess x s = true := h2 0 (by omega)
    unfold ins
    rw [if_pos h4, ins_at k l s (by simpa using h) (fun i hi => h2 (i + 1) (by omega)) (fun hk => h3 (by simpa using hk))]
    simp
end Ord
namespace R26
def ent (a : DataSet) (x : Pair) : List Bytes := if (key a x.record).2 = true ∧ (x.key.length : Int) = a.KeyLength - a.AltLength then [(key a x.record).1 ++ x.key] else []
def add (a : DataSet) (x : Pair) (xs : List Bytes) : List Bytes := xs ++ ent a x
def ents (a : DataSet) (l : List Pair) : List Bytes := l.flatMap (ent a)
def recs (a : DataSet) (l : List Pair) : List Bytes := cmp (srt (ents a l))
theorem add_no {a : DataSet} {x : Pair} {xs : List Bytes} (h : ¬ ((key a x.record).2 = true ∧ (x.key.length : Int) = a.KeyLength - a.AltLength)) : add a x xs = xs := by unfold add ent; rw [if_neg h, List.append_nil]
theorem add_yes {a : DataSet} {x : Pair} {xs : List Bytes} (h : (key a x.record).2 = true) (h2 : (x.key.length : Int) = a.KeyLength - a.AltLength) : add a x xs = xs ++ [(key a x.record).1 ++ x.key] := by unfold add ent; rw [if_pos ⟨h, h2⟩]
theorem flat_step {α : Type} {f : α → List Bytes} {l : List α} {d : α} {k : Nat} (hk : k < l.length) : (l.take (k + 1)).flatMap f = (l.take k).flatMap f ++ f (l.getD k d) := by
  rw [List.take_succ_eq_append_getElem hk, List.flatMap_append, List.getD_eq_getElem?_getD, List.getElem?_eq_getElem hk]
  simp
theorem add_len (a : DataSet) (x : Pair) (xs : List Bytes) : (add a x xs).length ≤ xs.length + 1 := by
  unfold add ent
  rw [List.length_append]
  split
  · exact Nat.le_refl _
  · exact Nat.le_succ _
section
variable {l xs : List Bytes} {s : Bytes} {k : Nat}
theorem ins_go {p : Prop} [Decidable p] (h : (decide p && Op.bytesLess (l.getD k []) s) = true) : p ∧ Op.bytesLess (l.getD k []) s = true := by simpa using h
theorem ins_stop (h : (decide ((k : Int) < l.length) && Op.bytesLess (l.getD k []) s) = false) : k < l.length → Op.bytesLess (l.getD k []) s = false := fun hk => by
  rw [decide_eq_true (by omega), Bool.true_and] at h; exact h
theorem ins_hit (hk : k ≤ l.length) (h : ∀ i, i < k → Op.bytesLess (l.getD i []) s = true) (h2 : (decide ((k : Int) < l.length) && Op.bytesLess (l.getD k []) s) = false) (h3 : (decide ((k : Int) < l.length) && decide (l.getD k [] = s)) = true) : Ord.ins l s = l := by
  rw [Ord.ins_at k l s hk h (ins_stop h2), if_pos, List.take_append_drop]
  simp only [Bool.and_eq_true, decide_eq_true_eq] at h3
  exact ⟨by omega, h3.2⟩
theorem ins_new (hk : k ≤ l.length) (h : ∀ i, i < k → Op.bytesLess (l.getD i []) s = true) (h2 : (decide ((k : Int) < l.length) && Op.bytesLess (l.getD k []) s) = false) (h3 : (decide ((k : Int) < l.length) && decide (l.getD k [] = s)) = false) : Ord.ins l s = ((([] : List Bytes) ++ ((l.drop 0).take (k - 0))) ++ [s]) ++ ((l.drop k).take (l.length - k)) := by
  rw [Ord.ins_at k l s hk h (ins_stop h2), if_neg]
  · rw [List.drop_zero, Nat.sub_zero, List.nil_append, List.append_assoc, List.take_of_length_le (by simp : (l.drop k).length ≤ l.length - k)]
    rfl
  · rintro ⟨h4, h5⟩
    rw [decide_eq_true (by omega), decide_eq_true h5] at h3; cases h3
end
section
variable {a : DataSet} {l : List Pair} {k : Nat} {xs : List Bytes} {m : Int}
theorem same_no {x y : List Bytes} (h : x.length ≠ y.length) : decide (x = y) = false := decide_eq_false fun e => h (by rw [e])
theorem same_bad {x y : List Bytes} (h : ¬ x.getD k [] = y.getD k []) : decide (x = y) = false := decide_eq_false fun e => h (by rw [e])
theorem same_all {x y : List Bytes} (hl : x.length = y.length) (h : ∀ i, i < x.length → x.getD i [] = y.getD i []) : decide (x = y) = true := by
  refine decide_eq_true (List.ext_getElem hl fun i h1 h2 => ?_)
  have := h i h1
  rwa [List.getD_eq_getElem?_getD, List.getElem?_eq_getElem h1, List.getD_eq_getElem?_getD, List.getElem?_eq_getElem h2] at this
def few (l : List Pair) (m : Int) : Bool := (l.all fun x => decide (x.key.length ≤ 100) && decide (x.record.length ≤ 300)) && decide ((l.length : Int) ≤ m)
end
theorem ents_len (a : DataSet) : ∀ l : List Pair, (ents a l).length ≤ l.length
  | [] => Nat.le_refl _
  | x :: l => by
    have := ents_len a l
    show (ent a x ++ ents a l).length ≤ l.length + 1
    rw [List.length_append]
    have h1 : (ent a x).length ≤ 1 := by
      unfold ent
      split
      · exact Nat.le_refl _
      · exact Nat.zero_le _
    omega
theorem recs_len (a : DataSet) (l : List Pair) : (recs a l).length ≤ l.length := by
  have h1 := cmp_length (srt (ents a l))
  have h2 := srt_length (ents a l)
  have h3 := ents_len a l
  unfold recs
  omega
end R26
end Go.Proofs.YtmbinhhlfbgiaaaGreat

namespace Go.GV
open Go.RowKit Go.MapKept
def Ent.mx (b : Nat) (es : Array MapEntry) (clock : Nat) : Ent := ⟨some b, fun o => o = some (.map es clock)⟩
def Ent.rng {κ : Type} (f : κ → Value) (b bm : Nat) (es : Array MapEntry) (clock : Nat) (left : List (κ × Value)) (cur : Option (κ × Value)) : Ent :=
  ⟨some b, fun o => ∃ seen, o = some (.mapIter (some bm) clock seen clock) ∧ (leftOf es seen).toList.map (fun e => (e.key, e.val)) = left.map (fun p => (f p.1, p.2)) ∧ ∀ p, cur = some p → ∃ e ∈ es.toList, seen.back? = some e.born ∧ e.key = f p.1 ∧ e.val = p.2⟩
def Holds' {κ : Type} (f : κ → Value) (es : Array MapEntry) (l : List (κ × Value)) : Prop := es.toList.map (fun e => (e.key, e.val)) = l.map (fun p => (f p.1, p.2))
section
variable {E : Env} {P : Program} {x : Operand} {dst : Option Nat} {t ty : TypeId} {pos : String} {af : Array Edge} {g : Option (Nat × Bool)} {κ : Type}
end
def wpV (a : Nat) (o : Nat) : Value := .pointer (some ⟨a, o, none⟩)
def putV : List Value → List Nat → List Int → Nat → List Value
  | cs, [], _, _ => cs
  | cs, o :: os, vs, i => putV (cs.set o (vI (vs.getD i 0))) os vs (i + 1)
section
variable {E : Env} {P : Program} {x y : Operand} {dst : Option Nat} {t ty : TypeId} {pos : String} {af : Array Edge} {g : Option (Nat × Bool)}
end
def kT {κ : Type} (s : κ) : κ × Value := (s, vB true)
section
variable {κ : Type} [DecidableEq κ]
def addK (l : List κ) (s : κ) : List κ := if s ∈ l then l else l ++ [s]
theorem upd_kT (l : List κ) (s : κ) : upd (l.map kT) s (vB true) = (addK l s).map kT := by
  unfold addK
  induction l with
  | nil => rfl
  | cons a l ih =>
    rw [List.map_cons]
    unfold kT at *
    unfold upd
    by_cases h : s = a
    · rw [if_pos h, if_pos (by simp [h])]
      simp [h]
    · rw [if_neg h, ih]
      by_cases h2 : s ∈ l
      · rw [if_pos h2, if_pos (by simp [h2])]
        rfl
      · rw [if_neg h2, if_neg (by simp [h, h2])]
        rfl
theorem lk_kT (l : List κ) (s : κ) : lk (l.map kT) s = if s ∈ l then some (vB true) else none := by
  induction l with
  | nil => rfl
  | cons a l ih =>
    rw [List.map_cons]
    unfold kT at *
    unfold lk
    by_cases h : s = a
    · rw [if_pos h, if_pos (by simp [h])]
    · rw [if_neg h, ih]
      by_cases h2 : s ∈ l
      · rw [if_pos h2, if_pos (by simp [h2])]
      · rw [if_neg h2, if_neg (by simp [h, h2])]
def hasK (l : List κ) (s : κ) : Bool := decide (s ∈ l)
theorem hasK_mem {l : List κ} {s : κ} (h : hasK l s = true) : s ∈ l := of_decide_eq_true h
theorem hasK_not {l : List κ} {s : κ} (h : hasK l s = false) : ¬ s ∈ l := of_decide_eq_false h
theorem lk_kT_v (l : List κ) (s : κ) : (lk (l.map kT) s).getD (vB false) = vB (hasK l s) := by
  unfold hasK
  rw [lk_kT]
  by_cases h : s ∈ l
  · rw [if_pos h, decide_eq_true h]; rfl
  · rw [if_neg h, decide_eq_false h]; rfl
theorem addK_new {l : List κ} {s : κ} (h : ¬ s ∈ l) : addK l s = l ++ [s] := if_neg h
end
end Go.GV
