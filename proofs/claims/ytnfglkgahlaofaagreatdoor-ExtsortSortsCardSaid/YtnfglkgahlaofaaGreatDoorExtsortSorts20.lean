/- C44j, C44k, C44l in one text. -/
import Derived.Test.YtnfglkgahlaofaaGreatDoorExtsortSorts19
import Derived.Test.YtnfglkgahlaofaaGreatDoorExtsortSorts11
namespace Go.Proofs.YtnfglkgahlaofaaGreatDoor
open Go.GV
set_option linter.unusedVariables false
set_option linter.unusedSimpArgs false
set_option maxRecDepth 20000 in
theorem f64_ok (bp : Nat) (bq : Nat) (lists : List Rw) (listsA : Option Addr) (listsC : Nat) (l : List SortField) (lA : Option Addr) (lC : Nat) (w : World) (listsR : RO [bp, bq] w listsA (lists.flatMap Rw.enc)) (listsN : ∀ i : Nat, RO [bp, bq] w (lists.getD i default).sA (((lists.getD i default).s).map vS)) (lR : RO [bp, bq] w lA (l.flatMap SortField.enc)) (q0 : lists.length ≤ 1000000) (q1 : ∀ i j, ((lists.getD i default).s.getD j []).length ≤ 1000000) (q2 : R44.valid l = true) (q3 : ∀ i, (lists.getD i default).s.length ≤ (lists.getD i default).sC) (q4 : (lists.map Rw.s).flatten.length ≤ 1000000) (hg : Give [bp, bq] w [Ent.blk bp 23 [vL listsA lists.length listsC], Ent.blk bq 24 [vL lA l.length lC]]) : Calls Tryz.prog 64 #[vL none 0 0, Value.func (.func 65) #[] #[pB bp 0, pB bq 0]] w (Gives [bp, bq] w fun v L => ∃ A2 : Option Addr, ∃ c2 : Nat, v = vL A2 ((Srt.merge (R44.cmpL l) (lists.map Rw.s)).length) c2 ∧ L = [Ent.row (.slice A2 (Srt.merge (R44.cmpL l) (lists.map Rw.s)).length c2) 9 1 (Srt.merge (R44.cmpL l) (lists.map Rw.s)).length ((Srt.merge (R44.cmpL l) (lists.map Rw.s)).map vS)]) := by
 refine calls_JNG [bp, bq] 13 Tryz.func64 rfl Tryz.ntmps64 [(0, _), (1, _)] rfl rfl hg ?_
 refine q_ (g_ (o_ (bx1 fun b1 => ?_)))
 refine s_ av_ (z_ (n_ (q_ (q_ (g_ (s_ mv_ (z_ (n_ (k_ ?_)))))))))
 refine J_rangeFunc (n := _) (gf := 65) (lb := [pB bp 0, pB bq 0]) (enc := (fun a : Bytes => [vS a])) (xs := (Srt.merge (R44.cmpL l) (lists.map Rw.s))) (fun (pre : List Bytes) (⟨out, outA, outC⟩ : (List Bytes) × (Option Addr) × Nat) => (out = pre)) (fun (_ : List Bytes) (⟨out, outA, outC⟩ : (List Bytes) × (Option Addr) × Nat) => [Ent.blk b1 22 [vL outA out.length outC], Ent.row (.slice outA out.length outC) 9 1 out.length (out.map vS)]) ((([] : List Bytes), none, 0) : (List Bytes) × (Option Addr) × Nat) [Ent.blk bp 23 [vL listsA lists.length listsC], Ent.blk bq 24 [vL lA l.length lC]] rfl rfl rfl Ty.ca65 (ps_ rfl) (fun _ => rfl) (fun _ h => ((((h.nilrow 9 1).front 1 _ rfl).front 3 _ rfl).front 3 _ rfl).keep [true, true, true, true] rfl) ?_ ?_ ?_
 ·intro wi3 li4 di5 ri6 hold7 hg8 hY9
  refine it_done (I := (fun (pre : List Bytes) (⟨out, outA, outC⟩ : (List Bytes) × (Option Addr) × Nat) => (out = pre))) (Lf := LF li4 di5 ri6 (fun (_ : List Bytes) (⟨out, outA, outC⟩ : (List Bytes) × (Option Addr) × Nat) => [Ent.blk b1 22 [vL outA out.length outC], Ent.row (.slice outA out.length outC) 9 1 out.length (out.map vS)])) ?_
  exact f65_ok li4 _ _ _ _ bp bq lists listsA listsC l lA lC _ (listsR.old hold7) (fun i => (listsN i).old hold7) (lR.old hold7) hY9 rfl q0 q1 q2 q3 hg8
 ·rintro wi10 li4 di5 ri6 pre a11 rest12 ⟨out, outA, outC⟩ hp13 hI14 hold7
  have i1_0 := hI14
  try dsimp only at i1_0
  have listsR := listsR.old hold7
  have lR := lR.old hold7
  have listsN := fun i => (listsN i).old hold7
  have hpl : pre.length < 1000000 := R44.merge_pre (R44.cmpL_ok l) q4 hp13
  refine J_weaken (E' := [(2, pB b1 0), (7, vS a11)]) (L' := [Ent.obj li4 (lp ri6 .ready), dfr di5, Ent.blk b1 22 [vL outA out.length outC], Ent.row (.slice outA out.length outC) 9 1 out.length (out.map vS)]) ⟨rfl, rfl, trivial⟩ (fun _ h => h) ?_
  refine g_ (s_ av_ (z_ (JX_begin (k_ (g_ (r_ (ld_ 2 Ty.sc22) (s_ mv_ (o_ (O_buildSlice (cs := [vS a11]) Tryz.underlying22 Ty.sz9 Ty.ze9 (by decide) (by decide) (by kernel_rfl) fun b15 => ?_)))))))))
  refine o_ (O_append_m 4 vS out [a11] Tryz.underlying22 Ty.sz9 Ty.by9 Ty.ze9 rfl rfl rfl rfl rfl (fun _ => rfl) (cells_blk 0 (off := 0) (m := 1) rfl rfl) lt_ lt_ fun A16 c17 => ?_)
  refine o_ (st1 3 Ty.sz22 ?_)
  refine z_ (kx_ ?_)
  refine JX_end [dfr di5, Ent.blk b1 22 [vL A16 ((out ++ [a11]).length) c17], Ent.row (.slice A16 (out ++ [a11]).length c17) 9 1 (out ++ [a11]).length ((out ++ [a11]).map vS)] (fun _ h => h.keep [false, true, true, true, true] rfl) (fun w hS => ⟨rfl, ((out ++ [a11], A16, c17) : (List Bytes) × (Option Addr) × Nat), ?_, hS⟩)
  try dsimp only
  rw [i1_0]
 ·rintro D18 ⟨out, outA, outC⟩ hI14
  have i1_0 := hI14
  try dsimp only at i1_0
  try dsimp only
  refine kx_ (n_ (q_ (g_ (r_ (ld_ 1 Ty.sc22) (s_ av_ (z_ (n_ (rt_ ?_))))))))
  refine JX_retsMG (D18 :: ([] : List Nat)) [_] _ rfl Tryz.results64 [Ent.blk b1 22 [vL outA out.length outC], Ent.row (.slice outA out.length outC) 9 1 out.length (out.map vS)] (fun _ h => h) (fun w h => ⟨rfl, trivial⟩) rfl [Ent.row (.slice outA out.length outC) 9 1 out.length (out.map vS)] (fun _ h => h.keep [false, true] rfl) (fun _ _ h => h) ⟨outA, outC, ?_, ?_⟩
  ·have e_x0 : (out.length : Nat) = ((Srt.merge (R44.cmpL l) (lists.map Rw.s)).length) := by rw [i1_0]
   exact congrArg (fun (x0 : Nat) => vL outA x0 outC) e_x0
  ·have e_y0 : (out : List Bytes) = (Srt.merge (R44.cmpL l) (lists.map Rw.s)) := by
    exact i1_0
   have e_all := (congrArg (fun (y0 : List Bytes) => [Ent.row (.slice outA y0.length outC) 9 1 y0.length (y0.map vS)]) e_y0)
   exact e_all
set_option maxRecDepth 20000 in
theorem f35_ok (bp : Nat) (bq : Nat) (lists : List Rw) (listsA : Option Addr) (listsC : Nat) (l : List SortField) (lA : Option Addr) (lC : Nat) (w : World) (listsR : RO [bp, bq] w listsA (lists.flatMap Rw.enc)) (listsN : ∀ i : Nat, RO [bp, bq] w (lists.getD i default).sA (((lists.getD i default).s).map vS)) (lR : RO [bp, bq] w lA (l.flatMap SortField.enc)) (q0 : lists.length ≤ 1000000) (q1 : ∀ i j, ((lists.getD i default).s.getD j []).length ≤ 1000000) (q2 : R44.valid l = true) (q3 : ∀ i, (lists.getD i default).s.length ≤ (lists.getD i default).sC) (q4 : (lists.map Rw.s).flatten.length ≤ 1000000) (hg : Give [bp, bq] w [Ent.blk bp 23 [vL listsA lists.length listsC], Ent.blk bq 24 [vL lA l.length lC]]) : Calls Tryz.prog 35 #[Value.func (.func 65) #[] #[pB bp 0, pB bq 0]] w (Gives [bp, bq] w fun v L => ∃ A2 : Option Addr, ∃ c2 : Nat, v = vL A2 ((Srt.merge (R44.cmpL l) (lists.map Rw.s)).length) c2 ∧ L = [Ent.row (.slice A2 (Srt.merge (R44.cmpL l) (lists.map Rw.s)).length c2) 9 1 (Srt.merge (R44.cmpL l) (lists.map Rw.s)).length ((Srt.merge (R44.cmpL l) (lists.map Rw.s)).map vS)]) := by
 refine calls_J [bp, bq] 5 Tryz.func35 rfl Tryz.ntmps35 [(0, _)] rfl rfl hg ?_
 refine q_ (g_ (s_ av_ (z_ (n_ (q_ (g_ (s_ mv_ ?_)))))))
 refine JO_call [bp, bq] [Ent.blk bp 23 [vL listsA lists.length listsC], Ent.blk bq 24 [vL lA l.length lC]] [] rfl trivial (fun _ => x_call Ty.ca64 rfl) (fun _ h => h) (own_mem rfl) (fun w hS => f64_ok bp bq lists listsA listsC l lA lC w (listsR.on hS (own_mem rfl)) (fun i => (listsN i).on hS (own_mem rfl)) (lR.on hS (own_mem rfl)) hy_ hy_ hy_ hy_ hy_ (hS.give (own_in rfl))) ?_
 rintro _ _ ⟨e1, e2, rfl, rfl⟩
 refine s_ av_ (z_ (n_ (rt_ ?_)))
 refine JX_rets [_] _ Tryz.results35 (fun w h => ⟨rfl, trivial⟩) rfl _ (fun _ h => h) ⟨e1, e2, ?_, ?_⟩
 ·rfl
 ·rfl
set_option maxRecDepth 20000 in
theorem f16_ok (lists : List Rw) (listsA : Option Addr) (listsC : Nat) (l : List SortField) (lA : Option Addr) (lC : Nat) (w : World) (listsR : RO [] w listsA (lists.flatMap Rw.enc)) (listsN : ∀ i : Nat, RO [] w (lists.getD i default).sA (((lists.getD i default).s).map vS)) (lR : RO [] w lA (l.flatMap SortField.enc)) (q0 : lists.length ≤ 1000000) (q1 : ∀ i j, ((lists.getD i default).s.getD j []).length ≤ 1000000) (q2 : ∀ i, (lists.getD i default).s.length ≤ (lists.getD i default).sC) (q3 : (lists.map Rw.s).flatten.length ≤ 1000000) (q4 : l.length ≤ 9223372036854775807) : Calls Tryz.prog 16 #[vL listsA lists.length listsC, vL lA l.length lC] w (Gives [] w fun v L => ∃ A2 : Option Addr, ∃ c2 : Nat, v = vL A2 ((R44.mergeV l (lists.map Rw.s)).length) c2 ∧ L = [Ent.row (.slice A2 (R44.mergeV l (lists.map Rw.s)).length c2) 9 1 (R44.mergeV l (lists.map Rw.s)).length ((R44.mergeV l (lists.map Rw.s)).map vS)]) := by
 refine calls_J [] 12 Tryz.func16 rfl Tryz.ntmps16 [(0, _), (1, _)] rfl rfl (Give.nil w) ?_
 refine q_ (g_ (s_ av_ (z_ (n_ (q_ (q_ (g_ (s_ mv_ (c0 (cl_ Ty.ca21) (fun w hS => f21_ok l lA lC w (rno lR hS) hy_) (s_ (x_not rfl) (z_ (n_ ?_))))))))))))
 refine if_ (fun h1 => ?_) (fun h1 => ?_)
 ·have h1w := h1
  have h1 : (R44.valid l) = false := bnot_true h1
  refine q_ (g_ (s_ av_ (z_ (n_ (rt_ (nr_ ?_))))))
  refine JX_rets [_] _ Tryz.results16 (fun w h => ⟨rfl, trivial⟩) rfl [Ent.row (.slice none ([] : List Bytes).length 0) 9 1 ([] : List Bytes).length (([] : List Bytes).map vS)] (fun _ h => (h.nilrow 9 1).keep [true] rfl) ⟨none, 0, ?_, ?_⟩
  ·have e_x0 : (0 : Nat) = ((R44.mergeV l (lists.map Rw.s)).length) := by first | exact congrArg List.length (R44.mergeV_no (by simp_all)) | exact congrArg List.length (R44.mergeV_yes (by assumption))
   exact congrArg (fun (x0 : Nat) => vL none x0 0) e_x0
  ·have e_y0 : (([] : List Bytes) : List Bytes) = (R44.mergeV l (lists.map Rw.s)) := by
    first | exact R44.mergeV_no (by simp_all) | exact R44.mergeV_yes (by assumption)
   have e_all := (congrArg (fun (y0 : List Bytes) => [Ent.row (.slice none y0.length 0) 9 1 y0.length (y0.map vS)]) e_y0)
   exact e_all
 ·have h1w := h1
  have h1 : (R44.valid l) = true := bnot_false h1
  have hi2 := R44.valid_facts h1
  refine sk_ (n_ (q_ (g_ (s_ mv_ (s_ mv_ ?_)))))
  refine c1 (cl_ Ty.ca36) (fun w hS => f36_ok _ _ _ l lA lC w (rno listsR hS) (fun i => (listsN i).on hS (fun _ h => by cases h)) (rno lR hS)) ?_
  rintro _ _ ⟨bp3, bq4, rfl, rfl⟩
  refine JO_call [bp3, bq4] [Ent.blk bp3 23 [vL listsA lists.length listsC], Ent.blk bq4 24 [vL lA l.length lC]] [] rfl trivial (fun _ => x_call Ty.ca35 rfl) (fun _ h => h) (own_mem rfl) (fun w hS => f35_ok bp3 bq4 lists listsA listsC l lA lC w (listsR.on hS (own_mem rfl)) (fun i => (listsN i).on hS (own_mem rfl)) (lR.on hS (own_mem rfl)) hy_ hy_ hy_ hy_ hy_ (hS.give (own_in rfl))) ?_
  rintro _ _ ⟨e5, e6, rfl, rfl⟩
  refine s_ av_ (z_ (n_ (rt_ ?_)))
  refine JX_rets [_] _ Tryz.results16 (fun w h => ⟨rfl, trivial⟩) rfl _ (fun _ h => h) ⟨e5, e6, ?_, ?_⟩
  ·have e_x0 : ((Srt.merge (R44.cmpL l) (lists.map Rw.s)).length : Nat) = ((R44.mergeV l (lists.map Rw.s)).length) := by first | exact congrArg List.length (R44.mergeV_no (by simp_all)) | exact congrArg List.length (R44.mergeV_yes (by assumption))
   exact congrArg (fun (x0 : Nat) => vL e5 x0 e6) e_x0
  ·have e_y0 : ((Srt.merge (R44.cmpL l) (lists.map Rw.s)) : List Bytes) = (R44.mergeV l (lists.map Rw.s)) := by
    first | exact R44.mergeV_no (by simp_all) | exact R44.mergeV_yes (by assumption)
   have e_all := (congrArg (fun (y0 : List Bytes) => [Ent.row (.slice e5 y0.length e6) 9 1 y0.length (y0.map vS)]) e_y0)
   exact e_all
end Go.Proofs.YtnfglkgahlaofaaGreatDoor

namespace Go.Proofs.YtnfglkgahlaofaaGreatDoor
open Go.GV
set_option linter.unusedVariables false
set_option linter.unusedSimpArgs false
theorem c44k1_ {p : Prop} (h : p := by first | exact R44.fst_ (R44.inK_1f (i := k) (by omega) (by omega) (by assumption)) | exact R44.fst_ (R44.inK_1t (by omega) (fun i hi => i1_1 i (by omega))) | exact R44.fst_ (R44.inK_2 (out := out) (by omega) (by rw [i2_1, List.take_of_length_le (by omega)])) | exact R44.fst_ (R44.inK_0 (by omega) (by omega))) : p := h
theorem c44k2_ {p : Prop} (h : p := by first | exact R44.snd_ (R44.inK_1f (i := k) (by omega) (by omega) (by assumption)) | exact R44.snd_ (R44.inK_1t (by omega) (fun i hi => i1_1 i (by omega))) | exact R44.snd_ (R44.inK_2 (out := out) (by omega) (by rw [i2_1, List.take_of_length_le (by omega)])) | exact R44.snd_ (R44.inK_0 (by omega) (by omega))) : p := h
theorem c44k3_ {p : Prop} (h : p := by first | exact R44.fst_ (R44.smK_1 (by omega)) | exact R44.fst_ (R44.smK_2 (by omega) (by omega)) | exact R44.fst_ (R44.smK_3 (by omega) (by omega) (by omega)) | exact R44.fst_ (R44.smK_0 (by omega) (by omega) (by omega))) : p := h
theorem c44k4_ {p : Prop} (h : p := by first | exact R44.snd_ (R44.smK_1 (by omega)) | exact R44.snd_ (R44.smK_2 (by omega) (by omega)) | exact R44.snd_ (R44.smK_3 (by omega) (by omega) (by omega)) | exact R44.snd_ (R44.smK_0 (by omega) (by omega) (by omega))) : p := h
theorem c44k7_ {p : Prop} (h : p := by first | exact R44.sums_8 (by omega) i1_1 ⟨by omega, by omega, by assumption⟩ (by omega) | exact R44.sums_9 (by omega) i1_1 ⟨by omega, by omega, by assumption⟩ (by omega) (by omega) | exact R44.sums_end (by omega) i1_1) : p := h
theorem c44k8_ {p : Prop} (h : p := by first | exact R44.sums_set (by omega) i1_1 ⟨by omega, by omega, by assumption⟩ (by omega) (by omega) | exact R44.sums_add (by omega) i1_1 (fun hh => by first | omega | simp_all)) : p := h
theorem c44k9_ {p : Prop} (h : p := by first | omega | (rw [List.length_set]; omega) | (rw [List.length_append, List.length_singleton]; omega)) : p := h
theorem c44k10_ {p : Prop} (h : p := by first | exact R44.short_set i1_3 (by omega) | exact R44.short_snoc i1_3 (by omega)) : p := h
theorem c44k11_ {p : Prop} (h : p := by first | omega | (simp only [List.length_append, List.length_cons, List.length_nil]; omega) | (simp; omega) | (simp_all; omega)) : p := h
theorem c44k12_ {p : Prop} (h : p := by first | exact R44.ix_yes (by omega) (by omega) | exact R44.ix_no (fun i hi => i1_1 i (by omega))) : p := h
theorem c44k13_ {p : Prop} (h : p := by first | exact R44.inTo_take (by omega) i1_1 (by assumption) (by omega) | exact R44.inTo_skip (by omega) i1_1 (by simp_all)) : p := h
theorem c44k14_ {p : Prop} (h : p := by first | exact R44.inR_bad (R44.inTo_bad (by omega) i1_1 (by assumption) (by omega)) | exact R44.inR_end (R44.inTo_end (by omega) i1_1)) : p := h
set_option maxRecDepth 20000 in
theorem f43_ok (kind : Int) (s : Bytes) (w : World) (q0 : s.length ≤ 1000000) : Calls Tryz.prog 43 #[vI kind, vS s] w (Gives [] w fun v L => v = Value.tuple #[vS ((R44.inK kind s).1), vB ((R44.inK kind s).2)] ∧ L = []) := by
 refine calls_J [] 41 Tryz.func43 rfl Tryz.ntmps43 [(0, _), (1, _)] rfl rfl (Give.nil w) ?_
 refine q_ (g_ (s_ av_ (s_ av_ (z_ (n_ (q_ (q_ (g_ (s_ mv_ (z_ (n_ (k_ (q_ (g_ (s_ (x_eql_i rfl rfl) (s_ av_ (z_ (n_ ?_))))))))))))))))))
 refine ifd (fun h1w h1 => ?_) (fun h1w h1 => ?_)
 ·refine q_ (g_ (s_ av_ (z_ (n_ (k_ ?_)))))
  refine J_loop (X := Nat) (fun (k : Nat) => (k ≤ s.length) ∧ (∀ i, i < k → s.getD i 0 ≠ 120)) (fun (k : Nat) => [(1, vS s), (6, vI ((k : Nat) : Int))]) (fun (k : Nat) => []) (fun (k : Nat) => s.length - k) (0 : Nat) ?_ ⟨rfl, rfl, trivial⟩ (fun _ h => h) ?_
  ·try dsimp only
   refine ⟨?_, ?_⟩
   ·first | rfl | omega | (simp_all; done) | (simp_all; omega)
   ·intro i hi; omega
  intro k hI1
  obtain ⟨i1_0, i1_1⟩ := hI1
  try dsimp only at i1_0
  try dsimp only at i1_1
  try dsimp only
  refine q_ (q_ (g_ (s_ mv_ (s_ mv_ (s_ (x_len_s rfl Tryz.underlying9) (s_ (x_lss_i rfl rfl) (z_ (n_ ?_))))))))
  refine ifd (fun h2w h2 => ?_) (fun h2w h2 => ?_)
  ·refine sk_ (n_ (q_ (k_ (q_ (g_ (s_ mv_ (s_ mv_ (s_ (x_idx_s (k := k) rfl rfl Tryz.underlying9 (by omega)) (js_ (vB (decide (s.getD k 0 = (120 : UInt8)))) (x_eql_u8 rfl rfl) (z_ (n_ ?_)))))))))))
   refine ifd (fun h3w h3 => ?_) (fun h3w h3 => ?_)
   ·refine q_ (g_ (s_ av_ (s_ av_ (z_ (n_ (rt_ (kq_ (nr_ (rr_ (kq_ (kq_ (nr_ ?_))))))))))))
    exact p2 Tryz.results43 rfl rfl ⟨t2 (eS c44k1_) (eB c44k2_), rfl⟩
   ·refine sk_ (kx_ (n_ (g_ (s_ mv_ (s_ (x_add_n (a := k) (b := 1) rfl rfl (by omega)) (s_ av_ (z_ ?_)))))))
    refine JX_round (k + 1 : Nat) ?_ ?_ ⟨rfl, rfl, trivial⟩ (fun _ h => h)
    ·try dsimp only
     refine ⟨?_, ?_⟩
     ·first | rfl | omega | (simp_all; done) | (simp_all; omega)
     ·exact R44.no_x i1_1 (by assumption)
    ·try dsimp only
     first | omega | (simp; omega) | (simp_all; omega)
  ·refine J_exit (ne_ (re_ (kh_ (kx_ (n_ ?_)))))
   refine q_ (g_ (s_ mv_ (s_ av_ (s_ av_ (z_ (n_ (rt_ ?_)))))))
   exact p2 Tryz.results43 rfl rfl ⟨t2 (eS c44k1_) (eB c44k2_), rfl⟩
 ·refine q_ (g_ (s_ (x_eql_i rfl rfl) (s_ av_ (z_ (n_ ?_)))))
  refine ifd (fun h4w h4 => ?_) (fun h4w h4 => ?_)
  ·refine q_ (g_ (s_ av_ (z_ (n_ (q_ (q_ (g_ (s_ av_ (z_ (n_ (k_ ?_)))))))))))
   refine J_loop (X := Bytes × Nat) (fun (⟨out, k⟩ : Bytes × Nat) => (k ≤ s.length) ∧ (out = (s.take k).reverse) ∧ (out.length = k)) (fun (⟨out, k⟩ : Bytes × Nat) => [(1, vS s), (4, vS []), (5, vB false), (7, vS out), (8, vI ((k : Nat) : Int))]) (fun (⟨out, k⟩ : Bytes × Nat) => []) (fun (⟨out, k⟩ : Bytes × Nat) => s.length - k) (([], 0) : Bytes × Nat) ?_ ⟨rfl, rfl, rfl, rfl, rfl, trivial⟩ (fun _ h => h) ?_
   ·try dsimp only
    refine ⟨?_, ?_, ?_⟩
    ·first | rfl | omega | (simp_all; done) | (simp_all; omega)
    ·rfl
    ·rfl
   rintro ⟨out, k⟩ hI2
   obtain ⟨i2_0, i2_1, i2_2⟩ := hI2
   try dsimp only at i2_0
   try dsimp only at i2_1
   try dsimp only at i2_2
   try dsimp only
   refine q_ (q_ (g_ (s_ mv_ (s_ mv_ (s_ (x_len_s rfl Tryz.underlying9) (s_ (x_lss_i rfl rfl) (z_ (n_ ?_))))))))
   refine ifd (fun h5w h5 => ?_) (fun h5w h5 => ?_)
   ·refine sk_ (n_ (q_ (k_ (g_ (s_ mv_ (s_ mv_ (s_ mv_ (s_ (x_add_n (a := k) (b := 1) rfl rfl (by omega)) (s_ (x_sub_s (lo := k) (hi := k + 1) rfl Tryz.underlying9 (.inl rfl) (.inl rfl) lt_ (by first | omega | (simp only [sub, List.length_drop, List.length_take]; omega) | (simp; omega) | (simp_all; omega))) ?_)))))))))
    have hsl6 := sub_length s k (k + 1) lt_
    refine s_ mv_ (s_ (x_cat_s rfl rfl c44k11_) (s_ av_ (z_ (kx_ (n_ (g_ (s_ mv_ (s_ (x_add_n (a := k) (b := 1) rfl rfl (by omega)) (s_ av_ (z_ ?_))))))))))
    refine JX_round (((sub s k (k + 1)) ++ out, k + 1) : Bytes × Nat) ?_ ?_ ⟨rfl, rfl, rfl, rfl, rfl, trivial⟩ (fun _ h => h)
    ·try dsimp only
     refine ⟨?_, ?_, ?_⟩
     ·first | rfl | omega | (simp_all; done) | (simp_all; omega)
     ·rw [i2_1]; exact R44.rev_step (by omega)
     ·rw [List.length_append, i2_2, sub_length _ _ _ (by omega)]; omega
    ·try dsimp only
     first | omega | (simp; omega) | (simp_all; omega)
   ·refine J_exit (ne_ (re_ (kh_ (n_ (q_ ?_)))))
    refine g_ (s_ mv_ (s_ mv_ (js_ (vB (decide (s ≠ ([] : Bytes)))) (x_neq_s rfl rfl) (s_ av_ (s_ av_ (z_ (n_ (rt_ (kq_ (nr_ ?_))))))))))
    exact p2 Tryz.results43 rfl rfl ⟨t2 (eS c44k1_) (eB c44k2_), rfl⟩
  ·refine sk_ (kx_ (n_ (q_ (g_ (s_ mv_ (s_ av_ (s_ av_ (z_ (n_ (rt_ ?_))))))))))
   exact p2 Tryz.results43 rfl rfl ⟨t2 (eS c44k1_) (eB c44k2_), rfl⟩
set_option maxRecDepth 20000 in
theorem f45_ok (kind : Int) (a : Bytes) (b : Bytes) (w : World) (q0 : a.length ≤ 1000000) (q1 : b.length ≤ 1000000) : Calls Tryz.prog 45 #[vI kind, vS a, vS b] w (Gives [] w fun v L => v = Value.tuple #[vS ((R44.smK kind a b).1), vB ((R44.smK kind a b).2)] ∧ L = []) := by
 refine calls_J [] 25 Tryz.func45 rfl Tryz.ntmps45 [(0, _), (1, _), (2, _)] rfl rfl (Give.nil w) ?_
 refine q_ (g_ (s_ av_ (s_ av_ (z_ (n_ (q_ (q_ (g_ (s_ mv_ (z_ (n_ (k_ (q_ (g_ (s_ (x_eql_i rfl rfl) (s_ av_ (z_ (n_ ?_))))))))))))))))))
 refine ifd (fun h1w h1 => ?_) (fun h1w h1 => ?_)
 ·refine q_ (g_ (s_ mv_ (s_ av_ (s_ av_ (z_ (n_ (rt_ (kq_ (nr_ ?_)))))))))
  exact p2 Tryz.results45 rfl rfl ⟨t2 (eS c44k3_) (eB c44k4_), rfl⟩
 ·refine q_ (g_ (s_ (x_eql_i rfl rfl) (s_ av_ (z_ (n_ ?_)))))
  refine ifd (fun h2w h2 => ?_) (fun h2w h2 => ?_)
  ·refine q_ (g_ (s_ mv_ (s_ mv_ (s_ (x_cat_s rfl rfl c44k11_) (s_ av_ (s_ av_ (z_ (n_ (rt_ (kq_ (nr_ ?_)))))))))))
   exact p2 Tryz.results45 rfl rfl ⟨t2 (eS c44k3_) (eB c44k4_), rfl⟩
  ·refine q_ (g_ (s_ (x_eql_i rfl rfl) (s_ av_ (z_ (n_ ?_)))))
   refine ifd (fun h3w h3 => ?_) (fun h3w h3 => ?_)
   ·refine q_ (g_ (s_ mv_ (s_ mv_ (s_ (x_len_s rfl Tryz.underlying9) (s_ mv_ (s_ (x_len_s rfl Tryz.underlying9) (s_ (x_leq_i rfl rfl) (s_ av_ (s_ av_ (z_ (n_ (rt_ ?_))))))))))))
    refine kq_ (nr_ ?_)
    exact p2 Tryz.results45 rfl rfl ⟨t2 (eS c44k3_) (eB c44k4_), rfl⟩
   ·refine sk_ (kx_ (n_ (q_ (g_ (s_ av_ (s_ av_ (z_ (n_ (rt_ ?_)))))))))
    exact p2 Tryz.results45 rfl rfl ⟨t2 (eS c44k3_) (eB c44k4_), rfl⟩
set_option maxRecDepth 20000 in
theorem f42_ok (s : Bytes) (kp : Addr) (kpx : Int) (w : World) (kpR : RO [] w (some kp) [vI kpx]) (q0 : s.length ≤ 1000000) : Calls Tryz.prog 42 #[vS s, vP kp] w (Gives [] w fun v L => v = Value.tuple #[vS ((R44.inK kpx s).1), vB ((R44.inK kpx s).2)] ∧ L = []) := by
 refine calls_J [] 10 Tryz.func42 rfl Tryz.ntmps42 [(0, _), (1, _)] rfl rfl (Give.nil w) ?_
 refine q_ (g_ (s_ av_ (s_ av_ (z_ (n_ (q_ (g_ (r_ (x_load_ptr kpR rfl Ty.sc3) (s_ mv_ (c0 (cl_ Ty.ca43) (fun w hS => f43_ok kpx s w hy_) ?_))))))))))
 have ha1 := R44.inK_len kpx s
 refine s_ (ex_ 0) (s_ (ex_ 1) (s_ av_ (s_ av_ (z_ (n_ (rt_ ?_))))))
 exact p2 Tryz.results42 rfl rfl ⟨rfl, rfl⟩
set_option maxRecDepth 20000 in
theorem f44_ok (a : Bytes) (b : Bytes) (kq : Addr) (kqx : Int) (w : World) (kqR : RO [] w (some kq) [vI kqx]) (q0 : a.length ≤ 1000000) (q1 : b.length ≤ 1000000) : Calls Tryz.prog 44 #[vS a, vS b, vP kq] w (Gives [] w fun v L => v = Value.tuple #[vS ((R44.smK kqx a b).1), vB ((R44.smK kqx a b).2)] ∧ L = []) := by
 refine calls_J [] 13 Tryz.func44 rfl Tryz.ntmps44 [(0, _), (1, _), (2, _)] rfl rfl (Give.nil w) ?_
 refine q_ (g_ (s_ av_ (s_ av_ (z_ (n_ (q_ (g_ (r_ (x_load_ptr kqR rfl Ty.sc3) (s_ mv_ (s_ mv_ (c0 (cl_ Ty.ca45) (fun w hS => f45_ok kqx a b w hy_ hy_) ?_)))))))))))
 have ha1 := R44.smK_len kqx a b
 refine s_ (ex_ 0) (s_ (ex_ 1) (s_ av_ (s_ av_ (z_ (n_ (rt_ ?_))))))
 exact p2 Tryz.results44 rfl rfl ⟨rfl, rfl⟩
set_option maxRecDepth 20000 in
theorem f19_ok (ki : Int) (ks : Int) (w : World) : Calls Tryz.prog 19 #[vI ki, vI ks] w (Gives [] w fun v L => ∃ bp : Nat, ∃ bq : Nat, v = vG [Value.func (.func 42) #[] #[pB bp 0], Value.func (.func 44) #[] #[pB bq 0]] ∧ L = [Ent.blk bp 3 [vI ki], Ent.blk bq 3 [vI ks]]) := by
 refine calls_J [] 8 Tryz.func19 rfl Tryz.ntmps19 [(0, _), (1, _)] rfl rfl (Give.nil w) ?_
 refine q_ (g_ (o_ (bx1 fun b1 => ?_)))
 refine o_ (bx1 fun b2 => ?_)
 refine o_ (al_ Ty.ze41 fun b3 => ?_)
 refine z_ (n_ (q_ (g_ (js_ (Value.func (.func 42) #[] #[pB b1 0]) (x_makeFunc rfl rfl) (js_ (Value.func (.func 44) #[] #[pB b2 0]) (x_makeFunc rfl rfl) (js_ (vG [Value.func (.func 42) #[] #[pB b1 0], Value.func (.func 44) #[] #[pB b2 0]]) (x_build (by kernel_rfl)) (o_ (stG 0 Ty.sz41 ?_))))))))
 refine z_ (n_ (rt_ ?_))
 refine JX_rets [_] _ Tryz.results19 (fun w h => ⟨⟨_, rfl, load_blkN 0 [Value.func (.func 42) #[] #[pB b1 0], Value.func (.func 44) #[] #[pB b2 0]] h rfl Ty.ag41 Ty.sz41 rfl⟩, trivial⟩) rfl [Ent.blk b1 3 [vI ki], Ent.blk b2 3 [vI ks]] (fun _ h => ((h.front 1 _ rfl).front 2 _ rfl).keep [true, true, false] rfl) ⟨b1, b2, ?_, ?_⟩
 ·rfl
 ·rfl
set_option maxRecDepth 20000 in
theorem f38_ok (s : Bytes) (w : World) (q0 : s.length ≤ 9223372036854775807) : Calls Tryz.prog 38 #[vS s] w (Gives [] w fun v L => v = vB (decide ((1000 : Int) < ((s.length : Nat) : Int))) ∧ L = []) := by
 refine calls_J [] 6 Tryz.func38 rfl Tryz.ntmps38 [(0, _)] rfl rfl (Give.nil w) ?_
 refine q_ (g_ (s_ av_ (z_ (n_ (q_ (g_ (s_ mv_ (s_ (x_len_s rfl Tryz.underlying9) (s_ (x_gtr_i rfl rfl) (s_ av_ (z_ (n_ (rt_ ?_)))))))))))))
 exact p1 Tryz.results38 rfl ⟨rfl, rfl⟩
set_option maxRecDepth 20000 in
theorem f67_ok (rs : List Bytes) (rsA : Option Addr) (rsC : Nat) (w : World) (rsR : RO [] w rsA (rs.map vS)) (q0 : rs.length ≤ 9223372036854775807) (q1 : ∀ i, (rs.getD i []).length ≤ 9223372036854775807) : Calls Tryz.prog 67 #[vL rsA rs.length rsC, Value.func (.func 38) #[] #[]] w (Gives [] w fun v L => ∃ r : Int, v = vI r ∧ L = [] ∧ (-1 ≤ r) ∧ (decide (0 ≤ r) = R44.long rs)) := by
 refine calls_J [] 19 Tryz.func67 rfl Tryz.ntmps67 [(0, _), (1, _)] rfl rfl (Give.nil w) ?_
 refine q_ (g_ (s_ av_ (z_ (n_ (q_ (q_ (g_ (s_ mv_ (s_ (lnS Tryz.underlying22) (s_ mv_ (z_ (n_ (k_ ?_)))))))))))))
 refine J_loop (X := Nat) (fun (k : Nat) => (k ≤ rs.length) ∧ (∀ i, i < k → (rs.getD i []).length ≤ 1000)) (fun (k : Nat) => [(0, vL rsA rs.length rsC), (1, Value.func (.func 38) #[] #[]), (7, vI ((rs.length : Nat) : Int)), (8, vI ((k : Nat) : Int))]) (fun (k : Nat) => []) (fun (k : Nat) => rs.length - k) (0 : Nat) ?_ ⟨rfl, rfl, rfl, rfl, trivial⟩ (fun _ h => h) ?_
 ·try dsimp only
  refine ⟨?_, ?_⟩
  ·first | rfl | omega | (simp_all; done) | (simp_all; omega)
  ·intro i hi; omega
 intro k hI1
 obtain ⟨i1_0, i1_1⟩ := hI1
 try dsimp only at i1_0
 try dsimp only at i1_1
 have hqk := q1 k
 try dsimp only
 refine q_ (g_ (s_ (x_lss_i rfl rfl) (z_ (n_ (q_ ?_)))))
 refine ifd (fun h1w h1 => ?_) (fun h1w h1 => ?_)
 ·refine sk_ (n_ (q_ (k_ (q_ (g_ (s_ mv_ (s_ av_ (z_ (n_ (q_ (g_ (s_ mv_ (s_ mv_ (s_ mv_ (r_ (ixM (cells_ro rsR) Tryz.underlying22 Ty.sz9) (r_ (ldM vS [] (cells_ro rsR) Ty.sc9) (c0 (x_callv (first := []) (caps := []) rfl Ty.ca38 rfl) (fun w hS => f38_ok _ w hy_) ?_)))))))))))))))))
  refine z_ (n_ ?_)
  refine ifd (fun h2w h2 => ?_) (fun h2w h2 => ?_)
  ·refine q_ (g_ (s_ mv_ (s_ av_ (z_ (n_ (rt_ (kq_ (nr_ (rr_ (kq_ (nr_ ?_)))))))))))
   refine JX_rets [_] _ Tryz.results67 (fun w h => ⟨rfl, trivial⟩) rfl _ (fun _ h => h) ⟨((k : Nat) : Int), ?_, ?_, ?_, ?_⟩
   ·rfl
   ·rfl
   ·omega
   ·exact c44k12_
  ·refine sk_ (kx_ (n_ (g_ (s_ (x_add_n (a := k) (b := 1) rfl rfl (by omega)) (s_ mv_ (z_ ?_))))))
   refine JX_round (k + 1 : Nat) ?_ ?_ ⟨rfl, rfl, rfl, rfl, trivial⟩ (fun _ h => h)
   ·try dsimp only
    refine ⟨?_, ?_⟩
    ·first | rfl | omega | (simp_all; done) | (simp_all; omega)
    ·intro i hi
     by_cases hik : i = k
     ·subst hik; omega
     ·exact i1_1 i (by omega)
   ·try dsimp only
    first | omega | (simp; omega) | (simp_all; omega)
 ·refine J_exit (ne_ (re_ (kh_ (n_ (q_ ?_)))))
  refine g_ (s_ av_ (z_ (n_ (rt_ ?_))))
  refine JX_rets [_] _ Tryz.results67 (fun w h => ⟨rfl, trivial⟩) rfl _ (fun _ h => h) ⟨(-1), ?_, ?_, ?_, ?_⟩
  ·rfl
  ·rfl
  ·omega
  ·exact c44k12_
set_option maxRecDepth 20000 in
theorem f37_ok (rs : List Bytes) (rsA : Option Addr) (rsC : Nat) (w : World) (rsR : RO [] w rsA (rs.map vS)) (q0 : rs.length ≤ 9223372036854775807) (q1 : ∀ i, (rs.getD i []).length ≤ 9223372036854775807) : Calls Tryz.prog 37 #[vL rsA rs.length rsC, Value.func (.func 38) #[] #[]] w (Gives [] w fun v L => v = vB (R44.long rs) ∧ L = []) := by
 refine calls_J [] 9 Tryz.func37 rfl Tryz.ntmps37 [(0, _), (1, _)] rfl rfl (Give.nil w) ?_
 refine q_ (g_ (s_ av_ (z_ (n_ (q_ (g_ (s_ mv_ (s_ mv_ ?_))))))))
 refine c1 (cl_ Ty.ca67) (fun w hS => f67_ok rs rsA rsC w (rno rsR hS) hy_ hy_) ?_
 rintro _ _ ⟨r1, rfl, rfl, hf2, hf3⟩
 refine s_ (x_geq_i rfl rfl) (s_ av_ (z_ (n_ (rt_ ?_))))
 exact p1 Tryz.results37 rfl ⟨(eB (by assumption)), rfl⟩
set_option maxRecDepth 20000 in
theorem f39_ok (rs : List Bytes) (rsA : Option Addr) (rsC : Nat) (w : World) (rsR : RO [] w rsA (rs.map vS)) (q0 : rs.length ≤ 1000000) (q1 : ∀ i, (rs.getD i []).length ≤ 1000000) : Calls Tryz.prog 39 #[vL rsA rs.length rsC, Value.nilFunc] w (Gives [] w fun v L => ∃ A2 : Option Addr, ∃ c2 : Nat, v = Value.tuple #[vL A2 rs.length c2, vI 0, vI 0] ∧ L = [Ent.row (.slice A2 rs.length c2) 9 1 rs.length (rs.map vS)]) := by
 refine calls_J [] 44 Tryz.func39 rfl Tryz.ntmps39 [(0, _), (1, _)] rfl rfl (Give.nil w) ?_
 refine q_ (g_ (s_ av_ (s_ av_ (s_ av_ (z_ (n_ (q_ (q_ (g_ (s_ mv_ (s_ (x_eql_nil rfl rfl Tryz.underlying38) (z_ (n_ (ift (q_ (g_ (s_ mv_ ?_)))))))))))))))))
 refine c1 (cl_ Ty.ca68) (fun w hS => f68_ok rs rsA rsC w (rno rsR hS) hy_) ?_
 rintro _ _ ⟨e1, e2, rfl, rfl⟩
 refine s_ av_ (s_ av_ (s_ av_ (z_ (n_ (rt_ (nr_ ?_))))))
 refine JX_rets [_, _, _] (Value.tuple #[_, _, _]) Tryz.results39 (fun w h => ⟨rfl, rfl, rfl, trivial⟩) rfl _ (fun _ h => h) ⟨e1, e2, ?_, ?_⟩
 ·rfl
 ·rfl
set_option maxRecDepth 20000 in
theorem f39x_ok (rs : List Bytes) (rsA : Option Addr) (rsC : Nat) (kp : Addr) (kpx : Int) (w : World) (rsR : RO [] w rsA (rs.map vS)) (kpR : RO [] w (some kp) [vI kpx]) (q0 : rs.length ≤ 1000000) (q1 : ∀ i, (rs.getD i []).length ≤ 1000000) : Calls Tryz.prog 39 #[vL rsA rs.length rsC, Value.func (.func 42) #[] #[vP kp]] w (Gives [] w fun v L => ∃ out : List Bytes, ∃ A2 : Option Addr, ∃ c2 : Nat, ∃ n : Int, ∃ e : Int, v = Value.tuple #[vL A2 out.length c2, vI n, vI e] ∧ L = [Ent.row (.slice A2 out.length c2) 9 1 out.length (out.map vS)] ∧ ((out, n, e) = R44.inR (R44.inK kpx) rs)) := by
 refine calls_J [] 44 Tryz.func39 rfl Tryz.ntmps39 [(0, _), (1, _)] rfl rfl (Give.nil w) ?_
 refine q_ (g_ (s_ av_ (s_ av_ (s_ av_ (z_ (n_ (q_ (q_ (g_ (s_ mv_ (s_ (x_eql_fn rfl rfl Tryz.underlying38 rfl) (z_ (n_ (iff_ (sk_ (n_ (q_ (g_ (s_ av_ ?_)))))))))))))))))))
 refine z_ (n_ (q_ (q_ (g_ (s_ mv_ (s_ (lnS Tryz.underlying22) (s_ mv_ (z_ (n_ (k_ ?_))))))))))
 refine J_loop (X := Nat × (List Bytes) × (Option Addr) × Nat) (fun (⟨k, out, outA, outC⟩ : Nat × (List Bytes) × (Option Addr) × Nat) => (k ≤ rs.length) ∧ (R44.inTo (R44.inK kpx) out (rs.drop k) = R44.inputs (R44.inK kpx) rs) ∧ (out.length ≤ k)) (fun (⟨k, out, outA, outC⟩ : Nat × (List Bytes) × (Option Addr) × Nat) => [(0, vL rsA rs.length rsC), (1, Value.func (.func 42) #[] #[vP kp]), (7, vL outA out.length outC), (16, vL rsA rs.length rsC), (17, vI ((rs.length : Nat) : Int)), (18, vI ((k : Nat) : Int))]) (fun (⟨k, out, outA, outC⟩ : Nat × (List Bytes) × (Option Addr) × Nat) => [Ent.row (.slice outA out.length outC) 9 1 out.length (out.map vS)]) (fun (⟨k, out, outA, outC⟩ : Nat × (List Bytes) × (Option Addr) × Nat) => rs.length - k) ((0, ([] : List Bytes), none, 0) : Nat × (List Bytes) × (Option Addr) × Nat) ?_ ⟨rfl, rfl, rfl, rfl, rfl, rfl, trivial⟩ (fun _ h => (h.nilrow 9 1).keep [true] rfl) ?_
 ·try dsimp only
  refine ⟨?_, ?_, ?_⟩
  ·first | rfl | omega | (simp_all; done) | (simp_all; omega)
  ·exact R44.inTo_start _ _
  ·exact Nat.le_refl _
 rintro ⟨k, out, outA, outC⟩ hI1
 obtain ⟨i1_0, i1_1, i1_2⟩ := hI1
 try dsimp only at i1_0
 try dsimp only at i1_1
 try dsimp only at i1_2
 have hqk := q1 k
 try dsimp only
 refine q_ (g_ (s_ (x_lss_i rfl rfl) (z_ (n_ (q_ ?_)))))
 refine ifd (fun h1w h1 => ?_) (fun h1w h1 => ?_)
 ·refine sk_ (n_ (q_ (k_ (q_ (g_ (r_ (ixM (cells_ro rsR) Tryz.underlying22 Ty.sz9) (r_ (ldM vS [] (cells_ro rsR) Ty.sc9) (s_ av_ (z_ (n_ (q_ (g_ (s_ mv_ (s_ mv_ (c0 (x_callv (first := []) (caps := [vP kp]) rfl Ty.ca42 rfl) (fun w hS => f42_ok _ kp kpx w (rno kpR hS) hy_) ?_)))))))))))))))
  have ha2 := R44.inK_len kpx (rs.getD k [])
  try simp only [List.length_cons, List.length_nil, Nat.zero_add, Nat.reduceAdd, Nat.reduceMul] at ha2
  refine s_ mv_ (s_ (ex_ 0) (s_ (ex_ 1) (s_ av_ (s_ av_ (z_ (n_ (q_ (q_ (g_ (s_ mv_ (s_ (x_not rfl) (z_ (n_ ?_)))))))))))))
  refine if_ (fun h3 => ?_) (fun h3 => ?_)
  ·have h3w := h3
   have h3 : ((R44.inK kpx (rs.getD k [])).2) = false := bnot_true h3
   refine J_exit (ne_ (kh_ (n_ (g_ ?_))))
   refine s_ (x_add_n (a := k) (b := 1) rfl rfl (by omega)) (s_ mv_ (z_ ?_))
   refine JX_round ((k + 1, out, outA, outC) : Nat × (List Bytes) × (Option Addr) × Nat) ?_ ?_ ⟨rfl, rfl, rfl, rfl, rfl, rfl, trivial⟩ (fun _ h => h)
   ·try dsimp only
    refine ⟨?_, ?_, ?_⟩
    ·first | rfl | omega | (simp_all; done) | (simp_all; omega)
    ·exact c44k13_
    ·first | omega | (rw [List.length_append, List.length_singleton]; omega)
   ·try dsimp only
    first | omega | (simp; omega) | (simp_all; omega)
  ·have h3w := h3
   have h3 : ((R44.inK kpx (rs.getD k [])).2) = true := bnot_false h3
   refine sk_ (n_ (q_ (q_ (g_ (s_ mv_ (s_ (x_len_s rfl Tryz.underlying9) (s_ (x_gtr_i rfl rfl) (z_ (xk_ [0, 1, 7, 16, 17, 18, 10, 32] ?_)))))))))
   refine n_ ?_
   refine ifd (fun h4w h4 => ?_) (fun h4w h4 => ?_)
   ·refine q_ (g_ (s_ av_ (s_ av_ (s_ av_ (z_ (n_ (rt_ (nr_ (kq_ (nr_ (rr_ (kq_ (nr_ ?_)))))))))))))
    refine JX_rets [_, _, _] (Value.tuple #[_, _, _]) Tryz.results39 (fun w h => ⟨rfl, rfl, rfl, trivial⟩) rfl [Ent.row (.slice none ([] : List Bytes).length 0) 9 1 ([] : List Bytes).length (([] : List Bytes).map vS)] (fun _ h => (h.nilrow 9 1).keep [true, false] rfl) ⟨([] : List Bytes), none, 0, 0, 8, ?_, ?_, ?_⟩
    ·have e_x0 : (0 : Nat) = (([] : List Bytes).length) := by first | rfl | omega | (simp_all; done) | (simp_all; omega)
     exact congrArg (fun (x0 : Nat) => Value.tuple #[vL none x0 0, vI 0, vI 8]) e_x0
    ·rfl
    ·exact c44k14_
   ·refine sk_ (n_ (g_ (s_ mv_ (s_ mv_ (o_ (O_buildSlice (cs := [vS ((R44.inK kpx (rs.getD k [])).1)]) Tryz.underlying22 Ty.sz9 Ty.ze9 (by decide) (by decide) (by kernel_rfl) fun b5 => ?_))))))
    refine o_ (O_append_m 1 vS out [(R44.inK kpx (rs.getD k [])).1] Tryz.underlying22 Ty.sz9 Ty.by9 Ty.ze9 rfl rfl rfl rfl rfl (fun _ => rfl) (cells_blk 0 (off := 0) (m := 1) rfl rfl) lt_ lt_ fun A6 c7 => ?_)
    refine s_ av_ (z_ (kx_ (n_ (g_ (s_ (x_add_n (a := k) (b := 1) rfl rfl (by omega)) (s_ mv_ (z_ ?_)))))))
    refine JX_round ((k + 1, out ++ [(R44.inK kpx (rs.getD k [])).1], A6, c7) : Nat × (List Bytes) × (Option Addr) × Nat) ?_ ?_ ⟨rfl, rfl, rfl, rfl, rfl, rfl, trivial⟩ (fun _ h => h.keep [false, true] rfl)
    ·try dsimp only
     refine ⟨?_, ?_, ?_⟩
     ·first | rfl | omega | (simp_all; done) | (simp_all; omega)
     ·exact c44k13_
     ·first | omega | (rw [List.length_append, List.length_singleton]; omega)
    ·try dsimp only
     first | omega | (simp; omega) | (simp_all; omega)
 ·refine J_exit (ne_ (re_ (kh_ (n_ (q_ ?_)))))
  refine g_ (s_ mv_ (s_ mv_ (s_ (lnS Tryz.underlying22) (s_ mv_ (s_ (lnS Tryz.underlying22) (s_ (x_sub_i (a := ((rs.length : Nat) : Int)) (b := ((out.length : Nat) : Int)) rfl rfl (by omega) (by omega)) (s_ av_ (s_ av_ (s_ av_ ?_)))))))))
  refine z_ (n_ (rt_ ?_))
  refine JX_rets [_, _, _] (Value.tuple #[_, _, _]) Tryz.results39 (fun w h => ⟨rfl, rfl, rfl, trivial⟩) rfl _ (fun _ h => h) ⟨out, outA, outC, ((rs.length : Nat) : Int) - ((out.length : Nat) : Int), 0, ?_, ?_, ?_⟩
  ·rfl
  ·rfl
  ·exact c44k14_
set_option maxRecDepth 20000 in
theorem f41_ok (rs : List Bytes) (rsA : Option Addr) (rsC : Nat) (l : List SortField) (lA : Option Addr) (lC : Nat) (w : World) (rsR : RO [] w rsA (rs.map vS)) (lR : RO [] w lA (l.flatMap SortField.enc)) : Calls Tryz.prog 41 #[vL rsA rs.length rsC, vL lA l.length lC, Value.nilFunc] w (Gives [] w fun v L => v = Value.tuple #[vL rsA rs.length rsC, vI 0] ∧ L = []) := by
 refine calls_J [] 67 Tryz.func41 rfl Tryz.ntmps41 [(0, _), (1, _), (2, _)] rfl rfl (Give.nil w) ?_
 refine q_ (g_ (s_ av_ (s_ av_ (z_ (n_ (q_ (q_ (g_ (s_ mv_ (s_ (x_eql_nil rfl rfl Tryz.underlying39) (z_ (n_ (ift (q_ (g_ (s_ mv_ (s_ av_ (s_ av_ ?_))))))))))))))))))
 refine z_ (n_ (rt_ (nr_ ?_)))
 exact p2 Tryz.results41 rfl rfl ⟨rfl, rfl⟩
set_option maxRecDepth 20000 in
theorem f41x_ok (rs : List Bytes) (rsA : Option Addr) (rsC : Nat) (l : List SortField) (lA : Option Addr) (lC : Nat) (kq : Addr) (kqx : Int) (w : World) (rsR : RO [] w rsA (rs.map vS)) (lR : RO [] w lA (l.flatMap SortField.enc)) (kqR : RO [] w (some kq) [vI kqx]) (q0 : rs.length ≤ 1000000) (q1 : ∀ i, (rs.getD i []).length ≤ 1000000) (q2 : R44.valid l = true) : Calls Tryz.prog 41 #[vL rsA rs.length rsC, vL lA l.length lC, Value.func (.func 44) #[] #[vP kq]] w (Gives [] w fun v L => ∃ out : List Bytes, ∃ A2 : Option Addr, ∃ c2 : Nat, ∃ e : Int, v = Value.tuple #[vL A2 out.length c2, vI e] ∧ L = [Ent.row (.slice A2 out.length c2) 9 1 out.length (out.map vS)] ∧ ((out, e) = R44.sums (R44.cmpL l) (R44.smK kqx) [] rs)) := by
 refine calls_J [] 67 Tryz.func41 rfl Tryz.ntmps41 [(0, _), (1, _), (2, _)] rfl rfl (Give.nil w) ?_
 refine q_ (g_ (s_ av_ (s_ av_ (z_ (n_ (q_ (q_ (g_ (s_ mv_ (s_ (x_eql_fn rfl rfl Tryz.underlying39 rfl) (z_ (n_ (iff_ (sk_ (n_ (q_ (g_ (s_ av_ (z_ (n_ (q_ (q_ (g_ ?_)))))))))))))))))))))))
 refine s_ mv_ (s_ (lnS Tryz.underlying22) (s_ mv_ (z_ (n_ (k_ ?_)))))
 refine J_loop (X := Nat × (List Bytes) × (Option Addr) × Nat) (fun (⟨k, out, outA, outC⟩ : Nat × (List Bytes) × (Option Addr) × Nat) => (k ≤ rs.length) ∧ (R44.sums (R44.cmpL l) (R44.smK kqx) out (rs.drop k) = R44.sums (R44.cmpL l) (R44.smK kqx) [] rs) ∧ (out.length ≤ k) ∧ (∀ i, (out.getD i []).length ≤ 1000000)) (fun (⟨k, out, outA, outC⟩ : Nat × (List Bytes) × (Option Addr) × Nat) => [(1, vL lA l.length lC), (2, Value.func (.func 44) #[] #[vP kq]), (8, vL outA out.length outC), (17, vL rsA rs.length rsC), (18, vI ((rs.length : Nat) : Int)), (19, vI ((k : Nat) : Int))]) (fun (⟨k, out, outA, outC⟩ : Nat × (List Bytes) × (Option Addr) × Nat) => [Ent.row (.slice outA out.length outC) 9 1 out.length (out.map vS)]) (fun (⟨k, out, outA, outC⟩ : Nat × (List Bytes) × (Option Addr) × Nat) => rs.length - k) ((0, ([] : List Bytes), none, 0) : Nat × (List Bytes) × (Option Addr) × Nat) ?_ ⟨rfl, rfl, rfl, rfl, rfl, rfl, trivial⟩ (fun _ h => (h.nilrow 9 1).keep [true] rfl) ?_
 ·try dsimp only
  refine ⟨?_, ?_, ?_, ?_⟩
  ·first | rfl | omega | (simp_all; done) | (simp_all; omega)
  ·rfl
  ·exact Nat.le_refl _
  ·intro i; exact Nat.zero_le _
 rintro ⟨k, out, outA, outC⟩ hI1
 obtain ⟨i1_0, i1_1, i1_2, i1_3⟩ := hI1
 try dsimp only at i1_0
 try dsimp only at i1_1
 try dsimp only at i1_2
 try dsimp only at i1_3
 have hqk := q1 k
 have hql := i1_3 (out.length - 1)
 try dsimp only
 refine q_ (g_ (s_ (x_lss_i rfl rfl) (z_ (n_ (q_ ?_)))))
 refine ifd (fun h1w h1 => ?_) (fun h1w h1 => ?_)
 ·refine sk_ (n_ (q_ (k_ (q_ (g_ (r_ (ixM (cells_ro rsR) Tryz.underlying22 Ty.sz9) (r_ (ldM vS [] (cells_ro rsR) Ty.sc9) (s_ av_ (z_ (n_ (q_ (g_ (s_ mv_ (s_ (lnS Tryz.underlying22) (s_ (x_sub_i (a := ((out.length : Nat) : Int)) (b := 1) rfl rfl (by omega) (by omega)) (s_ av_ (z_ (n_ (q_ (q_ (g_ ?_)))))))))))))))))))))
  refine s_ mv_ (s_ (x_geq_i rfl rfl) (s_ mv_ ?_))
  refine and_ 8 (decide (R44.cmpL l (out.getD (out.length - 1) []) (rs.getD k []) = 0)) (fun g2 => ?_) ?_
  ·have g2r := g2
   have g2r := of_decide_eq_true g2r
   refine sg_ g2 mv_ (sg_ g2 mv_ (rg_ g2 (ixM (k := (out.length - 1)) (hy := (ix_nat rfl (by omega))) (cells_row 0 rfl) Tryz.underlying22 Ty.sz9) (rg_ g2 (ldM vS [] (cells_row 0 rfl) Ty.sc9) (sg_ g2 mv_ (sg_ g2 mv_ (c0g g2 (cl_ Ty.ca33) (fun w hS => f33_ok _ _ l lA lC w (rno lR hS) hy_ hy_ hy_) ?_))))))
   have ha3 := R44.cmpL_bd l (out.getD (out.length - 1) []) (rs.getD k [])
   try simp only [List.length_cons, List.length_nil, Nat.zero_add, Nat.reduceAdd, Nat.reduceMul] at ha3
   refine sg_ g2 (x_eql_i rfl rfl) ?_
   exact cr_
  refine z_ (n_ ?_)
  refine if_ (fun h4 => ?_) (fun h4 => ?_)
  ·have h4w := h4
   have ⟨h4, h5⟩ := band_true h4
   have h4 := of_decide_eq_true h4
   have h5 := of_decide_eq_true h5
   refine q_ (g_ (s_ mv_ (s_ mv_ (s_ mv_ (r_ (ixM (k := (out.length - 1)) (hy := (ix_nat rfl (by omega))) (cells_row 0 rfl) Tryz.underlying22 Ty.sz9) (r_ (ldM vS [] (cells_row 0 rfl) Ty.sc9) (s_ mv_ (c0 (x_callv (first := []) (caps := [vP kq]) rfl Ty.ca44 rfl) (fun w hS => f44_ok _ _ kq kqx w (rno kqR hS) hy_ hy_) ?_))))))))
   have ha6 := R44.smK_len kqx (out.getD (out.length - 1) []) (rs.getD k [])
   try simp only [List.length_cons, List.length_nil, Nat.zero_add, Nat.reduceAdd, Nat.reduceMul] at ha6
   refine s_ mv_ (s_ (ex_ 0) (s_ (ex_ 1) (s_ av_ (s_ av_ (z_ (xk_ [1, 2, 8, 17, 18, 19, 10, 11, 12, 13] ?_))))))
   refine n_ (q_ (g_ (s_ mv_ (z_ (n_ ?_)))))
   refine if_ (fun h7 => ?_) (fun h7 => ?_)
   ·have h7w := h7
    refine q_ (q_ (g_ (s_ mv_ (s_ (x_len_s rfl Tryz.underlying9) (s_ (x_gtr_i rfl rfl) (z_ (n_ ?_)))))))
    refine ifd (fun h8w h8 => ?_) (fun h8w h8 => ?_)
    ·refine q_ (g_ (s_ av_ (s_ av_ (z_ (n_ (rt_ (nr_ (nr_ (kq_ (nr_ (rr_ (kq_ (nr_ ?_)))))))))))))
     refine JX_rets [_, _] (Value.tuple #[_, _]) Tryz.results41 (fun w h => ⟨rfl, rfl, trivial⟩) rfl [Ent.row (.slice none ([] : List Bytes).length 0) 9 1 ([] : List Bytes).length (([] : List Bytes).map vS)] (fun _ h => (h.nilrow 9 1).keep [true, false] rfl) ⟨([] : List Bytes), none, 0, 8, ?_, ?_, ?_⟩
     ·have e_x0 : (0 : Nat) = (([] : List Bytes).length) := by first | rfl | omega | (simp_all; done) | (simp_all; omega)
      exact congrArg (fun (x0 : Nat) => Value.tuple #[vL none x0 0, vI 8]) e_x0
     ·rfl
     ·exact c44k7_
    ·refine sk_ (n_ (q_ (q_ (g_ (s_ mv_ (s_ mv_ (s_ mv_ (c0 (cl_ Ty.ca33) (fun w hS => f33_ok _ _ l lA lC w (rno lR hS) hy_ hy_ hy_) ?_))))))))
     have ha9 := R44.cmpL_bd l ((R44.smK kqx (out.getD (out.length - 1) []) (rs.getD k [])).1) (rs.getD k [])
     try simp only [List.length_cons, List.length_nil, Nat.zero_add, Nat.reduceAdd, Nat.reduceMul] at ha9
     refine s_ (x_neq_i rfl rfl) (z_ (n_ ?_))
     refine ifd (fun h10w h10 => ?_) (fun h10w h10 => ?_)
     ·refine q_ (g_ (s_ av_ (s_ av_ (z_ (xk_ [1, 2, 8, 17, 18, 19, 10, 11, 12, 6, 7] ?_)))))
      refine n_ (rt_ (nr_ (nr_ (kq_ (nr_ (rr_ (kq_ (nr_ ?_))))))))
      refine JX_rets [_, _] (Value.tuple #[_, _]) Tryz.results41 (fun w h => ⟨rfl, rfl, trivial⟩) rfl [Ent.row (.slice none ([] : List Bytes).length 0) 9 1 ([] : List Bytes).length (([] : List Bytes).map vS)] (fun _ h => (h.nilrow 9 1).keep [true, false] rfl) ⟨([] : List Bytes), none, 0, 9, ?_, ?_, ?_⟩
      ·have e_x0 : (0 : Nat) = (([] : List Bytes).length) := by first | rfl | omega | (simp_all; done) | (simp_all; omega)
       exact congrArg (fun (x0 : Nat) => Value.tuple #[vL none x0 0, vI 9]) e_x0
      ·rfl
      ·exact c44k7_
     ·refine sk_ (n_ (q_ (g_ (s_ mv_ (s_ mv_ (s_ mv_ (r_ (ixM (k := (out.length - 1)) (hy := (ix_nat rfl (by omega))) (cells_row 0 rfl) Tryz.underlying22 Ty.sz9) (o_ (O_store_row_1 (a := (R44.smK kqx (out.getD (out.length - 1) []) (rs.getD k [])).1) (xs := out) (k := (out.length - 1)) 0 vS [Ent.row (.slice outA (out.set (out.length - 1) ((R44.smK kqx (out.getD (out.length - 1) []) (rs.getD k [])).1)).length outC) 9 1 (out.set (out.length - 1) ((R44.smK kqx (out.getD (out.length - 1) []) (rs.getD k [])).1)).length ((out.set (out.length - 1) ((R44.smK kqx (out.getD (out.length - 1) []) (rs.getD k [])).1)).map vS)] rfl rfl rfl Ty.sz9 rfl (fun _ => rfl) lt_ rfl ?_)))))))))
      refine JO_weaken (E' := [(1, vL lA l.length lC), (2, Value.func (.func 44) #[] #[vP kq]), (8, vL outA ((out.set (out.length - 1) ((R44.smK kqx (out.getD (out.length - 1) []) (rs.getD k [])).1)).length) outC), (17, vL rsA rs.length rsC), (18, vI ((rs.length : Nat) : Int)), (19, vI ((k : Nat) : Int)), (10, vS (rs.getD k [])), (11, vI (((out.length : Nat) : Int) - 1)), (12, vS ((R44.smK kqx (out.getD (out.length - 1) []) (rs.getD k [])).1)), (13, vB ((R44.smK kqx (out.getD (out.length - 1) []) (rs.getD k [])).2)), (48, vB ((R44.smK kqx (out.getD (out.length - 1) []) (rs.getD k [])).2)), (49, vS ((R44.smK kqx (out.getD (out.length - 1) []) (rs.getD k [])).1)), (50, vI ((((R44.smK kqx (out.getD (out.length - 1) []) (rs.getD k [])).1).length : Nat) : Int)), (51, vB (decide ((1000 : Int) < ((((R44.smK kqx (out.getD (out.length - 1) []) (rs.getD k [])).1).length : Nat) : Int)))), (52, vS ((R44.smK kqx (out.getD (out.length - 1) []) (rs.getD k [])).1)), (53, vS (rs.getD k [])), (54, vL lA l.length lC), (55, vI (R44.cmpL l ((R44.smK kqx (out.getD (out.length - 1) []) (rs.getD k [])).1) (rs.getD k []))), (56, vB (decide (R44.cmpL l ((R44.smK kqx (out.getD (out.length - 1) []) (rs.getD k [])).1) (rs.getD k []) ≠ 0))), (57, vL outA ((out.set (out.length - 1) ((R44.smK kqx (out.getD (out.length - 1) []) (rs.getD k [])).1)).length) outC), (58, vI (((out.length : Nat) : Int) - 1)), (59, vS ((R44.smK kqx (out.getD (out.length - 1) []) (rs.getD k [])).1)), (60, pA outA (out.length - 1))]) (L' := [Ent.row (.slice outA (out.set (out.length - 1) ((R44.smK kqx (out.getD (out.length - 1) []) (rs.getD k [])).1)).length outC) 9 1 (out.set (out.length - 1) ((R44.smK kqx (out.getD (out.length - 1) []) (rs.getD k [])).1)).length ((out.set (out.length - 1) ((R44.smK kqx (out.getD (out.length - 1) []) (rs.getD k [])).1)).map vS)]) ⟨rfl, rfl, (congrArg (fun n : Nat => some (Value.slice outA n outC)) (set_len out (out.length - 1) ((R44.smK kqx (out.getD (out.length - 1) []) (rs.getD k [])).1)).symm), rfl, rfl, rfl, rfl, rfl, rfl, rfl, rfl, rfl, rfl, rfl, rfl, rfl, rfl, rfl, rfl, (congrArg (fun n : Nat => some (Value.slice outA n outC)) (set_len out (out.length - 1) ((R44.smK kqx (out.getD (out.length - 1) []) (rs.getD k [])).1)).symm), rfl, rfl, rfl, trivial⟩ (fun _ h => h) ?_
      refine z_ (xk_ [1, 2, 8, 17, 18, 19, 10] ?_)
      refine n_ (J_exit (ne_ (kh_ (n_ (g_ (s_ (x_add_n (a := k) (b := 1) rfl rfl (by omega)) (s_ mv_ (z_ ?_))))))))
      refine JX_round ((k + 1, (out.set (out.length - 1) ((R44.smK kqx (out.getD (out.length - 1) []) (rs.getD k [])).1)), outA, outC) : Nat × (List Bytes) × (Option Addr) × Nat) ?_ ?_ ⟨rfl, rfl, rfl, rfl, rfl, rfl, trivial⟩ (fun _ h => h)
      ·try dsimp only
       refine ⟨?_, ?_, ?_, ?_⟩
       ·first | rfl | omega | (simp_all; done) | (simp_all; omega)
       ·exact c44k8_
       ·exact c44k9_
       ·exact c44k10_
      ·try dsimp only
       first | omega | (simp; omega) | (simp_all; omega)
   ·have h7w := h7
    refine sk_ (n_ (g_ (s_ mv_ (s_ mv_ (o_ (O_buildSlice (cs := [vS (rs.getD k [])]) Tryz.underlying22 Ty.sz9 Ty.ze9 (by decide) (by decide) (by kernel_rfl) fun b11 => ?_))))))
    refine o_ (O_append_m 1 vS out [(rs.getD k [])] Tryz.underlying22 Ty.sz9 Ty.by9 Ty.ze9 rfl rfl rfl rfl rfl (fun _ => rfl) (cells_blk 0 (off := 0) (m := 1) rfl rfl) lt_ lt_ fun A12 c13 => ?_)
    refine s_ av_ (z_ (kx_ (n_ (g_ (s_ (x_add_n (a := k) (b := 1) rfl rfl (by omega)) (s_ mv_ (z_ ?_)))))))
    refine JX_round ((k + 1, out ++ [(rs.getD k [])], A12, c13) : Nat × (List Bytes) × (Option Addr) × Nat) ?_ ?_ ⟨rfl, rfl, rfl, rfl, rfl, rfl, trivial⟩ (fun _ h => h.keep [false, true] rfl)
    ·try dsimp only
     refine ⟨?_, ?_, ?_, ?_⟩
     ·first | rfl | omega | (simp_all; done) | (simp_all; omega)
     ·exact c44k8_
     ·exact c44k9_
     ·exact c44k10_
    ·try dsimp only
     first | omega | (simp; omega) | (simp_all; omega)
  ·have h4w := h4
   simp only [Bool.and_eq_true, Bool.or_eq_true, Bool.and_eq_false_iff, Bool.or_eq_false_iff, Bool.not_eq_true', Bool.not_eq_false', decide_eq_true_eq, decide_eq_false_iff_not] at h4
   refine sk_ (n_ (g_ (s_ mv_ (s_ mv_ (o_ (O_buildSlice (cs := [vS (rs.getD k [])]) Tryz.underlying22 Ty.sz9 Ty.ze9 (by decide) (by decide) (by kernel_rfl) fun b14 => ?_))))))
   refine o_ (O_append_m 1 vS out [(rs.getD k [])] Tryz.underlying22 Ty.sz9 Ty.by9 Ty.ze9 rfl rfl rfl rfl rfl (fun _ => rfl) (cells_blk 0 (off := 0) (m := 1) rfl rfl) lt_ lt_ fun A15 c16 => ?_)
   refine s_ av_ (z_ (kx_ (n_ (g_ (s_ (x_add_n (a := k) (b := 1) rfl rfl (by omega)) (s_ mv_ (z_ ?_)))))))
   refine JX_round ((k + 1, out ++ [(rs.getD k [])], A15, c16) : Nat × (List Bytes) × (Option Addr) × Nat) ?_ ?_ ⟨rfl, rfl, rfl, rfl, rfl, rfl, trivial⟩ (fun _ h => h.keep [false, true] rfl)
   ·try dsimp only
    refine ⟨?_, ?_, ?_, ?_⟩
    ·first | rfl | omega | (simp_all; done) | (simp_all; omega)
    ·exact c44k8_
    ·exact c44k9_
    ·exact c44k10_
   ·try dsimp only
    first | omega | (simp; omega) | (simp_all; omega)
 ·refine J_exit (ne_ (re_ (kh_ (n_ (q_ ?_)))))
  refine g_ (s_ mv_ (s_ av_ (s_ av_ (z_ (n_ (rt_ ?_))))))
  refine JX_rets [_, _] (Value.tuple #[_, _]) Tryz.results41 (fun w h => ⟨rfl, rfl, trivial⟩) rfl _ (fun _ h => h) ⟨out, outA, outC, 0, ?_, ?_, ?_⟩
  ·rfl
  ·rfl
  ·exact c44k7_
end Go.Proofs.YtnfglkgahlaofaaGreatDoor

namespace Go.Proofs.YtnfglkgahlaofaaGreatDoor
open Go.GV
set_option linter.unusedVariables false
set_option linter.unusedSimpArgs false
set_option maxRecDepth 20000 in
theorem f40_ok (rws : List Rw) (rwsA : Option Addr) (rwsC : Nat) (n : Nat) (w : World) (rwsR : RO [] w rwsA (rws.flatMap Rw.enc)) (rwsN : ∀ i : Nat, RO [] w (rws.getD i default).sA (((rws.getD i default).s).map vS)) (q0 : 1 ≤ n) (q1 : n ≤ 1000000) : Calls Tryz.prog 40 #[vL rwsA rws.length rwsC, vI ((n : Nat) : Int)] w (Gives [] w fun v L => ∃ bp : Nat, ∃ bq : Nat, v = Value.func (.func 69) #[] #[pB bp 0, pB bq 0] ∧ L = [Ent.blk bp 23 [vL rwsA rws.length rwsC], Ent.blk bq 3 [vI ((n : Nat) : Int)]]) := by
 refine calls_J [] 9 Tryz.func40 rfl Tryz.ntmps40 [(0, _), (1, _)] rfl rfl (Give.nil w) ?_
 refine q_ (g_ (o_ (bx1 fun b1 => ?_)))
 refine o_ (bx1 fun b2 => ?_)
 refine s_ av_ (z_ (n_ (q_ (q_ (g_ (r_ (ld_ 0 Ty.sc3) (s_ (x_lss_i rfl rfl) (z_ (n_ ?_)))))))))
 refine ifd (fun h3w h3 => ?_) (fun h3w h3 => ?_)
 ·exfalso; omega
 ·refine sk_ (n_ (q_ (g_ (js_ (Value.func (.func 69) #[] #[pB b1 0, pB b2 0]) (x_makeFunc rfl rfl) (s_ av_ (z_ (n_ (rt_ ?_))))))))
  refine JX_rets [_] _ Tryz.results40 (fun w h => ⟨rfl, trivial⟩) rfl [Ent.blk b1 23 [vL rwsA rws.length rwsC], Ent.blk b2 3 [vI ((n : Nat) : Int)]] (fun _ h => (h.front 1 _ rfl).keep [true, true] rfl) ⟨b1, b2, ?_, ?_⟩
  ·rfl
  ·rfl
set_option maxRecDepth 20000 in
theorem f69_ok (yl : Nat) (X : Type) (I : List Part → X → Prop) (Lf : List Part → X → List Ent) (x0 : X) (bp : Nat) (bq : Nat) (rws : List Rw) (rwsA : Option Addr) (rwsC : Nat) (n : Nat) (w : World) (rwsR : RO (Lown (Ent.blk bp 23 [vL rwsA rws.length rwsC] :: Ent.blk bq 3 [vI ((n : Nat) : Int)] :: (Lf ([] : List Part) x0))) w rwsA (rws.flatMap Rw.enc)) (rwsN : ∀ i : Nat, RO (Lown (Ent.blk bp 23 [vL rwsA rws.length rwsC] :: Ent.blk bq 3 [vI ((n : Nat) : Int)] :: (Lf ([] : List Part) x0))) w (rws.getD i default).sA (((rws.getD i default).s).map vS)) (hY : YieldOk Tryz.prog yl (Lown (Ent.blk bp 23 [vL rwsA rws.length rwsC] :: Ent.blk bq 3 [vI ((n : Nat) : Int)] :: (Lf ([] : List Part) x0))) w Part.enc I Lf (R44.parts n rws rwsA)) (hI0 : I [] x0) (q2 : 1 ≤ n) (q3 : n ≤ 1000000) (q4 : rws.length ≤ 1000000) (q5 : rws.length ≤ rwsC) (hg : Give (Lown (Ent.blk bp 23 [vL rwsA rws.length rwsC] :: Ent.blk bq 3 [vI ((n : Nat) : Int)] :: (Lf ([] : List Part) x0))) w (Ent.blk bp 23 [vL rwsA rws.length rwsC] :: Ent.blk bq 3 [vI ((n : Nat) : Int)] :: (Lf ([] : List Part) x0))) : Calls Tryz.prog 69 #[Value.func (.yield yl) #[] #[], pB bp 0, pB bq 0] w (Gives (Lown (Ent.blk bp 23 [vL rwsA rws.length rwsC] :: Ent.blk bq 3 [vI ((n : Nat) : Int)] :: (Lf ([] : List Part) x0))) w fun v L => ∃ st : X, v = Value.tuple #[] ∧ L = ((Lf (R44.parts n rws rwsA) st)) ∧ (I (R44.parts n rws rwsA) st)) := by
 refine calls_J (Lown (Ent.blk bp 23 [vL rwsA rws.length rwsC] :: Ent.blk bq 3 [vI ((n : Nat) : Int)] :: (Lf ([] : List Part) x0))) 31 Tryz.func69 rfl Tryz.ntmps69 [(0, _), (1, _), (2, _)] rfl rfl hg ?_
 refine q_ (g_ (s_ av_ (z_ (n_ (k_ ?_)))))
 refine J_loop (X := Nat × (List Part) × X) (fun (⟨lo, pre, st⟩ : Nat × (List Part) × X) => (R44.PartJ n rws rwsA pre lo) ∧ (I pre st) ∧ (lo ≤ rws.length + n)) (fun (⟨lo, pre, st⟩ : Nat × (List Part) × X) => [(0, Value.func (.yield yl) #[] #[]), (1, pB bp 0), (2, pB bq 0), (4, vI ((lo : Nat) : Int))]) (fun (⟨lo, pre, st⟩ : Nat × (List Part) × X) => (Ent.blk bp 23 [vL rwsA rws.length rwsC] :: Ent.blk bq 3 [vI ((n : Nat) : Int)] :: (Lf pre st))) (fun (⟨lo, pre, st⟩ : Nat × (List Part) × X) => rws.length + n - lo) ((0, ([] : List Part), x0) : Nat × (List Part) × X) ?_ ⟨rfl, rfl, rfl, rfl, trivial⟩ (fun _ h => h) ?_
 ·try dsimp only
  refine ⟨?_, ?_, ?_⟩
  ·exact R44.PartJ.start
  ·exact hI0
  ·first | rfl | omega | (simp_all; done) | (simp_all; omega)
 rintro ⟨lo, pre, st⟩ hI1
 obtain ⟨i1_0, i1_1, i1_2⟩ := hI1
 try dsimp only at i1_0
 try dsimp only at i1_1
 try dsimp only at i1_2
 try dsimp only
 refine q_ (q_ (g_ (s_ mv_ (r_ (ld_ 0 Ty.sc23) (s_ (lnS Tryz.underlying23) (s_ (x_lss_i rfl rfl) (z_ (n_ ?_))))))))
 refine ifd (fun h1w h1 => ?_) (fun h1w h1 => ?_)
 ·refine sk_ (n_ (q_ (k_ (q_ ?_))))
  refine drB [] 7 Ty.mixed ?_
  refine jq_ 0 rfl (ld_ 1 Ty.sc3) (jq_ 1 rfl (ld_ 0 Ty.sc23) (jp_ 2 rfl mv_ (jp_ 3 rfl (x_subrow (lo := lo) (hi := rws.length) rfl Tryz.underlying23 Ty.sz22 (.inl rfl) (.inr ⟨rfl, rfl⟩) lt_ lt_) (jp_ 4 rfl (lnS Tryz.underlying23) (jp_ 5 rfl (x_min_n (a := n) (b := rws.length - lo) rfl rfl) (jp_ 6 rfl av_ ?_))))))
  refine JA_done (by kernel_rfl) gm_ ?_
  refine n_ (q_ (g_ (s_ mv_ (r_ (ld_ 0 Ty.sc23) (s_ mv_ (s_ mv_ (s_ mv_ (s_ (x_add_n (a := lo) (b := min n (rws.length - lo)) rfl rfl (by omega)) (s_ mv_ (s_ mv_ (s_ (x_add_n (a := lo) (b := min n (rws.length - lo)) rfl rfl (by omega)) ?_)))))))))))
  refine s_ (x_subrow3 (lo := lo) (hi := lo + (min n (rws.length - lo))) (mx := lo + (min n (rws.length - lo))) rfl Tryz.underlying23 Ty.sz22 rfl rfl rfl lt_ lt_ lt_) ?_
  refine JO_weaken (E' := [(0, Value.func (.yield yl) #[] #[]), (1, pB bp 0), (2, pB bq 0), (4, vI ((lo : Nat) : Int)), (6, vI ((lo : Nat) : Int)), (7, vL rwsA rws.length rwsC), (8, vI ((rws.length : Nat) : Int)), (9, vB (decide (((lo : Nat) : Int) < ((rws.length : Nat) : Int)))), (13, vI ((n : Nat) : Int)), (14, vL rwsA rws.length rwsC), (15, vI ((lo : Nat) : Int)), (16, vL (subA rwsA rwsC lo 1) (rws.length - lo) (rwsC - lo)), (17, vI ((rws.length - lo : Nat) : Int)), (18, vI ((min n (rws.length - lo) : Nat) : Int)), (5, vI ((min n (rws.length - lo) : Nat) : Int)), (19, Value.func (.yield yl) #[] #[]), (20, vL rwsA rws.length rwsC), (21, vI ((lo : Nat) : Int)), (22, vI ((lo : Nat) : Int)), (23, vI ((min n (rws.length - lo) : Nat) : Int)), (24, vI ((lo + (min n (rws.length - lo)) : Nat) : Int)), (25, vI ((lo : Nat) : Int)), (26, vI ((min n (rws.length - lo) : Nat) : Int)), (27, vI ((lo + (min n (rws.length - lo)) : Nat) : Int)), (28, vL (subA rwsA (lo + (min n (rws.length - lo))) lo 1) (min n (rws.length - lo)) (min n (rws.length - lo)))]) (L' := (Ent.blk bp 23 [vL rwsA rws.length rwsC] :: Ent.blk bq 3 [vI ((n : Nat) : Int)] :: (Lf pre st))) ⟨rfl, rfl, rfl, rfl, rfl, rfl, rfl, rfl, rfl, rfl, rfl, rfl, rfl, rfl, rfl, rfl, rfl, rfl, rfl, rfl, rfl, rfl, rfl, rfl, (sl_ lt_ lt_), trivial⟩ (fun _ h => h) ?_
  refine JO_yield hY (pre := pre) (a := (Part.mk ((rws.drop lo).take (min n (rws.length - lo))) (subA rwsA (lo + (min n (rws.length - lo))) lo 1) (min n (rws.length - lo)))) (st := st) (i1_0.yield q2 (by omega)) i1_1 [Ent.blk bp 23 [vL rwsA rws.length rwsC], Ent.blk bq 3 [vI ((n : Nat) : Int)]] rfl trivial rfl R44.part_enc (fun _ h => h) (fun st2 hI3 => ?_)
  refine jr_ (vB false) (z_ (xk_ [0, 1, 2, 4, 30] ?_))
  refine n_ (iff_ (sk_ (kx_ (n_ (g_ (s_ mv_ (r_ (ld_ 1 Ty.sc3) (s_ (x_add_n (a := lo) (b := n) rfl rfl (by omega)) (s_ av_ (z_ ?_))))))))))
  refine JX_round ((lo + n, (pre ++ [(Part.mk ((rws.drop lo).take (min n (rws.length - lo))) (subA rwsA (lo + (min n (rws.length - lo))) lo 1) (min n (rws.length - lo)))]), st2) : Nat × (List Part) × X) ?_ ?_ ⟨rfl, rfl, rfl, rfl, trivial⟩ (fun _ h => h)
  ·try dsimp only
   refine ⟨?_, ?_, ?_⟩
   ·exact i1_0.step q2 (by omega)
   ·assumption
   ·first | rfl | omega | (simp_all; done) | (simp_all; omega)
  ·try dsimp only
   first | omega | (simp; omega) | (simp_all; omega)
 ·refine J_exit (ne_ (re_ (kh_ ?_)))
  refine JX_end0 Tryz.results69 ((Lf pre st)) (fun _ h => h.keepN 2 [false, false] rfl) ⟨st, ?_, ?_, ?_⟩
  ·rfl
  ·rw [i1_0.done (by omega)]
  ·rw [← i1_0.done (by omega)]; assumption
end Go.Proofs.YtnfglkgahlaofaaGreatDoor
