/- C44q, Pl44l, C44r, C44s in one text. -/
import Derived.Test.YtnfglkgahlaofaaGreatDoorAll7
import Derived.Test.YtnfglkgahlaofaaGreatDoorAll11
import Derived.Test.YtnfglkgahlaofaaGreatDoorC44a
import Derived.Test.YtnfglkgahlaofaaGreatDoorAll6
import Derived.Lib.Join
namespace Go.Proofs.YtnfglkgahlaofaaGreatDoor
open Go.GV
set_option linter.unusedVariables false
set_option linter.unusedSimpArgs false
theorem c44q2_ {p : Prop} (h : p := by first | exact R44.ix_hit (by omega) i1_1 (by assumption) | exact R44.ix_end (by omega) i1_1) : p := h
set_option maxRecDepth 20000 in
theorem f53_ok (s : Bytes) (w : World) (q0 : s.length ≤ 1000000) : Calls Tryz.prog 53 #[vS s] w (GivesW [] w fun v L wx => ∃ out : List Bytes, ∃ outA : Option Addr, ∃ outC : Nat, v = vL outA out.length outC ∧ L = [] ∧ RO (List.range w.heap.size) wx outA (out.map vS) ∧ out.length ≤ outC ∧ (out = R44.words s)) := by
 refine calls_JW [] 5 Tryz.func53 rfl Tryz.ntmps53 [(0, _)] rfl rfl (Give.nil w) ?_
 refine q_ (g_ (s_ av_ (z_ (n_ (q_ (g_ (s_ mv_ ?_)))))))
 refine c1 (cl_ Ty.ca78) (fun w hS => fields1_ok s w hy_) ?_
 rintro _ _ ⟨e1, e2, rfl, rfl⟩
 refine s_ av_ (z_ (n_ (rt_ ?_)))
 refine JX_retsD [_] _ Tryz.results53 (fun w h => ⟨rfl, trivial⟩) rfl _ (fun _ h => h.keep [false] rfl) (fun _ _ h => h) (fun wx hw => ⟨(R44.words s), e1, e2, ?_, ?_, (RO.of_rowF (Lc := []) hw hw 0 rfl), (row_le (hw.mem (j := 0) rfl)), ?_⟩)
 ·rfl
 ·rfl
 ·rfl
set_option maxRecDepth 20000 in
theorem f55_ok (s : Bytes) (w : World) (hT : Tab [] w) (q0 : s.length ≤ 1000000) : Calls Tryz.prog 55 #[vS s] w (Gives [] w fun v L => ∃ n : Int, ∃ ok : Bool, v = Value.tuple #[vI n, vB ok] ∧ L = [] ∧ (R44.SmallJ s n ok)) := by
 refine calls_J [] 28 Tryz.func55 rfl Tryz.ntmps55 [(0, _)] rfl rfl (Give.nil w) ?_
 refine q_ (g_ (s_ av_ (s_ av_ (z_ (n_ (q_ (g_ (s_ mv_ ?_))))))))
 refine c1 (cl_ Ty.ca81) (fun w hS => atoi_ok s w (hT.on hS (fun _ h => by cases h)) hy_) ?_
 rintro _ _ ⟨n1, er2, N3, rfl, rfl, hf4⟩
 have ha5 := R44.atoi_bd (by assumption)
 refine s_ mv_ (s_ (ex_ 0) (s_ (ex_ 1) (s_ av_ (s_ av_ (z_ (n_ (q_ (g_ (s_ mv_ (s_ mv_ (s_ (x_eql_err rfl Tryz.underlying125) (s_ mv_ ?_))))))))))))
 refine and_ 2 (decide ((0 : Int) ≤ n1)) (fun g6 => ?_) ?_
 ·have g6r := g6
  refine sg_ g6 mv_ (sg_ g6 (x_geq_i rfl rfl) ?_)
  exact cr_
 refine s_ mv_ ?_
 refine and_ 2 (decide (n1 ≤ 9999)) (fun g7 => ?_) ?_
 ·have g7r := g7
  have ⟨g7r, h8⟩ := band_true g7r
  have h8 := of_decide_eq_true h8
  refine sg_ g7 mv_ (sg_ g7 (x_leq_i rfl rfl) ?_)
  exact cr_
 refine s_ mv_ ?_
 refine and_ 4 (decide (Lib.decDigits n1.toNat = s)) (fun g9 => ?_) ?_
 ·have g9r := g9
  have ⟨g9r, h10⟩ := band_true g9r
  have ⟨g9r, h11⟩ := band_true g9r
  have h11 := of_decide_eq_true h11
  have h10 := of_decide_eq_true h10
  refine sg_ g9 mv_ (c0g g9 (cl_ Ty.ca50) (fun w hS => itoa_ok n1 w (hT.on hS (fun _ h => by cases h)) hy_ hy_) ?_)
  have ha12 := R44.dec_lenI n1 (by omega)
  refine sg_ g9 mv_ (sg_ g9 (x_eql_s rfl rfl) ?_)
  exact cr_
 refine s_ av_ (s_ av_ (z_ (n_ (rt_ ?_))))
 refine JX_rets [_, _] (Value.tuple #[_, _]) Tryz.results55 (fun w h => ⟨rfl, rfl, trivial⟩) rfl _ (fun _ h => h) ⟨n1, (((er2 && (decide ((0 : Int) ≤ n1))) && (decide (n1 ≤ 9999))) && (decide (Lib.decDigits n1.toNat = s))), ?_, ?_, ?_⟩
 ·rfl
 ·rfl
 ·exact R44.small_of (by assumption)
set_option maxRecDepth 20000 in
theorem f57_ok (xs : List Bytes) (xsA : Option Addr) (xsC : Nat) (x : Bytes) (w : World) (xsR : RO [] w xsA (xs.map vS)) (q0 : xs.length ≤ 9223372036854775807) : Calls Tryz.prog 57 #[vL xsA xs.length xsC, vS x] w (Gives [] w fun v L => v = vI (R44.ixOf xs x) ∧ L = []) := by
 refine calls_J [] 19 Tryz.func57 rfl Tryz.ntmps57 [(0, _), (1, _)] rfl rfl (Give.nil w) ?_
 refine q_ (g_ (s_ av_ (z_ (n_ (q_ (q_ (g_ (s_ mv_ (s_ (lnS Tryz.underlying22) (s_ mv_ (z_ (n_ (k_ ?_)))))))))))))
 refine J_loop (X := Nat) (fun (k : Nat) => (k ≤ xs.length) ∧ (R44.ixFrom (xs.drop k) x k = R44.ixOf xs x)) (fun (k : Nat) => [(0, vL xsA xs.length xsC), (1, vS x), (7, vI ((xs.length : Nat) : Int)), (8, vI ((k : Nat) : Int))]) (fun (k : Nat) => []) (fun (k : Nat) => xs.length - k) (0 : Nat) ?_ ⟨rfl, rfl, rfl, rfl, trivial⟩ (fun _ h => h) ?_
 ·try dsimp only
  refine ⟨?_, ?_⟩
  ·first | rfl | omega | (simp_all; done) | (simp_all; omega)
  ·rfl
 intro k hI1
 obtain ⟨i1_0, i1_1⟩ := hI1
 try dsimp only at i1_0
 try dsimp only at i1_1
 try dsimp only
 refine q_ (g_ (s_ (x_lss_i rfl rfl) (z_ (n_ (q_ ?_)))))
 refine ifd (fun h1w h1 => ?_) (fun h1w h1 => ?_)
 ·refine sk_ (n_ (q_ (k_ (q_ (g_ (s_ mv_ (s_ av_ (z_ (n_ (q_ (g_ (s_ mv_ (s_ mv_ (s_ mv_ (r_ (ixM (cells_ro xsR) Tryz.underlying22 Ty.sz9) (r_ (ldM vS [] (cells_ro xsR) Ty.sc9) (s_ (x_eql_s rfl rfl) ?_)))))))))))))))))
  refine z_ (n_ ?_)
  refine ifd (fun h2w h2 => ?_) (fun h2w h2 => ?_)
  ·refine q_ (g_ (s_ mv_ (s_ av_ (z_ (n_ (rt_ (kq_ (nr_ (rr_ (kq_ (nr_ ?_)))))))))))
   exact p1 Tryz.results57 rfl ⟨(eI c44q2_), rfl⟩
  ·refine sk_ (kx_ (n_ (g_ (s_ (x_add_n (a := k) (b := 1) rfl rfl (by omega)) (s_ mv_ (z_ ?_))))))
   refine JX_round (k + 1 : Nat) ?_ ?_ ⟨rfl, rfl, rfl, rfl, trivial⟩ (fun _ h => h)
   ·try dsimp only
    refine ⟨?_, ?_⟩
    ·first | rfl | omega | (simp_all; done) | (simp_all; omega)
    ·exact R44.ix_go (by omega) i1_1 (by assumption)
   ·try dsimp only
    first | omega | (simp; omega) | (simp_all; omega)
 ·refine J_exit (ne_ (re_ (kh_ (n_ (q_ ?_)))))
  refine g_ (s_ av_ (z_ (n_ (rt_ ?_))))
  exact p1 Tryz.results57 rfl ⟨(eI c44q2_), rfl⟩
set_option maxRecDepth 20000 in
theorem f56_ok (xs : List Bytes) (xsA : Option Addr) (xsC : Nat) (x : Bytes) (w : World) (xsR : RO [] w xsA (xs.map vS)) (q0 : xs.length ≤ 9223372036854775807) : Calls Tryz.prog 56 #[vL xsA xs.length xsC, vS x] w (Gives [] w fun v L => v = vB (decide (0 ≤ R44.ixOf xs x)) ∧ L = []) := by
 refine calls_J [] 9 Tryz.func56 rfl Tryz.ntmps56 [(0, _), (1, _)] rfl rfl (Give.nil w) ?_
 refine q_ (g_ (s_ av_ (z_ (n_ (q_ (g_ (s_ mv_ (s_ mv_ (c0 (cl_ Ty.ca57) (fun w hS => f57_ok xs xsA xsC x w (rno xsR hS) hy_) ?_)))))))))
 have ha1 := R44.ixOf_bd xs x
 refine s_ (x_geq_i rfl rfl) (s_ av_ (z_ (n_ (rt_ ?_))))
 exact p1 Tryz.results56 rfl ⟨(eB (by rfl)), rfl⟩
end Go.Proofs.YtnfglkgahlaofaaGreatDoor

namespace Go.Proofs.YtnfglkgahlaofaaGreatDoor
open Go.GV
namespace R44
def kindT (k : Int) : Bytes := if k = 1 then [32, 110, 117, 109, 98, 101, 114] else if k = 2 then [32, 98, 105, 110, 97, 114, 121] else []
abbrev desT : Bytes := [32, 100, 101, 115, 99, 101, 110, 100, 105, 110, 103]
def fmt1 (f : SortField) : Bytes := (((Lib.decDigits f.At.toNat ++ [32]) ++ Lib.decDigits f.Length.toNat) ++ kindT f.Kind) ++ (if f.Descending = true then desT else [])
def fmtV (l : List SortField) : Bytes := if valid l = true then Lib.join (l.map fmt1) [44, 32] else []
section
variable {l : List SortField} {k : Nat} {s x : Bytes}
end
section
variable {R : List Bytes}
end
theorem fw_of {W : List Bytes} {p : Bytes} {x : Option SortField} (hw : W = words p) (h : fieldW W = x) : fieldW (words p) = x := by rw [← hw]; exact h
theorem ne_of {W : List Bytes} {s : Bytes} (hw : W = words s) (h : W.length ≠ 0) : words s ≠ [] := fun e => by rw [hw, e] at h; exact h rfl
theorem eq_of {W : List Bytes} {s : Bytes} (hw : W = words s) (h : W.length = 0) : words s = [] := by rw [← hw]; exact List.length_eq_zero_iff.1 h
section
variable {W R1 R2 : List Bytes} {n1 n2 kd : Int} {o1 o2 de : Bool}
theorem fw_go (h : 2 ≤ W.length) (s1 : SmallJ (W.getD 0 []) n1 o1) (h1 : o1 = true) (s2 : SmallJ (W.getD 1 []) n2 o2) (h2 : o2 = true) (hk : kindOf (W.drop 2) = (kd, R1)) (hd : descOf R1 = (de, R2)) (he : R2.length = 0) : fieldW W = some ⟨n1, n2, kd, de⟩ := fw_yes h h1 s1 h2 s2 hk hd (List.length_eq_zero_iff.1 he)
theorem fw_no2 (s1 : SmallJ (W.getD 0 []) n1 o1) (s2 : SmallJ (W.getD 1 []) n2 o2) (h : ((!o1) || (!o2)) = true) : fieldW W = none := by
  cases h1 : o1 with
  | false => exact fw_n1 h1 s1
  | true => cases h2 : o2 with
    | false => exact fw_n2 h2 s2
    | true => rw [h1, h2] at h; cases h
theorem fw_no3 (s1 : SmallJ (W.getD 0 []) n1 o1) (s2 : SmallJ (W.getD 1 []) n2 o2) (hk : kindOf (W.drop 2) = (kd, R1)) (hd : descOf R1 = (de, R2)) (h : (((!o1) || (!o2)) || decide ((0 : Int) < ((R2.length : Nat) : Int))) = true) : fieldW W = none := by
  rcases Bool.or_eq_true_iff.1 h with h | h
  · exact fw_no2 s1 s2 h
  · exact fw_rest hk hd fun e => by rw [e] at h; simp at h
end
end R44
end Go.Proofs.YtnfglkgahlaofaaGreatDoor

namespace Go.Proofs.YtnfglkgahlaofaaGreatDoor
open Go.GV
set_option linter.unusedVariables false
set_option linter.unusedSimpArgs false
end Go.Proofs.YtnfglkgahlaofaaGreatDoor

namespace Go.Proofs.YtnfglkgahlaofaaGreatDoor
open Go.GV
set_option linter.unusedVariables false
set_option linter.unusedSimpArgs false
theorem c44s0_ {p : Prop} (h : p := by exact congrArg (fun (x0 : Nat) => Value.tuple #[vL none x0 0, vI 3]) e_x0) : p := h
theorem c44s3_ {p : Prop} (h : p := by first | exact R44.parse_none (R44.eq_of (by assumption) (by omega)) | exact i1_1.bad (R44.ne_of (by assumption) (by omega)) (by omega) (R44.fw_of (by assumption) (R44.fw_short (by omega))) | exact i1_1.bad (R44.ne_of (by assumption) (by omega)) (by omega) (R44.fw_of (by assumption) (R44.fw_no3 (by assumption) (by assumption) (R44.kind_t (by assumption)) (R44.desc_t (by assumption)) (by assumption))) | exact i1_1.bad (R44.ne_of (by assumption) (by omega)) (by omega) (R44.fw_of (by assumption) (R44.fw_no3 (by assumption) (by assumption) (R44.kind_t (by assumption)) (R44.desc_f (by assumption)) (by assumption))) | exact i1_1.bad (R44.ne_of (by assumption) (by omega)) (by omega) (R44.fw_of (by assumption) (R44.fw_no3 (by assumption) (by assumption) (R44.kind_f (by assumption)) (R44.desc_t (by assumption)) (by assumption))) | exact i1_1.bad (R44.ne_of (by assumption) (by omega)) (by omega) (R44.fw_of (by assumption) (R44.fw_no3 (by assumption) (by assumption) (R44.kind_f (by assumption)) (R44.desc_f (by assumption)) (by assumption))) | exact i1_1.yes (R44.ne_of (by assumption) (by omega)) (by omega) (by assumption) | exact i1_1.no (R44.ne_of (by assumption) (by omega)) (by omega) (by simp_all)) : p := h
theorem c44s4_ {p : Prop} (h : p := by first | exact i1_1.add (by omega) (R44.fw_of (by assumption) (R44.fw_go (by omega) (by assumption) (by assumption) (by assumption) (by assumption) (R44.kind_t (by assumption)) (R44.desc_t (by assumption)) (by omega))) | exact i1_1.add (by omega) (R44.fw_of (by assumption) (R44.fw_go (by omega) (by assumption) (by assumption) (by assumption) (by assumption) (R44.kind_t (by assumption)) (R44.desc_f (by assumption)) (by omega))) | exact i1_1.add (by omega) (R44.fw_of (by assumption) (R44.fw_go (by omega) (by assumption) (by assumption) (by assumption) (by assumption) (R44.kind_f (by assumption)) (R44.desc_t (by assumption)) (by omega))) | exact i1_1.add (by omega) (R44.fw_of (by assumption) (R44.fw_go (by omega) (by assumption) (by assumption) (by assumption) (by assumption) (R44.kind_f (by assumption)) (R44.desc_f (by assumption)) (by omega)))) : p := h
set_option maxHeartbeats 4000000 in
set_option maxRecDepth 20000 in
theorem f27_ok (s : Bytes) (w : World) (hT : Tab [] w) (q0 : s.length ≤ 1000000) : Calls Tryz.prog 27 #[vS s] w (Gives [] w fun v L => ∃ out : List SortField, ∃ outA : Option Addr, ∃ outC : Nat, ∃ e : Int, v = Value.tuple #[vL outA out.length outC, vI e] ∧ L = [Ent.row (.slice outA out.length outC) 50 4 out.length (out.flatMap SortField.enc)] ∧ ((out, e) = R44.parseV s)) := by
 refine calls_J [] 103 Tryz.func27 rfl Tryz.ntmps27 [(0, _)] rfl rfl (Give.nil w) ?_
 refine q_ (g_ (s_ av_ (s_ av_ (z_ (n_ (q_ (q_ (g_ (s_ mv_ ?_)))))))))
 refine JO_callB [] [] [] rfl trivial (fun _ => x_call Ty.ca53 rfl) (fun _ h => h) (fun _ h => by cases h) (fun w hS => f53_ok s w hy_) ?_
 rintro wc _ _ wbhB2 ⟨rout, routA, routC, rfl, rfl, routR, routL, hf1⟩ hc0 hB2
 have hT := hT.again hB2
 have routR := routR.mono (lown_range hc0)
 have ha3 := R44.rw_bd (by assumption)
 refine s_ (lnS Tryz.underlying22) (s_ (x_eql_i rfl rfl) (z_ (n_ ?_)))
 refine ifd (fun h4w h4 => ?_) (fun h4w h4 => ?_)
 ·refine q_ (g_ (s_ av_ (s_ av_ (z_ (n_ (rt_ (nr_ ?_)))))))
  refine JX_retsC [_, _] (Value.tuple #[_, _]) Tryz.results27 (fun w h => ⟨rfl, rfl, trivial⟩) rfl [Ent.row (.slice none ([] : List SortField).length 0) 50 4 ([] : List SortField).length (([] : List SortField).flatMap SortField.enc)] (fun _ h => (h.nilrow 50 4).keep [true] rfl) (fun _ _ h => (hB2.back _ _ h)) ⟨([] : List SortField), none, 0, 0, ?_, ?_, ?_⟩
  ·have e_x0 : (0 : Nat) = (([] : List SortField).length) := by first | rfl | omega | (simp_all; done) | (simp_all; omega)
   exact congrArg (fun (x0 : Nat) => Value.tuple #[vL none x0 0, vI 0]) e_x0
  ·rfl
  ·exact c44s3_
 ·refine sk_ (n_ (q_ (g_ (o_ (O_buildSlice (cs := [vS [116, 101, 120, 116], vS [110, 117, 109, 98, 101, 114], vS [98, 105, 110, 97, 114, 121]]) Tryz.underlying22 Ty.sz9 Ty.ze9 (by decide) (by decide) (by kernel_rfl) fun b5 => ?_)))))
  refine s_ av_ (z_ (n_ (q_ (g_ (s_ av_ (z_ (n_ (q_ (q_ (g_ (s_ mv_ ?_)))))))))))
  refine c1 (cl_ Ty.ca54) (fun w hS => split_ok s w (hT.on hS (fun _ h => by cases h)) hy_) ?_
  rintro _ _ ⟨e6, e7, rfl, rfl⟩
  have ha8 := R44.splitC_count 44 s
  refine s_ (lnS Tryz.underlying22) (s_ mv_ (z_ (n_ (k_ ?_))))
  refine J_loop (X := Nat × (List SortField) × (Option Addr) × Nat) (fun (⟨k, out, outA, outC⟩ : Nat × (List SortField) × (Option Addr) × Nat) => (k ≤ (R44.splitC 44 s).length) ∧ (R44.FldJ (R44.splitC 44 s) k out) ∧ (out.length ≤ k)) (fun (⟨k, out, outA, outC⟩ : Nat × (List SortField) × (Option Addr) × Nat) => [(4, vL (some ⟨b5, 0, none⟩) 3 3), (5, vL outA out.length outC), (20, vL e6 ((R44.splitC 44 s).length) e7), (21, vI (((R44.splitC 44 s).length : Nat) : Int)), (22, vI ((k : Nat) : Int))]) (fun (⟨k, out, outA, outC⟩ : Nat × (List SortField) × (Option Addr) × Nat) => [Ent.row (.slice e6 (R44.splitC 44 s).length e7) 9 1 (R44.splitC 44 s).length ((R44.splitC 44 s).map vS), Ent.blk b5 9 [vS [116, 101, 120, 116], vS [110, 117, 109, 98, 101, 114], vS [98, 105, 110, 97, 114, 121]], Ent.row (.slice outA out.length outC) 50 4 out.length (out.flatMap SortField.enc)]) (fun (⟨k, out, outA, outC⟩ : Nat × (List SortField) × (Option Addr) × Nat) => (R44.splitC 44 s).length - k) ((0, ([] : List SortField), none, 0) : Nat × (List SortField) × (Option Addr) × Nat) ?_ ⟨rfl, rfl, rfl, rfl, rfl, trivial⟩ (fun _ h => (((h.nilrow 50 4).front 2 _ rfl).front 2 _ rfl).keep [true, true, true] rfl) ?_
  ·try dsimp only
   refine ⟨?_, ?_, ?_⟩
   ·first | rfl | omega | (simp_all; done) | (simp_all; omega)
   ·exact R44.FldJ.start
   ·exact Nat.zero_le _
  rintro ⟨k, out, outA, outC⟩ hI1
  obtain ⟨i1_0, i1_1, i1_2⟩ := hI1
  try dsimp only at i1_0
  try dsimp only at i1_1
  try dsimp only at i1_2
  have hpl := R44.splitC_len 44 s k
  try dsimp only
  refine q_ (g_ (s_ (x_lss_i rfl rfl) (z_ (n_ (q_ ?_)))))
  refine ifd (fun h9w h9 => ?_) (fun h9w h9 => ?_)
  ·refine sk_ (n_ (q_ (k_ (q_ (g_ (r_ (ixM (cells_row 0 rfl) Tryz.underlying22 Ty.sz9) (r_ (ldM vS [] (cells_row 0 rfl) Ty.sc9) (s_ av_ (z_ (n_ (q_ (g_ (s_ mv_ ?_)))))))))))))
   refine JO_callB [] [] [Ent.row (.slice e6 (R44.splitC 44 s).length e7) 9 1 (R44.splitC 44 s).length ((R44.splitC 44 s).map vS), Ent.blk b5 9 [vS [116, 101, 120, 116], vS [110, 117, 109, 98, 101, 114], vS [98, 105, 110, 97, 114, 121]], Ent.row (.slice outA out.length outC) 50 4 out.length (out.flatMap SortField.enc)] rfl trivial (fun _ => x_call Ty.ca53 rfl) (fun _ h => h) (fun _ h => by cases h) (fun w hS => f53_ok ((R44.splitC 44 s).getD k []) w hy_) ?_
   rintro wc _ _ wbhB12 ⟨rout10, rout10A, rout10C, rfl, rfl, rout10R, rout10L, hf11⟩ hc0 hB12
   have routR := routR.again hB12
   have hT := hT.again hB12
   have rout10R := rout10R.mono (lown_range hc0)
   have ha13 := R44.rw_bd (by assumption)
   refine s_ av_ (z_ (n_ (q_ (q_ (g_ (s_ mv_ (s_ (lnS Tryz.underlying22) (s_ (x_lss_i rfl rfl) (z_ (n_ ?_))))))))))
   refine ifd (fun h14w h14 => ?_) (fun h14w h14 => ?_)
   ·refine q_ (g_ (s_ av_ (s_ av_ (z_ (n_ (rt_ (nr_ (kq_ (nr_ (JX_roundA_ret (kq_ (nr_ ?_))))))))))))
    refine JX_retsC [_, _] (Value.tuple #[_, _]) Tryz.results27 (fun w h => ⟨rfl, rfl, trivial⟩) rfl [Ent.row (.slice none ([] : List SortField).length 0) 50 4 ([] : List SortField).length (([] : List SortField).flatMap SortField.enc)] (fun _ h => (h.nilrow 50 4).keep [true, false, false, false] rfl) (fun _ _ h => (hB2.back _ _ (hB12.back _ _ h))) ⟨([] : List SortField), none, 0, 3, ?_, ?_, ?_⟩
    ·have e_x0 : (0 : Nat) = (([] : List SortField).length) := by first | rfl | omega | (simp_all; done) | (simp_all; omega)
     exact c44s0_
    ·rfl
    ·exact c44s3_
   ·refine sk_ (n_ (q_ (g_ (s_ mv_ (r_ (ixM (k := 0) (cells_ro rout10R) Tryz.underlying22 Ty.sz9) (r_ (ldM vS [] (cells_ro rout10R) Ty.sc9) ?_))))))
    refine c1 (cl_ Ty.ca55) (fun w hS => f55_ok _ w (hT.on hS (fun _ h => by cases h)) hy_) ?_
    rintro _ _ ⟨n15, ok16, rfl, rfl, hf17⟩
    refine s_ mv_ (s_ (ex_ 0) (s_ (ex_ 1) (s_ av_ (s_ av_ (z_ (xk_ [4, 5, 20, 21, 22, 8, 9, 10] ?_))))))
    refine n_ (q_ (g_ (s_ mv_ (r_ (ixM (k := 1) (cells_ro rout10R) Tryz.underlying22 Ty.sz9) (r_ (ldM vS [] (cells_ro rout10R) Ty.sc9) ?_)))))
    refine c1 (cl_ Ty.ca55) (fun w hS => f55_ok _ w (hT.on hS (fun _ h => by cases h)) hy_) ?_
    rintro _ _ ⟨n18, ok19, rfl, rfl, hf20⟩
    refine s_ mv_ (s_ (ex_ 0) (s_ (ex_ 1) (s_ av_ (s_ av_ (z_ (n_ (q_ (g_ (s_ mv_ (s_ mv_ (js_ (vG [vI n15, vI n18, vI 0, vB false]) (x_build (by kernel_rfl)) (o_ (al_ Ty.ze50 fun b21 => ?_)))))))))))))
    refine o_ (stG 0 Ty.sz50 ?_)
    refine z_ (xk_ [4, 5, 20, 21, 22, 8, 10, 12, 13] ?_)
    refine n_ (q_ (g_ (s_ mv_ (s_ (x_subrow (lo := 2) (hi := rout10.length) rfl Tryz.underlying22 Ty.sz9 (.inl rfl) (.inr ⟨rfl, rfl⟩) lt_ lt_) ?_))))
    have hro22 := RO.subM rout10R rout10C 2 (rout10.length - 2) lt_
    rw [show rout10.length - 2 = (rout10.drop 2).length from List.length_drop.symm, List.take_length] at hro22
    refine JO_weaken (E' := [(4, vL (some ⟨b5, 0, none⟩) 3 3), (5, vL outA out.length outC), (20, vL e6 ((R44.splitC 44 s).length) e7), (21, vI (((R44.splitC 44 s).length : Nat) : Int)), (22, vI ((k : Nat) : Int)), (8, vL rout10A rout10.length rout10C), (10, vB ok16), (12, vB ok19), (13, pB b21 0), (48, vL rout10A rout10.length rout10C), (49, vL (subA rout10A rout10C 2 1) ((rout10.drop 2).length) (rout10C - 2))]) (L' := [Ent.blk b21 50 [vI n15, vI n18, vI 0, vB false], Ent.row (.slice e6 (R44.splitC 44 s).length e7) 9 1 (R44.splitC 44 s).length ((R44.splitC 44 s).map vS), Ent.blk b5 9 [vS [116, 101, 120, 116], vS [110, 117, 109, 98, 101, 114], vS [98, 105, 110, 97, 114, 121]], Ent.row (.slice outA out.length outC) 50 4 out.length (out.flatMap SortField.enc)]) ⟨rfl, rfl, rfl, rfl, rfl, rfl, rfl, rfl, rfl, rfl, (congrArg (fun n : Nat => some (Value.slice (subA rout10A rout10C 2 1) n (rout10C - 2))) (by exact List.length_drop.symm)), trivial⟩ (fun _ h => h) ?_
    refine s_ av_ (z_ (n_ (q_ (q_ (g_ (s_ mv_ (s_ (lnS Tryz.underlying22) (s_ (x_gtr_i rfl rfl) (s_ mv_ ?_)))))))))
    refine and_ 5 (decide (0 ≤ R44.ixOf [[116, 101, 120, 116], [110, 117, 109, 98, 101, 114], [98, 105, 110, 97, 114, 121]] ((rout10.drop 2).getD 0 []))) (fun g23 => ?_) ?_
    ·have g23r := g23
     have g23r := of_decide_eq_true g23r
     refine sg_ g23 mv_ (sg_ g23 mv_ (rg_ g23 (ixM (k := 0) (cells_ro hro22) Tryz.underlying22 Ty.sz9) (rg_ g23 (ldM vS [] (cells_ro hro22) Ty.sc9) (c0g g23 (cl_ Ty.ca56) (fun w hS => f56_ok [[116, 101, 120, 116], [110, 117, 109, 98, 101, 114], [98, 105, 110, 97, 114, 121]] _ 3 _ w (RO.of_blk hS 2 (off := 0) (m := 3) rfl rfl) hy_) ?_))))
     exact cr_
    refine z_ (n_ ?_)
    refine if_ (fun h24 => ?_) (fun h24 => ?_)
    ·have h24w := h24
     have ⟨h24, h25⟩ := band_true h24
     have h24 := of_decide_eq_true h24
     have h25 := of_decide_eq_true h25
     refine q_ (g_ (o_ (O_buildSlice (cs := [vI 0, vI 1, vI 2]) Tryz.underlying79 Ty.sz3 Ty.ze3 (by decide) (by decide) (by kernel_rfl) fun b26 => ?_)))
     refine s_ mv_ (s_ mv_ (r_ (ixM (k := 0) (cells_ro hro22) Tryz.underlying22 Ty.sz9) (r_ (ldM vS [] (cells_ro hro22) Ty.sc9) (c0 (cl_ Ty.ca57) (fun w hS => f57_ok [[116, 101, 120, 116], [110, 117, 109, 98, 101, 114], [98, 105, 110, 97, 114, 121]] _ 3 _ w (RO.of_blk hS 3 (off := 0) (m := 3) rfl rfl) hy_) ?_))))
     have ha27 := R44.ixOf_bd [[116, 101, 120, 116], [110, 117, 109, 98, 101, 114], [98, 105, 110, 97, 114, 121]] ((rout10.drop 2).getD 0 [])
     try simp only [List.length_cons, List.length_nil, Nat.zero_add, Nat.reduceAdd, Nat.reduceMul] at ha27
     refine s_ (x_indexAddr_sl (k := (R44.ixOf [[116, 101, 120, 116], [110, 117, 109, 98, 101, 114], [98, 105, 110, 97, 114, 121]] ((rout10.drop 2).getD 0 [])).toNat) Tryz.underlying79 Ty.sz3 rfl (ix_nat rfl (by omega)) lt_ (add_0k1 _ _)) (r_ (x_load_arr 0 (xs := ([0, 1, 2] : List Int)) vI 0 rfl rfl Ty.sc3 lt_) (s_ (fA 2 Ty.fi50_2) (o_ (st1 1 Ty.sz3 ?_))))
     refine z_ (xk_ [4, 5, 20, 21, 22, 8, 10, 12, 13] ?_)
     refine n_ (g_ (s_ mv_ (s_ (x_subrow (lo := 1) (hi := (rout10.drop 2).length) rfl Tryz.underlying22 Ty.sz9 (.inl rfl) (.inr ⟨rfl, rfl⟩) lt_ lt_) ?_)))
     have hro28 := RO.subM hro22 (rout10C - 2) 1 (((rout10.drop 2).length) - 1) lt_
     rw [show ((rout10.drop 2).length) - 1 = ((rout10.drop 2).drop 1).length from List.length_drop.symm, List.take_length] at hro28
     refine JO_weaken (E' := [(4, vL (some ⟨b5, 0, none⟩) 3 3), (5, vL outA out.length outC), (20, vL e6 ((R44.splitC 44 s).length) e7), (21, vI (((R44.splitC 44 s).length : Nat) : Int)), (22, vI ((k : Nat) : Int)), (8, vL (subA rout10A rout10C 2 1) ((rout10.drop 2).length) (rout10C - 2)), (10, vB ok16), (12, vB ok19), (13, pB b21 0), (69, vL (subA rout10A rout10C 2 1) ((rout10.drop 2).length) (rout10C - 2)), (70, vL (subA (subA rout10A rout10C 2 1) (rout10C - 2) 1 1) (((rout10.drop 2).drop 1).length) ((rout10C - 2) - 1))]) (L' := [Ent.blk b26 3 [vI 0, vI 1, vI 2], Ent.blk b21 50 [vI n15, vI n18, vI (([0, 1, 2] : List Int).getD ((R44.ixOf [[116, 101, 120, 116], [110, 117, 109, 98, 101, 114], [98, 105, 110, 97, 114, 121]] ((rout10.drop 2).getD 0 [])).toNat) 0), vB false], Ent.row (.slice e6 (R44.splitC 44 s).length e7) 9 1 (R44.splitC 44 s).length ((R44.splitC 44 s).map vS), Ent.blk b5 9 [vS [116, 101, 120, 116], vS [110, 117, 109, 98, 101, 114], vS [98, 105, 110, 97, 114, 121]], Ent.row (.slice outA out.length outC) 50 4 out.length (out.flatMap SortField.enc)]) ⟨rfl, rfl, rfl, rfl, rfl, rfl, rfl, rfl, rfl, rfl, (congrArg (fun n : Nat => some (Value.slice (subA (subA rout10A rout10C 2 1) (rout10C - 2) 1 1) n ((rout10C - 2) - 1))) (by exact List.length_drop.symm)), trivial⟩ (fun _ h => h) ?_
     refine s_ av_ (z_ (n_ (q_ (q_ (g_ (s_ mv_ (s_ (lnS Tryz.underlying22) (s_ (x_gtr_i rfl rfl) (s_ mv_ ?_)))))))))
     refine and_ 4 (decide ((((rout10.drop 2).drop 1).getD 0 []) = ([100, 101, 115, 99, 101, 110, 100, 105, 110, 103] : Bytes))) (fun g29 => ?_) ?_
     ·have g29r := g29
      have g29r := of_decide_eq_true g29r
      refine sg_ g29 mv_ (rg_ g29 (ixM (k := 0) (cells_ro hro28) Tryz.underlying22 Ty.sz9) (rg_ g29 (ldM vS [] (cells_ro hro28) Ty.sc9) (jg_ g29 (vB (decide ((((rout10.drop 2).drop 1).getD 0 []) = ([100, 101, 115, 99, 101, 110, 100, 105, 110, 103] : Bytes)))) (x_eql_s rfl rfl) ?_)))
      exact cr_
     refine z_ (n_ ?_)
     refine if_ (fun h30 => ?_) (fun h30 => ?_)
     ·have h30w := h30
      have ⟨h30, h31⟩ := band_true h30
      have h30 := of_decide_eq_true h30
      have h31 := of_decide_eq_true h31
      refine q_ (g_ (s_ (fA 3 Ty.fi50_3) (o_ (st1 1 Ty.sz4 ?_))))
      refine z_ (n_ (g_ (s_ mv_ (s_ (x_subrow (lo := 1) (hi := ((rout10.drop 2).drop 1).length) rfl Tryz.underlying22 Ty.sz9 (.inl rfl) (.inr ⟨rfl, rfl⟩) lt_ lt_) ?_))))
      have hro32 := RO.subM hro28 ((rout10C - 2) - 1) 1 ((((rout10.drop 2).drop 1).length) - 1) lt_
      rw [show (((rout10.drop 2).drop 1).length) - 1 = (((rout10.drop 2).drop 1).drop 1).length from List.length_drop.symm, List.take_length] at hro32
      refine JO_weaken (E' := [(4, vL (some ⟨b5, 0, none⟩) 3 3), (5, vL outA out.length outC), (20, vL e6 ((R44.splitC 44 s).length) e7), (21, vI (((R44.splitC 44 s).length : Nat) : Int)), (22, vI ((k : Nat) : Int)), (8, vL (subA (subA rout10A rout10C 2 1) (rout10C - 2) 1 1) (((rout10.drop 2).drop 1).length) ((rout10C - 2) - 1)), (10, vB ok16), (12, vB ok19), (13, pB b21 0), (69, vL (subA rout10A rout10C 2 1) ((rout10.drop 2).length) (rout10C - 2)), (70, vL (subA (subA rout10A rout10C 2 1) (rout10C - 2) 1 1) (((rout10.drop 2).drop 1).length) ((rout10C - 2) - 1)), (71, vL (subA (subA rout10A rout10C 2 1) (rout10C - 2) 1 1) (((rout10.drop 2).drop 1).length) ((rout10C - 2) - 1)), (72, vI ((((rout10.drop 2).drop 1).length : Nat) : Int)), (73, vB (decide ((0 : Int) < ((((rout10.drop 2).drop 1).length : Nat) : Int)))), (74, vB (decide ((0 : Int) < ((((rout10.drop 2).drop 1).length : Nat) : Int)))), (79, vB ((decide ((0 : Int) < ((((rout10.drop 2).drop 1).length : Nat) : Int))) && (decide ((((rout10.drop 2).drop 1).getD 0 []) = ([100, 101, 115, 99, 101, 110, 100, 105, 110, 103] : Bytes))))), (80, pB b21 3), (81, vL (subA (subA rout10A rout10C 2 1) (rout10C - 2) 1 1) (((rout10.drop 2).drop 1).length) ((rout10C - 2) - 1)), (82, vL (subA (subA (subA rout10A rout10C 2 1) (rout10C - 2) 1 1) ((rout10C - 2) - 1) 1 1) ((((rout10.drop 2).drop 1).drop 1).length) (((rout10C - 2) - 1) - 1))]) (L' := [Ent.blk b26 3 [vI 0, vI 1, vI 2], Ent.blk b21 50 [vI n15, vI n18, vI (([0, 1, 2] : List Int).getD ((R44.ixOf [[116, 101, 120, 116], [110, 117, 109, 98, 101, 114], [98, 105, 110, 97, 114, 121]] ((rout10.drop 2).getD 0 [])).toNat) 0), vB true], Ent.row (.slice e6 (R44.splitC 44 s).length e7) 9 1 (R44.splitC 44 s).length ((R44.splitC 44 s).map vS), Ent.blk b5 9 [vS [116, 101, 120, 116], vS [110, 117, 109, 98, 101, 114], vS [98, 105, 110, 97, 114, 121]], Ent.row (.slice outA out.length outC) 50 4 out.length (out.flatMap SortField.enc)]) ⟨rfl, rfl, rfl, rfl, rfl, rfl, rfl, rfl, rfl, rfl, rfl, rfl, rfl, rfl, rfl, rfl, rfl, rfl, (congrArg (fun n : Nat => some (Value.slice (subA (subA (subA rout10A rout10C 2 1) (rout10C - 2) 1 1) ((rout10C - 2) - 1) 1 1) n (((rout10C - 2) - 1) - 1))) (by exact List.length_drop.symm)), trivial⟩ (fun _ h => h) ?_
      refine s_ av_ (z_ (n_ (q_ (q_ (g_ (s_ mv_ (s_ (x_not rfl) (s_ mv_ ?_))))))))
      refine or_ 2 (!ok19) (fun g33 => ?_) ?_
      ·have g33r := g33
       have g33r : (ok16) = true := bnot_false g33r
       refine sg_ g33 mv_ (sg_ g33 (x_not rfl) ?_)
       exact cr_
      refine s_ mv_ ?_
      refine or_ 3 (decide ((0 : Int) < (((((rout10.drop 2).drop 1).drop 1).length : Nat) : Int))) (fun g34 => ?_) ?_
      ·have g34r := g34
       have ⟨g34r, h35⟩ := bor_false g34r
       have g34r : (ok16) = true := bnot_false g34r
       have h35 : (ok19) = true := bnot_false h35
       refine sg_ g34 mv_ (sg_ g34 (lnS Tryz.underlying22) (sg_ g34 (x_gtr_i rfl rfl) ?_))
       exact cr_
      refine z_ (xk_ [4, 5, 20, 21, 22, 13, 93] ?_)
      refine n_ ?_
      refine if_ (fun h36 => ?_) (fun h36 => ?_)
      ·have h36w := h36
       simp only [Bool.and_eq_true, Bool.or_eq_true, Bool.and_eq_false_iff, Bool.or_eq_false_iff, Bool.not_eq_true', Bool.not_eq_false', decide_eq_true_eq, decide_eq_false_iff_not] at h36
       refine q_ (g_ (s_ av_ (s_ av_ (z_ (n_ (rt_ (nr_ (kq_ (nr_ (JX_roundA_ret (kq_ (nr_ ?_))))))))))))
       refine JX_retsC [_, _] (Value.tuple #[_, _]) Tryz.results27 (fun w h => ⟨rfl, rfl, trivial⟩) rfl [Ent.row (.slice none ([] : List SortField).length 0) 50 4 ([] : List SortField).length (([] : List SortField).flatMap SortField.enc)] (fun _ h => (h.nilrow 50 4).keep [true, false, false, false, false, false] rfl) (fun _ _ h => (hB2.back _ _ (hB12.back _ _ h))) ⟨([] : List SortField), none, 0, 3, ?_, ?_, ?_⟩
       ·have e_x0 : (0 : Nat) = (([] : List SortField).length) := by first | rfl | omega | (simp_all; done) | (simp_all; omega)
        exact c44s0_
       ·rfl
       ·exact c44s3_
      ·have h36w := h36
       have ⟨h36, h37⟩ := bor_false h36
       have ⟨h36, h38⟩ := bor_false h36
       have h36 : (ok16) = true := bnot_false h36
       have h38 : (ok19) = true := bnot_false h38
       have h37 := of_decide_eq_false h37
       refine sk_ (n_ (g_ (s_ mv_ (r_ (ldN 1 [vI n15, vI n18, vI (([0, 1, 2] : List Int).getD ((R44.ixOf [[116, 101, 120, 116], [110, 117, 109, 98, 101, 114], [98, 105, 110, 97, 114, 121]] ((rout10.drop 2).getD 0 [])).toNat) 0), vB true] Ty.ag50 Ty.sz50) (o_ (O_buildSlice (cs := [vI n15, vI n18, vI (([0, 1, 2] : List Int).getD ((R44.ixOf [[116, 101, 120, 116], [110, 117, 109, 98, 101, 114], [98, 105, 110, 97, 114, 121]] ((rout10.drop 2).getD 0 [])).toNat) 0), vB true]) Tryz.underlying24 Ty.sz50 Ty.ze50 (by decide) (by decide) (by kernel_rfl) fun b39 => ?_))))))
       refine o_ (O_append_f 5 SortField.enc 4 out [(SortField.mk n15 n18 (([0, 1, 2] : List Int).getD ((R44.ixOf [[116, 101, 120, 116], [110, 117, 109, 98, 101, 114], [98, 105, 110, 97, 114, 121]] ((rout10.drop 2).getD 0 [])).toNat) 0) true)] Tryz.underlying24 Ty.sz50 Ty.by50 Ty.ze50 rfl (by decide) rfl rfl rfl rfl SortField.enc_len SortField.enc_one (cells_blk 0 (off := 0) (m := 4) rfl rfl) lt_ lt_ fun A40 c41 => ?_)
       refine s_ av_ (z_ (kx_ (n_ (g_ (s_ (x_add_n (a := k) (b := 1) rfl rfl (by omega)) (s_ mv_ (z_ ?_)))))))
       refine JX_roundA ((k + 1, out ++ [(SortField.mk n15 n18 (([0, 1, 2] : List Int).getD ((R44.ixOf [[116, 101, 120, 116], [110, 117, 109, 98, 101, 114], [98, 105, 110, 97, 114, 121]] ((rout10.drop 2).getD 0 [])).toNat) 0) true)], A40, c41) : Nat × (List SortField) × (Option Addr) × Nat) ?_ ?_ ⟨rfl, rfl, rfl, rfl, rfl, trivial⟩ (fun _ _ h => (hB12.back _ _ h)) (fun _ h => h.keep [false, false, false, true, true, true] rfl)
       ·try dsimp only
        refine ⟨?_, ?_, ?_⟩
        ·first | rfl | omega | (simp_all; done) | (simp_all; omega)
        ·exact c44s4_
        ·rw [List.length_append, List.length_singleton]; omega
       ·try dsimp only
        first | omega | (simp; omega) | (simp_all; omega)
     ·have h30w := h30
      simp only [Bool.and_eq_true, Bool.or_eq_true, Bool.and_eq_false_iff, Bool.or_eq_false_iff, Bool.not_eq_true', Bool.not_eq_false', decide_eq_true_eq, decide_eq_false_iff_not] at h30
      refine sk_ (n_ (q_ (q_ (g_ (s_ mv_ (s_ (x_not rfl) (s_ mv_ ?_)))))))
      refine or_ 2 (!ok19) (fun g42 => ?_) ?_
      ·have g42r := g42
       have g42r : (ok16) = true := bnot_false g42r
       refine sg_ g42 mv_ (sg_ g42 (x_not rfl) ?_)
       exact cr_
      refine s_ mv_ ?_
      refine or_ 3 (decide ((0 : Int) < ((((rout10.drop 2).drop 1).length : Nat) : Int))) (fun g43 => ?_) ?_
      ·have g43r := g43
       have ⟨g43r, h44⟩ := bor_false g43r
       have g43r : (ok16) = true := bnot_false g43r
       have h44 : (ok19) = true := bnot_false h44
       refine sg_ g43 mv_ (sg_ g43 (lnS Tryz.underlying22) (sg_ g43 (x_gtr_i rfl rfl) ?_))
       exact cr_
      refine z_ (xk_ [4, 5, 20, 21, 22, 13, 93] ?_)
      refine n_ ?_
      refine if_ (fun h45 => ?_) (fun h45 => ?_)
      ·have h45w := h45
       simp only [Bool.and_eq_true, Bool.or_eq_true, Bool.and_eq_false_iff, Bool.or_eq_false_iff, Bool.not_eq_true', Bool.not_eq_false', decide_eq_true_eq, decide_eq_false_iff_not] at h45
       refine q_ (g_ (s_ av_ (s_ av_ (z_ (n_ (rt_ (nr_ (kq_ (nr_ (JX_roundA_ret (kq_ (nr_ ?_))))))))))))
       refine JX_retsC [_, _] (Value.tuple #[_, _]) Tryz.results27 (fun w h => ⟨rfl, rfl, trivial⟩) rfl [Ent.row (.slice none ([] : List SortField).length 0) 50 4 ([] : List SortField).length (([] : List SortField).flatMap SortField.enc)] (fun _ h => (h.nilrow 50 4).keep [true, false, false, false, false, false] rfl) (fun _ _ h => (hB2.back _ _ (hB12.back _ _ h))) ⟨([] : List SortField), none, 0, 3, ?_, ?_, ?_⟩
       ·have e_x0 : (0 : Nat) = (([] : List SortField).length) := by first | rfl | omega | (simp_all; done) | (simp_all; omega)
        exact c44s0_
       ·rfl
       ·exact c44s3_
      ·have h45w := h45
       have ⟨h45, h46⟩ := bor_false h45
       have ⟨h45, h47⟩ := bor_false h45
       have h45 : (ok16) = true := bnot_false h45
       have h47 : (ok19) = true := bnot_false h47
       have h46 := of_decide_eq_false h46
       refine sk_ (n_ (g_ (s_ mv_ (r_ (ldN 1 [vI n15, vI n18, vI (([0, 1, 2] : List Int).getD ((R44.ixOf [[116, 101, 120, 116], [110, 117, 109, 98, 101, 114], [98, 105, 110, 97, 114, 121]] ((rout10.drop 2).getD 0 [])).toNat) 0), vB false] Ty.ag50 Ty.sz50) (o_ (O_buildSlice (cs := [vI n15, vI n18, vI (([0, 1, 2] : List Int).getD ((R44.ixOf [[116, 101, 120, 116], [110, 117, 109, 98, 101, 114], [98, 105, 110, 97, 114, 121]] ((rout10.drop 2).getD 0 [])).toNat) 0), vB false]) Tryz.underlying24 Ty.sz50 Ty.ze50 (by decide) (by decide) (by kernel_rfl) fun b48 => ?_))))))
       refine o_ (O_append_f 5 SortField.enc 4 out [(SortField.mk n15 n18 (([0, 1, 2] : List Int).getD ((R44.ixOf [[116, 101, 120, 116], [110, 117, 109, 98, 101, 114], [98, 105, 110, 97, 114, 121]] ((rout10.drop 2).getD 0 [])).toNat) 0) false)] Tryz.underlying24 Ty.sz50 Ty.by50 Ty.ze50 rfl (by decide) rfl rfl rfl rfl SortField.enc_len SortField.enc_one (cells_blk 0 (off := 0) (m := 4) rfl rfl) lt_ lt_ fun A49 c50 => ?_)
       refine s_ av_ (z_ (kx_ (n_ (g_ (s_ (x_add_n (a := k) (b := 1) rfl rfl (by omega)) (s_ mv_ (z_ ?_)))))))
       refine JX_roundA ((k + 1, out ++ [(SortField.mk n15 n18 (([0, 1, 2] : List Int).getD ((R44.ixOf [[116, 101, 120, 116], [110, 117, 109, 98, 101, 114], [98, 105, 110, 97, 114, 121]] ((rout10.drop 2).getD 0 [])).toNat) 0) false)], A49, c50) : Nat × (List SortField) × (Option Addr) × Nat) ?_ ?_ ⟨rfl, rfl, rfl, rfl, rfl, trivial⟩ (fun _ _ h => (hB12.back _ _ h)) (fun _ h => h.keep [false, false, false, true, true, true] rfl)
       ·try dsimp only
        refine ⟨?_, ?_, ?_⟩
        ·first | rfl | omega | (simp_all; done) | (simp_all; omega)
        ·exact c44s4_
        ·rw [List.length_append, List.length_singleton]; omega
       ·try dsimp only
        first | omega | (simp; omega) | (simp_all; omega)
    ·have h24w := h24
     simp only [Bool.and_eq_true, Bool.or_eq_true, Bool.and_eq_false_iff, Bool.or_eq_false_iff, Bool.not_eq_true', Bool.not_eq_false', decide_eq_true_eq, decide_eq_false_iff_not] at h24
     refine sk_ (n_ (q_ (q_ (g_ (s_ mv_ (s_ (lnS Tryz.underlying22) (s_ (x_gtr_i rfl rfl) (s_ mv_ ?_))))))))
     refine and_ 4 (decide (((rout10.drop 2).getD 0 []) = ([100, 101, 115, 99, 101, 110, 100, 105, 110, 103] : Bytes))) (fun g51 => ?_) ?_
     ·have g51r := g51
      have g51r := of_decide_eq_true g51r
      refine sg_ g51 mv_ (rg_ g51 (ixM (k := 0) (cells_ro hro22) Tryz.underlying22 Ty.sz9) (rg_ g51 (ldM vS [] (cells_ro hro22) Ty.sc9) (jg_ g51 (vB (decide (((rout10.drop 2).getD 0 []) = ([100, 101, 115, 99, 101, 110, 100, 105, 110, 103] : Bytes)))) (x_eql_s rfl rfl) ?_)))
      exact cr_
     refine z_ (xk_ [4, 5, 20, 21, 22, 8, 10, 12, 13, 79] ?_)
     refine n_ ?_
     refine if_ (fun h52 => ?_) (fun h52 => ?_)
     ·have h52w := h52
      have ⟨h52, h53⟩ := band_true h52
      have h52 := of_decide_eq_true h52
      have h53 := of_decide_eq_true h53
      refine q_ (g_ (s_ (fA 3 Ty.fi50_3) (o_ (st1 0 Ty.sz4 ?_))))
      refine z_ (n_ (g_ (s_ mv_ (s_ (x_subrow (lo := 1) (hi := (rout10.drop 2).length) rfl Tryz.underlying22 Ty.sz9 (.inl rfl) (.inr ⟨rfl, rfl⟩) lt_ lt_) ?_))))
      have hro54 := RO.subM hro22 (rout10C - 2) 1 (((rout10.drop 2).length) - 1) lt_
      rw [show ((rout10.drop 2).length) - 1 = ((rout10.drop 2).drop 1).length from List.length_drop.symm, List.take_length] at hro54
      refine JO_weaken (E' := [(4, vL (some ⟨b5, 0, none⟩) 3 3), (5, vL outA out.length outC), (20, vL e6 ((R44.splitC 44 s).length) e7), (21, vI (((R44.splitC 44 s).length : Nat) : Int)), (22, vI ((k : Nat) : Int)), (8, vL (subA rout10A rout10C 2 1) ((rout10.drop 2).length) (rout10C - 2)), (10, vB ok16), (12, vB ok19), (13, pB b21 0), (79, vB ((decide ((0 : Int) < (((rout10.drop 2).length : Nat) : Int))) && (decide (((rout10.drop 2).getD 0 []) = ([100, 101, 115, 99, 101, 110, 100, 105, 110, 103] : Bytes))))), (80, pB b21 3), (81, vL (subA rout10A rout10C 2 1) ((rout10.drop 2).length) (rout10C - 2)), (82, vL (subA (subA rout10A rout10C 2 1) (rout10C - 2) 1 1) (((rout10.drop 2).drop 1).length) ((rout10C - 2) - 1))]) (L' := [Ent.blk b21 50 [vI n15, vI n18, vI 0, vB true], Ent.row (.slice e6 (R44.splitC 44 s).length e7) 9 1 (R44.splitC 44 s).length ((R44.splitC 44 s).map vS), Ent.blk b5 9 [vS [116, 101, 120, 116], vS [110, 117, 109, 98, 101, 114], vS [98, 105, 110, 97, 114, 121]], Ent.row (.slice outA out.length outC) 50 4 out.length (out.flatMap SortField.enc)]) ⟨rfl, rfl, rfl, rfl, rfl, rfl, rfl, rfl, rfl, rfl, rfl, rfl, (congrArg (fun n : Nat => some (Value.slice (subA (subA rout10A rout10C 2 1) (rout10C - 2) 1 1) n ((rout10C - 2) - 1))) (by exact List.length_drop.symm)), trivial⟩ (fun _ h => h) ?_
      refine s_ av_ (z_ (n_ (q_ (q_ (g_ (s_ mv_ (s_ (x_not rfl) (s_ mv_ ?_))))))))
      refine or_ 2 (!ok19) (fun g55 => ?_) ?_
      ·have g55r := g55
       have g55r : (ok16) = true := bnot_false g55r
       refine sg_ g55 mv_ (sg_ g55 (x_not rfl) ?_)
       exact cr_
      refine s_ mv_ ?_
      refine or_ 3 (decide ((0 : Int) < ((((rout10.drop 2).drop 1).length : Nat) : Int))) (fun g56 => ?_) ?_
      ·have g56r := g56
       have ⟨g56r, h57⟩ := bor_false g56r
       have g56r : (ok16) = true := bnot_false g56r
       have h57 : (ok19) = true := bnot_false h57
       refine sg_ g56 mv_ (sg_ g56 (lnS Tryz.underlying22) (sg_ g56 (x_gtr_i rfl rfl) ?_))
       exact cr_
      refine z_ (n_ ?_)
      refine if_ (fun h58 => ?_) (fun h58 => ?_)
      ·have h58w := h58
       simp only [Bool.and_eq_true, Bool.or_eq_true, Bool.and_eq_false_iff, Bool.or_eq_false_iff, Bool.not_eq_true', Bool.not_eq_false', decide_eq_true_eq, decide_eq_false_iff_not] at h58
       refine q_ (g_ (s_ av_ (s_ av_ (z_ (xk_ [4, 5, 20, 21, 22, 13, 2, 3] ?_)))))
       refine n_ (rt_ (nr_ (kq_ (nr_ (JX_roundA_ret (kq_ (nr_ ?_)))))))
       refine JX_retsC [_, _] (Value.tuple #[_, _]) Tryz.results27 (fun w h => ⟨rfl, rfl, trivial⟩) rfl [Ent.row (.slice none ([] : List SortField).length 0) 50 4 ([] : List SortField).length (([] : List SortField).flatMap SortField.enc)] (fun _ h => (h.nilrow 50 4).keep [true, false, false, false, false] rfl) (fun _ _ h => (hB2.back _ _ (hB12.back _ _ h))) ⟨([] : List SortField), none, 0, 3, ?_, ?_, ?_⟩
       ·have e_x0 : (0 : Nat) = (([] : List SortField).length) := by first | rfl | omega | (simp_all; done) | (simp_all; omega)
        exact c44s0_
       ·rfl
       ·exact c44s3_
      ·have h58w := h58
       have ⟨h58, h59⟩ := bor_false h58
       have ⟨h58, h60⟩ := bor_false h58
       have h58 : (ok16) = true := bnot_false h58
       have h60 : (ok19) = true := bnot_false h60
       have h59 := of_decide_eq_false h59
       refine sk_ (n_ (g_ (s_ mv_ (r_ (ldN 0 [vI n15, vI n18, vI 0, vB true] Ty.ag50 Ty.sz50) (o_ (O_buildSlice (cs := [vI n15, vI n18, vI 0, vB true]) Tryz.underlying24 Ty.sz50 Ty.ze50 (by decide) (by decide) (by kernel_rfl) fun b61 => ?_))))))
       refine o_ (O_append_f 4 SortField.enc 4 out [(SortField.mk n15 n18 0 true)] Tryz.underlying24 Ty.sz50 Ty.by50 Ty.ze50 rfl (by decide) rfl rfl rfl rfl SortField.enc_len SortField.enc_one (cells_blk 0 (off := 0) (m := 4) rfl rfl) lt_ lt_ fun A62 c63 => ?_)
       refine s_ av_ (z_ (kx_ (n_ (g_ (s_ (x_add_n (a := k) (b := 1) rfl rfl (by omega)) (s_ mv_ (z_ ?_)))))))
       refine JX_roundA ((k + 1, out ++ [(SortField.mk n15 n18 0 true)], A62, c63) : Nat × (List SortField) × (Option Addr) × Nat) ?_ ?_ ⟨rfl, rfl, rfl, rfl, rfl, trivial⟩ (fun _ _ h => (hB12.back _ _ h)) (fun _ h => h.keep [false, false, true, true, true] rfl)
       ·try dsimp only
        refine ⟨?_, ?_, ?_⟩
        ·first | rfl | omega | (simp_all; done) | (simp_all; omega)
        ·exact c44s4_
        ·rw [List.length_append, List.length_singleton]; omega
       ·try dsimp only
        first | omega | (simp; omega) | (simp_all; omega)
     ·have h52w := h52
      simp only [Bool.and_eq_true, Bool.or_eq_true, Bool.and_eq_false_iff, Bool.or_eq_false_iff, Bool.not_eq_true', Bool.not_eq_false', decide_eq_true_eq, decide_eq_false_iff_not] at h52
      refine sk_ (n_ (q_ (q_ (g_ (s_ mv_ (s_ (x_not rfl) (s_ mv_ ?_)))))))
      refine or_ 2 (!ok19) (fun g64 => ?_) ?_
      ·have g64r := g64
       have g64r : (ok16) = true := bnot_false g64r
       refine sg_ g64 mv_ (sg_ g64 (x_not rfl) ?_)
       exact cr_
      refine s_ mv_ ?_
      refine or_ 3 (decide ((0 : Int) < (((rout10.drop 2).length : Nat) : Int))) (fun g65 => ?_) ?_
      ·have g65r := g65
       have ⟨g65r, h66⟩ := bor_false g65r
       have g65r : (ok16) = true := bnot_false g65r
       have h66 : (ok19) = true := bnot_false h66
       refine sg_ g65 mv_ (sg_ g65 (lnS Tryz.underlying22) (sg_ g65 (x_gtr_i rfl rfl) ?_))
       exact cr_
      refine z_ (n_ ?_)
      refine if_ (fun h67 => ?_) (fun h67 => ?_)
      ·have h67w := h67
       simp only [Bool.and_eq_true, Bool.or_eq_true, Bool.and_eq_false_iff, Bool.or_eq_false_iff, Bool.not_eq_true', Bool.not_eq_false', decide_eq_true_eq, decide_eq_false_iff_not] at h67
       refine q_ (g_ (s_ av_ (s_ av_ (z_ (n_ (rt_ (nr_ (kq_ (nr_ (JX_roundA_ret (kq_ (nr_ ?_))))))))))))
       refine JX_retsC [_, _] (Value.tuple #[_, _]) Tryz.results27 (fun w h => ⟨rfl, rfl, trivial⟩) rfl [Ent.row (.slice none ([] : List SortField).length 0) 50 4 ([] : List SortField).length (([] : List SortField).flatMap SortField.enc)] (fun _ h => (h.nilrow 50 4).keep [true, false, false, false, false] rfl) (fun _ _ h => (hB2.back _ _ (hB12.back _ _ h))) ⟨([] : List SortField), none, 0, 3, ?_, ?_, ?_⟩
       ·have e_x0 : (0 : Nat) = (([] : List SortField).length) := by first | rfl | omega | (simp_all; done) | (simp_all; omega)
        exact c44s0_
       ·rfl
       ·exact c44s3_
      ·have h67w := h67
       have ⟨h67, h68⟩ := bor_false h67
       have ⟨h67, h69⟩ := bor_false h67
       have h67 : (ok16) = true := bnot_false h67
       have h69 : (ok19) = true := bnot_false h69
       have h68 := of_decide_eq_false h68
       refine sk_ (n_ (g_ (s_ mv_ (r_ (ldN 0 [vI n15, vI n18, vI 0, vB false] Ty.ag50 Ty.sz50) (o_ (O_buildSlice (cs := [vI n15, vI n18, vI 0, vB false]) Tryz.underlying24 Ty.sz50 Ty.ze50 (by decide) (by decide) (by kernel_rfl) fun b70 => ?_))))))
       refine o_ (O_append_f 4 SortField.enc 4 out [(SortField.mk n15 n18 0 false)] Tryz.underlying24 Ty.sz50 Ty.by50 Ty.ze50 rfl (by decide) rfl rfl rfl rfl SortField.enc_len SortField.enc_one (cells_blk 0 (off := 0) (m := 4) rfl rfl) lt_ lt_ fun A71 c72 => ?_)
       refine s_ av_ (z_ (kx_ (n_ (g_ (s_ (x_add_n (a := k) (b := 1) rfl rfl (by omega)) (s_ mv_ (z_ ?_)))))))
       refine JX_roundA ((k + 1, out ++ [(SortField.mk n15 n18 0 false)], A71, c72) : Nat × (List SortField) × (Option Addr) × Nat) ?_ ?_ ⟨rfl, rfl, rfl, rfl, rfl, trivial⟩ (fun _ _ h => (hB12.back _ _ h)) (fun _ h => h.keep [false, false, true, true, true] rfl)
       ·try dsimp only
        refine ⟨?_, ?_, ?_⟩
        ·first | rfl | omega | (simp_all; done) | (simp_all; omega)
        ·exact c44s4_
        ·rw [List.length_append, List.length_singleton]; omega
       ·try dsimp only
        first | omega | (simp; omega) | (simp_all; omega)
  ·refine J_exit (ne_ (re_ (kh_ (n_ (q_ ?_)))))
   refine q_ (g_ (s_ mv_ (c0 (cl_ Ty.ca21) (fun w hS => f21_ok out outA outC w (RO.of_row hS 2 rfl) hy_) (s_ (x_not rfl) (z_ (n_ ?_))))))
   refine if_ (fun h73 => ?_) (fun h73 => ?_)
   ·have h73w := h73
    have h73 : (R44.valid out) = false := bnot_true h73
    refine q_ (g_ (s_ av_ (s_ av_ (z_ (n_ (rt_ (nr_ ?_)))))))
    refine JX_retsC [_, _] (Value.tuple #[_, _]) Tryz.results27 (fun w h => ⟨rfl, rfl, trivial⟩) rfl [Ent.row (.slice none ([] : List SortField).length 0) 50 4 ([] : List SortField).length (([] : List SortField).flatMap SortField.enc)] (fun _ h => (h.nilrow 50 4).keep [true, false, false, false] rfl) (fun _ _ h => (hB2.back _ _ h)) ⟨([] : List SortField), none, 0, 1, ?_, ?_, ?_⟩
    ·have e_x0 : (0 : Nat) = (([] : List SortField).length) := by first | rfl | omega | (simp_all; done) | (simp_all; omega)
     exact congrArg (fun (x0 : Nat) => Value.tuple #[vL none x0 0, vI 1]) e_x0
    ·rfl
    ·exact c44s3_
   ·have h73w := h73
    have h73 : (R44.valid out) = true := bnot_false h73
    have hi74 := R44.valid_facts h73
    refine sk_ (n_ (q_ (g_ (s_ mv_ (s_ av_ (s_ av_ (z_ (n_ (rt_ ?_)))))))))
    refine JX_retsC [_, _] (Value.tuple #[_, _]) Tryz.results27 (fun w h => ⟨rfl, rfl, trivial⟩) rfl _ (fun _ h => h.keep [false, false, true] rfl) (fun _ _ h => (hB2.back _ _ h)) ⟨out, outA, outC, 0, ?_, ?_, ?_⟩
    ·rfl
    ·rfl
    ·exact c44s3_
end Go.Proofs.YtnfglkgahlaofaaGreatDoor
