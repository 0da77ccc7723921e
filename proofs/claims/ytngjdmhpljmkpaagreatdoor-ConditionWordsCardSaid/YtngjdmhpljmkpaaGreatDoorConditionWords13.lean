/- Pw40k, C40r, Pw40m in one text. -/
import Derived.Test.YtngjdmhpljmkpaaGreatDoorConditionWords10
set_option linter.unusedVariables false
set_option linter.unusedSimpArgs false
namespace Go.Proofs.YtngjdmhpljmkpaaGreatDoor
open Go.GV
namespace R40
open R44
theorem num_T {c : UInt8} {n : Nat} (h : ((decide (c < (48 : UInt8)) || decide ((57 : UInt8) < c)) || decide ((4095 : Int) < ((n : Nat) : Int))) = true) : isD c = false ∨ 4095 < n := by
  simp only [Bool.or_eq_true, decide_eq_true_eq, UInt8.lt_iff_toNat_lt, UInt8.reduceToNat] at h
  unfold isD
  rcases h with (h | h) | h
  · left; rw [decide_eq_false (by omega)]; rfl
  · left; rw [Bool.and_eq_false_iff]; right; exact decide_eq_false (by omega)
  · right; omega
theorem num_F {c : UInt8} {n : Nat} (h : ((decide (c < (48 : UInt8)) || decide ((57 : UInt8) < c)) || decide ((4095 : Int) < ((n : Nat) : Int))) = false) : n ≤ 4095 ∧ isD c = true ∧ 48 ≤ c.toNat ∧ c.toNat ≤ 57 ∧ (c - 48).toNat = c.toNat - 48 := by
  simp only [Bool.or_eq_false_iff, decide_eq_false_iff_not, UInt8.lt_iff_toNat_lt, UInt8.reduceToNat] at h
  obtain ⟨⟨h1, h2⟩, h3⟩ := h
  refine ⟨by omega, ?_, by omega, by omega, ?_⟩
  · unfold isD; rw [decide_eq_true (by omega), decide_eq_true (by omega)]; rfl
  · rw [UInt8.toNat_sub_of_le]
    · rfl
    · rw [UInt8.le_iff_toNat_le]; simp; omega
section
variable {s : Bytes} {k n : Nat}
theorem num_step (hk : k < s.length) (hn : n = vN (s.take k)) (hc : (s.getD k 0 - 48).toNat = (s.getD k 0).toNat - 48) : 10 * n + (s.getD k 0 - 48).toNat = vN (s.take (k + 1)) := by
  rw [take_snoc (d := 0) hk, vN_snoc, ← hn, hc]
theorem num_all (hk : k < s.length) (h : (s.take k).all isD = true) (hc : isD (s.getD k 0) = true) : (s.take (k + 1)).all isD = true := by
  rw [take_snoc (d := 0) hk, List.all_append, h, List.all_cons, hc]; rfl
theorem vN_ge (a : Bytes) : ∀ (b : Bytes), vN a ≤ vN (a ++ b) := by
  intro b
  induction b generalizing a with
  | nil => rw [List.append_nil]; exact Nat.le_refl _
  | cons c b ih =>
    have h1 := ih (a ++ [c])
    rw [vN_snoc, List.append_assoc] at h1
    have : a ++ c :: b = a ++ ([c] ++ b) := rfl
    rw [this]; omega
theorem num_no (hk : k < s.length) (hn : n = vN (s.take k)) (h : isD (s.getD k 0) = false ∨ 4095 < n) : numC s = none := by
  unfold numC
  refine if_neg ?_
  rintro ⟨h1, h2⟩
  rcases h with h | h
  · have h3 := dec_all (vN s)
    rw [h2] at h3
    have := List.all_eq_true.1 h3 _ (getD_mem (d := 0) hk)
    rw [h] at this; cases this
  · have := vN_ge (s.take k) (s.drop k)
    rw [List.take_append_drop] at this; omega
def NumJ (s : Bytes) (n : Int) (ok : Bool) : Prop := (ok = true → numC s = some n) ∧ (ok = false → numC s = none)
theorem NumJ.no (hk : k < s.length) (hn : n = vN (s.take k)) (h : isD (s.getD k 0) = false ∨ 4095 < n) : NumJ s 0 false := ⟨fun h => (by cases h), fun _ => num_no hk hn h⟩
theorem NumJ.done (hk : s.length ≤ k) (hn : n = vN (s.take k)) : NumJ s (n : Int) ((decide ((0 : Int) < ((s.length : Nat) : Int)) && decide (((n : Nat) : Int) ≤ 4095)) && decide (Lib.decDigits ((n : Nat) : Int).toNat = s)) := by
  rw [List.take_of_length_le hk] at hn
  constructor
  · intro h
    simp only [Bool.and_eq_true, decide_eq_true_eq] at h
    have e : ((n : Nat) : Int).toNat = n := by omega
    rw [e] at h
    unfold numC
    rw [if_pos ⟨by omega, by rw [← hn]; exact h.2⟩, hn]
  · intro h
    unfold numC
    refine if_neg ?_
    rintro ⟨h1, h2⟩
    have e : ((n : Nat) : Int).toNat = n := by omega
    rw [e, hn, decide_eq_true h2, Bool.and_true, Bool.and_eq_false_iff, decide_eq_false_iff_not, decide_eq_false_iff_not] at h
    have h3 : s = [] := List.length_eq_zero_iff.1 (by omega)
    have : Lib.decDigits (vN s) ≠ [] := dec_ne _
    exact this (by rw [h2]; exact h3)
end
def TestJ (ws : List Bytes) (t : Test) (z : Int) : Prop := (0 ≤ z → basicK ws 0 = .inl (some (t, z.toNat)) ∧ (z = 2 ∨ z = 4)) ∧ (z < 0 → basicK ws 0 = .inr (-z).toNat ∧ -3 ≤ z)
section
variable {ws : List Bytes} {s : Bytes}
theorem tj_end (h : ws.length < 2) : TestJ ws ⟨0, s, 0, 0⟩ (-1) := by
  have e : ∀ v, isA ws (0 + 1) v = false := fun v => by unfold isA; rw [decide_eq_false (by omega)]; rfl
  refine ⟨fun h => absurd h (by decide), fun _ => ⟨?_, by decide⟩⟩
  unfold basicK; rw [e, e, e]; rfl
theorem tj_is {v w : Bytes} (h : ¬ ws.length < 2) (hw : ws.getD 1 [] = w) : isA ws (0 + 1) v = decide (w = v) := by
  unfold isA; rw [decide_eq_true (by omega), Nat.zero_add, hw]; rfl
theorem tj_failed (hs : ws.getD 0 [] = s) (h : ¬ ws.length < 2) (hw : ws.getD 1 [] = wFAILED) : TestJ ws ⟨1, s, 0, 0⟩ 2 := by
  refine ⟨fun _ => ⟨?_, .inl rfl⟩, fun h => absurd h (by decide)⟩
  unfold basicK; rw [tj_is h hw, if_pos (by decide), hs]; rfl
theorem tj_ran (hs : ws.getD 0 [] = s) (h : ¬ ws.length < 2) (hw : ws.getD 1 [] = wRAN) : TestJ ws ⟨2, s, 0, 0⟩ 2 := by
  refine ⟨fun _ => ⟨?_, .inl rfl⟩, fun h => absurd h (by decide)⟩
  unfold basicK; rw [tj_is h hw, tj_is h hw, if_neg (by decide), if_pos (by decide), hs]; rfl
theorem tj_no (h : ¬ ws.length < 2) (h1 : ¬ ws.getD 1 [] = wFAILED) (h2 : ¬ ws.getD 1 [] = wRAN) (h3 : ¬ ws.getD 1 [] = wRC) : TestJ ws ⟨0, s, 0, 0⟩ (-1) := by
  refine ⟨fun h => absurd h (by decide), fun _ => ⟨?_, by decide⟩⟩
  unfold basicK; rw [tj_is h rfl, tj_is h rfl, tj_is h rfl, if_neg (by simpa using h1), if_neg (by simpa using h2), if_neg (by simpa using h3)]; rfl
theorem basicK_rc (h : ¬ ws.length < 2) (h3 : ws.getD 1 [] = wRC) : basicK ws 0 = (if 0 + 2 < ws.length ∧ 0 ≤ idx rels (ws.getD (0 + 2) []) then
      (if 0 + 3 < ws.length then (match numC (ws.getD (0 + 3) []) with
        | some n => .inl (some (⟨0, ws.getD 0 [], idx rels (ws.getD (0 + 2) []), n⟩, 4))
        | none => .inr 3) else .inr 3)
    else .inr 2) := by
  unfold basicK; rw [tj_is h h3, tj_is h h3, tj_is h h3, if_neg (by decide), if_neg (by decide), if_pos (by decide)]; rfl
theorem tj_2 {t : Test} (h : ¬ ws.length < 2) (h3 : ws.getD 1 [] = wRC) (hn : ¬ (2 < ws.length ∧ 0 ≤ idx rels (ws.getD 2 []))) : TestJ ws t (-2) := by
  refine ⟨fun h => absurd h (by decide), fun _ => ⟨?_, by decide⟩⟩
  rw [basicK_rc h h3]; exact if_neg hn
theorem tj_3 {t : Test} (h : ¬ ws.length < 2) (h3 : ws.getD 1 [] = wRC) (h2 : 2 < ws.length) (hi : 0 ≤ idx rels (ws.getD 2 [])) (hn : ws.length < 4) : TestJ ws t (-3) := by
  refine ⟨fun h => absurd h (by decide), fun _ => ⟨?_, by decide⟩⟩
  rw [basicK_rc h h3, if_pos ⟨h2, hi⟩, if_neg (by omega)]; rfl
theorem tj_4 {t : Test} (h : ¬ ws.length < 2) (h3 : ws.getD 1 [] = wRC) (h2 : 2 < ws.length) (hi : 0 ≤ idx rels (ws.getD 2 [])) (hn : ¬ ws.length < 4) {n : Int} {ok : Bool} (hj : NumJ (ws.getD 3 []) n ok) (ho : ok = false) : TestJ ws t (-3) := by
  refine ⟨fun h => absurd h (by decide), fun _ => ⟨?_, by decide⟩⟩
  rw [basicK_rc h h3, if_pos ⟨h2, hi⟩, if_pos (by omega), show numC (ws.getD (0 + 3) []) = none from hj.2 ho]; rfl
theorem tj_5 (hs : ws.getD 0 [] = s) (h : ¬ ws.length < 2) (h3 : ws.getD 1 [] = wRC) (h2 : 2 < ws.length) (hi : 0 ≤ idx rels (ws.getD 2 [])) (hn : ¬ ws.length < 4) {n : Int} {ok : Bool} (hj : NumJ (ws.getD 3 []) n ok) (ho : ok = true) : TestJ ws ⟨0, s, idx rels (ws.getD 2 []), n⟩ 4 := by
  refine ⟨fun _ => ⟨?_, .inr rfl⟩, fun h => absurd h (by decide)⟩
  rw [basicK_rc h h3, if_pos ⟨h2, hi⟩, if_pos (by omega), show numC (ws.getD (0 + 3) []) = some n from hj.1 ho, hs]; rfl
end
end R40
end Go.Proofs.YtngjdmhpljmkpaaGreatDoor

namespace Go.Proofs.YtngjdmhpljmkpaaGreatDoor
open Go.GV
set_option linter.unusedVariables false
set_option linter.unusedSimpArgs false
theorem c40r0_ {p : Prop} (h : p := by first | exact R40.tj_end (by omega) | exact R40.tj_failed rfl (by omega) (by assumption) | exact R40.tj_ran rfl (by omega) (by assumption) | exact R40.tj_no (by omega) (by assumption) (by assumption) (by assumption) | exact R40.tj_2 (by omega) (by assumption) (fun e => absurd e.1 (by omega)) | exact R40.tj_2 (by omega) (by assumption) (fun e => Int.not_lt.2 e.2 (by assumption)) | exact R40.tj_3 (by omega) (by assumption) (by omega) (Int.not_lt.1 (by assumption)) (by omega) | exact R40.tj_4 (by omega) (by assumption) (by omega) (Int.not_lt.1 (by assumption)) (by omega) (by assumption) (by assumption) | exact R40.tj_5 rfl (by omega) (by assumption) (by omega) (Int.not_lt.1 (by assumption)) (by omega) (by assumption) (by assumption)) : p := h
theorem c40r1_ {p : Prop} (h : p := by first | exact R40.NumJ.no (k := k) (by omega) i1_1 (by assumption) | exact R40.NumJ.done (by omega) i1_1) : p := h
set_option maxRecDepth 20000 in
theorem f50_ok (s : Bytes) (w : World) (q0 : s.length ≤ 140737488355328) : Calls Tryz.prog 50 #[vS s] w (Gives [] w fun v L => ∃ n : Int, ∃ ok : Bool, v = Value.tuple #[vI n, vB ok] ∧ L = [] ∧ (R40.NumJ s n ok)) := by
 refine calls_J [] 48 Tryz.func50 rfl Tryz.ntmps50 [(0, _)] rfl rfl (Give.nil w) ?_
 refine q_ (g_ (s_ av_ (s_ av_ (z_ (n_ (q_ (g_ (s_ av_ (z_ (n_ (q_ (q_ (g_ (s_ av_ (z_ (n_ (k_ ?_)))))))))))))))))
 refine J_loop (X := Nat × Nat) (fun (⟨k, n⟩ : Nat × Nat) => (k ≤ s.length) ∧ (n = R44.vN (s.take k)) ∧ ((s.take k).all R44.isD = true) ∧ (n ≤ 40959)) (fun (⟨k, n⟩ : Nat × Nat) => [(0, vS s), (4, vI ((n : Nat) : Int)), (5, vI ((k : Nat) : Int))]) (fun (⟨k, n⟩ : Nat × Nat) => []) (fun (⟨k, n⟩ : Nat × Nat) => s.length - k) ((0, 0) : Nat × Nat) ?_ ⟨rfl, rfl, rfl, trivial⟩ (fun _ h => h) ?_
 ·try dsimp only
  refine ⟨?_, ?_, ?_, ?_⟩
  ·first | rfl | omega | (simp_all; done) | (simp_all; omega)
  ·rfl
  ·rfl
  ·first | rfl | omega | (simp_all; done) | (simp_all; omega)
 rintro ⟨k, n⟩ hI1
 obtain ⟨i1_0, i1_1, i1_2, i1_3⟩ := hI1
 try dsimp only at i1_0
 try dsimp only at i1_1
 try dsimp only at i1_2
 try dsimp only at i1_3
 try dsimp only
 refine q_ (q_ (g_ (s_ mv_ (s_ mv_ (s_ (x_len_s rfl Tryz.underlying9) (s_ (x_lss_i rfl rfl) (z_ (n_ ?_))))))))
 refine ifd (fun h1w h1 => ?_) (fun h1w h1 => ?_)
 ·try have hi2 := R40.num_T h1w
  try have hi3 := R40.num_F h1w
  refine sk_ (n_ (q_ (k_ (q_ (q_ (g_ (s_ mv_ (s_ mv_ (s_ (x_idx_s (k := k) rfl rfl Tryz.underlying9 (by omega)) (js_ (vB (decide (s.getD k 0 < (48 : UInt8)))) (x_lss_u8 rfl rfl) (s_ mv_ ?_)))))))))))
  refine or_ 4 (decide ((57 : UInt8) < s.getD k 0)) (fun g4 => ?_) ?_
  ·have g4r := g4
   have g4r := of_decide_eq_false g4r
   have g4ru := g4r
   try simp only [UInt8.lt_iff_toNat_lt, UInt8.le_iff_toNat_le, UInt8.reduceToNat, UInt32.lt_iff_toNat_lt, UInt32.le_iff_toNat_le, UInt32.reduceToNat, UInt64.lt_iff_toNat_lt, UInt64.le_iff_toNat_le, UInt64.reduceToNat] at g4ru
   refine sg_ g4 mv_ (sg_ g4 mv_ (sg_ g4 (x_idx_s (k := k) rfl rfl Tryz.underlying9 (by omega)) (jg_ g4 (vB (decide ((57 : UInt8) < s.getD k 0))) (x_gtr_u8 rfl rfl) ?_)))
   exact cr_
  refine s_ mv_ ?_
  refine or_ 2 (decide ((4095 : Int) < ((n : Nat) : Int))) (fun g5 => ?_) ?_
  ·have g5r := g5
   have ⟨g5r, h6⟩ := bor_false g5r
   have g5r := of_decide_eq_false g5r
   have g5ru := g5r
   try simp only [UInt8.lt_iff_toNat_lt, UInt8.le_iff_toNat_le, UInt8.reduceToNat, UInt32.lt_iff_toNat_lt, UInt32.le_iff_toNat_le, UInt32.reduceToNat, UInt64.lt_iff_toNat_lt, UInt64.le_iff_toNat_le, UInt64.reduceToNat] at g5ru
   have h6 := of_decide_eq_false h6
   have h6u := h6
   try simp only [UInt8.lt_iff_toNat_lt, UInt8.le_iff_toNat_le, UInt8.reduceToNat, UInt32.lt_iff_toNat_lt, UInt32.le_iff_toNat_le, UInt32.reduceToNat, UInt64.lt_iff_toNat_lt, UInt64.le_iff_toNat_le, UInt64.reduceToNat] at h6u
   refine sg_ g5 mv_ (sg_ g5 (x_gtr_i rfl rfl) ?_)
   exact cr_
  refine z_ (n_ ?_)
  refine if_ (fun h7 => ?_) (fun h7 => ?_)
  ·have h7w := h7
   try have hi8 := R40.num_T h7w
   try have hi9 := R40.num_F h7w
   simp only [Bool.and_eq_true, Bool.or_eq_true, Bool.and_eq_false_iff, Bool.or_eq_false_iff, Bool.not_eq_true', Bool.not_eq_false', decide_eq_true_eq, decide_eq_false_iff_not] at h7
   refine q_ (g_ (s_ av_ (s_ av_ (z_ (n_ (rt_ (nr_ (kq_ (nr_ (rr_ (kq_ (nr_ ?_))))))))))))
   refine JX_rets [_, _] (Value.tuple #[_, _]) Tryz.results50 (fun w h => ⟨rfl, rfl, trivial⟩) rfl _ (fun _ h => h) ⟨0, (false), ?_, ?_, ?_⟩
   ·have e_x0 : (false : Bool) = (false) := by first | rfl | omega | (simp_all; done) | (simp_all; omega)
    exact congrArg (fun (x0 : Bool) => Value.tuple #[vI 0, vB x0]) e_x0
   ·rfl
   ·exact c40r1_
  ·have h7w := h7
   try have hi10 := R40.num_T h7w
   try have hi11 := R40.num_F h7w
   have ⟨h7, h12⟩ := bor_false h7
   have ⟨h7, h13⟩ := bor_false h7
   have h7 := of_decide_eq_false h7
   have h7u := h7
   try simp only [UInt8.lt_iff_toNat_lt, UInt8.le_iff_toNat_le, UInt8.reduceToNat, UInt32.lt_iff_toNat_lt, UInt32.le_iff_toNat_le, UInt32.reduceToNat, UInt64.lt_iff_toNat_lt, UInt64.le_iff_toNat_le, UInt64.reduceToNat] at h7u
   have h13 := of_decide_eq_false h13
   have h13u := h13
   try simp only [UInt8.lt_iff_toNat_lt, UInt8.le_iff_toNat_le, UInt8.reduceToNat, UInt32.lt_iff_toNat_lt, UInt32.le_iff_toNat_le, UInt32.reduceToNat, UInt64.lt_iff_toNat_lt, UInt64.le_iff_toNat_le, UInt64.reduceToNat] at h13u
   have h12 := of_decide_eq_false h12
   refine sk_ (n_ (g_ (s_ mv_ (s_ (x_mul_n (a := 10) (b := n) rfl rfl (by omega)) (s_ mv_ (s_ mv_ (s_ (x_idx_s (k := k) rfl rfl Tryz.underlying9 (by omega)) (js_ (vU8 ((s.getD k 0) - 48)) (x_sub_u8 rfl rfl) (s_ (x_conv_u8_i64 rfl Tryz.underlying5 Tryz.underlying3) (s_ (x_add_n (a := 10 * n) (b := ((s.getD k 0) - 48).toNat) rfl rfl (by omega)) (s_ av_ ?_)))))))))))
   refine z_ (kx_ (n_ (g_ (s_ mv_ (s_ (x_add_n (a := k) (b := 1) rfl rfl (by omega)) (s_ av_ (z_ ?_)))))))
   refine JX_round ((k + 1, (10 * n) + (((s.getD k 0) - 48).toNat)) : Nat × Nat) ?_ ?_ ⟨rfl, rfl, rfl, trivial⟩ (fun _ h => h)
   ·try dsimp only
    refine ⟨?_, ?_, ?_, ?_⟩
    ·first | rfl | omega | (simp_all; done) | (simp_all; omega)
    ·exact R40.num_step (by omega) i1_1 (by omega)
    ·exact R40.num_all (by omega) i1_2 (And.left (And.right (by assumption)))
    ·omega
   ·try dsimp only
    first | omega | (simp; omega) | (simp_all; omega)
 ·try have hi14 := R40.num_T h1w
  try have hi15 := R40.num_F h1w
  refine J_exit (ne_ (re_ (kh_ (n_ (q_ ?_)))))
  refine g_ (s_ mv_ (s_ mv_ (s_ (x_len_s rfl Tryz.underlying9) (s_ (x_gtr_i rfl rfl) (s_ mv_ ?_)))))
  refine and_ 2 (decide (((n : Nat) : Int) ≤ 4095)) (fun g16 => ?_) ?_
  ·have g16r := g16
   have g16r := of_decide_eq_true g16r
   refine sg_ g16 mv_ (sg_ g16 (x_leq_i rfl rfl) ?_)
   exact cr_
  refine s_ mv_ ?_
  refine and_ 4 (decide (Lib.decDigits ((n : Nat) : Int).toNat = s)) (fun g17 => ?_) ?_
  ·have g17r := g17
   have ⟨g17r, h18⟩ := band_true g17r
   have g17r := of_decide_eq_true g17r
   have h18 := of_decide_eq_true h18
   refine sg_ g17 mv_ (c0g g17 (cl_ Ty.ca29) (fun w hS => f29_ok _ w hy_ hy_) ?_)
   have ha19 := R44.dec_lenI ((n : Nat) : Int) (by omega)
   refine sg_ g17 mv_ (sg_ g17 (x_eql_s rfl rfl) ?_)
   exact cr_
  refine s_ av_ (s_ av_ (z_ (n_ (rt_ ?_))))
  refine JX_rets [_, _] (Value.tuple #[_, _]) Tryz.results50 (fun w h => ⟨rfl, rfl, trivial⟩) rfl _ (fun _ h => h) ⟨((n : Nat) : Int), (((decide ((0 : Int) < ((s.length : Nat) : Int))) && (decide (((n : Nat) : Int) ≤ 4095))) && (decide (Lib.decDigits ((n : Nat) : Int).toNat = s))), ?_, ?_, ?_⟩
  ·rfl
  ·rfl
  ·exact c40r1_
set_option maxRecDepth 20000 in
theorem f23_ok (ws : List Bytes) (wsA : Option Addr) (wsC : Nat) (w : World) (wsR : RO [] w wsA (ws.map vS)) (q0 : 1 ≤ ws.length) (q1 : ws.length ≤ 1000000) (q2 : ∀ k, (ws.getD k []).length ≤ 140737488355328) : Calls Tryz.prog 23 #[vL wsA ws.length wsC] w (Gives [] w fun v L => ∃ tk : Int, ∃ tw : Bytes, ∃ tp : Int, ∃ tn : Int, ∃ z : Int, v = Value.tuple #[vG [vI tk, vS tw, vI tp, vI tn], vI z] ∧ L = [] ∧ (R40.TestJ ws (Test.mk tk tw tp tn) z)) := by
 refine calls_J [] 61 Tryz.func23 rfl Tryz.ntmps23 [(0, _)] rfl rfl (Give.nil w) ?_
 refine q_ (g_ (o_ (al_ Ty.ze40 fun b1 => ?_)))
 refine s_ av_ (z_ (n_ (q_ (g_ (s_ mv_ (r_ (ixM (k := 0) (cells_ro wsR) Tryz.underlying22 Ty.sz9) (r_ (ldM vS [] (cells_ro wsR) Ty.sc9) (js_ (vG [vI 0, vS (ws.getD 0 []), vI 0, vI 0]) (x_build (by kernel_rfl)) (o_ (al_ Ty.ze40 fun b2 => ?_))))))))))
 refine o_ (stG 0 Ty.sz40 ?_)
 refine z_ (n_ (q_ (q_ (g_ (s_ mv_ (s_ (lnS Tryz.underlying22) (s_ (x_lss_i rfl rfl) (z_ (n_ ?_)))))))))
 refine ifd (fun h3w h3 => ?_) (fun h3w h3 => ?_)
 ·refine q_ (g_ (r_ (ldN 0 [vI 0, vS (ws.getD 0 []), vI 0, vI 0] Ty.ag40 Ty.sz40) (o_ (stG 1 Ty.sz40 ?_))))
  refine s_ av_ (z_ (n_ (rt_ (nr_ ?_))))
  refine JX_rets [_, _] (Value.tuple #[_, _]) Tryz.results23 (fun w h => ⟨⟨_, rfl, load_blkN 1 [vI 0, vS (ws.getD 0 []), vI 0, vI 0] h rfl Ty.ag40 Ty.sz40 rfl⟩, rfl, trivial⟩) rfl _ (fun _ h => h.keep [false, false] rfl) ⟨0, (ws.getD 0 []), 0, 0, (-1), ?_, ?_, ?_⟩
  ·rfl
  ·rfl
  ·exact c40r0_
 ·refine sk_ (n_ (q_ (q_ (g_ (s_ mv_ (r_ (ixM (k := 1) (cells_ro wsR) Tryz.underlying22 Ty.sz9) (r_ (ldM vS [] (cells_ro wsR) Ty.sc9) (z_ (n_ (k_ (q_ (g_ (js_ (vB (decide ((ws.getD 1 []) = ([102, 97, 105, 108, 101, 100] : Bytes)))) (x_eql_s rfl rfl) (s_ av_ (z_ (n_ ?_))))))))))))))))
  refine ifd (fun h4w h4 => ?_) (fun h4w h4 => ?_)
  ·refine q_ (g_ (s_ (fA 0 Ty.fi40_0) (o_ (st1 0 Ty.sz3 ?_))))
   refine z_ (n_ (q_ (g_ (r_ (ldN 0 [vI 1, vS (ws.getD 0 []), vI 0, vI 0] Ty.ag40 Ty.sz40) (o_ (stG 1 Ty.sz40 ?_))))))
   refine s_ av_ (z_ (n_ (rt_ (kq_ (nr_ ?_)))))
   refine JX_rets [_, _] (Value.tuple #[_, _]) Tryz.results23 (fun w h => ⟨⟨_, rfl, load_blkN 1 [vI 1, vS (ws.getD 0 []), vI 0, vI 0] h rfl Ty.ag40 Ty.sz40 rfl⟩, rfl, trivial⟩) rfl _ (fun _ h => h.keep [false, false] rfl) ⟨1, (ws.getD 0 []), 0, 0, 2, ?_, ?_, ?_⟩
   ·rfl
   ·rfl
   ·exact c40r0_
  ·refine q_ (g_ (js_ (vB (decide ((ws.getD 1 []) = ([114, 97, 110] : Bytes)))) (x_eql_s rfl rfl) (s_ av_ (z_ (n_ ?_)))))
   refine ifd (fun h5w h5 => ?_) (fun h5w h5 => ?_)
   ·refine q_ (g_ (s_ (fA 0 Ty.fi40_0) (o_ (st1 0 Ty.sz3 ?_))))
    refine z_ (n_ (q_ (g_ (r_ (ldN 0 [vI 2, vS (ws.getD 0 []), vI 0, vI 0] Ty.ag40 Ty.sz40) (o_ (stG 1 Ty.sz40 ?_))))))
    refine s_ av_ (z_ (n_ (rt_ (kq_ (nr_ ?_)))))
    refine JX_rets [_, _] (Value.tuple #[_, _]) Tryz.results23 (fun w h => ⟨⟨_, rfl, load_blkN 1 [vI 2, vS (ws.getD 0 []), vI 0, vI 0] h rfl Ty.ag40 Ty.sz40 rfl⟩, rfl, trivial⟩) rfl _ (fun _ h => h.keep [false, false] rfl) ⟨2, (ws.getD 0 []), 0, 0, 2, ?_, ?_, ?_⟩
    ·rfl
    ·rfl
    ·exact c40r0_
   ·refine q_ (g_ (js_ (vB (decide ((ws.getD 1 []) = ([114, 99] : Bytes)))) (x_eql_s rfl rfl) (s_ av_ (z_ (n_ ?_)))))
    refine ifd (fun h6w h6 => ?_) (fun h6w h6 => ?_)
    ·refine sk_ (kx_ (n_ (q_ (g_ (s_ (fA 0 Ty.fi40_0) (o_ (st1 0 Ty.sz3 ?_)))))))
     refine s_ (fA 2 Ty.fi40_2) (o_ (st1 0 Ty.sz3 ?_))
     refine z_ (xk_ [0, 2, 3, 4] ?_)
     refine n_ (q_ (q_ (g_ (s_ mv_ (s_ (lnS Tryz.underlying22) (s_ (x_gtr_i rfl rfl) (z_ (n_ ?_))))))))
     refine ifd (fun h7w h7 => ?_) (fun h7w h7 => ?_)
     ·refine g_ (o_ (O_buildSlice (cs := [vS [60], vS [60, 61], vS [61], vS [33, 61], vS [62, 61], vS [62]]) Tryz.underlying22 Ty.sz9 Ty.ze9 (by decide) (by decide) (by kernel_rfl) fun b8 => ?_))
      refine s_ mv_ (r_ (ixM (k := 2) (cells_ro wsR) Tryz.underlying22 Ty.sz9) (r_ (ldM vS [] (cells_ro wsR) Ty.sc9) (c0 (cl_ Ty.ca49) (fun w hS => f49_ok [[60], [60, 61], [61], [33, 61], [62, 61], [62]] _ 6 _ w (RO.of_blk hS 0 (off := 0) (m := 6) rfl rfl) hy_) ?_)))
      have ha9 := R40.idx_lt [[60], [60, 61], [61], [33, 61], [62, 61], [62]] (ws.getD 2 [])
      try simp only [List.length_cons, List.length_nil, Nat.zero_add, Nat.reduceAdd, Nat.reduceMul] at ha9
      refine s_ (fA 2 Ty.fi40_2) (o_ (st1 1 Ty.sz3 ?_))
      refine z_ (n_ (q_ (q_ (g_ (s_ (fA 2 Ty.fi40_2) (r_ (ld_ 1 Ty.sc3) (s_ (x_lss_i rfl rfl) (z_ (n_ ?_)))))))))
      refine ifd (fun h10w h10 => ?_) (fun h10w h10 => ?_)
      ·refine q_ (g_ (r_ (ldN 1 [vI 0, vS (ws.getD 0 []), vI (R40.idx [[60], [60, 61], [61], [33, 61], [62, 61], [62]] (ws.getD 2 [])), vI 0] Ty.ag40 Ty.sz40) (o_ (stG 2 Ty.sz40 ?_))))
       refine s_ av_ (z_ (n_ (rt_ (nr_ ?_))))
       refine JX_rets [_, _] (Value.tuple #[_, _]) Tryz.results23 (fun w h => ⟨⟨_, rfl, load_blkN 2 [vI 0, vS (ws.getD 0 []), vI (R40.idx [[60], [60, 61], [61], [33, 61], [62, 61], [62]] (ws.getD 2 [])), vI 0] h rfl Ty.ag40 Ty.sz40 rfl⟩, rfl, trivial⟩) rfl _ (fun _ h => h.keep [false, false, false] rfl) ⟨0, (ws.getD 0 []), R40.idx [[60], [60, 61], [61], [33, 61], [62, 61], [62]] (ws.getD 2 []), 0, (-2), ?_, ?_, ?_⟩
       ·rfl
       ·rfl
       ·exact c40r0_
      ·refine sk_ (n_ (q_ (q_ (g_ (s_ mv_ (s_ (lnS Tryz.underlying22) (s_ (x_lss_i rfl rfl) (z_ (n_ ?_)))))))))
       refine ifd (fun h11w h11 => ?_) (fun h11w h11 => ?_)
       ·refine q_ (g_ (r_ (ldN 1 [vI 0, vS (ws.getD 0 []), vI (R40.idx [[60], [60, 61], [61], [33, 61], [62, 61], [62]] (ws.getD 2 [])), vI 0] Ty.ag40 Ty.sz40) (o_ (stG 2 Ty.sz40 ?_))))
        refine s_ av_ (z_ (n_ (rt_ (nr_ ?_))))
        refine JX_rets [_, _] (Value.tuple #[_, _]) Tryz.results23 (fun w h => ⟨⟨_, rfl, load_blkN 2 [vI 0, vS (ws.getD 0 []), vI (R40.idx [[60], [60, 61], [61], [33, 61], [62, 61], [62]] (ws.getD 2 [])), vI 0] h rfl Ty.ag40 Ty.sz40 rfl⟩, rfl, trivial⟩) rfl _ (fun _ h => h.keep [false, false, false] rfl) ⟨0, (ws.getD 0 []), R40.idx [[60], [60, 61], [61], [33, 61], [62, 61], [62]] (ws.getD 2 []), 0, (-3), ?_, ?_, ?_⟩
        ·rfl
        ·rfl
        ·exact c40r0_
       ·refine sk_ (n_ (q_ (g_ (s_ mv_ (r_ (ixM (k := 3) (cells_ro wsR) Tryz.underlying22 Ty.sz9) (r_ (ldM vS [] (cells_ro wsR) Ty.sc9) ?_))))))
        refine c1 (cl_ Ty.ca50) (fun w hS => f50_ok _ w hy_) ?_
        rintro _ _ ⟨n12, ok13, rfl, rfl, hf14⟩
        refine s_ mv_ (s_ (ex_ 0) (s_ (ex_ 1) (s_ av_ (s_ av_ (z_ (xk_ [2, 3, 4, 5, 6] ?_))))))
        refine n_ (q_ (q_ (g_ (s_ mv_ (s_ (x_not rfl) (z_ (n_ ?_)))))))
        refine if_ (fun h15 => ?_) (fun h15 => ?_)
        ·have h15w := h15
         have h15 : (ok13) = false := bnot_true h15
         refine q_ (g_ (r_ (ldN 1 [vI 0, vS (ws.getD 0 []), vI (R40.idx [[60], [60, 61], [61], [33, 61], [62, 61], [62]] (ws.getD 2 [])), vI 0] Ty.ag40 Ty.sz40) (o_ (stG 2 Ty.sz40 ?_))))
         refine s_ av_ (z_ (n_ (rt_ (nr_ ?_))))
         refine JX_rets [_, _] (Value.tuple #[_, _]) Tryz.results23 (fun w h => ⟨⟨_, rfl, load_blkN 2 [vI 0, vS (ws.getD 0 []), vI (R40.idx [[60], [60, 61], [61], [33, 61], [62, 61], [62]] (ws.getD 2 [])), vI 0] h rfl Ty.ag40 Ty.sz40 rfl⟩, rfl, trivial⟩) rfl _ (fun _ h => h.keep [false, false, false] rfl) ⟨0, (ws.getD 0 []), R40.idx [[60], [60, 61], [61], [33, 61], [62, 61], [62]] (ws.getD 2 []), 0, (-3), ?_, ?_, ?_⟩
         ·rfl
         ·rfl
         ·exact c40r0_
        ·have h15w := h15
         have h15 : (ok13) = true := bnot_false h15
         refine sk_ (n_ (q_ (g_ (s_ mv_ (s_ (fA 3 Ty.fi40_3) (o_ (st1 1 Ty.sz3 ?_)))))))
         refine z_ (n_ (q_ (g_ (r_ (ldN 1 [vI 0, vS (ws.getD 0 []), vI (R40.idx [[60], [60, 61], [61], [33, 61], [62, 61], [62]] (ws.getD 2 [])), vI n12] Ty.ag40 Ty.sz40) (o_ (stG 2 Ty.sz40 ?_))))))
         refine s_ av_ (z_ (n_ (rt_ ?_)))
         refine JX_rets [_, _] (Value.tuple #[_, _]) Tryz.results23 (fun w h => ⟨⟨_, rfl, load_blkN 2 [vI 0, vS (ws.getD 0 []), vI (R40.idx [[60], [60, 61], [61], [33, 61], [62, 61], [62]] (ws.getD 2 [])), vI n12] h rfl Ty.ag40 Ty.sz40 rfl⟩, rfl, trivial⟩) rfl _ (fun _ h => h.keep [false, false, false] rfl) ⟨0, (ws.getD 0 []), R40.idx [[60], [60, 61], [61], [33, 61], [62, 61], [62]] (ws.getD 2 []), n12, 4, ?_, ?_, ?_⟩
         ·rfl
         ·rfl
         ·exact c40r0_
     ·refine sk_ (n_ (q_ (q_ (g_ (s_ (fA 2 Ty.fi40_2) (r_ (ld_ 0 Ty.sc3) (jr_ (vB true) (z_ (n_ (ift (q_ (g_ (r_ (ldN 0 [vI 0, vS (ws.getD 0 []), vI (-1), vI 0] Ty.ag40 Ty.sz40) (o_ (stG 1 Ty.sz40 ?_)))))))))))))))
      refine s_ av_ (z_ (n_ (rt_ (nr_ ?_))))
      refine JX_rets [_, _] (Value.tuple #[_, _]) Tryz.results23 (fun w h => ⟨⟨_, rfl, load_blkN 1 [vI 0, vS (ws.getD 0 []), vI (-1), vI 0] h rfl Ty.ag40 Ty.sz40 rfl⟩, rfl, trivial⟩) rfl _ (fun _ h => h.keep [false, false] rfl) ⟨0, (ws.getD 0 []), (-1), 0, (-2), ?_, ?_, ?_⟩
      ·rfl
      ·rfl
      ·exact c40r0_
    ·refine q_ (g_ (r_ (ldN 0 [vI 0, vS (ws.getD 0 []), vI 0, vI 0] Ty.ag40 Ty.sz40) (o_ (stG 1 Ty.sz40 ?_))))
     refine s_ av_ (z_ (xk_ [0, 2, 3, 4] ?_))
     refine n_ (rt_ (kq_ (nr_ ?_)))
     refine JX_rets [_, _] (Value.tuple #[_, _]) Tryz.results23 (fun w h => ⟨⟨_, rfl, load_blkN 1 [vI 0, vS (ws.getD 0 []), vI 0, vI 0] h rfl Ty.ag40 Ty.sz40 rfl⟩, rfl, trivial⟩) rfl _ (fun _ h => h.keep [false, false] rfl) ⟨0, (ws.getD 0 []), 0, 0, (-1), ?_, ?_, ?_⟩
     ·rfl
     ·rfl
     ·exact c40r0_
end Go.Proofs.YtngjdmhpljmkpaaGreatDoor

namespace Go.Proofs.YtngjdmhpljmkpaaGreatDoor
open Go.GV
namespace R40
section
variable {op : List Bytes} {out : List Test} {w : Bytes} {all : Bool}
theorem rev_top (h : 0 < op.length) : op.reverse = op.getD (op.length - 1) [] :: (op.take (op.length - 1)).reverse := by
  have e := list_one (d := ([] : Bytes)) (l := op) h
  generalize op.getD (op.length - 1) [] = x at *
  generalize op.take (op.length - 1) = y at *
  rw [e, List.reverse_append]; rfl
theorem rev_snoc : (op ++ [w]).reverse = w :: op.reverse := by rw [List.reverse_append]; rfl
def RdcJ (all : Bool) (out : List Test) (op : List Bytes) (o9 : List Test) (p9 : List Bytes) : Prop := red all o9 p9.reverse = red all out op.reverse ∧ o9.length + p9.length = out.length + op.length
def RdcE (all : Bool) (out : List Test) (op : List Bytes) (o9 : List Test) (p9 : List Bytes) : Prop := red all out op.reverse = (o9, p9.reverse) ∧ o9.length + p9.length = out.length + op.length
variable {o9 : List Test} {p9 : List Bytes}
theorem RdcJ.start : RdcJ all out op out op := ⟨rfl, rfl⟩
theorem RdcJ.step (h : RdcJ all out op o9 p9) (h0 : 0 < p9.length) {k : Int} (hs : ¬ (p9.getD (p9.length - 1) [] = wLP ∨ (p9.getD (p9.length - 1) [] = wOR ∧ all = false))) (hk : k = kindW (p9.getD (p9.length - 1) [])) : RdcJ all out op (o9 ++ [Test.mk k [] 0 0]) (p9.take (p9.length - 1)) := by
  have h1 := h.1
  rw [rev_top h0, red, if_neg hs] at h1
  refine ⟨by rw [hk]; exact h1, ?_⟩
  have := h.2
  rw [List.length_append, List.length_take, List.length_singleton]; omega
theorem RdcJ.stop (h : RdcJ all out op o9 p9) (h0 : 0 < p9.length) (hs : p9.getD (p9.length - 1) [] = wLP ∨ (p9.getD (p9.length - 1) [] = wOR ∧ all = false)) : RdcE all out op o9 p9 := by
  have h1 := h.1
  rw [rev_top h0, red, if_pos hs, ← rev_top h0] at h1
  exact ⟨h1.symm, h.2⟩
theorem RdcJ.done (h : RdcJ all out op o9 p9) (h0 : ¬ 0 < p9.length) : RdcE all out op o9 p9 := by
  have h1 := h.1
  obtain rfl : p9 = [] := List.length_eq_zero_iff.1 (by omega)
  exact ⟨h1.symm, h.2⟩
theorem stop_t {b : Bool} (h : (decide (w = wLP) || (decide (w = wOR) && !b)) = true) : w = wLP ∨ (w = wOR ∧ b = false) := by
  simp only [Bool.or_eq_true, Bool.and_eq_true, decide_eq_true_eq, Bool.not_eq_true'] at h; exact h
theorem stop_f {b : Bool} (h : (decide (w = wLP) || (decide (w = wOR) && !b)) = false) : ¬ (w = wLP ∨ (w = wOR ∧ b = false)) := fun e => by
  have : (decide (w = wLP) || (decide (w = wOR) && !b)) = true := by
    simp only [Bool.or_eq_true, Bool.and_eq_true, decide_eq_true_eq, Bool.not_eq_true']; exact e
  rw [h] at this; cases this
end
def MaJ (ws : List Bytes) (i : Nat) (out : List Test) (op : List Bytes) (b : Bool) : Prop := mach ws i out op.reverse b = mach ws 0 [] [] true
section
variable {ws : List Bytes} {i : Nat} {out o9 : List Test} {op p9 : List Bytes} {t : Test} {z : Int}
theorem MaJ.start : MaJ ws 0 [] [] true := rfl
theorem MaJ.open_ (h : MaJ ws i out op true) (hi : i < ws.length) (hw : ws.getD i [] = wNOT ∨ ws.getD i [] = wLP) : MaJ ws (i + 1) out (op ++ [ws.getD i []]) true := by
  unfold MaJ at *
  rw [mach, dif_pos hi, if_pos ⟨rfl, hw⟩] at h
  rw [rev_snoc]; exact h
theorem MaJ.failed (h : MaJ ws i out op true) (hi : i < ws.length) (hw : ws.getD i [] = wFAILED) : MaJ ws (i + 1) (out ++ [Test.mk 3 [] 0 0]) op false := by
  unfold MaJ at *
  rw [mach, dif_pos hi, if_neg (by rw [hw]; decide), if_pos ⟨rfl, hw⟩] at h
  exact h
theorem basicK_drop (i : Nat) : basicK (ws.drop i) 0 = basicK ws i := by
  have e : ∀ k, (ws.drop i).getD k [] = ws.getD (i + k) [] := fun k => by rw [List.getD_eq_getElem?_getD, List.getElem?_drop, ← List.getD_eq_getElem?_getD]
  have l : ∀ k, (k < (ws.drop i).length) = (i + k < ws.length) := fun k => by rw [List.length_drop]; exact propext (by omega)
  have a : ∀ k w, isA (ws.drop i) k w = isA ws (i + k) w := fun k w => by
    unfold isA; rw [e]; congr 1; exact decide_eq_decide.2 (iff_of_eq (l k))
  unfold basicK
  simp only [Nat.zero_add]
  simp only [a, e, l, Nat.add_zero]
theorem isA_lt {i : Nat} {w : Bytes} (h : isA ws i w = true) : i < ws.length := (isA_iff.1 h).1
theorem basicK_end {i k : Nat} {t : Test} (h : basicK ws i = .inl (some (t, k))) : i + k ≤ ws.length := by
  unfold basicK at h
  split at h
  · rename_i h1; have := isA_lt h1; cases h; omega
  · split at h
    · rename_i h1; have := isA_lt h1; cases h; omega
    · split at h
      · split at h
        · split at h
          · split at h
            · cases h; omega
            · cases h
          · cases h
        · cases h
      · cases h
theorem MaJ.test (h : MaJ ws i out op true) (hi : i < ws.length) (hn : ¬ (ws.getD i [] = wNOT ∨ ws.getD i [] = wLP)) (hf : ¬ ws.getD i [] = wFAILED) (hs : stepV (ws.getD i []) = true) (ht : TestJ (ws.drop i) t z) (hz : 0 ≤ z) : MaJ ws (i + z.toNat) (out ++ [t]) op false ∧ (z = 2 ∨ z = 4) ∧ i + z.toNat ≤ ws.length := by
  obtain ⟨h1, h2⟩ := ht.1 hz
  rw [basicK_drop] at h1
  refine ⟨?_, h2, basicK_end h1⟩
  unfold MaJ at *
  rw [mach, dif_pos hi, if_neg (fun e => hn e.2), if_neg (fun e => hf e.2), if_pos ⟨rfl, hs⟩, h1] at h
  rw [← h]; exact (if_pos (by omega)).symm
theorem drop_short {N : Nat} (h : ∀ k, (ws.getD k []).length ≤ N) (i : Nat) : ∀ k, ((ws.drop i).getD k []).length ≤ N := fun k => by
  rw [List.getD_eq_getElem?_getD, List.getElem?_drop, ← List.getD_eq_getElem?_getD]; exact h _
theorem words_dead {a : List Test} {n e : Int} (h : ((decide (a = a) && decide (n = n)) && decide (e = e)) = false) : False := by simp at h
theorem mach_err {b : Bool} {j : Nat} (h : MaJ ws i out op b) (hi : i < ws.length) (he : mach ws i out op.reverse b = .error j) : parseV ws = ⟨[], (j : Int), 3⟩ := by
  have h0 : ws ≠ [] := fun e => by rw [e] at hi; simp at hi
  rw [← parse_mach, machV, if_neg h0, ← show mach ws i out op.reverse b = mach ws 0 [] [] true from h, he]
theorem MaJ.test_no (h : MaJ ws i out op true) (hi : i < ws.length) (hn : ¬ (ws.getD i [] = wNOT ∨ ws.getD i [] = wLP)) (hf : ¬ ws.getD i [] = wFAILED) (hs : stepV (ws.getD i []) = true) (ht : TestJ (ws.drop i) t z) (hz : z < 0) : parseV ws = ⟨[], (i : Int) - z, 3⟩ ∧ -3 ≤ z := by
  obtain ⟨h1, h2⟩ := ht.2 hz
  refine ⟨?_, h2⟩
  rw [basicK_drop] at h1
  have h3 := mach_err (j := i + (-z).toNat) h hi (by rw [mach, dif_pos hi, if_neg (fun e => hn e.2), if_neg (fun e => hf e.2), if_pos ⟨rfl, hs⟩, h1])
  rw [h3]; congr 1; omega
theorem MaJ.op_ (h : MaJ ws i out op false) (hi : i < ws.length) (hw : ws.getD i [] = wAND ∨ ws.getD i [] = wOR) (hr : RdcE (decide (ws.getD i [] = wOR)) out op o9 p9) : MaJ ws (i + 1) o9 (p9 ++ [ws.getD i []]) true := by
  unfold MaJ at *
  rw [mach, dif_pos hi, if_neg (by simp), if_neg (by simp), if_neg (by simp), if_pos ⟨rfl, hw⟩, hr.1] at h
  rw [rev_snoc]; exact h
theorem MaJ.close (h : MaJ ws i out op false) (hi : i < ws.length) (hw : ws.getD i [] = wRP) (hr : RdcE true out op o9 p9) : (p9.length = 0 → parseV ws = ⟨[], (i : Int), 3⟩) ∧ (0 < p9.length → MaJ ws (i + 1) o9 (p9.take (p9.length - 1)) false) := by
  have e : mach ws i out op.reverse false = if p9.reverse = [] then .error i else mach ws (i + 1) o9 p9.reverse.tail false := by
    rw [mach, dif_pos hi, if_neg (by simp), if_neg (by simp), if_neg (by simp), if_neg (by rw [hw]; decide), if_pos ⟨rfl, hw⟩, hr.1]
  constructor
  · intro h0
    refine mach_err h hi ?_
    rw [e, if_pos (by rw [List.length_eq_zero_iff.1 h0]; rfl)]
  · intro h0
    unfold MaJ at *
    rw [e, if_neg (by rw [rev_top h0]; exact List.cons_ne_nil _ _), rev_top h0] at h
    exact h
theorem MaJ.no {b : Bool} (h : MaJ ws i out op b) (hi : i < ws.length) (h1 : b = true → ¬ (ws.getD i [] = wNOT ∨ ws.getD i [] = wLP)) (h2 : b = true → ¬ ws.getD i [] = wFAILED) (h3 : b = true → ¬ stepV (ws.getD i []) = true) (h4 : b = false → ¬ (ws.getD i [] = wAND ∨ ws.getD i [] = wOR)) (h5 : b = false → ¬ ws.getD i [] = wRP) : parseV ws = ⟨[], (i : Int), 3⟩ := by
  refine mach_err h hi ?_
  rw [mach, dif_pos hi, if_neg (fun e => h1 e.1 e.2), if_neg (fun e => h2 e.1 e.2), if_neg (fun e => h3 e.1 e.2), if_neg (fun e => h4 e.1 e.2), if_neg (fun e => h5 e.1 e.2)]
theorem MaJ.done {b : Bool} (h : MaJ ws i out op b) (hi : i = ws.length) (h0 : ¬ ws.length = 0) (hr : RdcE true out op o9 p9) : (b = true ∨ 0 < p9.length → parseV ws = ⟨[], (ws.length : Int), 3⟩) ∧ (b = false → p9.length = 0 → (32 < o9.length → parseV ws = ⟨[], 0, 8⟩) ∧ (¬ 32 < o9.length → parseV ws = ⟨o9, 0, 0⟩)) := by
  have hn : ws ≠ [] := fun e => h0 (by rw [e]; rfl)
  have e : mach ws 0 [] [] true = if b = true ∨ p9.reverse ≠ [] then .error ws.length else .ok o9 := by
    rw [← show mach ws i out op.reverse b = mach ws 0 [] [] true from h, mach, dif_neg (by omega), hr.1]
  rw [← parse_mach, machV, if_neg hn, e]
  constructor
  · intro h1
    rw [if_pos (h1.imp_right fun h2 => by rw [rev_top h2]; exact List.cons_ne_nil _ _)]
  · intro h1 h2
    rw [if_neg (by rw [h1, List.length_eq_zero_iff.1 h2]; simp)]
    exact ⟨fun h3 => if_pos h3, fun h3 => if_neg h3⟩
end
end R40
end Go.Proofs.YtngjdmhpljmkpaaGreatDoor
