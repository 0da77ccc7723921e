/- Pw40, C40a, GvTa, C40b, GvLt, Pw40c in one text. -/
import Derived.Test.YtngjdmhpljmkpaaDoorAll7
import Derived.Test.YtngjdmhpljmkpaaDoorAll3
import Derived.Test.YtngjdmhpljmkpaaDoorAll6
import Derived.Test.YtngjdmhpljmkpaaDoorAll5
import Derived.Test.YtngjdmhpljmkpaaDoorAll4
set_option linter.unusedVariables false
set_option linter.unusedSimpArgs false
namespace Go.Proofs.YtngjdmhpljmkpaaDoor
open Go.GV
namespace R40
theorem related_list {c op n : Int} (h0 : 0 ≤ op) (h1 : op ≤ 5) : (([decide (c < n), decide (c ≤ n), decide (c = n), decide (c ≠ n), decide (n ≤ c), decide (n < c)] : List Bool).getD op.toNat false) = related c op n := by
  have : op = 0 ∨ op = 1 ∨ op = 2 ∨ op = 3 ∨ op = 4 ∨ op = 5 := by omega
  rcases this with rfl | rfl | rfl | rfl | rfl | rfl <;> rfl
section
variable {t : Test} {e : StepEnd}
theorem holds_0 (h : t.Kind = 0) : (((e.Ran && (!e.Failed)) && (related e.Code t.Op t.N)) : Bool) = holds t e := by unfold holds; rw [if_pos h]
theorem holds_1 (h0 : ¬ t.Kind = 0) (h : t.Kind = 1) : ((e.Ran && e.Failed) : Bool) = holds t e := by unfold holds; rw [if_neg h0, if_pos h]
theorem holds_2 (h0 : ¬ t.Kind = 0) (h : ¬ t.Kind = 1) : e.Ran = holds t e := by unfold holds; rw [if_neg h0, if_neg h]
end
section
variable {l : List Bytes} {s : Bytes} {k : Nat}
theorem idx_cons_ne {x : Bytes} {r : List Bytes} (h : x ≠ s) : idx (x :: r) s = if idx r s < 0 then -1 else idx r s + 1 := by rw [idx, if_neg h]
theorem idx_hit : ∀ {k : Nat} {l : List Bytes}, k < l.length → (∀ i, i < k → l.getD i [] ≠ s) → s = l.getD k [] → (k : Int) = idx l s
  | 0, x :: r, _, _, h => by rw [idx, if_pos (show x = s from h.symm)]; rfl
  | k + 1, x :: r, hk, hn, h => by
    have ih := idx_hit (k := k) (l := r) (by simpa using hk) (fun i hi => hn (i + 1) (by omega)) h
    rw [idx_cons_ne (show x ≠ s from hn 0 (by omega)), ← ih, if_neg (by omega)]; omega
theorem idx_none : ∀ {l : List Bytes}, (∀ i, i < l.length → l.getD i [] ≠ s) → -1 = idx l s
  | [], _ => rfl
  | x :: r, hn => by
    have ih := idx_none (l := r) (fun i hi => hn (i + 1) (by simp; omega))
    rw [idx_cons_ne (show x ≠ s from hn 0 (by simp)), ← ih, if_pos (by omega)]
theorem idx_on : (decide ((0 : Int) ≤ idx l s)) = onP l s := by
  unfold onP
  by_cases h : s ∈ l
  · rw [decide_eq_true (idx_mem.2 h), decide_eq_true h]
  · rw [decide_eq_false (fun e => h (idx_mem.1 e)), decide_eq_false h]
end
section
variable {E : List StepEnd} {k : Nat}
theorem any_yes (hk : k < E.length) (h : failed (E.getD k default) = true) : decide ((0 : Int) ≤ (k : Int)) = E.any failed := by
  rw [decide_eq_true (by omega)]
  exact (List.any_eq_true.2 ⟨_, R44.getD_mem hk, h⟩).symm
theorem any_no (h : ∀ i, i < E.length → failed (E.getD i default) = false) : decide ((0 : Int) ≤ -1) = E.any failed := by
  rw [decide_eq_false (by omega)]
  refine (Bool.eq_false_iff.2 fun h2 => ?_).symm
  obtain ⟨x, hx, h3⟩ := List.any_eq_true.1 h2
  obtain ⟨i, hi, rfl⟩ := List.mem_iff_getElem.1 hx
  have := h i hi
  rw [List.getD_eq_getElem?_getD, List.getElem?_eq_getElem hi] at this
  rw [show failed E[i] = false from this] at h3; cases h3
end
section
variable {P : Bytes → Bool} {ts : List Test} {l : List Node} {k : Nat}
theorem tree_go (hk : k < ts.length) (h : treeG P k l (ts.drop k) = treeG P 0 [] ts) {l' : List Node} (hs : stepT P l k (ts.getD k default) = some l') : treeG P (k + 1) l' (ts.drop (k + 1)) = treeG P 0 [] ts := by
  rw [← h, R44.drop_cons (d := default) hk, treeG, hs]
theorem bare_of {t : Test} {j : Int} (hj : t.Kind = j) (hb : t = Test.mk t.Kind [] 0 0) : t = bare j := by rw [hb]; unfold bare; rw [hj]
theorem tree_neg (hk : k < ts.length) (h : treeG P k l (ts.drop k) = treeG P 0 [] ts) (h4 : (ts.getD k default).Kind = 4) (hb : ts.getD k default = Test.mk (ts.getD k default).Kind [] 0 0) (hn : 1 ≤ l.length) :
    treeG P (k + 1) (l.set (l.length - 1) (Node.neg (l.getD (l.length - 1) default))) (ts.drop (k + 1)) = treeG P 0 [] ts := by
  refine tree_go hk h ?_
  unfold stepT; rw [if_pos ⟨bare_of h4 hb, hn⟩]
theorem tree_pair (hk : k < ts.length) (h : treeG P k l (ts.drop k) = treeG P 0 [] ts) (h5 : (ts.getD k default).Kind = 5 ∨ (ts.getD k default).Kind = 6) (hb : ts.getD k default = Test.mk (ts.getD k default).Kind [] 0 0) (hn : 2 ≤ l.length) :
    treeG P (k + 1) (l.take (l.length - 2) ++ [Node.pair (decide ((ts.getD k default).Kind = 5)) (l.getD (l.length - 2) default) (l.getD (l.length - 1) default)]) (ts.drop (k + 1)) = treeG P 0 [] ts := by
  refine tree_go hk h ?_
  have h4 : ¬ ts.getD k default = bare 4 := fun e => by rw [e] at h5; revert h5; decide
  unfold stepT; rw [if_neg (fun e => h4 e.1), if_pos ⟨h5.imp (fun e => bare_of e hb) (fun e => bare_of e hb), hn⟩]
theorem leaf_1 {t : Test} (h3 : t.Kind = 3) (hb : t = Test.mk t.Kind [] 0 0) : leafOk P t = true := by
  rw [bare_of h3 hb]; unfold leafOk; simp
theorem leaf_2 {t : Test} (h : ((((decide (t.Kind = 1) || decide (t.Kind = 2)) && decide (t.Op = 0)) && decide (t.N = 0)) && P t.Step) = true) : leafOk P t = true := by
  unfold leafOk; rw [h]; simp
theorem leaf_3 {t : Test} (h : ((((((decide (t.Kind = 0)) && (decide ((0 : Int) ≤ t.Op))) && (decide (t.Op ≤ 5))) && (decide ((0 : Int) ≤ t.N))) && (decide (t.N ≤ 4095))) && P t.Step) = true) : leafOk P t = true := by
  unfold leafOk; rw [h]; simp
theorem leaf_no {t : Test} (h1 : ((decide (t.Kind = 3)) && (decide (t = Test.mk t.Kind [] 0 0))) = false) (h2 : ((((decide (t.Kind = 1) || decide (t.Kind = 2)) && decide (t.Op = 0)) && decide (t.N = 0)) && P t.Step) = false)
    (h3 : ((((((decide (t.Kind = 0)) && (decide ((0 : Int) ≤ t.Op))) && (decide (t.Op ≤ 5))) && (decide ((0 : Int) ≤ t.N))) && (decide (t.N ≤ 4095))) && P t.Step) = false) : leafOk P t = false := by
  unfold leafOk
  rw [h2, h3]
  have : decide (t = bare 3) = false := decide_eq_false fun e => by
    rw [e] at h1; revert h1; unfold bare; simp
  rw [this]; rfl
theorem tree_leaf (hk : k < ts.length) (h : treeG P k l (ts.drop k) = treeG P 0 [] ts) (hl : leafOk P (ts.getD k default) = true) : treeG P (k + 1) (l ++ [Node.leaf (ts.getD k default) (k : Int)]) (ts.drop (k + 1)) = treeG P 0 [] ts :=
  tree_go hk h (step_leaf hl)
theorem tree_long (h : 32 < ts.length) : treeV P ts = none := by unfold treeV; rw [if_pos h]
theorem tree_stop (hk : k < ts.length) (h : treeG P k l (ts.drop k) = treeG P 0 [] ts)
    (h4 : (((decide ((ts.getD k default).Kind = 4)) && (decide (((ts.getD k default) : Test) = (Test.mk ((ts.getD k default).Kind) [] 0 0)))) && (decide ((1 : Int) ≤ ((l.length : Nat) : Int)))) = false)
    (h5 : ((((decide ((ts.getD k default).Kind = 5)) || (decide ((ts.getD k default).Kind = 6))) && (decide (((ts.getD k default) : Test) = (Test.mk ((ts.getD k default).Kind) [] 0 0)))) && (decide ((2 : Int) ≤ ((l.length : Nat) : Int)))) = false)
    (hl : leafOk P (ts.getD k default) = false) : treeV P ts = none := by
  have hs : stepT P l k (ts.getD k default) = none := by
    unfold stepT
    rw [if_neg, if_neg, if_neg (by rw [hl]; decide)]
    · rintro ⟨h1, h2⟩
      have e1 : (decide ((ts.getD k default).Kind = 5) || decide ((ts.getD k default).Kind = 6)) = true := by rcases h1 with h1 | h1 <;> rw [h1] <;> rfl
      have e2 : decide (((ts.getD k default) : Test) = (Test.mk ((ts.getD k default).Kind) [] 0 0)) = true := by rcases h1 with h1 | h1 <;> rw [h1] <;> rfl
      rw [e1, e2, decide_eq_true (show (2 : Int) ≤ ((l.length : Nat) : Int) by omega)] at h5; cases h5
    · rintro ⟨h1, h2⟩
      rw [h1, decide_eq_true (show (1 : Int) ≤ ((l.length : Nat) : Int) by omega)] at h4; revert h4; decide
  unfold treeV
  split
  · rfl
  · rw [← h, R44.drop_cons (d := default) hk, treeG, hs]; rfl
theorem tree_end (hk : k = ts.length) (h : treeG P k l (ts.drop k) = treeG P 0 [] ts) (h32 : ts.length ≤ 32) : treeV P ts = one (some l) := by
  unfold treeV
  rw [if_neg (by omega), ← h, hk, List.drop_length]; rfl
theorem tree_len (hk : k = ts.length) (h : treeG P k l (ts.drop k) = treeG P 0 [] ts) (h32 : ts.length ≤ 32) (hl : l.length ≠ 1) : treeV P ts = none := by
  rw [tree_end hk h h32]
  match l, hl with
  | [], _ => rfl
  | [_], hl => exact absurd rfl hl
  | _ :: _ :: _, _ => rfl
theorem tree_one (hk : k = ts.length) (h : treeG P k l (ts.drop k) = treeG P 0 [] ts) (h32 : ts.length ≤ 32) (hl : l.length = 1) : treeV P ts = some (l.getD 0 default) := by
  rw [tree_end hk h h32]
  match l, hl with
  | [x], _ => rfl
end
section
variable {ts : List Test} {steps : List Bytes} {E : List StepEnd} {t : Test} {i : Int}
theorem on_nil (h : ts.length = 0) : onV ts steps = some (.neg (.leaf (bare 3) 0)) := by unfold onV; rw [if_pos (List.length_eq_zero_iff.1 h)]
theorem on_tree (h : ¬ ts.length = 0) : onV ts steps = treeV (onP steps) ts := by unfold onV; rw [if_neg (fun e => h (by rw [e]; rfl))]
theorem on_good (h : (onV ts steps).isSome = true) : good (onP steps) ((onV ts steps).getD default) := by
  obtain ⟨x, hx⟩ := Option.isSome_iff_exists.1 h
  rw [hx]
  by_cases h0 : ts = []
  · subst h0; cases hx; show leafOk _ _ = true; unfold leafOk; simp
  · exact ((onV_some h0).1 hx).2.1
theorem leafV_any (h : t.Kind = 3) : E.any failed = leafV steps E t i := by unfold leafV; rw [if_pos h]
theorem leafV_step (h : ¬ t.Kind = 3) : (decide (idx steps t.Step < ((E.length : Nat) : Int)) && holds t (E.getD (idx steps t.Step).toNat default)) = leafV steps E t i := by unfold leafV; rw [if_neg h]
theorem leafV_t (h : ¬ t.Kind = 3) (h2 : idx steps t.Step < ((E.length : Nat) : Int)) : holds t (E.getD (idx steps t.Step).toNat default) = leafV steps E t i := by rw [← leafV_step h, decide_eq_true h2]; rfl
theorem leafV_f (h : ¬ t.Kind = 3) (h2 : ¬ idx steps t.Step < ((E.length : Nat) : Int)) : false = leafV steps E t i := by rw [← leafV_step h, decide_eq_false h2]; rfl
theorem leaf_code {P : Bytes → Bool} (h : leafOk P t = true) : t.Kind = 0 → 0 ≤ t.Op ∧ t.Op ≤ 5 := fun hk => by
  rcases leaf_any h with h2 | h2 | h2
  · rw [h2] at hk; cases hk
  · omega
  · exact ⟨h2.2.1, h2.2.2.1⟩
theorem leaf_idx (h : leafOk (onP steps) t = true) : t.Kind ≠ 3 → 0 ≤ idx steps t.Step := fun hk => by
  rcases leaf_any h with h2 | h2 | h2
  · exact absurd (by rw [h2]; rfl) hk
  · exact idx_mem.2 (of_decide_eq_true h2.2.2.2)
  · exact idx_mem.2 (of_decide_eq_true h2.2.2.2.2.2)
theorem eval_t {v : Test → Int → Bool} {b : Bool} {y z : Node} (h : b = true) : (eval v y && eval v z) = eval v (Node.pair b y z) := by rw [eval, if_pos h]
theorem eval_f {v : Test → Int → Bool} {b : Bool} {y z : Node} (h : b = false) : (eval v y || eval v z) = eval v (Node.pair b y z) := by rw [eval, if_neg (by rw [h]; decide)]
theorem evalV_no (h : (onV ts steps).isSome = false) {ends : List StepEnd} : false = evalV ts steps ends := by
  unfold evalV
  cases ho : onV ts steps with
  | none => rfl
  | some x => rw [ho] at h; cases h
theorem evalV_yes (h : (onV ts steps).isSome = true) {ends : List StepEnd} : eval (leafV steps (ends.take (min ends.length steps.length))) ((onV ts steps).getD default) = evalV ts steps ends := by
  unfold evalV
  cases ho : onV ts steps with
  | none => rw [ho] at h; cases h
  | some x => rfl
end
end R40
end Go.Proofs.YtngjdmhpljmkpaaDoor

namespace Go.Proofs.YtngjdmhpljmkpaaDoor
open Go.GV
set_option linter.unusedVariables false
set_option linter.unusedSimpArgs false
theorem c40a0_ {p : Prop} (h : p := by first | exact R44.qual_0 (by assumption) | exact R44.qual_bad (k := k) (by omega) (by omega) (by assumption) | exact R44.qual_end (by assumption) (fun i h1 h2 => i1_2 i h1 (by omega))) : p := h
theorem c40a1_ {p : Prop} (h : p := by first | exact R44.name_0 (by assumption) | exact R44.name_bad (k := k) (by omega) (by assumption) | exact R44.name_end (by assumption) (fun i h2 => i1_1 i (by omega))) : p := h
set_option maxRecDepth 20000 in
theorem f49_ok (c : UInt8) (w : World) : Calls Tryd.prog 49 #[vU8 c] w (Gives [] w fun v L => v = vB (R44.isUp c) ∧ L = []) := by
 refine calls_J [] 9 Tryd.func49 rfl Tryd.ntmps49 [(0, _)] rfl rfl (Give.nil w) ?_
 refine q_ (g_ (s_ av_ (z_ (n_ (q_ (g_ (s_ mv_ (js_ (vB (decide ((65 : UInt8) ≤ c))) (x_geq_u8 rfl rfl) (s_ mv_ ?_)))))))))
 refine and_ 2 (decide (c ≤ (90 : UInt8))) (fun g1 => ?_) ?_
 ·have g1r := g1
  have g1r := of_decide_eq_true g1r
  have g1ru := g1r
  try simp only [UInt8.lt_iff_toNat_lt, UInt8.le_iff_toNat_le, UInt8.reduceToNat, UInt32.lt_iff_toNat_lt, UInt32.le_iff_toNat_le, UInt32.reduceToNat, UInt64.lt_iff_toNat_lt, UInt64.le_iff_toNat_le, UInt64.reduceToNat] at g1ru
  refine sg_ g1 mv_ (jg_ g1 (vB (decide (c ≤ (90 : UInt8)))) (x_leq_u8 rfl rfl) ?_)
  exact cr_
 refine s_ av_ (z_ (n_ (rt_ ?_)))
 exact p1 Tryd.results49 rfl ⟨(eB (by rfl)), rfl⟩
set_option maxRecDepth 20000 in
theorem f61_ok (c : UInt8) (w : World) : Calls Tryd.prog 61 #[vU8 c] w (Gives [] w fun v L => v = vB (R44.isDg c) ∧ L = []) := by
 refine calls_J [] 9 Tryd.func61 rfl Tryd.ntmps61 [(0, _)] rfl rfl (Give.nil w) ?_
 refine q_ (g_ (s_ av_ (z_ (n_ (q_ (g_ (s_ mv_ (js_ (vB (decide ((48 : UInt8) ≤ c))) (x_geq_u8 rfl rfl) (s_ mv_ ?_)))))))))
 refine and_ 2 (decide (c ≤ (57 : UInt8))) (fun g1 => ?_) ?_
 ·have g1r := g1
  have g1r := of_decide_eq_true g1r
  have g1ru := g1r
  try simp only [UInt8.lt_iff_toNat_lt, UInt8.le_iff_toNat_le, UInt8.reduceToNat, UInt32.lt_iff_toNat_lt, UInt32.le_iff_toNat_le, UInt32.reduceToNat, UInt64.lt_iff_toNat_lt, UInt64.le_iff_toNat_le, UInt64.reduceToNat] at g1ru
  refine sg_ g1 mv_ (jg_ g1 (vB (decide (c ≤ (57 : UInt8)))) (x_leq_u8 rfl rfl) ?_)
  exact cr_
 refine s_ av_ (z_ (n_ (rt_ ?_)))
 exact p1 Tryd.results61 rfl ⟨(eB (by rfl)), rfl⟩
set_option maxRecDepth 20000 in
theorem f50_ok (c : UInt8) (w : World) : Calls Tryd.prog 50 #[vU8 c] w (Gives [] w fun v L => v = vB (R44.isPl c) ∧ L = []) := by
 refine calls_J [] 9 Tryd.func50 rfl Tryd.ntmps50 [(0, _)] rfl rfl (Give.nil w) ?_
 refine q_ (g_ (s_ av_ (z_ (n_ (q_ (g_ (s_ mv_ (c0 (cl_ Ty.ca49) (fun w hS => f49_ok c w) (s_ mv_ ?_)))))))))
 refine or_ 2 (R44.isDg c) (fun g1 => ?_) ?_
 ·have g1r := g1
  refine sg_ g1 mv_ (c0g g1 (cl_ Ty.ca61) (fun w hS => f61_ok c w) ?_)
  exact cr_
 refine s_ av_ (z_ (n_ (rt_ ?_)))
 exact p1 Tryd.results50 rfl ⟨(eB (by rfl)), rfl⟩
set_option maxRecDepth 20000 in
theorem f48_ok (s : Bytes) (w : World) (q0 : s.length ≤ 9223372036854775807) : Calls Tryd.prog 48 #[vS s, Value.func (.func 49) #[] #[], Value.func (.func 50) #[] #[]] w (Gives [] w fun v L => v = vB (R44.qualV R44.isUp R44.isPl s) ∧ L = []) := by
 refine calls_J [] 35 Tryd.func48 rfl Tryd.ntmps48 [(0, _), (1, _), (2, _)] rfl rfl (Give.nil w) ?_
 refine q_ (g_ (s_ av_ (z_ (n_ (q_ (q_ (g_ (s_ mv_ (s_ (x_len_s rfl Tryd.underlying9) (s_ (x_lss_i rfl rfl) (s_ mv_ ?_)))))))))))
 refine or_ 3 (decide ((8 : Int) < ((s.length : Nat) : Int))) (fun g1 => ?_) ?_
 ·have g1r := g1
  have g1r := of_decide_eq_false g1r
  refine sg_ g1 mv_ (sg_ g1 (x_len_s rfl Tryd.underlying9) (sg_ g1 (x_gtr_i rfl rfl) ?_))
  exact cr_
 refine s_ mv_ ?_
 refine or_ 5 (!(R44.isUp (s.getD 0 0))) (fun g2 => ?_) ?_
 ·have g2r := g2
  have ⟨g2r, h3⟩ := bor_false g2r
  have g2r := of_decide_eq_false g2r
  have h3 := of_decide_eq_false h3
  refine sg_ g2 mv_ (sg_ g2 mv_ (sg_ g2 (x_idx_s (k := 0) rfl rfl Tryd.underlying9 (by omega)) (c0g g2 (x_callv (first := []) (caps := []) rfl Ty.ca49 rfl) (fun w hS => f49_ok _ w) (sg_ g2 (x_not rfl) ?_))))
  exact cr_
 refine z_ (n_ ?_)
 refine if_ (fun h4 => ?_) (fun h4 => ?_)
 ·have h4w := h4
  simp only [Bool.and_eq_true, Bool.or_eq_true, Bool.and_eq_false_iff, Bool.or_eq_false_iff, Bool.not_eq_true', Bool.not_eq_false', decide_eq_true_eq, decide_eq_false_iff_not] at h4
  refine q_ (g_ (s_ av_ (z_ (n_ (rt_ (nr_ ?_))))))
  exact p1 Tryd.results48 rfl ⟨(eB c40a0_), rfl⟩
 ·have h4w := h4
  have ⟨h4, h5⟩ := bor_false h4
  have ⟨h4, h6⟩ := bor_false h4
  have h4 := of_decide_eq_false h4
  have h6 := of_decide_eq_false h6
  have h5 : (R44.isUp (s.getD 0 0)) = true := bnot_false h5
  refine sk_ (n_ (q_ (q_ (g_ (s_ av_ (z_ (n_ (k_ ?_))))))))
  refine J_loop (X := Nat) (fun (k : Nat) => (1 ≤ k) ∧ (k ≤ s.length) ∧ (∀ i, 1 ≤ i → i < k → R44.isPl (s.getD i 0) = true)) (fun (k : Nat) => [(0, vS s), (2, Value.func (.func 50) #[] #[]), (7, vI ((k : Nat) : Int))]) (fun (k : Nat) => []) (fun (k : Nat) => s.length - k) (1 : Nat) ?_ ⟨rfl, rfl, rfl, trivial⟩ (fun _ h => h) ?_
  ·try dsimp only
   refine ⟨?_, ?_, ?_⟩
   ·first | rfl | omega | (simp_all; done) | (simp_all; omega)
   ·first | rfl | omega | (simp_all; done) | (simp_all; omega)
   ·intro i h1 h2; omega
  intro k hI1
  obtain ⟨i1_0, i1_1, i1_2⟩ := hI1
  try dsimp only at i1_0
  try dsimp only at i1_1
  try dsimp only at i1_2
  try dsimp only
  refine q_ (q_ (g_ (s_ mv_ (s_ mv_ (s_ (x_len_s rfl Tryd.underlying9) (s_ (x_lss_i rfl rfl) (z_ (n_ ?_))))))))
  refine ifd (fun h7w h7 => ?_) (fun h7w h7 => ?_)
  ·refine sk_ (n_ (q_ (k_ (q_ (g_ (s_ mv_ (s_ mv_ (s_ mv_ (s_ (x_idx_s (k := k) rfl rfl Tryd.underlying9 (by omega)) (c0 (x_callv (first := []) (caps := []) rfl Ty.ca50 rfl) (fun w hS => f50_ok _ w) (s_ (x_not rfl) (z_ (n_ ?_)))))))))))))
   refine if_ (fun h8 => ?_) (fun h8 => ?_)
   ·have h8w := h8
    have h8 : (R44.isPl (s.getD k 0)) = false := bnot_true h8
    refine q_ (g_ (s_ av_ (z_ (n_ (rt_ (kq_ (nr_ (rr_ (kq_ (nr_ ?_))))))))))
    exact p1 Tryd.results48 rfl ⟨(eB c40a0_), rfl⟩
   ·have h8w := h8
    have h8 : (R44.isPl (s.getD k 0)) = true := bnot_false h8
    refine sk_ (kx_ (n_ (g_ (s_ mv_ (s_ (x_add_n (a := k) (b := 1) rfl rfl (by omega)) (s_ av_ (z_ ?_)))))))
    refine JX_round (k + 1 : Nat) ?_ ?_ ⟨rfl, rfl, rfl, trivial⟩ (fun _ h => h)
    ·try dsimp only
     refine ⟨?_, ?_, ?_⟩
     ·first | rfl | omega | (simp_all; done) | (simp_all; omega)
     ·first | rfl | omega | (simp_all; done) | (simp_all; omega)
     ·exact R44.qual_step i1_2 (by assumption)
    ·try dsimp only
     first | omega | (simp; omega) | (simp_all; omega)
  ·refine J_exit (ne_ (re_ (kh_ (n_ (q_ ?_)))))
   refine g_ (s_ av_ (z_ (n_ (rt_ ?_))))
   exact p1 Tryd.results48 rfl ⟨(eB c40a0_), rfl⟩
set_option maxRecDepth 20000 in
theorem f47_ok (s : Bytes) (w : World) (q0 : s.length ≤ 9223372036854775807) : Calls Tryd.prog 47 #[vS s] w (Gives [] w fun v L => v = vB (R44.qualV R44.isUp R44.isPl s) ∧ L = []) := by
 refine calls_J [] 5 Tryd.func47 rfl Tryd.ntmps47 [(0, _)] rfl rfl (Give.nil w) ?_
 refine q_ (g_ (s_ av_ (z_ (n_ (q_ (g_ (s_ mv_ (c0 (cl_ Ty.ca48) (fun w hS => f48_ok s w hy_) (s_ av_ (z_ (n_ (rt_ ?_))))))))))))
 exact p1 Tryd.results47 rfl ⟨rfl, rfl⟩
set_option maxRecDepth 20000 in
theorem f46_ok (s : Bytes) (w : World) (hT : Tab [] w) (q0 : s.length ≤ 1000000) : Calls Tryd.prog 46 #[vS s, vI 31, Value.func (.func 47) #[] #[]] w (Gives [] w fun v L => v = vB (R44.nameV (R44.qualV R44.isUp R44.isPl) s) ∧ L = []) := by
 refine calls_J [] 30 Tryd.func46 rfl Tryd.ntmps46 [(0, _), (1, _), (2, _)] rfl rfl (Give.nil w) ?_
 refine q_ (g_ (s_ av_ (z_ (n_ (q_ (q_ (g_ (s_ mv_ (s_ (x_len_s rfl Tryd.underlying9) (s_ (x_lss_i rfl rfl) (s_ mv_ ?_)))))))))))
 refine or_ 4 (decide ((31 : Int) < ((s.length : Nat) : Int))) (fun g1 => ?_) ?_
 ·have g1r := g1
  have g1r := of_decide_eq_false g1r
  refine sg_ g1 mv_ (sg_ g1 (x_len_s rfl Tryd.underlying9) (sg_ g1 mv_ (sg_ g1 (x_gtr_i rfl rfl) ?_)))
  exact cr_
 refine z_ (n_ ?_)
 refine if_ (fun h2 => ?_) (fun h2 => ?_)
 ·have h2w := h2
  simp only [Bool.and_eq_true, Bool.or_eq_true, Bool.and_eq_false_iff, Bool.or_eq_false_iff, Bool.not_eq_true', Bool.not_eq_false', decide_eq_true_eq, decide_eq_false_iff_not] at h2
  refine q_ (g_ (s_ av_ (z_ (n_ (rt_ (nr_ ?_))))))
  exact p1 Tryd.results46 rfl ⟨(eB c40a1_), rfl⟩
 ·have h2w := h2
  have ⟨h2, h3⟩ := bor_false h2
  have h2 := of_decide_eq_false h2
  have h3 := of_decide_eq_false h3
  refine sk_ (n_ (q_ (q_ (g_ (s_ mv_ ?_)))))
  refine c1 (cl_ Ty.ca60) (fun w hS => split_ok s w (hT.on hS (fun _ h => by cases h)) hy_) ?_
  rintro _ _ ⟨e4, e5, rfl, rfl⟩
  have ha6 := R44.splitC_count 46 s
  refine s_ (lnS Tryd.underlying23) (s_ mv_ (z_ (n_ (k_ ?_))))
  refine J_loop (X := Nat) (fun (k : Nat) => (k ≤ (R44.splitC 46 s).length) ∧ (∀ i, i < k → (R44.qualV R44.isUp R44.isPl) ((R44.splitC 46 s).getD i []) = true)) (fun (k : Nat) => [(2, Value.func (.func 47) #[] #[]), (19, vL e4 ((R44.splitC 46 s).length) e5), (20, vI (((R44.splitC 46 s).length : Nat) : Int)), (21, vI ((k : Nat) : Int))]) (fun (k : Nat) => [Ent.row (.slice e4 (R44.splitC 46 s).length e5) 9 1 (R44.splitC 46 s).length ((R44.splitC 46 s).map vS)]) (fun (k : Nat) => (R44.splitC 46 s).length - k) (0 : Nat) ?_ ⟨rfl, rfl, rfl, rfl, trivial⟩ (fun _ h => h) ?_
  ·try dsimp only
   refine ⟨?_, ?_⟩
   ·first | rfl | omega | (simp_all; done) | (simp_all; omega)
   ·intro i h2; omega
  intro k hI1
  obtain ⟨i1_0, i1_1⟩ := hI1
  try dsimp only at i1_0
  try dsimp only at i1_1
  have hpl := R44.splitC_len 46 s k
  try dsimp only
  refine q_ (g_ (s_ (x_lss_i rfl rfl) (z_ (n_ (q_ ?_)))))
  refine ifd (fun h7w h7 => ?_) (fun h7w h7 => ?_)
  ·refine sk_ (n_ (q_ (k_ (q_ (g_ (r_ (ixM (cells_row 0 rfl) Tryd.underlying23 Ty.sz9) (r_ (ldM vS [] (cells_row 0 rfl) Ty.sc9) (s_ av_ (z_ (n_ (q_ (g_ (s_ mv_ (s_ mv_ (c0 (x_callv (first := []) (caps := []) rfl Ty.ca47 rfl) (fun w hS => f47_ok _ w hy_) (s_ (x_not rfl) (z_ (n_ ?_))))))))))))))))))
   refine if_ (fun h8 => ?_) (fun h8 => ?_)
   ·have h8w := h8
    have h8 : (R44.qualV R44.isUp R44.isPl ((R44.splitC 46 s).getD k [])) = false := bnot_true h8
    refine q_ (g_ (s_ av_ (z_ (n_ (rt_ (kq_ (nr_ (rr_ (kq_ (nr_ ?_))))))))))
    exact p1 Tryd.results46 rfl ⟨(eB c40a1_), rfl⟩
   ·have h8w := h8
    have h8 : (R44.qualV R44.isUp R44.isPl ((R44.splitC 46 s).getD k [])) = true := bnot_false h8
    refine sk_ (kx_ (n_ (g_ (s_ (x_add_n (a := k) (b := 1) rfl rfl (by omega)) (s_ mv_ (z_ ?_))))))
    refine JX_round (k + 1 : Nat) ?_ ?_ ⟨rfl, rfl, rfl, rfl, trivial⟩ (fun _ h => h)
    ·try dsimp only
     refine ⟨?_, ?_⟩
     ·first | rfl | omega | (simp_all; done) | (simp_all; omega)
     ·exact R44.all_step i1_1 (by assumption)
    ·try dsimp only
     first | omega | (simp; omega) | (simp_all; omega)
  ·refine J_exit (ne_ (re_ (kh_ (n_ (q_ ?_)))))
   refine g_ (s_ av_ (z_ (n_ (rt_ ?_))))
   exact p1 Tryd.results46 rfl ⟨(eB c40a1_), rfl⟩
set_option maxRecDepth 20000 in
theorem f37_ok (s : Bytes) (w : World) (hT : Tab [] w) (q0 : s.length ≤ 1000000) : Calls Tryd.prog 37 #[vS s] w (Gives [] w fun v L => v = vB (R44.nameV (R44.qualV R44.isUp R44.isPl) s) ∧ L = []) := by
 refine calls_J [] 5 Tryd.func37 rfl Tryd.ntmps37 [(0, _)] rfl rfl (Give.nil w) ?_
 refine q_ (g_ (s_ av_ (z_ (n_ (q_ (g_ (s_ mv_ (c0 (cl_ Ty.ca46) (fun w hS => f46_ok s w (hT.on hS (fun _ h => by cases h)) hy_) (s_ av_ (z_ (n_ (rt_ ?_))))))))))))
 exact p1 Tryd.results37 rfl ⟨rfl, rfl⟩
set_option maxRecDepth 20000 in
theorem f25_ok (s : Bytes) (w : World) (hT : Tab [] w) (q0 : s.length ≤ 1000000) : Calls Tryd.prog 25 #[vS s] w (Gives [] w fun v L => v = vB (R40.stepV s) ∧ L = []) := by
 refine calls_J [] 10 Tryd.func25 rfl Tryd.ntmps25 [(0, _)] rfl rfl (Give.nil w) ?_
 refine q_ (g_ (s_ av_ (z_ (n_ (q_ (g_ (s_ mv_ (c0 (cl_ Ty.ca37) (fun w hS => f37_ok s w (hT.on hS (fun _ h => by cases h)) hy_) (s_ mv_ ?_)))))))))
 refine and_ 3 (decide (((s.count 46 : Nat) : Int) < 2)) (fun g1 => ?_) ?_
 ·have g1r := g1
  refine sg_ g1 mv_ (c0g g1 (cl_ Ty.ca38) (fun w hS => count_ok s w) (sg_ g1 (x_lss_i rfl rfl) ?_))
  exact cr_
 refine s_ av_ (z_ (n_ (rt_ ?_)))
 exact p1 Tryd.results25 rfl ⟨(eB (by rfl)), rfl⟩
end Go.Proofs.YtngjdmhpljmkpaaDoor

namespace Go.GV
open Go.RowKit
section
variable {E : Env} {P : Program} {w : World} {x : Operand} {dst : Option Nat} {t a xt ty : TypeId} {pos : String} {af : Array Edge} {g : Option (Nat × Bool)}
theorem x_assert_hit {fs : Array Field} {v : Value} (hx : ev E x = .iface t v) (ht : P.underlying t = some (.struct fs)) : (execOp (ev E) ⟨dst, .typeAssert x xt t true, ty, pos, af, g⟩).run P w = .ok (.value (.tuple #[v, vB true])) w := by
  have h : (Instr.typeAssert (.iface t v) xt t true).run P w = .ok (.tuple #[v, vB true]) w := by
    unfold Instr.typeAssert
    simp only [Sem.run_bind, run_underlying ht, Result.andThen_ok, if_true, Sem.run_pure]
  simp only [execOp, hx]
  show Sem.run P (do let v ← Instr.typeAssert (.iface t v) xt t true; pure (Next.value v)) w = _
  rw [Sem.run_bind, h]; rfl
theorem x_assert_miss {fs : Array Field} {v zv : Value} (hx : ev E x = .iface t v) (ht : P.underlying a = some (.struct fs)) (hz : zeroIs P a = some zv) (hne : t ≠ a) : (execOp (ev E) ⟨dst, .typeAssert x xt a true, ty, pos, af, g⟩).run P w = .ok (.value (.tuple #[zv, vB false])) w := by
  have h : (Instr.typeAssert (.iface t v) xt a true).run P w = .ok (.tuple #[zv, vB false]) w := by
    unfold Instr.typeAssert
    simp only [Sem.run_bind, run_underlying ht, Result.andThen_ok, if_neg hne, if_true, run_zeroValue_is hz, Sem.run_pure]
  simp only [execOp, hx]
  show Sem.run P (do let v ← Instr.typeAssert (.iface t v) xt a true; pure (Next.value v)) w = _
  rw [Sem.run_bind, h]; rfl
end
end Go.GV

namespace Go.Proofs.YtngjdmhpljmkpaaDoor
open Go.GV
set_option linter.unusedVariables false
set_option linter.unusedSimpArgs false
theorem c40b0_ {p : Prop} (h : p := by first | exact R40.holds_0 (by assumption) | exact R40.holds_1 (by assumption) (by assumption) | exact R40.holds_2 (by assumption) (by assumption)) : p := h
theorem c40b2_ {p : Prop} (h : p := by first | exact R40.idx_hit (k := k) (by omega) i1_1 (by assumption) | exact R40.idx_none (fun i hi => i1_1 i (by omega))) : p := h
theorem c40b4_ {p : Prop} (h : p := by first | exact R40.any_yes (k := k) (by omega) (by assumption) | exact R40.any_no (fun i hi => i1_1 i (by omega))) : p := h
set_option maxRecDepth 20000 in
theorem f35_ok (c : Int) (op : Int) (n : Int) (w : World) (q0 : 0 ≤ op) (q1 : op ≤ 5) : Calls Tryd.prog 35 #[vI c, vI op, vI n] w (Gives [] w fun v L => v = vB (R40.related c op n) ∧ L = []) := by
 refine calls_J [] 29 Tryd.func35 rfl Tryd.ntmps35 [(0, _), (1, _), (2, _)] rfl rfl (Give.nil w) ?_
 refine q_ (g_ (s_ av_ (z_ (n_ (q_ (g_ (s_ mv_ (s_ mv_ (s_ (x_lss_i rfl rfl) (s_ mv_ (s_ mv_ (s_ (x_leq_i rfl rfl) (s_ mv_ ?_)))))))))))))
 refine s_ mv_ (s_ (x_eql_i rfl rfl) (s_ mv_ (s_ mv_ (s_ (x_neq_i rfl rfl) (s_ mv_ (s_ mv_ (s_ (x_geq_i rfl rfl) (s_ mv_ (s_ mv_ ?_)))))))))
 refine s_ (x_gtr_i rfl rfl) (o_ (O_buildSlice (cs := [vB (decide (c < n)), vB (decide (c ≤ n)), vB (decide (c = n)), vB (decide (c ≠ n)), vB (decide (n ≤ c)), vB (decide (n < c))]) Tryd.underlying81 Ty.sz4 Ty.ze4 (by decide) (by decide) (by kernel_rfl) fun b1 => ?_))
 refine s_ mv_ (s_ (x_indexAddr_sl (k := (op).toNat) Tryd.underlying81 Ty.sz4 rfl (ix_nat rfl (by omega)) lt_ (add_0k1 _ _)) (r_ (x_load_arr 0 (xs := ([decide (c < n), decide (c ≤ n), decide (c = n), decide (c ≠ n), decide (n ≤ c), decide (n < c)] : List Bool)) vB false rfl rfl Ty.sc4 lt_) (s_ av_ (z_ (xk_ [6] ?_)))))
 refine n_ (rt_ ?_)
 exact p1 Tryd.results35 rfl ⟨(eB (R40.related_list q0 q1)), rfl⟩
set_option maxRecDepth 20000 in
theorem f21_ok (t : Test) (e : StepEnd) (w : World) (q0 : t.Kind = 0 → 0 ≤ t.Op ∧ t.Op ≤ 5) : Calls Tryd.prog 21 #[vG (Test.enc t), vG [vB e.Ran, vB e.Failed, vI e.Code]] w (Gives [] w fun v L => v = vB (R40.holds t e) ∧ L = []) := by
 refine calls_J [] 35 Tryd.func21 rfl Tryd.ntmps21 [(0, _), (1, _)] rfl rfl (Give.nil w) ?_
 refine q_ (g_ (o_ (bxG fun b1 => ?_)))
 refine o_ (bxG fun b2 => ?_)
 refine s_ av_ (z_ (n_ (q_ (q_ (g_ (s_ (fA 0 Ty.fi30_0) (r_ (ld_ 1 Ty.sc3) (z_ (n_ (k_ (q_ (g_ (s_ (x_eql_i rfl rfl) (s_ av_ (z_ (n_ ?_))))))))))))))))
 refine ifd (fun h3w h3 => ?_) (fun h3w h3 => ?_)
 ·refine q_ (g_ (s_ (fA 0 Ty.fi28_0) (r_ (ld_ 0 Ty.sc4) (s_ mv_ ?_))))
  refine and_ 3 (!e.Failed) (fun g4 => ?_) ?_
  ·have g4r := g4
   refine sg_ g4 (fA 1 Ty.fi28_1) (rg_ g4 (ld_ 0 Ty.sc4) (sg_ g4 (x_not rfl) ?_))
   exact cr_
  refine s_ mv_ ?_
  refine and_ 7 (R40.related e.Code t.Op t.N) (fun g5 => ?_) ?_
  ·have g5r := g5
   have ⟨g5r, h6⟩ := band_true g5r
   have h6 : (e.Failed) = false := bnot_true h6
   refine sg_ g5 (fA 2 Ty.fi28_2) (rg_ g5 (ld_ 0 Ty.sc3) (sg_ g5 (fA 2 Ty.fi30_2) (rg_ g5 (ld_ 1 Ty.sc3) (sg_ g5 (fA 3 Ty.fi30_3) (rg_ g5 (ld_ 1 Ty.sc3) (c0g g5 (cl_ Ty.ca35) (fun w hS => f35_ok _ t.Op t.N w hy_ hy_) ?_))))))
   exact cr_
  refine s_ av_ (z_ (n_ (rt_ (kq_ (nr_ ?_)))))
  exact p1 Tryd.results21 rfl ⟨(eB c40b0_), rfl⟩
 ·refine q_ (g_ (s_ (x_eql_i rfl rfl) (s_ av_ (z_ (n_ ?_)))))
  refine ifd (fun h7w h7 => ?_) (fun h7w h7 => ?_)
  ·refine q_ (g_ (s_ (fA 0 Ty.fi28_0) (r_ (ld_ 0 Ty.sc4) (s_ mv_ ?_))))
   refine and_ 2 (e.Failed) (fun g8 => ?_) ?_
   ·have g8r := g8
    refine sg_ g8 (fA 1 Ty.fi28_1) (rg_ g8 (ld_ 0 Ty.sc4) ?_)
    exact cr_
   refine s_ av_ (z_ (n_ (rt_ (kq_ (nr_ ?_)))))
   exact p1 Tryd.results21 rfl ⟨(eB c40b0_), rfl⟩
  ·refine sk_ (kx_ (n_ (q_ (g_ (s_ (fA 0 Ty.fi28_0) (r_ (ld_ 0 Ty.sc4) (s_ av_ (z_ (n_ (rt_ ?_))))))))))
   exact p1 Tryd.results21 rfl ⟨(eB c40b0_), rfl⟩
set_option maxRecDepth 20000 in
theorem f19_ok (e : StepEnd) (w : World) : Calls Tryd.prog 19 #[vG [vB e.Ran, vB e.Failed, vI e.Code]] w (Gives [] w fun v L => v = vB (R40.failed e) ∧ L = []) := by
 refine calls_J [] 9 Tryd.func19 rfl Tryd.ntmps19 [(0, _)] rfl rfl (Give.nil w) ?_
 refine q_ (g_ (o_ (bxG fun b1 => ?_)))
 refine s_ av_ (z_ (n_ (q_ (g_ (s_ (fA 0 Ty.fi28_0) (r_ (ld_ 0 Ty.sc4) (s_ mv_ ?_)))))))
 refine and_ 2 (e.Failed) (fun g2 => ?_) ?_
 ·have g2r := g2
  refine sg_ g2 (fA 1 Ty.fi28_1) (rg_ g2 (ld_ 0 Ty.sc4) ?_)
  exact cr_
 refine s_ av_ (z_ (n_ (rt_ ?_)))
 exact p1 Tryd.results19 rfl ⟨(eB (by rfl)), rfl⟩
set_option maxRecDepth 20000 in
theorem f20_ok (l : List Bytes) (lA : Option Addr) (lC : Nat) (s : Bytes) (w : World) (lR : RO [] w lA (l.map vS)) (q0 : l.length ≤ 9223372036854775807) : Calls Tryd.prog 20 #[vL lA l.length lC, vS s] w (Gives [] w fun v L => v = vI (R40.idx l s) ∧ L = []) := by
 refine calls_J [] 19 Tryd.func20 rfl Tryd.ntmps20 [(0, _), (1, _)] rfl rfl (Give.nil w) ?_
 refine q_ (g_ (s_ av_ (z_ (n_ (q_ (q_ (g_ (s_ mv_ (s_ (lnS Tryd.underlying23) (s_ mv_ (z_ (n_ (k_ ?_)))))))))))))
 refine J_loop (X := Nat) (fun (k : Nat) => (k ≤ l.length) ∧ (∀ i, i < k → l.getD i [] ≠ s)) (fun (k : Nat) => [(0, vL lA l.length lC), (1, vS s), (7, vI ((l.length : Nat) : Int)), (8, vI ((k : Nat) : Int))]) (fun (k : Nat) => []) (fun (k : Nat) => l.length - k) (0 : Nat) ?_ ⟨rfl, rfl, rfl, rfl, trivial⟩ (fun _ h => h) ?_
 ·try dsimp only
  refine ⟨?_, ?_⟩
  ·first | rfl | omega | (simp_all; done) | (simp_all; omega)
  ·intro i h2; omega
 intro k hI1
 obtain ⟨i1_0, i1_1⟩ := hI1
 try dsimp only at i1_0
 try dsimp only at i1_1
 try dsimp only
 refine q_ (g_ (s_ (x_lss_i rfl rfl) (z_ (n_ (q_ ?_)))))
 refine ifd (fun h1w h1 => ?_) (fun h1w h1 => ?_)
 ·refine sk_ (n_ (q_ (k_ (q_ (g_ (s_ mv_ (s_ av_ (z_ (n_ (q_ (g_ (s_ mv_ (s_ mv_ (s_ mv_ (r_ (ixM (cells_ro lR) Tryd.underlying23 Ty.sz9) (r_ (ldM vS [] (cells_ro lR) Ty.sc9) (s_ (x_eql_s rfl rfl) ?_)))))))))))))))))
  refine z_ (n_ ?_)
  refine ifd (fun h2w h2 => ?_) (fun h2w h2 => ?_)
  ·refine q_ (g_ (s_ mv_ (s_ av_ (z_ (n_ (rt_ (kq_ (nr_ (rr_ (kq_ (nr_ ?_)))))))))))
   exact p1 Tryd.results20 rfl ⟨(eI c40b2_), rfl⟩
  ·refine sk_ (kx_ (n_ (g_ (s_ (x_add_n (a := k) (b := 1) rfl rfl (by omega)) (s_ mv_ (z_ ?_))))))
   refine JX_round (k + 1 : Nat) ?_ ?_ ⟨rfl, rfl, rfl, rfl, trivial⟩ (fun _ h => h)
   ·try dsimp only
    refine ⟨?_, ?_⟩
    ·first | rfl | omega | (simp_all; done) | (simp_all; omega)
    ·intro i hi
     by_cases hik : i = k
     ·subst hik; exact fun e => (by assumption : ¬ s = l.getD i []) e.symm
     ·exact i1_1 i (by omega)
   ·try dsimp only
    first | omega | (simp; omega) | (simp_all; omega)
 ·refine J_exit (ne_ (re_ (kh_ (n_ (q_ ?_)))))
  refine g_ (s_ av_ (z_ (n_ (rt_ ?_))))
  exact p1 Tryd.results20 rfl ⟨(eI c40b2_), rfl⟩
set_option maxRecDepth 20000 in
theorem f33_ok (l : List Bytes) (lA : Option Addr) (lC : Nat) (s : Bytes) (w : World) (lR : RO [] w lA (l.map vS)) (q0 : l.length ≤ 9223372036854775807) : Calls Tryd.prog 33 #[vL lA l.length lC, vS s] w (Gives [] w fun v L => v = vB (R40.onP l s) ∧ L = []) := by
 refine calls_J [] 9 Tryd.func33 rfl Tryd.ntmps33 [(0, _), (1, _)] rfl rfl (Give.nil w) ?_
 refine q_ (g_ (s_ av_ (z_ (n_ (q_ (g_ (s_ mv_ (s_ mv_ (c0 (cl_ Ty.ca20) (fun w hS => f20_ok l lA lC s w (rno lR hS) hy_) ?_)))))))))
 have ha1 := R40.idx_lt l s
 refine s_ (x_geq_i rfl rfl) (s_ av_ (z_ (n_ (rt_ ?_))))
 exact p1 Tryd.results33 rfl ⟨(eB (R40.idx_on)), rfl⟩
set_option maxRecDepth 20000 in
theorem f32_ok (s : Bytes) (bp : Nat) (steps : List Bytes) (stepsA : Option Addr) (stepsC : Nat) (w : World) (stepsR : RO [bp] w stepsA (steps.map vS)) (q0 : steps.length ≤ 9223372036854775807) (hg : Give [bp] w [Ent.blk bp 23 [vL stepsA steps.length stepsC]]) : Calls Tryd.prog 32 #[vS s, pB bp 0] w (Gives [bp] w fun v L => v = vB (R40.onP steps s) ∧ L = [Ent.blk bp 23 [vL stepsA steps.length stepsC]]) := by
 refine calls_J [bp] 7 Tryd.func32 rfl Tryd.ntmps32 [(0, _), (1, _)] rfl rfl hg ?_
 refine q_ (g_ (s_ av_ (z_ (n_ (q_ (g_ (r_ (ld_ 0 Ty.sc23) (s_ mv_ (c0 (cl_ Ty.ca33) (fun w hS => f33_ok _ _ _ s w (rno stepsR hS) hy_) (s_ av_ (z_ (n_ (rt_ ?_)))))))))))))
 refine JX_rets [_] _ Tryd.results32 (fun w h => ⟨rfl, trivial⟩) rfl _ (fun _ h => h) ⟨?_, ?_⟩
 ·rfl
 ·rfl
set_option maxRecDepth 20000 in
theorem f34_ok (E : List StepEnd) (EA : Option Addr) (EC : Nat) (w : World) (ER : RO [] w EA (E.flatMap StepEnd.enc)) (q0 : E.length ≤ 9223372036854775807) : Calls Tryd.prog 34 #[vL EA E.length EC, Value.func (.func 19) #[] #[]] w (Gives [] w fun v L => ∃ r : Int, v = vI r ∧ L = [] ∧ (decide (0 ≤ r) = E.any R40.failed)) := by
 refine calls_J [] 19 Tryd.func34 rfl Tryd.ntmps34 [(0, _), (1, _)] rfl rfl (Give.nil w) ?_
 refine q_ (g_ (s_ av_ (z_ (n_ (q_ (q_ (g_ (s_ mv_ (s_ (lnS Tryd.underlying24) (s_ mv_ (z_ (n_ (k_ ?_)))))))))))))
 refine J_loop (X := Nat) (fun (k : Nat) => (k ≤ E.length) ∧ (∀ i, i < k → R40.failed (E.getD i default) = false)) (fun (k : Nat) => [(0, vL EA E.length EC), (1, Value.func (.func 19) #[] #[]), (7, vI ((E.length : Nat) : Int)), (8, vI ((k : Nat) : Int))]) (fun (k : Nat) => []) (fun (k : Nat) => E.length - k) (0 : Nat) ?_ ⟨rfl, rfl, rfl, rfl, trivial⟩ (fun _ h => h) ?_
 ·try dsimp only
  refine ⟨?_, ?_⟩
  ·first | rfl | omega | (simp_all; done) | (simp_all; omega)
  ·intro i h2; omega
 intro k hI1
 obtain ⟨i1_0, i1_1⟩ := hI1
 try dsimp only at i1_0
 try dsimp only at i1_1
 try dsimp only
 refine q_ (g_ (s_ (x_lss_i rfl rfl) (z_ (n_ (q_ ?_)))))
 refine ifd (fun h1w h1 => ?_) (fun h1w h1 => ?_)
 ·refine sk_ (n_ (q_ (k_ (q_ (g_ (s_ mv_ (s_ av_ (z_ (n_ (q_ (g_ (s_ mv_ (s_ mv_ (s_ mv_ (r_ (ixF StepEnd.enc_len (cells_ro ER) Tryd.underlying24 Ty.sz28) (r_ (ldFN StepEnd.enc_len (cells_ro ER) Ty.ag28 Ty.sz28) (c0 (x_callv (first := []) (caps := []) rfl Ty.ca19 rfl) (fun w hS => f19_ok _ w) ?_)))))))))))))))))
  refine z_ (n_ ?_)
  refine if_ (fun h2 => ?_) (fun h2 => ?_)
  ·refine q_ (g_ (s_ mv_ (s_ av_ (z_ (n_ (rt_ (kq_ (nr_ (rr_ (kq_ (nr_ ?_)))))))))))
   refine JX_rets [_] _ Tryd.results34 (fun w h => ⟨rfl, trivial⟩) rfl _ (fun _ h => h) ⟨((k : Nat) : Int), ?_, ?_, ?_⟩
   ·rfl
   ·rfl
   ·exact c40b4_
  ·refine sk_ (kx_ (n_ (g_ (s_ (x_add_n (a := k) (b := 1) rfl rfl (by omega)) (s_ mv_ (z_ ?_))))))
   refine JX_round (k + 1 : Nat) ?_ ?_ ⟨rfl, rfl, rfl, rfl, trivial⟩ (fun _ h => h)
   ·try dsimp only
    refine ⟨?_, ?_⟩
    ·first | rfl | omega | (simp_all; done) | (simp_all; omega)
    ·intro i hi
     by_cases hik : i = k
     ·subst hik; assumption
     ·exact i1_1 i (by omega)
   ·try dsimp only
    first | omega | (simp; omega) | (simp_all; omega)
 ·refine J_exit (ne_ (re_ (kh_ (n_ (q_ ?_)))))
  refine g_ (s_ av_ (z_ (n_ (rt_ ?_))))
  refine JX_rets [_] _ Tryd.results34 (fun w h => ⟨rfl, trivial⟩) rfl _ (fun _ h => h) ⟨(-1), ?_, ?_, ?_⟩
  ·rfl
  ·rfl
  ·exact c40b4_
set_option maxRecDepth 20000 in
theorem f18_ok (E : List StepEnd) (EA : Option Addr) (EC : Nat) (w : World) (ER : RO [] w EA (E.flatMap StepEnd.enc)) (q0 : E.length ≤ 9223372036854775807) : Calls Tryd.prog 18 #[vL EA E.length EC, Value.func (.func 19) #[] #[]] w (Gives [] w fun v L => v = vB (E.any R40.failed) ∧ L = []) := by
 refine calls_J [] 9 Tryd.func18 rfl Tryd.ntmps18 [(0, _), (1, _)] rfl rfl (Give.nil w) ?_
 refine q_ (g_ (s_ av_ (z_ (n_ (q_ (g_ (s_ mv_ (s_ mv_ ?_))))))))
 refine c1 (cl_ Ty.ca34) (fun w hS => f34_ok E EA EC w (rno ER hS) hy_) ?_
 rintro _ _ ⟨r1, rfl, rfl, hf2⟩
 refine s_ (x_geq_i rfl rfl) (s_ av_ (z_ (n_ (rt_ ?_))))
 exact p1 Tryd.results18 rfl ⟨(eB (by assumption)), rfl⟩
end Go.Proofs.YtngjdmhpljmkpaaDoor

namespace Go.GV
open Go.RowKit
def lateB (ops : Array Oper) : Nat → Nat → Nat → Bool
  | 0, _, _ => false
  | f + 1, u, i => match ops[u]? with
    | some x => x.after.any fun e => Region.binds .any e && (e.on == i || lateB ops f e.on i)
    | none => false
theorem getD_up {l : Array Bool} {i : Nat} (h : l.getD i false = true) : l.getD i true = true := by
  rw [Array.getD_eq_getD_getElem?] at *
  cases hc : l[i]? with
  | none => rw [hc] at h; cases h
  | some b => rw [hc] at h; exact h
theorem late_listed {ops : Array Oper} {l : Array Bool} (hl : Closed ops l) : ∀ (f u i : Nat), lateB ops f u i = true → l.getD u true = true → l.getD i false = true
  | 0, u, i, h, _ => by cases h
  | f + 1, u, i, h, hu => by
    rw [lateB] at h
    cases hx : ops[u]? with
    | none => rw [hx] at h; cases h
    | some x =>
      rw [hx] at h
      obtain ⟨e, he, hb⟩ := Array.any_eq_true'.1 h
      rw [Bool.and_eq_true, Bool.or_eq_true] at hb
      have h2 := hl.2 u x hx hu e he hb.1
      rcases hb.2 with h3 | h3
      · rw [beq_iff_eq] at h3; rw [h3] at h2; exact h2
      · exact late_listed hl f e.on i h3 (getD_up h2)
section
variable {P : Program} {n : Dim} {S : List Nat} {w0 : World} {Q : Post} {E : Env} {L : List Ent}
variable {ops : Array Oper} {Lg Lu : List Ent} {us : List Nat} {fuel : Nat} {listed : Array Bool}
theorem JA_earlyT (i : Nat) {o : Oper} (v : Value) (hi : ops[i]? = some o) (hs : Region.noSelect ops = true) (hf : Region.free .any ops listed i = true) (hr : (Region.ready .any ops listed).contains i = true) (hu : us.contains i = false)
    (hlate : (us.all fun u => lateB ops 64 u i) = true)
    (hQ : ∀ c a w, Q (.panic c) (a.put o.dst v) w → Q (.panic c) a w) (hfit : fit n E o = true) (hw : wants ops E o) (hv : ∀ w, St S w0 w Lu → (execOp (ev E) o).run P w = .ok (.value v) w)
    (h : JA P n S w0 ops Q Lg us Lu fuel (listed.setIfInBounds i true) (put E o.dst v) L) : JA P n S w0 ops Q Lg us Lu (fuel + 1) listed E L := by
  intro a w hR hS hcl
  have hr' : i ∈ Region.ready .any ops listed := by simpa using hr
  have hnone : ∀ l : Array Bool, Closed ops l → l.getD i true = false → (us.all fun u => !l.getD u true) = true := by
    intro l hl hun
    rw [List.all_eq_true] at hlate ⊢
    intro u hu'
    cases hc : l.getD u true with
    | false => rfl
    | true =>
      have h2 := late_listed hl 64 u i (hlate u hu') hc
      have h3 := getD_up h2
      rw [hun] at h3; cases h3
  refine wpAnyG_first (H := fun w => St S w0 w Lu) hi (Region.noSelect_spec hs) hQ
    (fun l w hc hl h => h.2 (by rw [all_unset hu]; exact hnone l hc hl)) (fun l w _ hl h => ⟨h.1, fun hh => h.2 (by rw [all_unset hu]; exact hh)⟩) fuel listed a w hcl (Region.free_spec hi hf) hr' (.inl ⟨wants_wanted hR hw, fit_nodefer hfit, fun w' hG => ?_⟩) (h _ w (hR.put (fit_dst hfit) v) hS (hcl.add hr'))
  rw [fit_exec hfit hR]; exact hv w' hG
end
end Go.GV
namespace Go.GV
open Go.RowKit
section
variable {α : Type} {S : List Nat} {w : World} {A : Option Addr} {xs : List α}
theorem RO.head {cs : List Value} (h : RO S w A cs) (n : Nat) : RO S w A (cs.take n) := fun j v hj => by
  rw [List.getElem?_take] at hj
  split at hj
  · exact h j v hj
  · cases hj
theorem RO.headF {f : α → List Value} {sz : Nat} (hf : ∀ a, (f a).length = sz) (h : RO S w A (xs.flatMap f)) (n : Nat) : RO S w A ((xs.take n).flatMap f) := by
  rw [take_flat f sz hf]; exact h.head _
end
end Go.GV
namespace Go.GV
open Go.RowKit Go.MapKept
theorem mapK_u32 {P : Program} {kt : TypeId} (h : P.underlying kt = some (.int .u32)) : MapK P kt vU32 := ⟨_, h, fun _ => rfl, fun a b h => by
  have h2 : (a.toNat : Int) = b.toNat := by injection h
  exact UInt32.toNat_inj.1 (by omega)⟩
theorem mapK_b {P : Program} {kt : TypeId} (h : P.underlying kt = some .bool) : MapK P kt vB := ⟨_, h, fun _ => trivial, fun a b h => by injection h⟩
end Go.GV

namespace Go.Proofs.YtngjdmhpljmkpaaDoor
open Go.GV
namespace R40
theorem rels_len : rels.length = 6 := rfl
section
variable {ws : List Bytes} {i : Nat} {w : Bytes}
theorem isA_t (h : i < ws.length) (hw : ws.getD i [] = w) : true = isA ws i w := (isA_iff.2 ⟨h, hw⟩).symm
theorem isA_f (h : i < ws.length) (hw : ¬ ws.getD i [] = w) : false = isA ws i w := (Bool.eq_false_iff.2 fun e => hw (isA_iff.1 e).2).symm
theorem isA_g (h : ¬ i < ws.length) : false = isA ws i w := (Bool.eq_false_iff.2 fun e => h (isA_iff.1 e).1).symm
theorem is_bd {j : Nat} (h1 : isA ws i w = true → i + 1 = j ∧ i < ws.length) (h2 : isA ws i w = false → i = j) : i ≤ j ∧ j ≤ i + 1 ∧ (i ≤ ws.length → j ≤ ws.length) := by
  cases h : isA ws i w with
  | true => have := h1 h; omega
  | false => have := h2 h; omega
def RelJ (ws : List Bytes) (j0 r : Nat) (op : Int) (j : Nat) : Prop := (op = -1 ∧ j = j0 ∧ ∀ q, q < r → isA ws j0 (rels.getD q []) = false) ∨ (0 ≤ op ∧ j = j0 + 1 ∧ j0 < ws.length ∧ idx rels (ws.getD j0 []) = op)
theorem RelJ.start {j0 : Nat} : RelJ ws j0 0 (-1) j0 := .inl ⟨rfl, rfl, fun q h => absurd h (Nat.not_lt_zero _)⟩
section
variable {j0 r j : Nat} {op : Int}
theorem RelJ.bd (h : RelJ ws j0 r op j) : (op = -1 ∧ j = j0) ∨ (0 ≤ op ∧ op ≤ 5 ∧ j = j0 + 1 ∧ j0 < ws.length) := by
  rcases h with ⟨h1, h2, _⟩ | ⟨h1, h2, h3, h4⟩
  · exact .inl ⟨h1, h2⟩
  · have := (idx_lt rels (ws.getD j0 [])).2
    rw [rels_len] at this
    exact .inr ⟨h1, by omega, h2, h3⟩
theorem RelJ.skip (h : RelJ ws j0 r op j) (ho : ¬ op < 0) : RelJ ws j0 (r + 1) op j := by
  rcases h with ⟨h1, _, _⟩ | h
  · omega
  · exact .inr h
theorem RelJ.miss (h : RelJ ws j0 r op j) (ho : op < 0) (hn : isA ws j (rels.getD r []) = false) : RelJ ws j0 (r + 1) op j := by
  rcases h with ⟨h1, h2, h3⟩ | h
  · refine .inl ⟨h1, h2, fun q hq => ?_⟩
    by_cases e : q = r
    · rw [e, ← h2]; exact hn
    · exact h3 q (by omega)
  · omega
theorem RelJ.hit (h : RelJ ws j0 r op j) (ho : op < 0) (hr : r < rels.length) (hn : isA ws j (rels.getD r []) = true) : RelJ ws j0 (r + 1) (r : Int) (j + 1) := by
  rcases h with ⟨_, h2, h3⟩ | h
  · subst h2
    obtain ⟨h4, h5⟩ := isA_iff.1 hn
    refine .inr ⟨by omega, rfl, h4, ?_⟩
    refine (idx_hit (k := r) hr (fun q hq e => ?_) h5).symm
    have := h3 q hq
    rw [isA_iff.2 ⟨h4, e.symm⟩] at this; cases this
  · omega
theorem RelJ.none_ (h : RelJ ws j0 r op j) (hr : r = 6) (ho : op < 0) : ¬ (j0 < ws.length ∧ 0 ≤ idx rels (ws.getD j0 [])) := by
  rcases h with ⟨_, _, h3⟩ | h
  · rintro ⟨h4, h5⟩
    have h6 := (idx_lt rels (ws.getD j0 [])).2
    rw [rels_len] at h6
    have h7 := h3 (idx rels (ws.getD j0 [])).toNat (by omega)
    rw [isA_iff.2 ⟨h4, (idx_at h5).symm⟩] at h7; cases h7
  · omega
end
theorem basic_0 (h : ws.length ≤ i) : basicV ws i = ⟨false, i, []⟩ := by unfold basicV; rw [if_neg (by omega)]
theorem basic_1 (h : stepV (ws.getD i []) = false) : basicV ws i = ⟨false, i, []⟩ := by unfold basicV; rw [if_neg (by rw [h]; simp)]
section
variable (hi : i < ws.length) (hs : stepV (ws.getD i []) = true)
include hi hs
theorem basic_f (h : isA ws (i + 1) wFAILED = true) : basicV ws i = ⟨true, i + 2, [⟨1, ws.getD i [], 0, 0⟩]⟩ := by
  unfold basicV basicK; rw [if_pos ⟨hi, hs⟩, if_pos h]
theorem basic_r (h0 : isA ws (i + 1) wFAILED = false) (h : isA ws (i + 1) wRAN = true) : basicV ws i = ⟨true, i + 2, [⟨2, ws.getD i [], 0, 0⟩]⟩ := by
  unfold basicV basicK; rw [if_pos ⟨hi, hs⟩, if_neg (by rw [h0]; decide), if_pos h]
theorem basic_n (h0 : isA ws (i + 1) wFAILED = false) (h1 : isA ws (i + 1) wRAN = false) (h : isA ws (i + 1) wRC = false) : basicV ws i = ⟨false, i + 1, []⟩ := by
  unfold basicV basicK; rw [if_pos ⟨hi, hs⟩, if_neg (by rw [h0]; decide), if_neg (by rw [h1]; decide), if_neg (by rw [h]; decide)]
variable {r j : Nat} {op n : Int} (h0 : isA ws (i + 1) wFAILED = false) (h1 : isA ws (i + 1) wRAN = false) (h2 : isA ws (i + 1) wRC = true) (hR : RelJ ws (i + 2) r op j)
include h0 h1 h2 hR
theorem basic_op (hr : r = 6) (ho : op < 0) : basicV ws i = ⟨false, j, []⟩ := by
  have hb := hR.bd
  have hn := hR.none_ hr ho
  unfold basicV basicK
  rw [if_pos ⟨hi, hs⟩, if_neg (by rw [h0]; decide), if_neg (by rw [h1]; decide), if_pos h2, if_neg hn, show j = i + 2 by omega]
theorem basic_c (ho : ¬ op < 0) : basicV ws i = if i + 3 < ws.length then (match numC (ws.getD (i + 3) []) with | some n => ⟨true, i + 4, [⟨0, ws.getD i [], op, n⟩]⟩ | none => ⟨false, i + 3, []⟩) else ⟨false, i + 3, []⟩ := by
  have hb := hR.bd
  have he : idx rels (ws.getD (i + 2) []) = op := by
    rcases hR with ⟨h, _, _⟩ | ⟨_, _, _, h⟩
    · omega
    · exact h
  unfold basicV basicK
  rw [if_pos ⟨hi, hs⟩, if_neg (by rw [h0]; decide), if_neg (by rw [h1]; decide), if_pos h2, he, if_pos ⟨by omega, by omega⟩]
  by_cases h3 : i + 3 < ws.length
  · rw [if_pos h3, if_pos h3]
    cases numC (ws.getD (i + 3) []) <;> rfl
  · rw [if_neg h3, if_neg h3]
theorem basic_e (ho : ¬ op < 0) (hj : ws.length ≤ j) : basicV ws i = ⟨false, j, []⟩ := by
  have hb := hR.bd
  rw [basic_c hi hs h0 h1 h2 hR ho, if_neg (by omega), show j = i + 3 by omega]
theorem basic_x (ho : ¬ op < 0) (hn : numC (ws.getD j []) = none) : basicV ws i = ⟨false, j, []⟩ := by
  have hb := hR.bd
  have e : j = i + 3 := by omega
  rw [basic_c hi hs h0 h1 h2 hR ho, ← e, hn]
  split <;> rfl
theorem basic_y (ho : ¬ op < 0) (hj : j < ws.length) (hn : numC (ws.getD j []) = some n) : basicV ws i = ⟨true, j + 1, [⟨0, ws.getD i [], op, n⟩]⟩ := by
  have hb := hR.bd
  have e : j = i + 3 := by omega
  rw [basic_c hi hs h0 h1 h2 hR ho, ← e, if_pos hj, hn, e]
end
theorem numC_yes {s : Bytes} {n : Int} (h : ¬ Lib.decDigits n.toNat ≠ s) (h0 : 0 ≤ n) (h1 : n ≤ 4095) : numC s = some n := by rw [← Decidable.not_not.1 h]; exact numC_dec h0 h1
theorem numC_no {s : Bytes} {n : Int} {er : Bool} (h : R44.AtoiJ s n er) (hb : er = false ∨ n < 0 ∨ 4095 < n ∨ Lib.decDigits n.toNat ≠ s) : numC s = none := by
  cases hn : numC s with
  | none => rfl
  | some m =>
    exfalso
    unfold numC at hn
    split at hn
    · rename_i h2
      cases hn
      have ha := R44.atoi_dec (n := R44.vN s) (by omega)
      rw [h2.2] at ha
      cases her : er with
      | false => exact h.2.1 her _ ha
      | true =>
        have h3 := h.1 her
        rw [ha] at h3
        injection h3 with h3
        subst h3
        rw [her] at hb
        rcases hb with hb | hb | hb | hb
        · cases hb
        · omega
        · omega
        · exact hb (by rw [Int.toNat_natCast]; exact h2.2)
    · cases hn
section
variable {orF : Nat → PR} {n j m : Nat}
theorem nots_step (h : isA ws i wNOT = true) : nots ws i = nots ws (i + 1) + 1 := by
  obtain ⟨h1, h2⟩ := isA_iff.1 h
  rcases nots_case (ws := ws) i with h3 | h3
  · exact absurd h2 (h3.2 h1)
  · exact h3.1
theorem nots_none (h : isA ws i wNOT = false) : nots ws i = 0 := by
  rcases nots_case (ws := ws) i with h3 | h3
  · exact h3.1
  · rw [isA_iff.2 h3.2] at h; cases h
theorem part_eq (hn : nots ws i = n) {ok : Bool} {p : Nat} {T : List Test} (h : coreG ws orF (i + n) = ⟨ok, p, T⟩) : partG ws orF i = ⟨ok, p, T ++ List.replicate n (bare 4)⟩ := by
  unfold partG; rw [hn, h]
theorem part_eq' (hn : nots ws i = n) (hj : j = i + n) {ok : Bool} {p : Nat} {T : List Test} (h : coreG ws orF j = ⟨ok, p, T⟩) : partG ws orF i = ⟨ok, p, T ++ List.replicate n (bare 4)⟩ := part_eq hn (by rw [← hj]; exact h)
theorem core_lp0 (h1 : isA ws j wLP = true) (h : (orF (j + 1)).ok = false) : coreG ws orF j = ⟨false, (orF (j + 1)).pos, (orF (j + 1)).out⟩ := by
  unfold coreG; rw [if_pos h1, if_neg (by rw [h]; decide)]
theorem core_lp {q : Nat} (h1 : isA ws j wLP = true) (h : (orF (j + 1)).ok = true) (h2 : isA ws (orF (j + 1)).pos wRP = true → (orF (j + 1)).pos + 1 = q ∧ (orF (j + 1)).pos < ws.length) (h3 : isA ws (orF (j + 1)).pos wRP = false → (orF (j + 1)).pos = q) : coreG ws orF j = ⟨isA ws (orF (j + 1)).pos wRP, q, (orF (j + 1)).out⟩ := by
  unfold coreG; rw [if_pos h1, if_pos h]
  cases hp : isA ws (orF (j + 1)).pos wRP with
  | true => rw [if_pos rfl, (h2 hp).1]
  | false => rw [if_neg (by decide), h3 hp]
theorem core_any (h1 : isA ws j wLP = false) (h2 : isA ws j wFAILED = true) : coreG ws orF j = ⟨true, j + 1, [bare 3]⟩ := by
  unfold coreG; rw [if_neg (by rw [h1]; decide), if_pos h2]
theorem core_basic (h1 : isA ws j wLP = false) (h2 : isA ws j wFAILED = false) : coreG ws orF j = basicV ws j := by
  unfold coreG; rw [if_neg (by rw [h1]; decide), if_neg (by rw [h2]; decide)]
theorem core_basic' (h1 : isA ws j wLP = false) (h2 : isA ws j wFAILED = false) : coreG ws orF j = ⟨(basicV ws j).ok, (basicV ws j).pos, (basicV ws j).out⟩ := core_basic h1 h2
end
section
variable {pf : Nat → PR} {k : Int} {n j : Nat} {T : List Test}
theorem chain_no (h : (pf i).ok = false) : chainG ws pf w k i = ⟨false, (pf i).pos, (pf i).out⟩ := by
  unfold chainG; rw [if_neg (by rw [h]; decide)]
  cases hp : pf i; rw [hp] at h; cases h; rfl
theorem chain_start (h : (pf i).ok = true) : chainL ws pf w k (ws.length + 1) ⟨true, (pf i).pos, (pf i).out⟩ = chainG ws pf w k i := by
  unfold chainG; rw [if_pos h]
  cases hp : pf i; rw [hp] at h; cases h; rfl
theorem chain_step {G : PR} (hG : chainL ws pf w k n ⟨true, j, T⟩ = G) (hn : 0 < n) (h : isA ws j w = true) (hok : (pf (j + 1)).ok = true) : chainL ws pf w k (n - 1) ⟨true, (pf (j + 1)).pos, T ++ (pf (j + 1)).out ++ [bare k]⟩ = G := by
  obtain ⟨n, rfl⟩ : ∃ q, n = q + 1 := ⟨n - 1, by omega⟩
  rw [← hG, chainL, if_pos h, if_pos hok]; rfl
theorem chain_bad {G : PR} (hG : chainL ws pf w k n ⟨true, j, T⟩ = G) (hn : 0 < n) (h : isA ws j w = true) (hok : (pf (j + 1)).ok = false) : G = ⟨false, (pf (j + 1)).pos, T ++ (pf (j + 1)).out⟩ := by
  obtain ⟨n, rfl⟩ : ∃ q, n = q + 1 := ⟨n - 1, by omega⟩
  rw [← hG, chainL, if_pos h, if_neg (by rw [hok]; decide)]
theorem chain_done {G : PR} (hG : chainL ws pf w k n ⟨true, j, T⟩ = G) (h : isA ws j w = false) : G = ⟨true, j, T⟩ := by
  rw [← hG, chainL_no h]
end
end
end R40
end Go.Proofs.YtngjdmhpljmkpaaDoor
