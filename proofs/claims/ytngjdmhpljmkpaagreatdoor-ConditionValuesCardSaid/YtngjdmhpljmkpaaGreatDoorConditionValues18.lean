/- C40m, Pw40h, Pw40i, C40o in one text. -/
import Derived.Test.YtngjdmhpljmkpaaGreatDoorConditionValues8
import Derived.Test.YtngjdmhpljmkpaaGreatDoorConditionValues17
import Derived.Test.YtngjdmhpljmkpaaGreatDoorConditionValues12
set_option linter.unusedVariables false
set_option linter.unusedSimpArgs false
namespace Go.Proofs.YtngjdmhpljmkpaaGreatDoor
open Go.GV
set_option linter.unusedVariables false
set_option linter.unusedSimpArgs false
theorem c40m2_ {p : Prop} (h : p := by first | exact R44.texts_len (by omega) | exact R44.texts_bad (i := k) (by assumption) | exact R44.texts_end i1_1 (fun i hi => i1_2 i (by omega))) : p := h
set_option maxRecDepth 20000 in
theorem f11_ok (a : List Bytes) (aA : Option Addr) (aC : Nat) (b : List Bytes) (bA : Option Addr) (bC : Nat) (w : World) (aR : RO [] w aA (a.map vS)) (bR : RO [] w bA (b.map vS)) (q0 : a.length ≤ 9223372036854775807) (q1 : b.length ≤ 9223372036854775807) : Calls Tryz.prog 11 #[vL aA a.length aC, vL bA b.length bC] w (Gives [] w fun v L => v = vB (decide (a = b)) ∧ L = []) := by
 refine calls_J [] 26 Tryz.func11 rfl Tryz.ntmps11 [(0, _), (1, _)] rfl rfl (Give.nil w) ?_
 refine q_ (g_ (s_ av_ (z_ (n_ (q_ (q_ (g_ (s_ mv_ (s_ (lnS Tryz.underlying22) (s_ mv_ (s_ (lnS Tryz.underlying22) (s_ (x_neq_i rfl rfl) (z_ (n_ ?_))))))))))))))
 refine ifd (fun h1w h1 => ?_) (fun h1w h1 => ?_)
 ·refine q_ (g_ (s_ av_ (z_ (n_ (rt_ (nr_ ?_))))))
  exact p1 Tryz.results11 rfl ⟨(eB c40m2_), rfl⟩
 ·refine sk_ (n_ (q_ (q_ (g_ (s_ av_ (z_ (n_ (k_ ?_))))))))
  refine J_loop (X := Nat) (fun (k : Nat) => (k ≤ a.length) ∧ (a.length = b.length) ∧ (∀ i, i < k → a.getD i [] = b.getD i [])) (fun (k : Nat) => [(0, vL aA a.length aC), (1, vL bA b.length bC), (5, vI ((k : Nat) : Int))]) (fun (k : Nat) => []) (fun (k : Nat) => a.length - k) (0 : Nat) ?_ ⟨rfl, rfl, rfl, trivial⟩ (fun _ h => h) ?_
  ·try dsimp only
   refine ⟨?_, ?_, ?_⟩
   ·first | rfl | omega | (simp_all; done) | (simp_all; omega)
   ·omega
   ·intro i hi; omega
  intro k hI1
  obtain ⟨i1_0, i1_1, i1_2⟩ := hI1
  try dsimp only at i1_0
  try dsimp only at i1_1
  try dsimp only at i1_2
  try dsimp only
  refine q_ (q_ (g_ (s_ mv_ (s_ mv_ (s_ (lnS Tryz.underlying22) (s_ (x_lss_i rfl rfl) (z_ (n_ ?_))))))))
  refine ifd (fun h2w h2 => ?_) (fun h2w h2 => ?_)
  ·refine sk_ (n_ (q_ (k_ (q_ ?_))))
   refine drB [] 9 Ty.mixed ?_
   refine jp_ 0 rfl mv_ (jp_ 1 rfl mv_ (jq_ 2 rfl (ixM (cells_ro aR) Tryz.underlying22 Ty.sz9) (jq_ 3 rfl (ldM vS [] (cells_ro aR) Ty.sc9) (jp_ 4 rfl mv_ (jp_ 5 rfl mv_ (jq_ 6 rfl (ixM (cells_ro bR) Tryz.underlying22 Ty.sz9) (jq_ 7 rfl (ldM vS [] (cells_ro bR) Ty.sc9) (jp_ 8 rfl (x_neq_s rfl rfl) ?_))))))))
   refine JA_done (by kernel_rfl) gm_ ?_
   refine n_ ?_
   refine ifd (fun h3w h3 => ?_) (fun h3w h3 => ?_)
   ·refine q_ (g_ (s_ av_ (z_ (n_ (rt_ (kq_ (nr_ (rr_ (kq_ (nr_ ?_))))))))))
    exact p1 Tryz.results11 rfl ⟨(eB c40m2_), rfl⟩
   ·refine sk_ (kx_ (n_ (g_ (s_ mv_ (s_ (x_add_n (a := k) (b := 1) rfl rfl (by omega)) (s_ av_ (z_ ?_)))))))
    refine JX_round (k + 1 : Nat) ?_ ?_ ⟨rfl, rfl, rfl, trivial⟩ (fun _ h => h)
    ·try dsimp only
     refine ⟨?_, ?_, ?_⟩
     ·first | rfl | omega | (simp_all; done) | (simp_all; omega)
     ·first | rfl | omega | (simp_all; done) | (simp_all; omega)
     ·intro i hi
      by_cases hik : i = k
      ·subst hik; simp_all
      ·exact i1_2 i (by omega)
    ·try dsimp only
     first | omega | (simp; omega) | (simp_all; omega)
  ·refine J_exit (ne_ (re_ (kh_ (n_ (q_ ?_)))))
   refine g_ (s_ av_ (z_ (n_ (rt_ ?_))))
   exact p1 Tryz.results11 rfl ⟨(eB c40m2_), rfl⟩
end Go.Proofs.YtngjdmhpljmkpaaGreatDoor

namespace Go.Proofs.YtngjdmhpljmkpaaGreatDoor
open Go.GV
namespace R40
section
variable {ts : List Test} {ws : List Bytes}
theorem insl_len : ∀ (ys l : List Bytes), (ys.foldl Ord.ins l).length ≤ l.length + ys.length
  | [], l => Nat.le_refl _
  | y :: ys, l => by
    have h1 := insl_len ys (Ord.ins l y); have h2 := Ord.ins_len l y
    rw [List.foldl_cons, List.length_cons]; omega
theorem refers_len (ts : List Test) : (refersV ts).length ≤ ts.length := by
  unfold refersV Ord.insl
  refine Nat.le_trans (insl_len _ []) ?_
  rw [List.length_nil, Nat.zero_add]
  exact Nat.le_trans (List.length_filter_le _ _) (Nat.le_of_eq (List.length_map _))
end
end R40
end Go.Proofs.YtngjdmhpljmkpaaGreatDoor

namespace Go.Proofs.YtngjdmhpljmkpaaGreatDoor
open Go.GV
namespace R40
section
variable {P : Bytes → Bool} {t : Test} {b : Bool}
theorem basic_r0 (hb : b = P t.Step) (h : t.Kind = 0) : ((((b && decide (0 ≤ t.Op)) && decide (t.Op ≤ 5)) && decide (0 ≤ t.N)) && decide (t.N ≤ 4095)) = leafOk P t := by
  have h3 : t ≠ bare 3 := fun e => by rw [e] at h; cases h
  unfold leafOk
  rw [decide_eq_false h3, h, ← hb]
  cases b <;> simp
theorem basic_r1 (hb : b = P t.Step) (h0 : ¬ t.Kind = 0) (h : t.Kind = 1 ∨ t.Kind = 2) : ((b && decide (t.Op = 0)) && decide (t.N = 0)) = leafOk P t := by
  have h3 : t ≠ bare 3 := fun e => by rw [e] at h; revert h; decide
  unfold leafOk
  have e : (decide (t.Kind = 1) || decide (t.Kind = 2)) = true := by rcases h with h | h <;> rw [h] <;> rfl
  rw [decide_eq_false h3, e, decide_eq_false h0, ← hb]
  cases b <;> simp
theorem basic_r3 (h : t.Kind = 3) : decide (t = Test.mk 3 [] 0 0) = leafOk P t := by
  unfold leafOk
  rw [h]; simp [bare]; rfl
theorem basic_rx (h0 : ¬ t.Kind = 0) (h1 : ¬ (t.Kind = 1 ∨ t.Kind = 2)) (h3 : ¬ t.Kind = 3) : false = leafOk P t := by
  have hb : t ≠ bare 3 := fun e => h3 (by rw [e]; rfl)
  unfold leafOk
  rw [decide_eq_false hb, decide_eq_false h0, decide_eq_false (fun e => h1 (.inl e)), decide_eq_false (fun e => h1 (.inr e))]; simp
end
def depG (P : Bytes → Bool) : Nat → List Test → Option Nat
  | d, [] => some d
  | d, t :: r => if t = bare 4 then (if d < 1 then none else depG P d r) else if t = bare 5 ∨ t = bare 6 then (if d < 2 then none else depG P (d - 1) r) else if leafOk P t = true then depG P (d + 1) r else none
def validV (P : Bytes → Bool) (ts : List Test) : Bool := decide (ts.length ≤ 32) && (decide (depG P 0 ts = some 1) || decide (ts = []))
section
variable {P : Bytes → Bool} {ts : List Test} {k d : Nat}
theorem leaf_4 : leafOk P (bare 4) = false := by simp [leafOk, bare]
theorem leaf_5 : leafOk P (bare 5) = false := by simp [leafOk, bare]
theorem leaf_6 : leafOk P (bare 6) = false := by simp [leafOk, bare]
theorem leaf_56 {t : Test} (h5 : t = bare 5 ∨ t = bare 6) : ¬ leafOk P t = true := by
  rcases h5 with h5 | h5
  · rw [h5, leaf_5]; decide
  · rw [h5, leaf_6]; decide
theorem dep_tree : ∀ (ts : List Test) (k : Nat) (l : List Node), (treeG P k l ts).map List.length = depG P l.length ts
  | [], k, l => rfl
  | t :: r, k, l => by
    rw [treeG, depG]
    unfold stepT
    by_cases h4 : t = bare 4
    · rw [if_pos h4]
      by_cases hl : l.length < 1
      · rw [if_pos hl, if_neg (by omega), if_neg (by rw [h4]; rintro ⟨h | h, _⟩ <;> exact absurd h (by decide)), if_neg (by rw [h4, leaf_4]; decide)]; rfl
      · rw [if_neg hl, if_pos ⟨h4, by omega⟩]
        show (treeG P (k + 1) _ r).map List.length = _
        rw [dep_tree r, List.length_set]
    · rw [if_neg h4, if_neg (fun h => h4 h.1)]
      by_cases h5 : t = bare 5 ∨ t = bare 6
      · rw [if_pos h5]
        by_cases hl : l.length < 2
        · rw [if_pos hl, if_neg (by omega), if_neg (leaf_56 h5)]; rfl
        · rw [if_neg hl, if_pos ⟨h5, by omega⟩]
          show (treeG P (k + 1) _ r).map List.length = _
          rw [dep_tree r, List.length_append, List.length_take, List.length_singleton, show min (l.length - 2) l.length + 1 = l.length - 1 by omega]
      · rw [if_neg h5, if_neg (fun h => h5 h.1)]
        by_cases hf : leafOk P t = true
        · rw [if_pos hf, if_pos hf]
          show (treeG P (k + 1) _ r).map List.length = _
          rw [dep_tree r, List.length_append, List.length_singleton]
        · rw [if_neg hf, if_neg hf]; rfl
theorem one_some {o : Option (List Node)} : (one o).isSome = decide (o.map List.length = some 1) := by
  unfold one
  split
  · rfl
  · rename_i h
    refine (decide_eq_false fun e => ?_).symm
    cases o with
    | none => cases e
    | some l =>
      have e : l.length = 1 := Option.some.inj e
      match l, e with
      | [x], _ => exact h x rfl
theorem valid_tree : (treeV P ts).isSome = (decide (ts.length ≤ 32) && decide (depG P 0 ts = some 1)) := by
  unfold treeV
  by_cases h : 32 < ts.length
  · rw [if_pos h, decide_eq_false (by omega)]; rfl
  · rw [if_neg h, decide_eq_true (by omega), one_some, dep_tree ts 0 []]; rfl
theorem valid_on {steps : List Bytes} : validV (onP steps) ts = (onV ts steps).isSome := by
  unfold validV onV
  by_cases h : ts = []
  · subst h; rfl
  · rw [if_neg h, valid_tree, decide_eq_false h, Bool.or_false]
theorem dep_4 (hk : k < ts.length) (hi : depG P d (ts.drop k) = depG P 0 ts) (h : ts.getD k default = Test.mk 4 [] 0 0) : (d < 1 → depG P 0 ts = none) ∧ (1 ≤ d → depG P d (ts.drop (k + 1)) = depG P 0 ts) := by
  rw [R44.drop_cons (d := default) hk, h, depG, if_pos (show Test.mk 4 [] 0 0 = bare 4 from rfl)] at hi
  constructor
  · intro hd; rw [if_pos hd] at hi; exact hi.symm
  · intro hd; rw [if_neg (by omega)] at hi; exact hi
theorem dep_5 (hk : k < ts.length) (hi : depG P d (ts.drop k) = depG P 0 ts) (h : ts.getD k default = Test.mk 5 [] 0 0 ∨ ts.getD k default = Test.mk 6 [] 0 0) : (d < 2 → depG P 0 ts = none) ∧ (2 ≤ d → depG P (d - 1) (ts.drop (k + 1)) = depG P 0 ts) := by
  have h4 : ¬ ts.getD k default = bare 4 := fun e => by rw [e] at h; revert h; decide
  rw [R44.drop_cons (d := default) hk, depG, if_neg h4, if_pos (show ts.getD k default = bare 5 ∨ ts.getD k default = bare 6 from h)] at hi
  constructor
  · intro hd; rw [if_pos hd] at hi; exact hi.symm
  · intro hd; rw [if_neg (by omega)] at hi; exact hi
theorem dep_l (hk : k < ts.length) (hi : depG P d (ts.drop k) = depG P 0 ts) (h4 : ¬ ts.getD k default = Test.mk 4 [] 0 0) (h : ¬ (ts.getD k default = Test.mk 5 [] 0 0 ∨ ts.getD k default = Test.mk 6 [] 0 0)) : (leafOk P (ts.getD k default) = false → depG P 0 ts = none) ∧ (leafOk P (ts.getD k default) = true → depG P (d + 1) (ts.drop (k + 1)) = depG P 0 ts) := by
  rw [R44.drop_cons (d := default) hk, depG, if_neg (show ¬ ts.getD k default = bare 4 from h4), if_neg (show ¬ (ts.getD k default = bare 5 ∨ ts.getD k default = bare 6) from h)] at hi
  constructor
  · intro hd; rw [if_neg (by rw [hd]; decide)] at hi; exact hi.symm
  · intro hd; rw [if_pos hd] at hi; exact hi
theorem valid_no (hk : k < ts.length) (h : depG P 0 ts = none) : false = validV P ts := by
  unfold validV; rw [h, decide_eq_false (fun e : ts = [] => by rw [e] at hk; simp at hk)]; simp
theorem valid_end (hk : k = ts.length) (h : depG P d (ts.drop k) = depG P 0 ts) : (decide ((ts.length : Int) ≤ 32) && (decide ((d : Int) = 1) || decide ((ts.length : Int) = 0))) = validV P ts := by
  rw [hk, List.drop_length, depG] at h
  unfold validV; rw [← h]
  have e1 : decide ((ts.length : Int) ≤ 32) = decide (ts.length ≤ 32) := decide_eq_decide.2 (by omega)
  have e2 : decide ((d : Int) = 1) = decide (some d = some 1) := decide_eq_decide.2 ⟨fun h => by rw [show d = 1 by omega], fun h => by have := Option.some.inj h; omega⟩
  have e3 : decide ((ts.length : Int) = 0) = decide (ts = []) := decide_eq_decide.2 ⟨fun h => List.length_eq_zero_iff.1 (by omega), fun h => by rw [h]; rfl⟩
  rw [e1, e2, e3]
end
def DepJ (P : Bytes → Bool) (ts : List Test) (k : Nat) (d : Int) : Prop := 0 ≤ d ∧ depG P d.toNat (ts.drop k) = depG P 0 ts
section
variable {P : Bytes → Bool} {ts : List Test} {k : Nat} {d : Int}
theorem DepJ.start : DepJ P ts 0 0 := ⟨by decide, rfl⟩
theorem DepJ.neg (h : DepJ P ts k d) (hk : k < ts.length) (e : ts.getD k default = Test.mk 4 [] 0 0) (hd : 1 ≤ d) : DepJ P ts (k + 1) d := ⟨h.1, (dep_4 hk h.2 e).2 (by omega)⟩
theorem DepJ.neg_no (h : DepJ P ts k d) (hk : k < ts.length) (e : ts.getD k default = Test.mk 4 [] 0 0) (hd : d < 1) : false = validV P ts := valid_no hk ((dep_4 hk h.2 e).1 (by omega))
theorem DepJ.pair (h : DepJ P ts k d) (hk : k < ts.length) (e : ts.getD k default = Test.mk 5 [] 0 0 ∨ ts.getD k default = Test.mk 6 [] 0 0) (hd : 2 ≤ d) : DepJ P ts (k + 1) (d - 1) := ⟨by omega, by
  rw [show (d - 1).toNat = d.toNat - 1 by omega]; exact (dep_5 hk h.2 e).2 (by omega)⟩
theorem DepJ.pair_no (h : DepJ P ts k d) (hk : k < ts.length) (e : ts.getD k default = Test.mk 5 [] 0 0 ∨ ts.getD k default = Test.mk 6 [] 0 0) (hd : d < 2) : false = validV P ts := valid_no hk ((dep_5 hk h.2 e).1 (by omega))
theorem DepJ.leaf (h : DepJ P ts k d) (hk : k < ts.length) (h4 : ¬ ts.getD k default = Test.mk 4 [] 0 0) (h5 : ¬ ts.getD k default = Test.mk 5 [] 0 0) (h6 : ¬ ts.getD k default = Test.mk 6 [] 0 0) (hl : leafOk P (ts.getD k default) = true) : DepJ P ts (k + 1) (d + 1) := ⟨by have := h.1; omega, by
  have := h.1; rw [show (d + 1).toNat = d.toNat + 1 by omega]; exact (dep_l hk h.2 h4 (not_or.2 ⟨h5, h6⟩)).2 hl⟩
theorem DepJ.leaf_no (h : DepJ P ts k d) (hk : k < ts.length) (h4 : ¬ ts.getD k default = Test.mk 4 [] 0 0) (h5 : ¬ ts.getD k default = Test.mk 5 [] 0 0) (h6 : ¬ ts.getD k default = Test.mk 6 [] 0 0) (hl : leafOk P (ts.getD k default) = false) : false = validV P ts := valid_no hk ((dep_l hk h.2 h4 (not_or.2 ⟨h5, h6⟩)).1 hl)
theorem DepJ.done (h : DepJ P ts k d) (hk : k = ts.length) : (decide ((ts.length : Int) ≤ 32) && (decide (d = 1) || decide ((ts.length : Int) = 0))) = validV P ts := by
  have := valid_end hk h.2
  have h0 := h.1
  rw [show ((d.toNat : Nat) : Int) = d by omega] at this; exact this
end
section
variable {steps : List Bytes} {ends : List StepEnd} {t : Test} {k : Nat} {i : Int}
theorem cut_len : (cutE steps ends).length = min ends.length steps.length := by unfold cutE; rw [List.length_take]; omega
theorem cut_at (h1 : k < ends.length) (h2 : k < steps.length) : (cutE steps ends).getD k default = ends.getD k default := by
  unfold cutE
  rw [List.getD_eq_getElem?_getD, List.getElem?_take, if_pos (by omega), ← List.getD_eq_getElem?_getD]
theorem val_any (h3 : t.Kind = 3) (h1 : k < ends.length) (h2 : k < steps.length) (h : ((ends.getD k default).Ran && (ends.getD k default).Failed) = true) : true = leafV steps (cutE steps ends) t i := by
  unfold leafV; rw [if_pos h3]
  refine (List.any_eq_true.2 ⟨_, R44.getD_mem (d := default) (by rw [cut_len]; omega : k < (cutE steps ends).length), ?_⟩).symm
  rw [cut_at h1 h2]; exact h
theorem val_none (h3 : t.Kind = 3) (hk : ¬ (k < ends.length ∧ k < steps.length)) (h : ∀ i, i < k → failed (ends.getD i default) = false) : false = leafV steps (cutE steps ends) t i := by
  unfold leafV; rw [if_pos h3]
  refine (Bool.eq_false_iff.2 fun h2 => ?_).symm
  obtain ⟨x, hx, hf⟩ := List.any_eq_true.1 h2
  obtain ⟨j, hj, rfl⟩ := List.mem_iff_getElem.1 hx
  have hj' := hj; rw [cut_len] at hj'
  have := h j (by omega)
  rw [← cut_at (steps := steps) (by omega) (by omega), List.getD_eq_getElem?_getD, List.getElem?_eq_getElem hj] at this
  rw [show failed (cutE steps ends)[j] = false from this] at hf; cases hf
theorem val_out (h3 : ¬ t.Kind = 3) (h0 : 0 ≤ idx steps t.Step) (h : (ends.length : Int) ≤ idx steps t.Step ∨ (ends.getD (idx steps t.Step).toNat default).Ran = false) : false = leafV steps (cutE steps ends) t i := by
  have hl := idx_lt steps t.Step
  unfold leafV; rw [if_neg h3]
  rcases Int.lt_or_le (idx steps t.Step) ends.length with h1 | h1
  · have h2 : (ends.getD (idx steps t.Step).toNat default).Ran = false := h.resolve_left (by omega)
    rw [cut_at (by omega) (by omega)]
    unfold holds; rw [h2]; simp
  · rw [decide_eq_false (by rw [cut_len]; omega)]; rfl
theorem val_in (h3 : ¬ t.Kind = 3) (h0 : 0 ≤ idx steps t.Step) (h1 : ¬ (ends.length : Int) ≤ idx steps t.Step) : leafV steps (cutE steps ends) t i = holds t (ends.getD (idx steps t.Step).toNat default) := by
  have hl := idx_lt steps t.Step
  unfold leafV; rw [if_neg h3, decide_eq_true (by rw [cut_len]; omega), cut_at (by omega) (by omega)]; rfl
end
def EvJ (steps : List Bytes) (E : List StepEnd) (ts : List Test) (k : Nat) (bs : List Bool) : Prop := ∃ l, treeG (onP steps) k l (ts.drop k) = treeG (onP steps) 0 [] ts ∧ bs = l.map (eval (leafV steps E))
section
variable {steps : List Bytes} {E : List StepEnd} {ts : List Test} {k : Nat} {bs : List Bool}
theorem map_getD {α β : Type} [Inhabited α] {f : α → β} {l : List α} {k : Nat} {d : β} (h : k < l.length) : (l.map f).getD k d = f (l.getD k default) := by
  rw [List.getD_eq_getElem?_getD, List.getElem?_map, List.getD_eq_getElem?_getD, List.getElem?_eq_getElem h]; rfl
theorem EvJ.start : EvJ steps E ts 0 [] := ⟨[], rfl, rfl⟩
theorem tree_ne (h0 : ts ≠ []) (h : (onV ts steps).isSome = true) : ∃ x, treeG (onP steps) 0 [] ts = some [x] ∧ onV ts steps = some x := by
  unfold onV at *
  rw [if_neg h0] at h ⊢
  unfold treeV at *
  by_cases hl : 32 < ts.length
  · rw [if_pos hl] at h; cases h
  · rw [if_neg hl] at h ⊢
    unfold one at *
    split at h
    · rename_i x hx; rw [hx]; exact ⟨x, rfl, rfl⟩
    · cases h
theorem EvJ.go (h : EvJ steps E ts k bs) (hk : k < ts.length) (hv : (onV ts steps).isSome = true) : ∃ l l', bs = l.map (eval (leafV steps E)) ∧ stepT (onP steps) l k (ts.getD k default) = some l' ∧ treeG (onP steps) (k + 1) l' (ts.drop (k + 1)) = treeG (onP steps) 0 [] ts := by
  obtain ⟨l, h1, h2⟩ := h
  obtain ⟨x, hx, _⟩ := tree_ne (fun e => by rw [e] at hk; simp at hk) hv
  rw [R44.drop_cons (d := default) hk, treeG] at h1
  cases hs : stepT (onP steps) l k (ts.getD k default) with
  | none => rw [hs, hx] at h1; cases h1
  | some l' => rw [hs] at h1; exact ⟨l, l', h2, hs, h1⟩
theorem EvJ.few (h : EvJ steps E ts k bs) (hk : k < ts.length) (hv : (onV ts steps).isSome = true) : ((ts.getD k default).Kind = 4 → 1 ≤ bs.length) ∧ ((ts.getD k default).Kind = 5 ∨ (ts.getD k default).Kind = 6 → 2 ≤ bs.length) ∧ (¬ (ts.getD k default).Kind = 4 → ¬ (ts.getD k default).Kind = 5 → ¬ (ts.getD k default).Kind = 6 → leafOk (onP steps) (ts.getD k default) = true) := by
  obtain ⟨l, l', hb, hs, _⟩ := h.go hk hv
  have hl : bs.length = l.length := by rw [hb, List.length_map]
  unfold stepT at hs
  split at hs
  · rename_i h4; rw [h4.1]; exact ⟨fun _ => by omega, fun h => absurd h (by decide), fun h => absurd rfl h⟩
  · split at hs
    · rename_i h5
      refine ⟨fun h => ?_, fun _ => by omega, fun _ h5' h6' => ?_⟩
      · rcases h5.1 with e | e <;> rw [e] at h <;> exact absurd h (by decide)
      · rcases h5.1 with e | e
        · exact absurd (by rw [e]; rfl) h5'
        · exact absurd (by rw [e]; rfl) h6'
    · split at hs
      · rename_i hf
        refine ⟨fun h => ?_, fun h => ?_, fun _ _ _ => hf⟩
        · rcases leaf_any hf with e | e | e
          · rw [e] at h; cases h
          · omega
          · omega
        · rcases leaf_any hf with e | e | e
          · rw [e] at h; rcases h with h | h <;> cases h
          · omega
          · omega
      · cases hs
theorem EvJ.neg (h : EvJ steps E ts k bs) (hk : k < ts.length) (hv : (onV ts steps).isSome = true) (h4 : (ts.getD k default).Kind = 4) : EvJ steps E ts (k + 1) (bs.set (bs.length - 1) (!(bs.getD (bs.length - 1) false))) := by
  obtain ⟨l, l', hb, hs, hg⟩ := h.go hk hv
  have hl : bs.length = l.length := by rw [hb, List.length_map]
  have hf := (h.few hk hv).1 h4
  refine ⟨l', hg, ?_⟩
  unfold stepT at hs
  split at hs
  · obtain rfl := Option.some.inj hs
    rw [List.map_set, hl, hb, eval, map_getD (by omega)]
  · rename_i hn
    split at hs
    · rename_i h5; rcases h5.1 with e | e <;> rw [e] at h4 <;> exact absurd h4 (by decide)
    · split at hs
      · rename_i hq
        rcases leaf_any hq with e | e | e
        · rw [e] at h4; cases h4
        · omega
        · omega
      · cases hs
theorem EvJ.pair (h : EvJ steps E ts k bs) (hk : k < ts.length) (hv : (onV ts steps).isSome = true) (h5 : (ts.getD k default).Kind = 5 ∨ (ts.getD k default).Kind = 6) : EvJ steps E ts (k + 1) (bs.take (bs.length - 2) ++ [if (ts.getD k default).Kind = 5 then bs.getD (bs.length - 2) false && bs.getD (bs.length - 1) false else bs.getD (bs.length - 2) false || bs.getD (bs.length - 1) false]) := by
  obtain ⟨l, l', hb, hs, hg⟩ := h.go hk hv
  have hl : bs.length = l.length := by rw [hb, List.length_map]
  have hf := (h.few hk hv).2.1 h5
  refine ⟨l', hg, ?_⟩
  unfold stepT at hs
  split at hs
  · rename_i h4; rw [h4.1] at h5; rcases h5 with h | h <;> cases h
  · split at hs
    · obtain rfl := Option.some.inj hs
      rw [List.map_append, List.map_take, hl, hb, map_getD (by omega), map_getD (by omega)]
      congr 1
      rw [List.map_cons, List.map_nil, eval]
      by_cases h6 : (ts.getD k default).Kind = 5
      · rw [if_pos h6, if_pos (decide_eq_true h6)]
      · rw [if_neg h6, if_neg (by rw [decide_eq_false h6]; decide)]
    · split at hs
      · rename_i hq
        rcases leaf_any hq with e | e | e
        · rw [e] at h5; rcases h5 with h | h <;> cases h
        · omega
        · omega
      · cases hs
theorem EvJ.and (h : EvJ steps E ts k bs) (hk : k < ts.length) (hv : (onV ts steps).isSome = true) (h5 : (ts.getD k default).Kind = 5) : EvJ steps E ts (k + 1) (bs.take (bs.length - 2) ++ [bs.getD (bs.length - 2) false && bs.getD (bs.length - 1) false]) := by
  have := h.pair hk hv (.inl h5); rw [if_pos h5] at this; exact this
theorem EvJ.or (h : EvJ steps E ts k bs) (hk : k < ts.length) (hv : (onV ts steps).isSome = true) (h5 : (ts.getD k default).Kind = 6) : EvJ steps E ts (k + 1) (bs.take (bs.length - 2) ++ [bs.getD (bs.length - 2) false || bs.getD (bs.length - 1) false]) := by
  have := h.pair hk hv (.inr h5); rw [if_neg (by omega)] at this; exact this
theorem EvJ.and_t (h : EvJ steps E ts k bs) (hk : k < ts.length) (hv : (onV ts steps).isSome = true) (h5 : (ts.getD k default).Kind = 5) (ha : bs.getD (bs.length - 2) false = true) : EvJ steps E ts (k + 1) (bs.take (bs.length - 2) ++ [bs.getD (bs.length - 1) false]) := by
  have := h.and hk hv h5; rw [ha, Bool.true_and] at this; exact this
theorem EvJ.and_f (h : EvJ steps E ts k bs) (hk : k < ts.length) (hv : (onV ts steps).isSome = true) (h5 : (ts.getD k default).Kind = 5) (ha : bs.getD (bs.length - 2) false = false) : EvJ steps E ts (k + 1) (bs.take (bs.length - 2) ++ [false]) := by
  have := h.and hk hv h5; rw [ha, Bool.false_and] at this; exact this
theorem EvJ.or_t (h : EvJ steps E ts k bs) (hk : k < ts.length) (hv : (onV ts steps).isSome = true) (h5 : (ts.getD k default).Kind = 6) (ha : bs.getD (bs.length - 2) false = true) : EvJ steps E ts (k + 1) (bs.take (bs.length - 2) ++ [true]) := by
  have := h.or hk hv h5; rw [ha, Bool.true_or] at this; exact this
theorem EvJ.or_f (h : EvJ steps E ts k bs) (hk : k < ts.length) (hv : (onV ts steps).isSome = true) (h5 : (ts.getD k default).Kind = 6) (ha : bs.getD (bs.length - 2) false = false) : EvJ steps E ts (k + 1) (bs.take (bs.length - 2) ++ [bs.getD (bs.length - 1) false]) := by
  have := h.or hk hv h5; rw [ha, Bool.false_or] at this; exact this
theorem EvJ.leaf (h : EvJ steps E ts k bs) (hk : k < ts.length) (hv : (onV ts steps).isSome = true) (h4 : ¬ (ts.getD k default).Kind = 4) (h5 : ¬ (ts.getD k default).Kind = 5) (h6 : ¬ (ts.getD k default).Kind = 6) : EvJ steps E ts (k + 1) (bs ++ [leafV steps E (ts.getD k default) 0]) := by
  obtain ⟨l, l', hb, hs, hg⟩ := h.go hk hv
  refine ⟨l', hg, ?_⟩
  unfold stepT at hs
  split at hs
  · rename_i h; rw [h.1] at h4; exact absurd rfl h4
  · split at hs
    · rename_i h; rcases h.1 with e | e
      · rw [e] at h5; exact absurd rfl h5
      · rw [e] at h6; exact absurd rfl h6
    · split at hs
      · obtain rfl := Option.some.inj hs
        rw [List.map_append, hb]; rfl
      · cases hs
theorem EvJ.done {ends : List StepEnd} (h : EvJ steps (cutE steps ends) ts k bs) (hk : k = ts.length) (h0 : ¬ ts.length = 0) (hv : (onV ts steps).isSome = true) : bs.length = 1 ∧ bs.getD 0 false = evalV ts steps ends := by
  obtain ⟨l, h1, h2⟩ := h
  obtain ⟨x, hx, hn⟩ := tree_ne (fun e => h0 (by rw [e]; rfl)) hv
  rw [hk, List.drop_length, treeG, hx] at h1
  obtain rfl := Option.some.inj h1
  unfold evalV; rw [hn, h2]
  exact ⟨rfl, rfl⟩
theorem eval_none {ends : List StepEnd} (h : (onV ts steps).isSome = false) : false = evalV ts steps ends := by
  unfold evalV; cases hx : onV ts steps with
  | none => rfl
  | some x => rw [hx] at h; cases h
theorem eval_nil {ends : List StepEnd} (h : ts.length = 0) : (!leafV steps (cutE steps ends) (Test.mk 3 [] 0 0) 0) = evalV ts steps ends := by
  rw [List.length_eq_zero_iff.1 h]; rfl
theorem leaf_ix {t : Test} (h : leafOk (onP steps) t = true) : t.Kind ≠ 3 → 0 ≤ idx steps t.Step := fun h3 => by
  rcases leaf_any h with e | e | e
  · rw [e] at h3; exact absurd rfl h3
  · exact idx_mem.2 (of_decide_eq_true e.2.2.2)
  · exact idx_mem.2 (of_decide_eq_true e.2.2.2.2.2)
end
section
variable {ts : List Test} {k : Nat}
theorem ref_skip {out : List Bytes} {s : Bytes} {j : Nat} (hj : j ≤ out.length) (h : ∀ i, i < j → Op.bytesLess (out.getD i []) s = true) (h2 : j < out.length → Op.bytesLess (out.getD j []) s = false) (he : j < out.length ∧ out.getD j [] = s) : Ord.ins out s = out := by
  rw [Ord.ins_at j out s hj h h2, if_pos he, List.take_append_drop]
theorem ref_put {out : List Bytes} {s : Bytes} {j : Nat} (hj : j ≤ out.length) (h : ∀ i, i < j → Op.bytesLess (out.getD i []) s = true) (h2 : j < out.length → Op.bytesLess (out.getD j []) s = false) (he : ¬ (j < out.length ∧ out.getD j [] = s)) : Ord.ins out s = (out.take j ++ [s]) ++ out.drop j := by
  rw [Ord.ins_at j out s hj h h2, if_neg he]; simp
def insV (ts : List Test) (k : Nat) : List Bytes := Ord.insl (stepsV ts k)
theorem ins_t (hk : k < ts.length) (h : (ts.getD k default).Step ≠ []) : insV ts (k + 1) = Ord.ins (insV ts k) (ts.getD k default).Step := by
  unfold insV; rw [steps_t hk h]; unfold Ord.insl; rw [List.foldl_append]; rfl
theorem ins_f (hk : k < ts.length) (h : (ts.getD k default).Step = []) : insV ts (k + 1) = insV ts k := by
  unfold insV; rw [steps_f hk h]
theorem rf_x {out : List Bytes} {s : Bytes} {j : Nat} (hx : (decide (((j : Nat) : Int) < ((out.length : Nat) : Int)) && Op.bytesLess (out.getD j []) s) = false) (hj : j < out.length) : Op.bytesLess (out.getD j []) s = false := by
  rw [decide_eq_true (by omega), Bool.true_and] at hx; exact hx
theorem rf_put {out : List Bytes} {j : Nat} (hk : k < ts.length) (h : out = insV ts k) (hj : j ≤ out.length) (hl : ∀ i, i < j → Op.bytesLess (out.getD i []) (ts.getD k default).Step = true) (hx : (decide (((j : Nat) : Int) < ((out.length : Nat) : Int)) && Op.bytesLess (out.getD j []) (ts.getD k default).Step) = false)
    (hc : (decide ((ts.getD k default).Step ≠ []) && (decide (((j : Nat) : Int) = ((out.length : Nat) : Int)) || decide (out.getD j [] ≠ (ts.getD k default).Step))) = true) : ((([] : List Bytes) ++ ((out.drop 0).take (j - 0))) ++ [(ts.getD k default).Step]) ++ ((out.drop j).take (out.length - j)) = insV ts (k + 1) := by
  rw [List.nil_append, List.drop_zero, Nat.sub_zero, List.take_of_length_le (l := out.drop j) (by rw [List.length_drop]; exact Nat.le_refl _)]
  simp only [Bool.and_eq_true, Bool.or_eq_true, decide_eq_true_eq] at hc
  rw [ins_t hk hc.1, ← h, ref_put hj hl (rf_x hx) (fun e => hc.2.elim (by omega) (fun e2 => e2 e.2))]
theorem rf_keep {out : List Bytes} {j : Nat} (hk : k < ts.length) (h : out = insV ts k) (hj : j ≤ out.length) (hl : ∀ i, i < j → Op.bytesLess (out.getD i []) (ts.getD k default).Step = true) (hx : (decide (((j : Nat) : Int) < ((out.length : Nat) : Int)) && Op.bytesLess (out.getD j []) (ts.getD k default).Step) = false)
    (hc : (decide ((ts.getD k default).Step ≠ []) && (decide (((j : Nat) : Int) = ((out.length : Nat) : Int)) || decide (out.getD j [] ≠ (ts.getD k default).Step))) = false) : out = insV ts (k + 1) := by
  by_cases hs : (ts.getD k default).Step = []
  · rw [ins_f hk hs]; exact h
  · rw [decide_eq_true hs, Bool.true_and, Bool.or_eq_false_iff, decide_eq_false_iff_not, decide_eq_false_iff_not] at hc
    rw [ins_t hk hs, ← h, ref_skip hj hl (rf_x hx) ⟨by omega, Decidable.not_not.1 hc.2⟩]
theorem rf_less {out : List Bytes} {s : Bytes} {j : Nat} (hl : ∀ i, i < j → Op.bytesLess (out.getD i []) s = true) (h : Op.bytesLess (out.getD j []) s = true) : ∀ i, i < j + 1 → Op.bytesLess (out.getD i []) s = true := fun i hi => by
  by_cases e : i = j
  · subst e; exact h
  · exact hl i (by omega)
theorem ins_end (hk : k = ts.length) : insV ts k = refersV ts := by
  unfold insV refersV stepsV; rw [List.take_of_length_le (by omega)]
end
end R40
end Go.Proofs.YtngjdmhpljmkpaaGreatDoor

namespace Go.Proofs.YtngjdmhpljmkpaaGreatDoor
open Go.GV
set_option linter.unusedVariables false
set_option linter.unusedSimpArgs false
theorem c40o0_ {p : Prop} (h : p := by first | exact i1_1.neg_no (by omega) (by assumption) (by omega) | exact i1_1.pair_no (by omega) (by assumption) (by omega) | exact i1_1.leaf_no (by omega) (by assumption) (by assumption) (by assumption) (by assumption) | exact i1_1.done (by omega)) : p := h
theorem c40o2_ {p : Prop} (h : p := by first | exact R40.val_any (k := k) (by assumption) (by omega) (by omega) (by assumption) | exact R40.val_none (k := k) (by assumption) (by omega) i1_1 | exact R40.val_out (by assumption) (q2 (by assumption)) (by assumption) | (rw [R40.val_in (by assumption) (q2 (by assumption)) (by omega)]; unfold R40.holds; simp_all)) : p := h
theorem c40o4_ {p : Prop} (h : p := by first | exact i1_1.neg (by omega) (by assumption) (by omega) | exact i1_1.pair (by omega) (by assumption) (by omega) | exact i1_1.leaf (by omega) (by assumption) (by assumption) (by assumption) (by assumption)) : p := h
theorem c40o5_ {p : Prop} (h : p := by exact p1 Tryz.results62 rfl ⟨(eB (by unfold R40.related; simp_all)), rfl⟩) : p := h
theorem c40o6_ {p : Prop} (h : p := by first | exact R40.basic_r0 (P := R40.onP steps) R40.idx_on (by assumption) | exact R40.basic_r1 (P := R40.onP steps) R40.idx_on (by assumption) (by assumption) | exact R40.basic_r1 (P := R40.onP steps) R40.idx_on (by assumption) (.inl (by assumption)) | exact R40.basic_r1 (P := R40.onP steps) R40.idx_on (by assumption) (.inr (by assumption)) | exact R40.basic_r3 (P := R40.onP steps) (by assumption) | exact R40.basic_rx (P := R40.onP steps) (by assumption) (by omega) (by assumption)) : p := h
theorem c40o10_ {p : Prop} (h : p := by first | exact R40.idx_hit (k := k) (by omega) i1_1 (Eq.symm (by assumption)) | exact R40.idx_none (fun i hi => i1_1 i (by omega))) : p := h
set_option maxRecDepth 20000 in
theorem f49_ok (l : List Bytes) (lA : Option Addr) (lC : Nat) (s : Bytes) (w : World) (lR : RO [] w lA (l.map vS)) (q0 : l.length ≤ 9223372036854775807) : Calls Tryz.prog 49 #[vL lA l.length lC, vS s] w (Gives [] w fun v L => v = vI (R40.idx l s) ∧ L = []) := by
 refine calls_J [] 19 Tryz.func49 rfl Tryz.ntmps49 [(0, _), (1, _)] rfl rfl (Give.nil w) ?_
 refine q_ (g_ (s_ av_ (z_ (n_ (q_ (q_ (g_ (s_ av_ (z_ (n_ (k_ ?_)))))))))))
 refine J_loop (X := Nat) (fun (k : Nat) => (k ≤ l.length) ∧ (∀ i, i < k → l.getD i [] ≠ s)) (fun (k : Nat) => [(0, vL lA l.length lC), (1, vS s), (5, vI ((k : Nat) : Int))]) (fun (k : Nat) => []) (fun (k : Nat) => l.length - k) (0 : Nat) ?_ ⟨rfl, rfl, rfl, trivial⟩ (fun _ h => h) ?_
 ·try dsimp only
  refine ⟨?_, ?_⟩
  ·first | rfl | omega | (simp_all; done) | (simp_all; omega)
  ·intro i h2; omega
 intro k hI1
 obtain ⟨i1_0, i1_1⟩ := hI1
 try dsimp only at i1_0
 try dsimp only at i1_1
 try dsimp only
 refine q_ (q_ (g_ (s_ mv_ (s_ mv_ (s_ (lnS Tryz.underlying22) (s_ (x_lss_i rfl rfl) (z_ (n_ ?_))))))))
 refine ifd (fun h1w h1 => ?_) (fun h1w h1 => ?_)
 ·refine sk_ (n_ (q_ (k_ (q_ (g_ (s_ mv_ (s_ mv_ (r_ (ixM (cells_ro lR) Tryz.underlying22 Ty.sz9) (r_ (ldM vS [] (cells_ro lR) Ty.sc9) (s_ mv_ (s_ (x_eql_s rfl rfl) (z_ (n_ ?_)))))))))))))
  refine ifd (fun h2w h2 => ?_) (fun h2w h2 => ?_)
  ·refine q_ (g_ (s_ mv_ (s_ av_ (z_ (n_ (rt_ (kq_ (nr_ (rr_ (kq_ (nr_ ?_)))))))))))
   exact p1 Tryz.results49 rfl ⟨(eI c40o10_), rfl⟩
  ·refine sk_ (kx_ (n_ (g_ (s_ mv_ (s_ (x_add_n (a := k) (b := 1) rfl rfl (by omega)) (s_ av_ (z_ ?_)))))))
   refine JX_round (k + 1 : Nat) ?_ ?_ ⟨rfl, rfl, rfl, trivial⟩ (fun _ h => h)
   ·try dsimp only
    refine ⟨?_, ?_⟩
    ·first | rfl | omega | (simp_all; done) | (simp_all; omega)
    ·intro i hi
     by_cases hik : i = k
     ·subst hik; assumption
     ·exact i1_1 i (by omega)
   ·try dsimp only
    first | omega | (simp; omega) | (simp_all; omega)
 ·refine J_exit (ne_ (re_ (kh_ (n_ (q_ ?_)))))
  refine g_ (s_ av_ (z_ (n_ (rt_ ?_))))
  exact p1 Tryz.results49 rfl ⟨(eI c40o10_), rfl⟩
set_option maxRecDepth 20000 in
theorem fbasic_on (t : Test) (steps : List Bytes) (stepsA : Option Addr) (stepsC : Nat) (w : World) (stepsR : RO [] w stepsA (steps.map vS)) (q0 : steps.length ≤ 9223372036854775807) : Calls Tryz.prog 57 #[vG (Test.enc t), vL stepsA steps.length stepsC, vB false] w (Gives [] w fun v L => v = vB (R40.leafOk (R40.onP steps) t) ∧ L = []) := by
 refine calls_J [] 65 Tryz.func57 rfl Tryz.ntmps57 [(0, _), (1, _), (2, _)] rfl rfl (Give.nil w) ?_
 refine q_ (g_ (o_ (bxG fun b1 => ?_)))
 refine s_ av_ (z_ (n_ (q_ (g_ (s_ mv_ (s_ mv_ (sh_ rfl (sh_ rfl (sh_ rfl (jr_ (vB false) (s_ mv_ (sg_ rfl mv_ ?_))))))))))))
 refine sg_ rfl (fA 1 Ty.fi40_1) (rg_ rfl (ld_ 0 Ty.sc9) (c0g rfl (cl_ Ty.ca49) (fun w hS => f49_ok _ _ _ _ w (rno stepsR hS) hy_) ?_))
 have ha2 := R40.idx_lt steps t.Step
 refine sg_ rfl (x_geq_i rfl rfl) (jr_ (vB (decide ((0 : Int) ≤ R40.idx steps t.Step))) (s_ av_ (z_ (n_ (q_ (q_ (g_ (s_ (fA 0 Ty.fi40_0) (r_ (ld_ 0 Ty.sc3) (z_ (xk_ [3, 6, 7, 22] ?_)))))))))))
 refine n_ (k_ (q_ (g_ (s_ (x_eql_i rfl rfl) (s_ av_ (z_ (n_ ?_)))))))
 refine ifd (fun h3w h3 => ?_) (fun h3w h3 => ?_)
 ·refine q_ (g_ (s_ mv_ (s_ mv_ ?_)))
  refine and_ 3 (decide ((0 : Int) ≤ t.Op)) (fun g4 => ?_) ?_
  ·have g4r := g4
   have g4r := of_decide_eq_true g4r
   refine sg_ g4 (fA 2 Ty.fi40_2) (rg_ g4 (ld_ 0 Ty.sc3) (sg_ g4 (x_geq_i rfl rfl) ?_))
   exact cr_
  refine s_ mv_ ?_
  refine and_ 3 (decide (t.Op ≤ 5)) (fun g5 => ?_) ?_
  ·have g5r := g5
   have ⟨g5r, h6⟩ := band_true g5r
   have g5r := of_decide_eq_true g5r
   have h6 := of_decide_eq_true h6
   refine sg_ g5 (fA 2 Ty.fi40_2) (rg_ g5 (ld_ 0 Ty.sc3) (sg_ g5 (x_leq_i rfl rfl) ?_))
   exact cr_
  refine s_ mv_ ?_
  refine and_ 3 (decide ((0 : Int) ≤ t.N)) (fun g7 => ?_) ?_
  ·have g7r := g7
   have ⟨g7r, h8⟩ := band_true g7r
   have ⟨g7r, h9⟩ := band_true g7r
   have g7r := of_decide_eq_true g7r
   have h9 := of_decide_eq_true h9
   have h8 := of_decide_eq_true h8
   refine sg_ g7 (fA 3 Ty.fi40_3) (rg_ g7 (ld_ 0 Ty.sc3) (sg_ g7 (x_geq_i rfl rfl) ?_))
   exact cr_
  refine s_ mv_ ?_
  refine and_ 3 (decide (t.N ≤ 4095)) (fun g10 => ?_) ?_
  ·have g10r := g10
   have ⟨g10r, h11⟩ := band_true g10r
   have ⟨g10r, h12⟩ := band_true g10r
   have ⟨g10r, h13⟩ := band_true g10r
   have g10r := of_decide_eq_true g10r
   have h13 := of_decide_eq_true h13
   have h12 := of_decide_eq_true h12
   have h11 := of_decide_eq_true h11
   refine sg_ g10 (fA 3 Ty.fi40_3) (rg_ g10 (ld_ 0 Ty.sc3) (sg_ g10 (x_leq_i rfl rfl) ?_))
   exact cr_
  refine s_ av_ (z_ (n_ (rt_ (kq_ (nr_ ?_)))))
  exact p1 Tryz.results57 rfl ⟨(eB c40o6_), rfl⟩
 ·refine q_ (q_ (g_ (s_ (x_eql_i rfl rfl) (s_ av_ (z_ (n_ ?_))))))
  refine ifd (fun h14w h14 => ?_) (fun h14w h14 => ?_)
  ·refine sk_ (n_ ?_)
   refine ifd (fun _ _ => ?_) (fun _ hc => absurd h14 hc)
   refine q_ (g_ (s_ mv_ (s_ mv_ ?_)))
   refine and_ 3 (decide (t.Op = 0)) (fun g16 => ?_) ?_
   ·have g16r := g16
    have g16r := of_decide_eq_true g16r
    refine sg_ g16 (fA 2 Ty.fi40_2) (rg_ g16 (ld_ 0 Ty.sc3) (sg_ g16 (x_eql_i rfl rfl) ?_))
    exact cr_
   refine s_ mv_ ?_
   refine and_ 3 (decide (t.N = 0)) (fun g17 => ?_) ?_
   ·have g17r := g17
    have ⟨g17r, h18⟩ := band_true g17r
    have g17r := of_decide_eq_true g17r
    have h18 := of_decide_eq_true h18
    refine sg_ g17 (fA 3 Ty.fi40_3) (rg_ g17 (ld_ 0 Ty.sc3) (sg_ g17 (x_eql_i rfl rfl) ?_))
    exact cr_
   refine s_ av_ (z_ (n_ (rt_ (kq_ (nr_ ?_)))))
   exact p1 Tryz.results57 rfl ⟨(eB c40o6_), rfl⟩
  ·refine g_ (s_ (x_eql_i rfl rfl) (s_ av_ (z_ (n_ ?_))))
   refine ifd (fun h19w h19 => ?_) (fun h19w h19 => ?_)
   ·refine q_ (g_ (s_ mv_ (s_ mv_ ?_)))
    refine and_ 3 (decide (t.Op = 0)) (fun g20 => ?_) ?_
    ·have g20r := g20
     have g20r := of_decide_eq_true g20r
     refine sg_ g20 (fA 2 Ty.fi40_2) (rg_ g20 (ld_ 0 Ty.sc3) (sg_ g20 (x_eql_i rfl rfl) ?_))
     exact cr_
    refine s_ mv_ ?_
    refine and_ 3 (decide (t.N = 0)) (fun g21 => ?_) ?_
    ·have g21r := g21
     have ⟨g21r, h22⟩ := band_true g21r
     have g21r := of_decide_eq_true g21r
     have h22 := of_decide_eq_true h22
     refine sg_ g21 (fA 3 Ty.fi40_3) (rg_ g21 (ld_ 0 Ty.sc3) (sg_ g21 (x_eql_i rfl rfl) ?_))
     exact cr_
    refine s_ av_ (z_ (n_ (rt_ (kq_ (nr_ ?_)))))
    exact p1 Tryz.results57 rfl ⟨(eB c40o6_), rfl⟩
   ·refine q_ (g_ (s_ (x_eql_i rfl rfl) (s_ av_ (z_ (n_ ?_)))))
    refine ifd (fun h23w h23 => ?_) (fun h23w h23 => ?_)
    ·refine q_ (g_ (r_ (ldN 0 (Test.enc t) Ty.ag40 Ty.sz40) (js_ (vG [vI 3, vS [], vI 0, vI 0]) (x_build (by kernel_rfl)) (s_ (x_eql_agg rfl rfl Ty.eg40 (Ty.eq40 9998 t (Test.mk 3 [] 0 0))) (s_ av_ (z_ (n_ (rt_ (kq_ (nr_ ?_))))))))))
     exact p1 Tryz.results57 rfl ⟨(eB c40o6_), rfl⟩
    ·refine sk_ (kx_ (n_ (q_ (g_ (s_ av_ (z_ (n_ (rt_ ?_))))))))
     exact p1 Tryz.results57 rfl ⟨(eB c40o6_), rfl⟩
set_option maxRecDepth 20000 in
theorem fvalid_on (ts : List Test) (tsA : Option Addr) (tsC : Nat) (steps : List Bytes) (stepsA : Option Addr) (stepsC : Nat) (w : World) (tsR : RO [] w tsA (ts.flatMap Test.enc)) (stepsR : RO [] w stepsA (steps.map vS)) (q0 : steps.length ≤ 9223372036854775807) (q1 : ts.length ≤ 9223372036854775807) : Calls Tryz.prog 28 #[vL tsA ts.length tsC, vL stepsA steps.length stepsC, vB false] w (Gives [] w fun v L => v = vB (R40.validV (R40.onP steps) ts) ∧ L = []) := by
 refine calls_J [] 58 Tryz.func28 rfl Tryz.ntmps28 [(0, _), (1, _), (2, _)] rfl rfl (Give.nil w) ?_
 refine q_ (g_ (s_ av_ (z_ (n_ (q_ (g_ (s_ av_ (z_ (n_ (q_ (q_ (g_ (s_ av_ (z_ (n_ (k_ ?_))))))))))))))))
 refine J_loop (X := Nat × Int) (fun (⟨k, d⟩ : Nat × Int) => (k ≤ ts.length) ∧ (R40.DepJ (R40.onP steps) ts k d) ∧ (d ≤ k)) (fun (⟨k, d⟩ : Nat × Int) => [(0, vL tsA ts.length tsC), (1, vL stepsA steps.length stepsC), (2, vB false), (7, vI d), (8, vI ((k : Nat) : Int))]) (fun (⟨k, d⟩ : Nat × Int) => []) (fun (⟨k, d⟩ : Nat × Int) => ts.length - k) ((0, 0) : Nat × Int) ?_ ⟨rfl, rfl, rfl, rfl, rfl, trivial⟩ (fun _ h => h) ?_
 ·try dsimp only
  refine ⟨?_, ?_, ?_⟩
  ·first | rfl | omega | (simp_all; done) | (simp_all; omega)
  ·exact R40.DepJ.start
  ·exact Int.le_refl _
 rintro ⟨k, d⟩ hI1
 obtain ⟨i1_0, i1_1, i1_2⟩ := hI1
 try dsimp only at i1_0
 try dsimp only at i1_1
 try dsimp only at i1_2
 have hd0 := i1_1.1
 try dsimp only
 refine q_ (q_ (g_ (s_ mv_ (s_ mv_ (s_ (lnS Tryz.underlying23) (s_ (x_lss_i rfl rfl) (z_ (n_ ?_))))))))
 refine ifd (fun h1w h1 => ?_) (fun h1w h1 => ?_)
 ·refine sk_ (n_ (q_ (k_ (q_ (g_ (s_ mv_ (s_ mv_ (r_ (ixF Test.enc_len (cells_ro tsR) Tryz.underlying23 Ty.sz40) (r_ (ldFN Test.enc_len (cells_ro tsR) Ty.ag40 Ty.sz40) (o_ (al_ Ty.ze40 fun b2 => ?_)))))))))))
  refine o_ (stG 0 Ty.sz40 ?_)
  refine z_ (n_ (k_ (q_ (g_ (r_ (ldN 0 (Test.enc (ts.getD k default)) Ty.ag40 Ty.sz40) (js_ (vG [vI 4, vS [], vI 0, vI 0]) (x_build (by kernel_rfl)) (s_ (x_eql_agg rfl rfl Ty.eg40 (Ty.eq40 9998 (ts.getD k default) (Test.mk 4 [] 0 0))) (s_ av_ (z_ (n_ ?_))))))))))
  refine ifd (fun h3w h3 => ?_) (fun h3w h3 => ?_)
  ·refine q_ (g_ (s_ mv_ (s_ (x_lss_i rfl rfl) (z_ (n_ ?_)))))
   refine ifd (fun h4w h4 => ?_) (fun h4w h4 => ?_)
   ·refine q_ (g_ (s_ av_ (z_ (xk_ [0, 1, 2, 7, 8, 6] ?_))))
    refine n_ (rt_ (kq_ (kq_ (nr_ (rr_ (kq_ (nr_ ?_)))))))
    exact p1 Tryz.results28 rfl ⟨(eB c40o0_), rfl⟩
   ·refine sk_ (kx_ (kx_ (n_ (g_ (s_ mv_ (s_ (x_add_n (a := k) (b := 1) rfl rfl (by omega)) (s_ av_ (z_ ?_))))))))
    refine JX_round ((k + 1, d) : Nat × Int) ?_ ?_ ⟨rfl, rfl, rfl, rfl, rfl, trivial⟩ (fun _ h => h.keep [false] rfl)
    ·try dsimp only
     refine ⟨?_, ?_, ?_⟩
     ·first | rfl | omega | (simp_all; done) | (simp_all; omega)
     ·exact c40o4_
     ·omega
    ·try dsimp only
     first | omega | (simp; omega) | (simp_all; omega)
  ·refine q_ (g_ (r_ (ldN 0 (Test.enc (ts.getD k default)) Ty.ag40 Ty.sz40) (js_ (vG [vI 5, vS [], vI 0, vI 0]) (x_build (by kernel_rfl)) (s_ (x_eql_agg rfl rfl Ty.eg40 (Ty.eq40 9998 (ts.getD k default) (Test.mk 5 [] 0 0))) (s_ mv_ ?_)))))
   refine or_ 3 (decide (((ts.getD k default) : Test) = (Test.mk 6 [] 0 0))) (fun g5 => ?_) ?_
   ·have g5r := g5
    have g5r := of_decide_eq_false g5r
    refine rg_ g5 (ldN 0 (Test.enc (ts.getD k default)) Ty.ag40 Ty.sz40) (jg_ g5 (vG [vI 6, vS [], vI 0, vI 0]) (x_build (by kernel_rfl)) (sg_ g5 (x_eql_agg rfl rfl Ty.eg40 (Ty.eq40 9998 (ts.getD k default) (Test.mk 6 [] 0 0))) ?_))
    exact cr_
   refine s_ av_ (z_ (xk_ [0, 1, 2, 7, 8, 9, 26] ?_))
   refine n_ ?_
   refine if_ (fun h6 => ?_) (fun h6 => ?_)
   ·have h6w := h6
    simp only [Bool.and_eq_true, Bool.or_eq_true, Bool.and_eq_false_iff, Bool.or_eq_false_iff, Bool.not_eq_true', Bool.not_eq_false', decide_eq_true_eq, decide_eq_false_iff_not] at h6
    refine q_ (q_ (g_ (s_ mv_ (s_ (x_lss_i rfl rfl) (z_ (n_ ?_))))))
    refine ifd (fun h7w h7 => ?_) (fun h7w h7 => ?_)
    ·refine q_ (g_ (s_ av_ (z_ (n_ (rt_ (nr_ (kq_ (kq_ (nr_ (rr_ (kq_ (nr_ ?_))))))))))))
     exact p1 Tryz.results28 rfl ⟨(eB c40o0_), rfl⟩
    ·refine sk_ (n_ (g_ (s_ mv_ (s_ (x_sub_i (a := d) (b := 1) rfl rfl (by omega) (by omega)) (s_ av_ (z_ (kx_ (kx_ (n_ (g_ (s_ mv_ (s_ (x_add_n (a := k) (b := 1) rfl rfl (by omega)) (s_ av_ (z_ ?_))))))))))))))
     refine JX_round ((k + 1, d - 1) : Nat × Int) ?_ ?_ ⟨rfl, rfl, rfl, rfl, rfl, trivial⟩ (fun _ h => h.keep [false] rfl)
     ·try dsimp only
      refine ⟨?_, ?_, ?_⟩
      ·first | rfl | omega | (simp_all; done) | (simp_all; omega)
      ·exact c40o4_
      ·omega
     ·try dsimp only
      first | omega | (simp; omega) | (simp_all; omega)
   ·have h6w := h6
    have ⟨h6, h8⟩ := bor_false h6
    have h6 := of_decide_eq_false h6
    have h8 := of_decide_eq_false h8
    refine q_ (g_ (r_ (ldN 0 (Test.enc (ts.getD k default)) Ty.ag40 Ty.sz40) (s_ mv_ (s_ mv_ (c0 (cl_ Ty.ca57) (fun w hS => fbasic_on _ _ _ _ w (rno stepsR hS) hy_) (s_ av_ (z_ (n_ ?_))))))))
    refine if_ (fun h9 => ?_) (fun h9 => ?_)
    ·have h9w := h9
     refine g_ (s_ mv_ (s_ (x_add_i (a := d) (b := 1) rfl rfl (by omega) (by omega)) (s_ av_ (z_ (kx_ (kx_ (n_ (g_ (s_ mv_ (s_ (x_add_n (a := k) (b := 1) rfl rfl (by omega)) (s_ av_ (z_ ?_))))))))))))
     refine JX_round ((k + 1, d + 1) : Nat × Int) ?_ ?_ ⟨rfl, rfl, rfl, rfl, rfl, trivial⟩ (fun _ h => h.keep [false] rfl)
     ·try dsimp only
      refine ⟨?_, ?_, ?_⟩
      ·first | rfl | omega | (simp_all; done) | (simp_all; omega)
      ·exact c40o4_
      ·omega
     ·try dsimp only
      first | omega | (simp; omega) | (simp_all; omega)
    ·have h9w := h9
     refine q_ (g_ (s_ av_ (z_ (n_ (rt_ (kq_ (kq_ (nr_ (rr_ (kq_ (nr_ ?_)))))))))))
     exact p1 Tryz.results28 rfl ⟨(eB c40o0_), rfl⟩
 ·refine J_exit (ne_ (re_ (kh_ (n_ (q_ ?_)))))
  refine g_ (s_ mv_ (s_ (lnS Tryz.underlying23) (s_ (x_leq_i rfl rfl) (s_ mv_ ?_))))
  refine and_ 7 ((decide (d = 1)) || (decide (((ts.length : Nat) : Int) = 0))) (fun g10 => ?_) ?_
  ·have g10r := g10
   have g10r := of_decide_eq_true g10r
   refine sg_ g10 mv_ (sg_ g10 (x_eql_i rfl rfl) (sg_ g10 mv_ ?_))
   refine or_ 3 (decide (((ts.length : Nat) : Int) = 0)) (fun g11 => ?_) ?_ (hw := by exact ⟨_, rfl, g10⟩)
   ·have g11r := g11
    have g11r := of_decide_eq_false g11r
    refine sg_ g11 mv_ (sg_ g11 (lnS Tryz.underlying23) (sg_ g11 (x_eql_i rfl rfl) ?_))
    exact cr_
   exact cr_
  refine s_ av_ (z_ (n_ (rt_ ?_)))
  exact p1 Tryz.results28 rfl ⟨(eB c40o0_), rfl⟩
set_option maxRecDepth 20000 in
theorem f15_ok (ts : List Test) (tsA : Option Addr) (tsC : Nat) (steps : List Bytes) (stepsA : Option Addr) (stepsC : Nat) (w : World) (tsR : RO [] w tsA (ts.flatMap Test.enc)) (stepsR : RO [] w stepsA (steps.map vS)) (q0 : steps.length ≤ 9223372036854775807) (q1 : ts.length ≤ 9223372036854775807) : Calls Tryz.prog 15 #[vL tsA ts.length tsC, vL stepsA steps.length stepsC] w (Gives [] w fun v L => v = vB ((R40.onV ts steps).isSome) ∧ L = []) := by
 refine calls_J [] 8 Tryz.func15 rfl Tryz.ntmps15 [(0, _), (1, _)] rfl rfl (Give.nil w) ?_
 refine q_ (g_ (s_ av_ (z_ (n_ (q_ (g_ (s_ mv_ (s_ mv_ (c0 (cl_ Ty.ca28) (fun w hS => fvalid_on ts tsA tsC _ _ _ w (rno tsR hS) (rno stepsR hS) hy_ hy_) (s_ av_ (z_ (n_ (rt_ ?_)))))))))))))
 exact p1 Tryz.results15 rfl ⟨(eB (R40.valid_on)), rfl⟩
set_option maxRecDepth 20000 in
theorem f62_ok (c : Int) (op : Int) (n : Int) (w : World) : Calls Tryz.prog 62 #[vI c, vI op, vI n] w (Gives [] w fun v L => v = vB (R40.related c op n) ∧ L = []) := by
 refine calls_J [] 36 Tryz.func62 rfl Tryz.ntmps62 [(0, _), (1, _), (2, _)] rfl rfl (Give.nil w) ?_
 refine q_ (g_ (s_ av_ (z_ (n_ (q_ (q_ (g_ (s_ mv_ (z_ (n_ (k_ (q_ (g_ (s_ (x_eql_i rfl rfl) (s_ av_ (z_ (n_ ?_)))))))))))))))))
 refine ifd (fun h1w h1 => ?_) (fun h1w h1 => ?_)
 ·refine q_ (g_ (s_ mv_ (s_ mv_ (s_ (x_lss_i rfl rfl) (s_ av_ (z_ (n_ (rt_ (kq_ (nr_ ?_))))))))))
  exact c40o5_
 ·refine q_ (g_ (s_ (x_eql_i rfl rfl) (s_ av_ (z_ (n_ ?_)))))
  refine ifd (fun h2w h2 => ?_) (fun h2w h2 => ?_)
  ·refine q_ (g_ (s_ mv_ (s_ mv_ (s_ (x_leq_i rfl rfl) (s_ av_ (z_ (n_ (rt_ (kq_ (nr_ ?_))))))))))
   exact c40o5_
  ·refine q_ (g_ (s_ (x_eql_i rfl rfl) (s_ av_ (z_ (n_ ?_)))))
   refine ifd (fun h3w h3 => ?_) (fun h3w h3 => ?_)
   ·refine q_ (g_ (s_ mv_ (s_ mv_ (s_ (x_eql_i rfl rfl) (s_ av_ (z_ (n_ (rt_ (kq_ (nr_ ?_))))))))))
    exact c40o5_
   ·refine q_ (g_ (s_ (x_eql_i rfl rfl) (s_ av_ (z_ (n_ ?_)))))
    refine ifd (fun h4w h4 => ?_) (fun h4w h4 => ?_)
    ·refine q_ (g_ (s_ mv_ (s_ mv_ (s_ (x_neq_i rfl rfl) (s_ av_ (z_ (n_ (rt_ (kq_ (nr_ ?_))))))))))
     exact c40o5_
    ·refine q_ (g_ (s_ (x_eql_i rfl rfl) (s_ av_ (z_ (n_ ?_)))))
     refine ifd (fun h5w h5 => ?_) (fun h5w h5 => ?_)
     ·refine q_ (g_ (s_ mv_ (s_ mv_ (s_ (x_geq_i rfl rfl) (s_ av_ (z_ (n_ (rt_ (kq_ (nr_ ?_))))))))))
      exact c40o5_
     ·refine sk_ (kx_ (n_ (q_ (g_ (s_ mv_ (s_ mv_ (s_ (x_gtr_i rfl rfl) (s_ av_ (z_ (n_ (rt_ ?_)))))))))))
      exact c40o5_
set_option maxRecDepth 20000 in
theorem f39_ok (t : Test) (steps : List Bytes) (stepsA : Option Addr) (stepsC : Nat) (ends : List StepEnd) (endsA : Option Addr) (endsC : Nat) (w : World) (stepsR : RO [] w stepsA (steps.map vS)) (endsR : RO [] w endsA (ends.flatMap StepEnd.enc)) (q0 : steps.length ≤ 9223372036854775807) (q1 : ends.length ≤ 9223372036854775807) (q2 : t.Kind ≠ 3 → 0 ≤ R40.idx steps t.Step) : Calls Tryz.prog 39 #[vG (Test.enc t), vL stepsA steps.length stepsC, vL endsA ends.length endsC] w (Gives [] w fun v L => v = vB (R40.leafV steps (R40.cutE steps ends) t 0) ∧ L = []) := by
 refine calls_J [] 81 Tryz.func39 rfl Tryz.ntmps39 [(0, _), (1, _), (2, _)] rfl rfl (Give.nil w) ?_
 refine q_ (g_ (o_ (bxG fun b1 => ?_)))
 refine s_ av_ (z_ (n_ (q_ (q_ (g_ (s_ (fA 0 Ty.fi40_0) (r_ (ld_ 0 Ty.sc3) (s_ (x_eql_i rfl rfl) (z_ (n_ ?_))))))))))
 refine ifd (fun h2w h2 => ?_) (fun h2w h2 => ?_)
 ·refine q_ (q_ (g_ (s_ av_ (z_ (n_ (k_ ?_))))))
  refine J_loop (X := Nat) (fun (k : Nat) => (k ≤ ends.length) ∧ (∀ i, i < k → R40.failed (ends.getD i default) = false)) (fun (k : Nat) => [(1, vL stepsA steps.length stepsC), (2, vL endsA ends.length endsC), (3, pB b1 0), (7, vI ((k : Nat) : Int))]) (fun (k : Nat) => [Ent.blk b1 40 (Test.enc t)]) (fun (k : Nat) => ends.length - k) (0 : Nat) ?_ ⟨rfl, rfl, rfl, rfl, trivial⟩ (fun _ h => h) ?_
  ·try dsimp only
   refine ⟨?_, ?_⟩
   ·first | rfl | omega | (simp_all; done) | (simp_all; omega)
   ·intro i h2; omega
  intro k hI1
  obtain ⟨i1_0, i1_1⟩ := hI1
  try dsimp only at i1_0
  try dsimp only at i1_1
  try dsimp only
  refine q_ (q_ (g_ (s_ mv_ (s_ mv_ (s_ (lnS Tryz.underlying33) (s_ (x_lss_i rfl rfl) (s_ mv_ ?_)))))))
  refine and_ 4 (decide (((k : Nat) : Int) < ((steps.length : Nat) : Int))) (fun g3 => ?_) ?_
  ·have g3r := g3
   have g3r := of_decide_eq_true g3r
   refine sg_ g3 mv_ (sg_ g3 mv_ (sg_ g3 (lnS Tryz.underlying22) (sg_ g3 (x_lss_i rfl rfl) ?_)))
   exact cr_
  refine z_ (n_ ?_)
  refine if_ (fun h4 => ?_) (fun h4 => ?_)
  ·have h4w := h4
   have ⟨h4, h5⟩ := band_true h4
   have h4 := of_decide_eq_true h4
   have h5 := of_decide_eq_true h5
   refine sk_ (n_ (q_ (k_ (q_ (g_ (s_ mv_ (s_ mv_ (r_ (ixF StepEnd.enc_len (cells_ro endsR) Tryz.underlying33 Ty.sz38) (s_ (fB0 Ty.fi38_0) (r_ (ldF0 StepEnd.enc_len (cells_ro endsR) Ty.sc4) (s_ mv_ ?_)))))))))))
   refine and_ 5 ((ends.getD k default).Failed) (fun g6 => ?_) ?_
   ·have g6r := g6
    refine sg_ g6 mv_ (sg_ g6 mv_ (rg_ g6 (ixF StepEnd.enc_len (cells_ro endsR) Tryz.underlying33 Ty.sz38) (sg_ g6 (fB Ty.fi38_1) (rg_ g6 (ldF 1 StepEnd.enc_len (cells_ro endsR) Ty.sc4) ?_))))
    exact cr_
   refine z_ (n_ ?_)
   refine if_ (fun h7 => ?_) (fun h7 => ?_)
   ·have h7w := h7
    have ⟨h7, h8⟩ := band_true h7
    refine q_ (g_ (s_ av_ (z_ (n_ (rt_ (kq_ (nr_ (rr_ (kq_ (nr_ (nr_ ?_)))))))))))
    exact p1 Tryz.results39 rfl ⟨(eB c40o2_), rfl⟩
   ·have h7w := h7
    simp only [Bool.and_eq_true, Bool.or_eq_true, Bool.and_eq_false_iff, Bool.or_eq_false_iff, Bool.not_eq_true', Bool.not_eq_false', decide_eq_true_eq, decide_eq_false_iff_not] at h7
    refine sk_ (kx_ (n_ (g_ (s_ mv_ (s_ (x_add_n (a := k) (b := 1) rfl rfl (by omega)) (s_ av_ (z_ ?_)))))))
    refine JX_round (k + 1 : Nat) ?_ ?_ ⟨rfl, rfl, rfl, rfl, trivial⟩ (fun _ h => h)
    ·try dsimp only
     refine ⟨?_, ?_⟩
     ·first | rfl | omega | (simp_all; done) | (simp_all; omega)
     ·intro i hi
      by_cases hik : i = k
      ·subst hik; assumption
      ·exact i1_1 i (by omega)
    ·try dsimp only
     first | omega | (simp; omega) | (simp_all; omega)
  ·have h4w := h4
   simp only [Bool.and_eq_true, Bool.or_eq_true, Bool.and_eq_false_iff, Bool.or_eq_false_iff, Bool.not_eq_true', Bool.not_eq_false', decide_eq_true_eq, decide_eq_false_iff_not] at h4
   refine J_exit (ne_ (re_ (kh_ (n_ (q_ ?_)))))
   refine g_ (s_ av_ (z_ (n_ (rt_ (nr_ ?_)))))
   exact p1 Tryz.results39 rfl ⟨(eB c40o2_), rfl⟩
 ·refine sk_ (n_ (q_ (g_ (s_ mv_ (s_ (fA 1 Ty.fi40_1) (r_ (ld_ 0 Ty.sc9) (c0 (cl_ Ty.ca49) (fun w hS => f49_ok _ _ _ _ w (rno stepsR hS) hy_) ?_)))))))
  have ha9 := R40.idx_lt steps t.Step
  refine s_ av_ (z_ (n_ (q_ (q_ (g_ (s_ mv_ (s_ mv_ (s_ (lnS Tryz.underlying33) (s_ (x_geq_i rfl rfl) (s_ mv_ ?_))))))))))
  refine or_ 6 (!((ends.getD ((R40.idx steps t.Step).toNat) default).Ran)) (fun g10 => ?_) ?_
  ·have g10r := g10
   have g10r := of_decide_eq_false g10r
   refine sg_ g10 mv_ (sg_ g10 mv_ (rg_ g10 (ixF (k := (R40.idx steps t.Step).toNat) (hy := (ix_nat rfl (by omega))) StepEnd.enc_len (cells_ro endsR) Tryz.underlying33 Ty.sz38) (sg_ g10 (fB0 Ty.fi38_0) (rg_ g10 (ldF0 StepEnd.enc_len (cells_ro endsR) Ty.sc4) (sg_ g10 (x_not rfl) ?_)))))
   exact cr_
  refine z_ (n_ ?_)
  refine if_ (fun h11 => ?_) (fun h11 => ?_)
  ·have h11w := h11
   simp only [Bool.and_eq_true, Bool.or_eq_true, Bool.and_eq_false_iff, Bool.or_eq_false_iff, Bool.not_eq_true', Bool.not_eq_false', decide_eq_true_eq, decide_eq_false_iff_not] at h11
   refine q_ (g_ (s_ av_ (z_ (n_ (rt_ (nr_ ?_))))))
   exact p1 Tryz.results39 rfl ⟨(eB c40o2_), rfl⟩
  ·have h11w := h11
   have ⟨h11, h12⟩ := bor_false h11
   have h11 := of_decide_eq_false h11
   have h12 : ((ends.getD ((R40.idx steps t.Step).toNat) default).Ran) = true := bnot_false h12
   refine sk_ (n_ (q_ (q_ (g_ (s_ (fA 0 Ty.fi40_0) (r_ (ld_ 0 Ty.sc3) (z_ (xk_ [2, 3, 6, 8, 53] ?_))))))))
   refine n_ (k_ (q_ (g_ (s_ (x_eql_i rfl rfl) (s_ av_ (z_ (n_ ?_)))))))
   refine ifd (fun h13w h13 => ?_) (fun h13w h13 => ?_)
   ·refine q_ ?_
    refine drB [] 19 Ty.mixed ?_
    refine jp_ 0 rfl mv_ (jp_ 1 rfl mv_ (jq_ 2 rfl (ixF (k := (R40.idx steps t.Step).toNat) (hy := (ix_nat rfl (by omega))) StepEnd.enc_len (cells_ro endsR) Tryz.underlying33 Ty.sz38) (jp_ 3 rfl (fB Ty.fi38_1) (jq_ 4 rfl (ldF 1 StepEnd.enc_len (cells_ro endsR) Ty.sc4) (jp_ 5 rfl (x_not rfl) (jp_ 6 rfl mv_ ?_))))))
    refine jb_ 62 (fun h14 => ?_) (fun h14 => ?_)
    ·have h14 : ((ends.getD ((R40.idx steps t.Step).toNat) default).Failed) = false := bnot_true h14
     refine jp_ 7 rfl mv_ (jp_ 8 rfl mv_ (jq_ 9 rfl (ixF (k := (R40.idx steps t.Step).toNat) (hy := (ix_nat rfl (by omega))) StepEnd.enc_len (cells_ro endsR) Tryz.underlying33 Ty.sz38) (jp_ 10 rfl (fB Ty.fi38_2) (jq_ 11 rfl (ldF 2 StepEnd.enc_len (cells_ro endsR) Ty.sc3) (jp_ 12 rfl (fA 2 Ty.fi40_2) (jq_ 13 rfl (ld_ 0 Ty.sc3) (jp_ 14 rfl (fA 3 Ty.fi40_3) (jq_ 15 rfl (ld_ 0 Ty.sc3) (j1_ 16 ?_ gm_) (hw := ⟨_, rfl, rfl⟩)) (hw := ⟨_, rfl, rfl⟩)) (hw := ⟨_, rfl, rfl⟩)) (hw := ⟨_, rfl, rfl⟩)) (hw := ⟨_, rfl, rfl⟩)) (hw := ⟨_, rfl, rfl⟩)) (hw := ⟨_, rfl, rfl⟩)) (hw := ⟨_, rfl, rfl⟩)) (hw := ⟨_, rfl, rfl⟩)
     refine jc0_ rfl (cl_ Ty.ca62) (fun w hS => f62_ok _ t.Op t.N w) ?_ (hw := ⟨_, rfl, rfl⟩)
     refine jt_ 17 (vB (R40.related ((ends.getD ((R40.idx steps t.Step).toNat) default).Code) t.Op t.N)) rfl (fun _ _ => rfl) ?_
     refine jp_ 18 rfl av_ ?_
     refine JA_done (by kernel_rfl) gm_ ?_
     refine n_ (rt_ (kq_ (nr_ ?_)))
     exact p1 Tryz.results39 rfl ⟨(eB c40o2_), rfl⟩
    ·have h14 : ((ends.getD ((R40.idx steps t.Step).toNat) default).Failed) = true := bnot_false h14
     refine js2_ 7 rfl (js2_ 8 rfl (js2_ 9 rfl (js2_ 10 rfl (js2_ 11 rfl (js2_ 12 rfl (js2_ 13 rfl (js2_ 14 rfl (js2_ 15 rfl (js2_ 16 rfl ?_)))))))))
     refine jt_ 17 (vB false) rfl (fun _ _ => rfl) ?_
     refine jp_ 18 rfl av_ ?_
     refine JA_done (by kernel_rfl) gm_ ?_
     refine n_ (rt_ (kq_ (nr_ ?_)))
     exact p1 Tryz.results39 rfl ⟨(eB c40o2_), rfl⟩
   ·refine q_ (g_ (s_ (x_eql_i rfl rfl) (s_ av_ (z_ (n_ ?_)))))
    refine ifd (fun h15w h15 => ?_) (fun h15w h15 => ?_)
    ·refine q_ (g_ (s_ mv_ (s_ mv_ (r_ (ixF (k := (R40.idx steps t.Step).toNat) (hy := (ix_nat rfl (by omega))) StepEnd.enc_len (cells_ro endsR) Tryz.underlying33 Ty.sz38) (s_ (fB Ty.fi38_1) (r_ (ldF 1 StepEnd.enc_len (cells_ro endsR) Ty.sc4) (s_ av_ (z_ (n_ (rt_ (kq_ (nr_ ?_))))))))))))
     exact p1 Tryz.results39 rfl ⟨(eB c40o2_), rfl⟩
    ·refine sk_ (kx_ (n_ (q_ (g_ (s_ av_ (z_ (n_ (rt_ ?_))))))))
     exact p1 Tryz.results39 rfl ⟨(eB c40o2_), rfl⟩
end Go.Proofs.YtngjdmhpljmkpaaGreatDoor
