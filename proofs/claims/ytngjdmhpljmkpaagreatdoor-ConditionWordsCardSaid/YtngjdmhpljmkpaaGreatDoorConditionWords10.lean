/- Pw40i, GvTa, C40b, GvLt, GvAz, C40o, GvKb in one text. -/
import Derived.Test.YtngjdmhpljmkpaaGreatDoorConditionWords9
import Derived.Test.YtngjdmhpljmkpaaGreatDoorConditionWords8
import Derived.Test.YtngjdmhpljmkpaaGreatDoorConditionWords4
import Derived.Test.YtngjdmhpljmkpaaGreatDoorConditionWords6
import Derived.Test.YtngjdmhpljmkpaaGreatDoorConditionWords5
import Derived.Lib.AppendZerosOnto
set_option linter.unusedVariables false
set_option linter.unusedSimpArgs false
namespace Go.Proofs.YtngjdmhpljmkpaaGreatDoor
open Go.GV
namespace R40
section
variable {P : Bytes → Bool} {t : Test} {b : Bool}
theorem basic_r0 (hb : b = P t.Step) (h : t.Kind = 0) : ((((b && decide (0 ≤ t.Op)) && decide (t.Op ≤ 5)) && decide (0 ≤ t.N)) && decide (t.N ≤ 4095)) = leafOk P t := by
  have h3 : t ≠ bare 3 := fun e => by rw [e] at h; cases h
  unfold leafOk
  rw [decide_eq_false h3, h, ← hb]
  cases b <;> simp
theorem basic_r1 (hb : b = P t.Step) (h0 : ¬ t.Kind = 0) (h : t.Kind = 1 ∨ t.Kind = 2) : ((b && decide (t.Op = 0)) && decide (t.N = 0)) = leafOk P t := by
  have h3 : t ≠ bare 3 := fun e => by rw [e] at h; revert h; decide
  unfold leafOk
  have e : (decide (t.Kind = 1) || decide (t.Kind = 2)) = true := by rcases h with h | h <;> rw [h] <;> rfl
  rw [decide_eq_false h3, e, decide_eq_false h0, ← hb]
  cases b <;> simp
theorem basic_r3 (h : t.Kind = 3) : decide (t = Test.mk 3 [] 0 0) = leafOk P t := by
  unfold leafOk
  rw [h]; simp [bare]; rfl
theorem basic_rx (h0 : ¬ t.Kind = 0) (h1 : ¬ (t.Kind = 1 ∨ t.Kind = 2)) (h3 : ¬ t.Kind = 3) : false = leafOk P t := by
  have hb : t ≠ bare 3 := fun e => h3 (by rw [e]; rfl)
  unfold leafOk
  rw [decide_eq_false hb, decide_eq_false h0, decide_eq_false (fun e => h1 (.inl e)), decide_eq_false (fun e => h1 (.inr e))]; simp
theorem idx_no {s : Bytes} : (stepV s || decide ((0 : Int) ≤ idx [] s)) = stepV s := by
  rw [show decide ((0 : Int) ≤ idx [] s) = false from rfl, Bool.or_false]
end
def depG (P : Bytes → Bool) : Nat → List Test → Option Nat
  | d, [] => some d
  | d, t :: r => if t = bare 4 then (if d < 1 then none else depG P d r) else if t = bare 5 ∨ t = bare 6 then (if d < 2 then none else depG P (d - 1) r) else if leafOk P t = true then depG P (d + 1) r else none
def validV (P : Bytes → Bool) (ts : List Test) : Bool := decide (ts.length ≤ 32) && (decide (depG P 0 ts = some 1) || decide (ts = []))
section
variable {P : Bytes → Bool} {ts : List Test} {k d : Nat}
theorem leaf_4 : leafOk P (bare 4) = false := by simp [leafOk, bare]
theorem leaf_5 : leafOk P (bare 5) = false := by simp [leafOk, bare]
theorem leaf_6 : leafOk P (bare 6) = false := by simp [leafOk, bare]
theorem leaf_56 {t : Test} (h5 : t = bare 5 ∨ t = bare 6) : ¬ leafOk P t = true := by
  rcases h5 with h5 | h5
  · rw [h5, leaf_5]; decide
  · rw [h5, leaf_6]; decide
theorem dep_tree : ∀ (ts : List Test) (k : Nat) (l : List Node), (treeG P k l ts).map List.length = depG P l.length ts
  | [], k, l => rfl
  | t :: r, k, l => by
    rw [treeG, depG]
    unfold stepT
    by_cases h4 : t = bare 4
    · rw [if_pos h4]
      by_cases hl : l.length < 1
      · rw [if_pos hl, if_neg (by omega), if_neg (by rw [h4]; rintro ⟨h | h, _⟩ <;> exact absurd h (by decide)), if_neg (by rw [h4, leaf_4]; decide)]; rfl
      · rw [if_neg hl, if_pos ⟨h4, by omega⟩]
        show (treeG P (k + 1) _ r).map List.length = _
        rw [dep_tree r, List.length_set]
    · rw [if_neg h4, if_neg (fun h => h4 h.1)]
      by_cases h5 : t = bare 5 ∨ t = bare 6
      · rw [if_pos h5]
        by_cases hl : l.length < 2
        · rw [if_pos hl, if_neg (by omega), if_neg (leaf_56 h5)]; rfl
        · rw [if_neg hl, if_pos ⟨h5, by omega⟩]
          show (treeG P (k + 1) _ r).map List.length = _
          rw [dep_tree r, List.length_append, List.length_take, List.length_singleton, show min (l.length - 2) l.length + 1 = l.length - 1 by omega]
      · rw [if_neg h5, if_neg (fun h => h5 h.1)]
        by_cases hf : leafOk P t = true
        · rw [if_pos hf, if_pos hf]
          show (treeG P (k + 1) _ r).map List.length = _
          rw [dep_tree r, List.length_append, List.length_singleton]
        · rw [if_neg hf, if_neg hf]; rfl
theorem one_some {o : Option (List Node)} : (one o).isSome = decide (o.map List.length = some 1) := by
  unfold one
  split
  · rfl
  · rename_i h
    refine (decide_eq_false fun e => ?_).symm
    cases o with
    | none => cases e
    | some l =>
      have e : l.length = 1 := Option.some.inj e
      match l, e with
      | [x], _ => exact h x rfl
theorem valid_tree : (treeV P ts).isSome = (decide (ts.length ≤ 32) && decide (depG P 0 ts = some 1)) := by
  unfold treeV
  by_cases h : 32 < ts.length
  · rw [if_pos h, decide_eq_false (by omega)]; rfl
  · rw [if_neg h, decide_eq_true (by omega), one_some, dep_tree ts 0 []]; rfl
theorem dep_4 (hk : k < ts.length) (hi : depG P d (ts.drop k) = depG P 0 ts) (h : ts.getD k default = Test.mk 4 [] 0 0) : (d < 1 → depG P 0 ts = none) ∧ (1 ≤ d → depG P d (ts.drop (k + 1)) = depG P 0 ts) := by
  rw [R44.drop_cons (d := default) hk, h, depG, if_pos (show Test.mk 4 [] 0 0 = bare 4 from rfl)] at hi
  constructor
  · intro hd; rw [if_pos hd] at hi; exact hi.symm
  · intro hd; rw [if_neg (by omega)] at hi; exact hi
theorem dep_5 (hk : k < ts.length) (hi : depG P d (ts.drop k) = depG P 0 ts) (h : ts.getD k default = Test.mk 5 [] 0 0 ∨ ts.getD k default = Test.mk 6 [] 0 0) : (d < 2 → depG P 0 ts = none) ∧ (2 ≤ d → depG P (d - 1) (ts.drop (k + 1)) = depG P 0 ts) := by
  have h4 : ¬ ts.getD k default = bare 4 := fun e => by rw [e] at h; revert h; decide
  rw [R44.drop_cons (d := default) hk, depG, if_neg h4, if_pos (show ts.getD k default = bare 5 ∨ ts.getD k default = bare 6 from h)] at hi
  constructor
  · intro hd; rw [if_pos hd] at hi; exact hi.symm
  · intro hd; rw [if_neg (by omega)] at hi; exact hi
theorem dep_l (hk : k < ts.length) (hi : depG P d (ts.drop k) = depG P 0 ts) (h4 : ¬ ts.getD k default = Test.mk 4 [] 0 0) (h : ¬ (ts.getD k default = Test.mk 5 [] 0 0 ∨ ts.getD k default = Test.mk 6 [] 0 0)) : (leafOk P (ts.getD k default) = false → depG P 0 ts = none) ∧ (leafOk P (ts.getD k default) = true → depG P (d + 1) (ts.drop (k + 1)) = depG P 0 ts) := by
  rw [R44.drop_cons (d := default) hk, depG, if_neg (show ¬ ts.getD k default = bare 4 from h4), if_neg (show ¬ (ts.getD k default = bare 5 ∨ ts.getD k default = bare 6) from h)] at hi
  constructor
  · intro hd; rw [if_neg (by rw [hd]; decide)] at hi; exact hi.symm
  · intro hd; rw [if_pos hd] at hi; exact hi
theorem valid_no (hk : k < ts.length) (h : depG P 0 ts = none) : false = validV P ts := by
  unfold validV; rw [h, decide_eq_false (fun e : ts = [] => by rw [e] at hk; simp at hk)]; simp
theorem valid_end (hk : k = ts.length) (h : depG P d (ts.drop k) = depG P 0 ts) : (decide ((ts.length : Int) ≤ 32) && (decide ((d : Int) = 1) || decide ((ts.length : Int) = 0))) = validV P ts := by
  rw [hk, List.drop_length, depG] at h
  unfold validV; rw [← h]
  have e1 : decide ((ts.length : Int) ≤ 32) = decide (ts.length ≤ 32) := decide_eq_decide.2 (by omega)
  have e2 : decide ((d : Int) = 1) = decide (some d = some 1) := decide_eq_decide.2 ⟨fun h => by rw [show d = 1 by omega], fun h => by have := Option.some.inj h; omega⟩
  have e3 : decide ((ts.length : Int) = 0) = decide (ts = []) := decide_eq_decide.2 ⟨fun h => List.length_eq_zero_iff.1 (by omega), fun h => by rw [h]; rfl⟩
  rw [e1, e2, e3]
end
def DepJ (P : Bytes → Bool) (ts : List Test) (k : Nat) (d : Int) : Prop := 0 ≤ d ∧ depG P d.toNat (ts.drop k) = depG P 0 ts
section
variable {P : Bytes → Bool} {ts : List Test} {k : Nat} {d : Int}
theorem DepJ.start : DepJ P ts 0 0 := ⟨by decide, rfl⟩
theorem DepJ.neg (h : DepJ P ts k d) (hk : k < ts.length) (e : ts.getD k default = Test.mk 4 [] 0 0) (hd : 1 ≤ d) : DepJ P ts (k + 1) d := ⟨h.1, (dep_4 hk h.2 e).2 (by omega)⟩
theorem DepJ.neg_no (h : DepJ P ts k d) (hk : k < ts.length) (e : ts.getD k default = Test.mk 4 [] 0 0) (hd : d < 1) : false = validV P ts := valid_no hk ((dep_4 hk h.2 e).1 (by omega))
theorem DepJ.pair (h : DepJ P ts k d) (hk : k < ts.length) (e : ts.getD k default = Test.mk 5 [] 0 0 ∨ ts.getD k default = Test.mk 6 [] 0 0) (hd : 2 ≤ d) : DepJ P ts (k + 1) (d - 1) := ⟨by omega, by
  rw [show (d - 1).toNat = d.toNat - 1 by omega]; exact (dep_5 hk h.2 e).2 (by omega)⟩
theorem DepJ.pair_no (h : DepJ P ts k d) (hk : k < ts.length) (e : ts.getD k default = Test.mk 5 [] 0 0 ∨ ts.getD k default = Test.mk 6 [] 0 0) (hd : d < 2) : false = validV P ts := valid_no hk ((dep_5 hk h.2 e).1 (by omega))
theorem DepJ.leaf (h : DepJ P ts k d) (hk : k < ts.length) (h4 : ¬ ts.getD k default = Test.mk 4 [] 0 0) (h5 : ¬ ts.getD k default = Test.mk 5 [] 0 0) (h6 : ¬ ts.getD k default = Test.mk 6 [] 0 0) (hl : leafOk P (ts.getD k default) = true) : DepJ P ts (k + 1) (d + 1) := ⟨by have := h.1; omega, by
  have := h.1; rw [show (d + 1).toNat = d.toNat + 1 by omega]; exact (dep_l hk h.2 h4 (not_or.2 ⟨h5, h6⟩)).2 hl⟩
theorem DepJ.leaf_no (h : DepJ P ts k d) (hk : k < ts.length) (h4 : ¬ ts.getD k default = Test.mk 4 [] 0 0) (h5 : ¬ ts.getD k default = Test.mk 5 [] 0 0) (h6 : ¬ ts.getD k default = Test.mk 6 [] 0 0) (hl : leafOk P (ts.getD k default) = false) : false = validV P ts := valid_no hk ((dep_l hk h.2 h4 (not_or.2 ⟨h5, h6⟩)).1 hl)
theorem DepJ.done (h : DepJ P ts k d) (hk : k = ts.length) : (decide ((ts.length : Int) ≤ 32) && (decide (d = 1) || decide ((ts.length : Int) = 0))) = validV P ts := by
  have := valid_end hk h.2
  have h0 := h.1
  rw [show ((d.toNat : Nat) : Int) = d by omega] at this; exact this
end
section
variable {steps : List Bytes} {ends : List StepEnd} {t : Test} {k : Nat} {i : Int}
end
def EvJ (steps : List Bytes) (E : List StepEnd) (ts : List Test) (k : Nat) (bs : List Bool) : Prop := ∃ l, treeG (onP steps) k l (ts.drop k) = treeG (onP steps) 0 [] ts ∧ bs = l.map (eval (leafV steps E))
section
variable {steps : List Bytes} {E : List StepEnd} {ts : List Test} {k : Nat} {bs : List Bool}
theorem map_getD {α β : Type} [Inhabited α] {f : α → β} {l : List α} {k : Nat} {d : β} (h : k < l.length) : (l.map f).getD k d = f (l.getD k default) := by
  rw [List.getD_eq_getElem?_getD, List.getElem?_map, List.getD_eq_getElem?_getD, List.getElem?_eq_getElem h]; rfl
theorem EvJ.start : EvJ steps E ts 0 [] := ⟨[], rfl, rfl⟩
theorem tree_ne (h0 : ts ≠ []) (h : (onV ts steps).isSome = true) : ∃ x, treeG (onP steps) 0 [] ts = some [x] ∧ onV ts steps = some x := by
  unfold onV at *
  rw [if_neg h0] at h ⊢
  unfold treeV at *
  by_cases hl : 32 < ts.length
  · rw [if_pos hl] at h; cases h
  · rw [if_neg hl] at h ⊢
    unfold one at *
    split at h
    · rename_i x hx; rw [hx]; exact ⟨x, rfl, rfl⟩
    · cases h
theorem EvJ.go (h : EvJ steps E ts k bs) (hk : k < ts.length) (hv : (onV ts steps).isSome = true) : ∃ l l', bs = l.map (eval (leafV steps E)) ∧ stepT (onP steps) l k (ts.getD k default) = some l' ∧ treeG (onP steps) (k + 1) l' (ts.drop (k + 1)) = treeG (onP steps) 0 [] ts := by
  obtain ⟨l, h1, h2⟩ := h
  obtain ⟨x, hx, _⟩ := tree_ne (fun e => by rw [e] at hk; simp at hk) hv
  rw [R44.drop_cons (d := default) hk, treeG] at h1
  cases hs : stepT (onP steps) l k (ts.getD k default) with
  | none => rw [hs, hx] at h1; cases h1
  | some l' => rw [hs] at h1; exact ⟨l, l', h2, hs, h1⟩
theorem EvJ.few (h : EvJ steps E ts k bs) (hk : k < ts.length) (hv : (onV ts steps).isSome = true) : ((ts.getD k default).Kind = 4 → 1 ≤ bs.length) ∧ ((ts.getD k default).Kind = 5 ∨ (ts.getD k default).Kind = 6 → 2 ≤ bs.length) ∧ (¬ (ts.getD k default).Kind = 4 → ¬ (ts.getD k default).Kind = 5 → ¬ (ts.getD k default).Kind = 6 → leafOk (onP steps) (ts.getD k default) = true) := by
  obtain ⟨l, l', hb, hs, _⟩ := h.go hk hv
  have hl : bs.length = l.length := by rw [hb, List.length_map]
  unfold stepT at hs
  split at hs
  · rename_i h4; rw [h4.1]; exact ⟨fun _ => by omega, fun h => absurd h (by decide), fun h => absurd rfl h⟩
  · split at hs
    · rename_i h5
      refine ⟨fun h => ?_, fun _ => by omega, fun _ h5' h6' => ?_⟩
      · rcases h5.1 with e | e <;> rw [e] at h <;> exact absurd h (by decide)
      · rcases h5.1 with e | e
        · exact absurd (by rw [e]; rfl) h5'
        · exact absurd (by rw [e]; rfl) h6'
    · split at hs
      · rename_i hf
        refine ⟨fun h => ?_, fun h => ?_, fun _ _ _ => hf⟩
        · rcases leaf_any hf with e | e | e
          · rw [e] at h; cases h
          · omega
          · omega
        · rcases leaf_any hf with e | e | e
          · rw [e] at h; rcases h with h | h <;> cases h
          · omega
          · omega
      · cases hs
theorem EvJ.neg (h : EvJ steps E ts k bs) (hk : k < ts.length) (hv : (onV ts steps).isSome = true) (h4 : (ts.getD k default).Kind = 4) : EvJ steps E ts (k + 1) (bs.set (bs.length - 1) (!(bs.getD (bs.length - 1) false))) := by
  obtain ⟨l, l', hb, hs, hg⟩ := h.go hk hv
  have hl : bs.length = l.length := by rw [hb, List.length_map]
  have hf := (h.few hk hv).1 h4
  refine ⟨l', hg, ?_⟩
  unfold stepT at hs
  split at hs
  · obtain rfl := Option.some.inj hs
    rw [List.map_set, hl, hb, eval, map_getD (by omega)]
  · rename_i hn
    split at hs
    · rename_i h5; rcases h5.1 with e | e <;> rw [e] at h4 <;> exact absurd h4 (by decide)
    · split at hs
      · rename_i hq
        rcases leaf_any hq with e | e | e
        · rw [e] at h4; cases h4
        · omega
        · omega
      · cases hs
theorem EvJ.pair (h : EvJ steps E ts k bs) (hk : k < ts.length) (hv : (onV ts steps).isSome = true) (h5 : (ts.getD k default).Kind = 5 ∨ (ts.getD k default).Kind = 6) : EvJ steps E ts (k + 1) (bs.take (bs.length - 2) ++ [if (ts.getD k default).Kind = 5 then bs.getD (bs.length - 2) false && bs.getD (bs.length - 1) false else bs.getD (bs.length - 2) false || bs.getD (bs.length - 1) false]) := by
  obtain ⟨l, l', hb, hs, hg⟩ := h.go hk hv
  have hl : bs.length = l.length := by rw [hb, List.length_map]
  have hf := (h.few hk hv).2.1 h5
  refine ⟨l', hg, ?_⟩
  unfold stepT at hs
  split at hs
  · rename_i h4; rw [h4.1] at h5; rcases h5 with h | h <;> cases h
  · split at hs
    · obtain rfl := Option.some.inj hs
      rw [List.map_append, List.map_take, hl, hb, map_getD (by omega), map_getD (by omega)]
      congr 1
      rw [List.map_cons, List.map_nil, eval]
      by_cases h6 : (ts.getD k default).Kind = 5
      · rw [if_pos h6, if_pos (decide_eq_true h6)]
      · rw [if_neg h6, if_neg (by rw [decide_eq_false h6]; decide)]
    · split at hs
      · rename_i hq
        rcases leaf_any hq with e | e | e
        · rw [e] at h5; rcases h5 with h | h <;> cases h
        · omega
        · omega
      · cases hs
theorem EvJ.and (h : EvJ steps E ts k bs) (hk : k < ts.length) (hv : (onV ts steps).isSome = true) (h5 : (ts.getD k default).Kind = 5) : EvJ steps E ts (k + 1) (bs.take (bs.length - 2) ++ [bs.getD (bs.length - 2) false && bs.getD (bs.length - 1) false]) := by
  have := h.pair hk hv (.inl h5); rw [if_pos h5] at this; exact this
theorem EvJ.or (h : EvJ steps E ts k bs) (hk : k < ts.length) (hv : (onV ts steps).isSome = true) (h5 : (ts.getD k default).Kind = 6) : EvJ steps E ts (k + 1) (bs.take (bs.length - 2) ++ [bs.getD (bs.length - 2) false || bs.getD (bs.length - 1) false]) := by
  have := h.pair hk hv (.inr h5); rw [if_neg (by omega)] at this; exact this
theorem EvJ.leaf (h : EvJ steps E ts k bs) (hk : k < ts.length) (hv : (onV ts steps).isSome = true) (h4 : ¬ (ts.getD k default).Kind = 4) (h5 : ¬ (ts.getD k default).Kind = 5) (h6 : ¬ (ts.getD k default).Kind = 6) : EvJ steps E ts (k + 1) (bs ++ [leafV steps E (ts.getD k default) 0]) := by
  obtain ⟨l, l', hb, hs, hg⟩ := h.go hk hv
  refine ⟨l', hg, ?_⟩
  unfold stepT at hs
  split at hs
  · rename_i h; rw [h.1] at h4; exact absurd rfl h4
  · split at hs
    · rename_i h; rcases h.1 with e | e
      · rw [e] at h5; exact absurd rfl h5
      · rw [e] at h6; exact absurd rfl h6
    · split at hs
      · obtain rfl := Option.some.inj hs
        rw [List.map_append, hb]; rfl
      · cases hs
theorem EvJ.done {ends : List StepEnd} (h : EvJ steps (cutE steps ends) ts k bs) (hk : k = ts.length) (h0 : ¬ ts.length = 0) (hv : (onV ts steps).isSome = true) : bs.length = 1 ∧ bs.getD 0 false = evalV ts steps ends := by
  obtain ⟨l, h1, h2⟩ := h
  obtain ⟨x, hx, hn⟩ := tree_ne (fun e => h0 (by rw [e]; rfl)) hv
  rw [hk, List.drop_length, treeG, hx] at h1
  obtain rfl := Option.some.inj h1
  unfold evalV; rw [hn, h2]
  exact ⟨rfl, rfl⟩
end
section
variable {ts : List Test} {k : Nat}
def insV (ts : List Test) (k : Nat) : List Bytes := Ord.insl (stepsV ts k)
end
end R40
end Go.Proofs.YtngjdmhpljmkpaaGreatDoor

namespace Go.GV
open Go.RowKit
section
variable {E : Env} {P : Program} {w : World} {x : Operand} {dst : Option Nat} {t a xt ty : TypeId} {pos : String} {af : Array Edge} {g : Option (Nat × Bool)}
theorem x_assert_hit {fs : Array Field} {v : Value} (hx : ev E x = .iface t v) (ht : P.underlying t = some (.struct fs)) : (execOp (ev E) ⟨dst, .typeAssert x xt t true, ty, pos, af, g⟩).run P w = .ok (.value (.tuple #[v, vB true])) w := by
  have h : (Instr.typeAssert (.iface t v) xt t true).run P w = .ok (.tuple #[v, vB true]) w := by
    unfold Instr.typeAssert
    simp only [Sem.run_bind, run_underlying ht, Result.andThen_ok, if_true, Sem.run_pure]
  simp only [execOp, hx]
  show Sem.run P (do let v ← Instr.typeAssert (.iface t v) xt t true; pure (Next.value v)) w = _
  rw [Sem.run_bind, h]; rfl
theorem x_assert_miss {fs : Array Field} {v zv : Value} (hx : ev E x = .iface t v) (ht : P.underlying a = some (.struct fs)) (hz : zeroIs P a = some zv) (hne : t ≠ a) : (execOp (ev E) ⟨dst, .typeAssert x xt a true, ty, pos, af, g⟩).run P w = .ok (.value (.tuple #[zv, vB false])) w := by
  have h : (Instr.typeAssert (.iface t v) xt a true).run P w = .ok (.tuple #[zv, vB false]) w := by
    unfold Instr.typeAssert
    simp only [Sem.run_bind, run_underlying ht, Result.andThen_ok, if_neg hne, if_true, run_zeroValue_is hz, Sem.run_pure]
  simp only [execOp, hx]
  show Sem.run P (do let v ← Instr.typeAssert (.iface t v) xt a true; pure (Next.value v)) w = _
  rw [Sem.run_bind, h]; rfl
end
end Go.GV

namespace Go.Proofs.YtngjdmhpljmkpaaGreatDoor
open Go.GV
set_option linter.unusedVariables false
set_option linter.unusedSimpArgs false
theorem c40b0_ {p : Prop} (h : p := by first | exact R40.holds_0 (by assumption) | exact R40.holds_1 (by assumption) (by assumption) | exact R40.holds_2 (by assumption) (by assumption)) : p := h
theorem c40b2_ {p : Prop} (h : p := by first | exact R40.idx_hit (k := k) (by omega) i1_1 (by assumption) | exact R40.idx_none (fun i hi => i1_1 i (by omega))) : p := h
theorem c40b4_ {p : Prop} (h : p := by first | exact R40.any_yes (k := k) (by omega) (by assumption) | exact R40.any_no (fun i hi => i1_1 i (by omega))) : p := h
set_option maxRecDepth 20000 in
theorem f61_ok (c : Int) (op : Int) (n : Int) (w : World) (q0 : 0 ≤ op) (q1 : op ≤ 5) : Calls Tryz.prog 61 #[vI c, vI op, vI n] w (Gives [] w fun v L => v = vB (R40.related c op n) ∧ L = []) := by
 refine calls_J [] 29 Tryz.func61 rfl Tryz.ntmps61 [(0, _), (1, _), (2, _)] rfl rfl (Give.nil w) ?_
 refine q_ (g_ (s_ av_ (z_ (n_ (q_ (g_ (s_ mv_ (s_ mv_ (s_ (x_lss_i rfl rfl) (s_ mv_ (s_ mv_ (s_ (x_leq_i rfl rfl) (s_ mv_ ?_)))))))))))))
 refine s_ mv_ (s_ (x_eql_i rfl rfl) (s_ mv_ (s_ mv_ (s_ (x_neq_i rfl rfl) (s_ mv_ (s_ mv_ (s_ (x_geq_i rfl rfl) (s_ mv_ (s_ mv_ ?_)))))))))
 refine s_ (x_gtr_i rfl rfl) (o_ (O_buildSlice (cs := [vB (decide (c < n)), vB (decide (c ≤ n)), vB (decide (c = n)), vB (decide (c ≠ n)), vB (decide (n ≤ c)), vB (decide (n < c))]) Tryz.underlying71 Ty.sz4 Ty.ze4 (by decide) (by decide) (by kernel_rfl) fun b1 => ?_))
 refine s_ mv_ (s_ (x_indexAddr_sl (k := (op).toNat) Tryz.underlying71 Ty.sz4 rfl (ix_nat rfl (by omega)) lt_ (add_0k1 _ _)) (r_ (x_load_arr 0 (xs := ([decide (c < n), decide (c ≤ n), decide (c = n), decide (c ≠ n), decide (n ≤ c), decide (n < c)] : List Bool)) vB false rfl rfl Ty.sc4 lt_) (s_ av_ (z_ (xk_ [6] ?_)))))
 refine n_ (rt_ ?_)
 exact p1 Tryz.results61 rfl ⟨(eB (R40.related_list q0 q1)), rfl⟩
set_option maxRecDepth 20000 in
theorem f38_ok (t : Test) (e : StepEnd) (w : World) (q0 : t.Kind = 0 → 0 ≤ t.Op ∧ t.Op ≤ 5) : Calls Tryz.prog 38 #[vG (Test.enc t), vG [vB e.Ran, vB e.Failed, vI e.Code]] w (Gives [] w fun v L => v = vB (R40.holds t e) ∧ L = []) := by
 refine calls_J [] 35 Tryz.func38 rfl Tryz.ntmps38 [(0, _), (1, _)] rfl rfl (Give.nil w) ?_
 refine q_ (g_ (o_ (bxG fun b1 => ?_)))
 refine o_ (bxG fun b2 => ?_)
 refine s_ av_ (z_ (n_ (q_ (q_ (g_ (s_ (fA 0 Ty.fi40_0) (r_ (ld_ 1 Ty.sc3) (z_ (n_ (k_ (q_ (g_ (s_ (x_eql_i rfl rfl) (s_ av_ (z_ (n_ ?_))))))))))))))))
 refine ifd (fun h3w h3 => ?_) (fun h3w h3 => ?_)
 ·refine q_ (g_ (s_ (fA 0 Ty.fi38_0) (r_ (ld_ 0 Ty.sc4) (s_ mv_ ?_))))
  refine and_ 3 (!e.Failed) (fun g4 => ?_) ?_
  ·have g4r := g4
   refine sg_ g4 (fA 1 Ty.fi38_1) (rg_ g4 (ld_ 0 Ty.sc4) (sg_ g4 (x_not rfl) ?_))
   exact cr_
  refine s_ mv_ ?_
  refine and_ 7 (R40.related e.Code t.Op t.N) (fun g5 => ?_) ?_
  ·have g5r := g5
   have ⟨g5r, h6⟩ := band_true g5r
   have h6 : (e.Failed) = false := bnot_true h6
   refine sg_ g5 (fA 2 Ty.fi38_2) (rg_ g5 (ld_ 0 Ty.sc3) (sg_ g5 (fA 2 Ty.fi40_2) (rg_ g5 (ld_ 1 Ty.sc3) (sg_ g5 (fA 3 Ty.fi40_3) (rg_ g5 (ld_ 1 Ty.sc3) (c0g g5 (cl_ Ty.ca61) (fun w hS => f61_ok _ t.Op t.N w hy_ hy_) ?_))))))
   exact cr_
  refine s_ av_ (z_ (n_ (rt_ (kq_ (nr_ ?_)))))
  exact p1 Tryz.results38 rfl ⟨(eB c40b0_), rfl⟩
 ·refine q_ (g_ (s_ (x_eql_i rfl rfl) (s_ av_ (z_ (n_ ?_)))))
  refine ifd (fun h7w h7 => ?_) (fun h7w h7 => ?_)
  ·refine q_ (g_ (s_ (fA 0 Ty.fi38_0) (r_ (ld_ 0 Ty.sc4) (s_ mv_ ?_))))
   refine and_ 2 (e.Failed) (fun g8 => ?_) ?_
   ·have g8r := g8
    refine sg_ g8 (fA 1 Ty.fi38_1) (rg_ g8 (ld_ 0 Ty.sc4) ?_)
    exact cr_
   refine s_ av_ (z_ (n_ (rt_ (kq_ (nr_ ?_)))))
   exact p1 Tryz.results38 rfl ⟨(eB c40b0_), rfl⟩
  ·refine sk_ (kx_ (n_ (q_ (g_ (s_ (fA 0 Ty.fi38_0) (r_ (ld_ 0 Ty.sc4) (s_ av_ (z_ (n_ (rt_ ?_))))))))))
   exact p1 Tryz.results38 rfl ⟨(eB c40b0_), rfl⟩
set_option maxRecDepth 20000 in
theorem f36_ok (e : StepEnd) (w : World) : Calls Tryz.prog 36 #[vG [vB e.Ran, vB e.Failed, vI e.Code]] w (Gives [] w fun v L => v = vB (R40.failed e) ∧ L = []) := by
 refine calls_J [] 9 Tryz.func36 rfl Tryz.ntmps36 [(0, _)] rfl rfl (Give.nil w) ?_
 refine q_ (g_ (o_ (bxG fun b1 => ?_)))
 refine s_ av_ (z_ (n_ (q_ (g_ (s_ (fA 0 Ty.fi38_0) (r_ (ld_ 0 Ty.sc4) (s_ mv_ ?_)))))))
 refine and_ 2 (e.Failed) (fun g2 => ?_) ?_
 ·have g2r := g2
  refine sg_ g2 (fA 1 Ty.fi38_1) (rg_ g2 (ld_ 0 Ty.sc4) ?_)
  exact cr_
 refine s_ av_ (z_ (n_ (rt_ ?_)))
 exact p1 Tryz.results36 rfl ⟨(eB (by rfl)), rfl⟩
set_option maxRecDepth 20000 in
theorem f37_ok (l : List Bytes) (lA : Option Addr) (lC : Nat) (s : Bytes) (w : World) (lR : RO [] w lA (l.map vS)) (q0 : l.length ≤ 9223372036854775807) : Calls Tryz.prog 37 #[vL lA l.length lC, vS s] w (Gives [] w fun v L => v = vI (R40.idx l s) ∧ L = []) := by
 refine calls_J [] 19 Tryz.func37 rfl Tryz.ntmps37 [(0, _), (1, _)] rfl rfl (Give.nil w) ?_
 refine q_ (g_ (s_ av_ (z_ (n_ (q_ (q_ (g_ (s_ mv_ (s_ (lnS Tryz.underlying22) (s_ mv_ (z_ (n_ (k_ ?_)))))))))))))
 refine J_loop (X := Nat) (fun (k : Nat) => (k ≤ l.length) ∧ (∀ i, i < k → l.getD i [] ≠ s)) (fun (k : Nat) => [(0, vL lA l.length lC), (1, vS s), (7, vI ((l.length : Nat) : Int)), (8, vI ((k : Nat) : Int))]) (fun (k : Nat) => []) (fun (k : Nat) => l.length - k) (0 : Nat) ?_ ⟨rfl, rfl, rfl, rfl, trivial⟩ (fun _ h => h) ?_
 ·try dsimp only
  refine ⟨?_, ?_⟩
  ·first | rfl | omega | (simp_all; done) | (simp_all; omega)
  ·intro i h2; omega
 intro k hI1
 obtain ⟨i1_0, i1_1⟩ := hI1
 try dsimp only at i1_0
 try dsimp only at i1_1
 try dsimp only
 refine q_ (g_ (s_ (x_lss_i rfl rfl) (z_ (n_ (q_ ?_)))))
 refine ifd (fun h1w h1 => ?_) (fun h1w h1 => ?_)
 ·refine sk_ (n_ (q_ (k_ (q_ (g_ (s_ mv_ (s_ av_ (z_ (n_ (q_ (g_ (s_ mv_ (s_ mv_ (s_ mv_ (r_ (ixM (cells_ro lR) Tryz.underlying22 Ty.sz9) (r_ (ldM vS [] (cells_ro lR) Ty.sc9) (s_ (x_eql_s rfl rfl) ?_)))))))))))))))))
  refine z_ (n_ ?_)
  refine ifd (fun h2w h2 => ?_) (fun h2w h2 => ?_)
  ·refine q_ (g_ (s_ mv_ (s_ av_ (z_ (n_ (rt_ (kq_ (nr_ (rr_ (kq_ (nr_ ?_)))))))))))
   exact p1 Tryz.results37 rfl ⟨(eI c40b2_), rfl⟩
  ·refine sk_ (kx_ (n_ (g_ (s_ (x_add_n (a := k) (b := 1) rfl rfl (by omega)) (s_ mv_ (z_ ?_))))))
   refine JX_round (k + 1 : Nat) ?_ ?_ ⟨rfl, rfl, rfl, rfl, trivial⟩ (fun _ h => h)
   ·try dsimp only
    refine ⟨?_, ?_⟩
    ·first | rfl | omega | (simp_all; done) | (simp_all; omega)
    ·intro i hi
     by_cases hik : i = k
     ·subst hik; exact fun e => (by assumption : ¬ s = l.getD i []) e.symm
     ·exact i1_1 i (by omega)
   ·try dsimp only
    first | omega | (simp; omega) | (simp_all; omega)
 ·refine J_exit (ne_ (re_ (kh_ (n_ (q_ ?_)))))
  refine g_ (s_ av_ (z_ (n_ (rt_ ?_))))
  exact p1 Tryz.results37 rfl ⟨(eI c40b2_), rfl⟩
set_option maxRecDepth 20000 in
theorem f59_ok (l : List Bytes) (lA : Option Addr) (lC : Nat) (s : Bytes) (w : World) (lR : RO [] w lA (l.map vS)) (q0 : l.length ≤ 9223372036854775807) : Calls Tryz.prog 59 #[vL lA l.length lC, vS s] w (Gives [] w fun v L => v = vB (R40.onP l s) ∧ L = []) := by
 refine calls_J [] 9 Tryz.func59 rfl Tryz.ntmps59 [(0, _), (1, _)] rfl rfl (Give.nil w) ?_
 refine q_ (g_ (s_ av_ (z_ (n_ (q_ (g_ (s_ mv_ (s_ mv_ (c0 (cl_ Ty.ca37) (fun w hS => f37_ok l lA lC s w (rno lR hS) hy_) ?_)))))))))
 have ha1 := R40.idx_lt l s
 refine s_ (x_geq_i rfl rfl) (s_ av_ (z_ (n_ (rt_ ?_))))
 exact p1 Tryz.results59 rfl ⟨(eB (R40.idx_on)), rfl⟩
set_option maxRecDepth 20000 in
theorem f58_ok (s : Bytes) (bp : Nat) (steps : List Bytes) (stepsA : Option Addr) (stepsC : Nat) (w : World) (stepsR : RO [bp] w stepsA (steps.map vS)) (q0 : steps.length ≤ 9223372036854775807) (hg : Give [bp] w [Ent.blk bp 22 [vL stepsA steps.length stepsC]]) : Calls Tryz.prog 58 #[vS s, pB bp 0] w (Gives [bp] w fun v L => v = vB (R40.onP steps s) ∧ L = [Ent.blk bp 22 [vL stepsA steps.length stepsC]]) := by
 refine calls_J [bp] 7 Tryz.func58 rfl Tryz.ntmps58 [(0, _), (1, _)] rfl rfl hg ?_
 refine q_ (g_ (s_ av_ (z_ (n_ (q_ (g_ (r_ (ld_ 0 Ty.sc22) (s_ mv_ (c0 (cl_ Ty.ca59) (fun w hS => f59_ok _ _ _ s w (rno stepsR hS) hy_) (s_ av_ (z_ (n_ (rt_ ?_)))))))))))))
 refine JX_rets [_] _ Tryz.results58 (fun w h => ⟨rfl, trivial⟩) rfl _ (fun _ h => h) ⟨?_, ?_⟩
 ·rfl
 ·rfl
set_option maxRecDepth 20000 in
theorem f60_ok (E : List StepEnd) (EA : Option Addr) (EC : Nat) (w : World) (ER : RO [] w EA (E.flatMap StepEnd.enc)) (q0 : E.length ≤ 9223372036854775807) : Calls Tryz.prog 60 #[vL EA E.length EC, Value.func (.func 36) #[] #[]] w (Gives [] w fun v L => ∃ r : Int, v = vI r ∧ L = [] ∧ (decide (0 ≤ r) = E.any R40.failed)) := by
 refine calls_J [] 19 Tryz.func60 rfl Tryz.ntmps60 [(0, _), (1, _)] rfl rfl (Give.nil w) ?_
 refine q_ (g_ (s_ av_ (z_ (n_ (q_ (q_ (g_ (s_ mv_ (s_ (lnS Tryz.underlying33) (s_ mv_ (z_ (n_ (k_ ?_)))))))))))))
 refine J_loop (X := Nat) (fun (k : Nat) => (k ≤ E.length) ∧ (∀ i, i < k → R40.failed (E.getD i default) = false)) (fun (k : Nat) => [(0, vL EA E.length EC), (1, Value.func (.func 36) #[] #[]), (7, vI ((E.length : Nat) : Int)), (8, vI ((k : Nat) : Int))]) (fun (k : Nat) => []) (fun (k : Nat) => E.length - k) (0 : Nat) ?_ ⟨rfl, rfl, rfl, rfl, trivial⟩ (fun _ h => h) ?_
 ·try dsimp only
  refine ⟨?_, ?_⟩
  ·first | rfl | omega | (simp_all; done) | (simp_all; omega)
  ·intro i h2; omega
 intro k hI1
 obtain ⟨i1_0, i1_1⟩ := hI1
 try dsimp only at i1_0
 try dsimp only at i1_1
 try dsimp only
 refine q_ (g_ (s_ (x_lss_i rfl rfl) (z_ (n_ (q_ ?_)))))
 refine ifd (fun h1w h1 => ?_) (fun h1w h1 => ?_)
 ·refine sk_ (n_ (q_ (k_ (q_ (g_ (s_ mv_ (s_ av_ (z_ (n_ (q_ (g_ (s_ mv_ (s_ mv_ (s_ mv_ (r_ (ixF StepEnd.enc_len (cells_ro ER) Tryz.underlying33 Ty.sz38) (r_ (ldFN StepEnd.enc_len (cells_ro ER) Ty.ag38 Ty.sz38) (c0 (x_callv (first := []) (caps := []) rfl Ty.ca36 rfl) (fun w hS => f36_ok _ w) ?_)))))))))))))))))
  refine z_ (n_ ?_)
  refine if_ (fun h2 => ?_) (fun h2 => ?_)
  ·refine q_ (g_ (s_ mv_ (s_ av_ (z_ (n_ (rt_ (kq_ (nr_ (rr_ (kq_ (nr_ ?_)))))))))))
   refine JX_rets [_] _ Tryz.results60 (fun w h => ⟨rfl, trivial⟩) rfl _ (fun _ h => h) ⟨((k : Nat) : Int), ?_, ?_, ?_⟩
   ·rfl
   ·rfl
   ·exact c40b4_
  ·refine sk_ (kx_ (n_ (g_ (s_ (x_add_n (a := k) (b := 1) rfl rfl (by omega)) (s_ mv_ (z_ ?_))))))
   refine JX_round (k + 1 : Nat) ?_ ?_ ⟨rfl, rfl, rfl, rfl, trivial⟩ (fun _ h => h)
   ·try dsimp only
    refine ⟨?_, ?_⟩
    ·first | rfl | omega | (simp_all; done) | (simp_all; omega)
    ·intro i hi
     by_cases hik : i = k
     ·subst hik; assumption
     ·exact i1_1 i (by omega)
   ·try dsimp only
    first | omega | (simp; omega) | (simp_all; omega)
 ·refine J_exit (ne_ (re_ (kh_ (n_ (q_ ?_)))))
  refine g_ (s_ av_ (z_ (n_ (rt_ ?_))))
  refine JX_rets [_] _ Tryz.results60 (fun w h => ⟨rfl, trivial⟩) rfl _ (fun _ h => h) ⟨(-1), ?_, ?_, ?_⟩
  ·rfl
  ·rfl
  ·exact c40b4_
set_option maxRecDepth 20000 in
theorem f35_ok (E : List StepEnd) (EA : Option Addr) (EC : Nat) (w : World) (ER : RO [] w EA (E.flatMap StepEnd.enc)) (q0 : E.length ≤ 9223372036854775807) : Calls Tryz.prog 35 #[vL EA E.length EC, Value.func (.func 36) #[] #[]] w (Gives [] w fun v L => v = vB (E.any R40.failed) ∧ L = []) := by
 refine calls_J [] 9 Tryz.func35 rfl Tryz.ntmps35 [(0, _), (1, _)] rfl rfl (Give.nil w) ?_
 refine q_ (g_ (s_ av_ (z_ (n_ (q_ (g_ (s_ mv_ (s_ mv_ ?_))))))))
 refine c1 (cl_ Ty.ca60) (fun w hS => f60_ok E EA EC w (rno ER hS) hy_) ?_
 rintro _ _ ⟨r1, rfl, rfl, hf2⟩
 refine s_ (x_geq_i rfl rfl) (s_ av_ (z_ (n_ (rt_ ?_))))
 exact p1 Tryz.results35 rfl ⟨(eB (by assumption)), rfl⟩
end Go.Proofs.YtngjdmhpljmkpaaGreatDoor

namespace Go.GV
open Go.RowKit
def lateB (ops : Array Oper) : Nat → Nat → Nat → Bool
  | 0, _, _ => false
  | f + 1, u, i => match ops[u]? with
    | some x => x.after.any fun e => Region.binds .any e && (e.on == i || lateB ops f e.on i)
    | none => false
theorem getD_up {l : Array Bool} {i : Nat} (h : l.getD i false = true) : l.getD i true = true := by
  rw [Array.getD_eq_getD_getElem?] at *
  cases hc : l[i]? with
  | none => rw [hc] at h; cases h
  | some b => rw [hc] at h; exact h
theorem late_listed {ops : Array Oper} {l : Array Bool} (hl : Closed ops l) : ∀ (f u i : Nat), lateB ops f u i = true → l.getD u true = true → l.getD i false = true
  | 0, u, i, h, _ => by cases h
  | f + 1, u, i, h, hu => by
    rw [lateB] at h
    cases hx : ops[u]? with
    | none => rw [hx] at h; cases h
    | some x =>
      rw [hx] at h
      obtain ⟨e, he, hb⟩ := Array.any_eq_true'.1 h
      rw [Bool.and_eq_true, Bool.or_eq_true] at hb
      have h2 := hl.2 u x hx hu e he hb.1
      rcases hb.2 with h3 | h3
      · rw [beq_iff_eq] at h3; rw [h3] at h2; exact h2
      · exact late_listed hl f e.on i h3 (getD_up h2)
section
variable {P : Program} {n : Dim} {S : List Nat} {w0 : World} {Q : Post} {E : Env} {L : List Ent}
variable {ops : Array Oper} {Lg Lu : List Ent} {us : List Nat} {fuel : Nat} {listed : Array Bool}
theorem JA_earlyT (i : Nat) {o : Oper} (v : Value) (hi : ops[i]? = some o) (hs : Region.noSelect ops = true) (hf : Region.free .any ops listed i = true) (hr : (Region.ready .any ops listed).contains i = true) (hu : us.contains i = false)
    (hlate : (us.all fun u => lateB ops 64 u i) = true)
    (hQ : ∀ c a w, Q (.panic c) (a.put o.dst v) w → Q (.panic c) a w) (hfit : fit n E o = true) (hw : wants ops E o) (hv : ∀ w, St S w0 w Lu → (execOp (ev E) o).run P w = .ok (.value v) w)
    (h : JA P n S w0 ops Q Lg us Lu fuel (listed.setIfInBounds i true) (put E o.dst v) L) : JA P n S w0 ops Q Lg us Lu (fuel + 1) listed E L := by
  intro a w hR hS hcl
  have hr' : i ∈ Region.ready .any ops listed := by simpa using hr
  have hnone : ∀ l : Array Bool, Closed ops l → l.getD i true = false → (us.all fun u => !l.getD u true) = true := by
    intro l hl hun
    rw [List.all_eq_true] at hlate ⊢
    intro u hu'
    cases hc : l.getD u true with
    | false => rfl
    | true =>
      have h2 := late_listed hl 64 u i (hlate u hu') hc
      have h3 := getD_up h2
      rw [hun] at h3; cases h3
  refine wpAnyG_first (H := fun w => St S w0 w Lu) hi (Region.noSelect_spec hs) hQ
    (fun l w hc hl h => h.2 (by rw [all_unset hu]; exact hnone l hc hl)) (fun l w _ hl h => ⟨h.1, fun hh => h.2 (by rw [all_unset hu]; exact hh)⟩) fuel listed a w hcl (Region.free_spec hi hf) hr' (.inl ⟨wants_wanted hR hw, fit_nodefer hfit, fun w' hG => ?_⟩) (h _ w (hR.put (fit_dst hfit) v) hS (hcl.add hr'))
  rw [fit_exec hfit hR]; exact hv w' hG
end
end Go.GV
namespace Go.GV
open Go.RowKit
section
variable {α : Type} {S : List Nat} {w : World} {A : Option Addr} {xs : List α}
theorem RO.head {cs : List Value} (h : RO S w A cs) (n : Nat) : RO S w A (cs.take n) := fun j v hj => by
  rw [List.getElem?_take] at hj
  split at hj
  · exact h j v hj
  · cases hj
theorem RO.headF {f : α → List Value} {sz : Nat} (hf : ∀ a, (f a).length = sz) (h : RO S w A (xs.flatMap f)) (n : Nat) : RO S w A ((xs.take n).flatMap f) := by
  rw [take_flat f sz hf]; exact h.head _
theorem RO.headM {f : α → Value} (h : RO S w A (xs.map f)) (n : Nat) : RO S w A ((xs.take n).map f) := by
  rw [List.map_take]; exact h.head _
end
end Go.GV
namespace Go.GV
open Go.RowKit Go.MapKept
theorem mapK_u32 {P : Program} {kt : TypeId} (h : P.underlying kt = some (.int .u32)) : MapK P kt vU32 := ⟨_, h, fun _ => rfl, fun a b h => by
  have h2 : (a.toNat : Int) = b.toNat := by injection h
  exact UInt32.toNat_inj.1 (by omega)⟩
theorem mapK_b {P : Program} {kt : TypeId} (h : P.underlying kt = some .bool) : MapK P kt vB := ⟨_, h, fun _ => trivial, fun a b h => by injection h⟩
end Go.GV

namespace Go.GV
open Go.RowKit
section
variable {P : Program} {E : Env} {x y : Operand} {dst : Option Nat} {t u ty : TypeId} {pos : String} {af : Array Edge} {g : Option (Nat × Bool)}
theorem x_cap_sl {w : World} {e : TypeId} {A : Option Addr} {n c : Nat} (ht : P.underlying t = some (.slice e)) (hx : ev E x = .slice A n c) : (execOp (ev E) ⟨dst, .call ⟨.builtin .cap, #[x], #[t]⟩, ty, pos, af, g⟩).run P w = .ok (.value (vI (c : Int))) w := by
  have hr : (Builtin.cap_ #[t] ty #[.slice A n c]).run P w = .ok (vI (c : Int)) w := by simp [Builtin.cap_, run_underlying ht, goInt]
  simp [execOp, resolve, invoke, builtin, hx, hr]
theorem O_appendZ {S : List Nat} {w0 : World} {L : List Ent} {K : Value → List Ent → Prop} {e : TypeId} {by_ n : Nat} {zv : Value}
    (ht : P.underlying t = some (.slice e)) (hu : P.underlying u = some (.int .i64)) (hs : sizeIs P e = some 1) (hb : bytesIs P e = some by_) (hz : zeroIs P e = some zv) (hzs : zv.cells = #[zv])
    (hx : ev E x = .slice none 0 0) (hy : ev E y = .int .i64 (n : Int)) (h0 : 0 < n) (hbytes : n * by_ ≤ 140737488355328) (h63 : n ≤ 4611686018427387904)
    (k : ∀ A' c', K (.slice A' n c') (Ent.row (.slice A' n c') e 1 n (List.replicate n zv) :: L)) : OpJ P S w0 E L ⟨dst, .call ⟨.builtin .append, #[x, y], #[t, u]⟩, ty, pos, af, g⟩ K := by
  intro w hS
  obtain ⟨i, hi, hiz, his, hib⟩ := info_of hs hb hz
  have hr := Go.Lib.run_append_grow_zeros (P := P) w t u ty e i zv .i64 .i64 ht hu hi hiz none 0 0 [] (run_firstCells_none w.drew i.size 0 0 0) n h0 (by omega) (by omega) (by omega) (by rw [hib]; omega) (by
    rw [hib]
    unfold Builtin.nextslicecap
    rw [if_pos (by omega), Nat.zero_add]; omega)
  have hz1 : ∀ m, Builtin.zeroCells zv.cells m = (List.replicate m zv).toArray := fun m => by
    rw [hzs]
    apply Array.ext
    · simp [Builtin.zeroCells]
    · intro j h1 h2
      simp [Builtin.zeroCells, Nat.mod_one]
  have hge := grownCap_ge w (0 + n) 0 e
  have hle := grownCap_le_maxLen w (0 + n) 0 e (by simp only [maxLen]; omega)
  rw [hz1, hz1, show ([] : List Value).toArray ++ (List.replicate n zv).toArray ++ (List.replicate (grownCap w (0 + n) 0 e - (0 + n)) zv).toArray = (List.replicate n zv ++ List.replicate (grownCap w (0 + n) 0 e - (0 + n)) zv).toArray by simp] at hr
  refine ⟨.slice (some ⟨w.heap.size, 0, none⟩) (0 + n) (grownCap w (0 + n) 0 e), _, w.drew.alloc (Obj.cells (List.replicate n zv ++ List.replicate (grownCap w (0 + n) 0 e - (0 + n)) zv).toArray e), .inl ?_, (hS.step (Fr.drew [] w)).alloc _ (Ent.row (.slice (some ⟨w.heap.size, 0, none⟩) (0 + n) (grownCap w (0 + n) 0 e)) e 1 (0 + n) (List.replicate (0 + n) zv)) rfl ⟨by simp, .inr ⟨w.heap.size, _, _, rfl, rfl, hge, hle, ?_, ?_⟩⟩, ?_⟩
  · simp [execOp, resolve, invoke, builtin, hx, hy, hr]
  · rw [List.size_toArray, List.length_append, List.length_replicate, List.length_replicate, Nat.mul_one]; rw [Nat.zero_add] at *; omega
  · simp
  · rw [Nat.zero_add]; exact k _ _
end
end Go.GV

namespace Go.Proofs.YtngjdmhpljmkpaaGreatDoor
open Go.GV
set_option linter.unusedVariables false
set_option linter.unusedSimpArgs false
theorem c40o0_ {p : Prop} (h : p := by first | exact i1_1.neg_no (by omega) (by assumption) (by omega) | exact i1_1.pair_no (by omega) (by assumption) (by omega) | exact i1_1.leaf_no (by omega) (by assumption) (by assumption) (by assumption) (by assumption) | exact i1_1.done (by omega)) : p := h
theorem c40o4_ {p : Prop} (h : p := by first | exact i1_1.neg (by omega) (by assumption) (by omega) | exact i1_1.pair (by omega) (by assumption) (by omega) | exact i1_1.leaf (by omega) (by assumption) (by assumption) (by assumption) (by assumption)) : p := h
theorem c40o7_ {p : Prop} (h : p := by first | exact R40.basic_r0 (P := R40.stepV) R40.idx_no (by assumption) | exact R40.basic_r1 (P := R40.stepV) R40.idx_no (by assumption) (by assumption) | exact R40.basic_r1 (P := R40.stepV) R40.idx_no (by assumption) (.inl (by assumption)) | exact R40.basic_r1 (P := R40.stepV) R40.idx_no (by assumption) (.inr (by assumption)) | exact R40.basic_r3 (P := R40.stepV) (by assumption) | exact R40.basic_rx (P := R40.stepV) (by assumption) (by omega) (by assumption)) : p := h
theorem c40o10_ {p : Prop} (h : p := by first | exact R40.idx_hit (k := k) (by omega) i1_1 (Eq.symm (by assumption)) | exact R40.idx_none (fun i hi => i1_1 i (by omega))) : p := h
set_option maxRecDepth 20000 in
theorem f49_ok (l : List Bytes) (lA : Option Addr) (lC : Nat) (s : Bytes) (w : World) (lR : RO [] w lA (l.map vS)) (q0 : l.length ≤ 9223372036854775807) : Calls Tryz.prog 49 #[vL lA l.length lC, vS s] w (Gives [] w fun v L => v = vI (R40.idx l s) ∧ L = []) := by
 refine calls_J [] 19 Tryz.func49 rfl Tryz.ntmps49 [(0, _), (1, _)] rfl rfl (Give.nil w) ?_
 refine q_ (g_ (s_ av_ (z_ (n_ (q_ (q_ (g_ (s_ av_ (z_ (n_ (k_ ?_)))))))))))
 refine J_loop (X := Nat) (fun (k : Nat) => (k ≤ l.length) ∧ (∀ i, i < k → l.getD i [] ≠ s)) (fun (k : Nat) => [(0, vL lA l.length lC), (1, vS s), (5, vI ((k : Nat) : Int))]) (fun (k : Nat) => []) (fun (k : Nat) => l.length - k) (0 : Nat) ?_ ⟨rfl, rfl, rfl, trivial⟩ (fun _ h => h) ?_
 ·try dsimp only
  refine ⟨?_, ?_⟩
  ·first | rfl | omega | (simp_all; done) | (simp_all; omega)
  ·intro i h2; omega
 intro k hI1
 obtain ⟨i1_0, i1_1⟩ := hI1
 try dsimp only at i1_0
 try dsimp only at i1_1
 try dsimp only
 refine q_ (q_ (g_ (s_ mv_ (s_ mv_ (s_ (lnS Tryz.underlying22) (s_ (x_lss_i rfl rfl) (z_ (n_ ?_))))))))
 refine ifd (fun h1w h1 => ?_) (fun h1w h1 => ?_)
 ·refine sk_ (n_ (q_ (k_ (q_ (g_ (s_ mv_ (s_ mv_ (r_ (ixM (cells_ro lR) Tryz.underlying22 Ty.sz9) (r_ (ldM vS [] (cells_ro lR) Ty.sc9) (s_ mv_ (s_ (x_eql_s rfl rfl) (z_ (n_ ?_)))))))))))))
  refine ifd (fun h2w h2 => ?_) (fun h2w h2 => ?_)
  ·refine q_ (g_ (s_ mv_ (s_ av_ (z_ (n_ (rt_ (kq_ (nr_ (rr_ (kq_ (nr_ ?_)))))))))))
   exact p1 Tryz.results49 rfl ⟨(eI c40o10_), rfl⟩
  ·refine sk_ (kx_ (n_ (g_ (s_ mv_ (s_ (x_add_n (a := k) (b := 1) rfl rfl (by omega)) (s_ av_ (z_ ?_)))))))
   refine JX_round (k + 1 : Nat) ?_ ?_ ⟨rfl, rfl, rfl, trivial⟩ (fun _ h => h)
   ·try dsimp only
    refine ⟨?_, ?_⟩
    ·first | rfl | omega | (simp_all; done) | (simp_all; omega)
    ·intro i hi
     by_cases hik : i = k
     ·subst hik; assumption
     ·exact i1_1 i (by omega)
   ·try dsimp only
    first | omega | (simp; omega) | (simp_all; omega)
 ·refine J_exit (ne_ (re_ (kh_ (n_ (q_ ?_)))))
  refine g_ (s_ av_ (z_ (n_ (rt_ ?_))))
  exact p1 Tryz.results49 rfl ⟨(eI c40o10_), rfl⟩
set_option maxRecDepth 20000 in
theorem fbasic_nm (t : Test) (w : World) (q0 : t.Step.length ≤ 1000000) : Calls Tryz.prog 57 #[vG (Test.enc t), vL none 0 0, vB true] w (Gives [] w fun v L => v = vB (R40.leafOk R40.stepV t) ∧ L = []) := by
 refine calls_J [] 65 Tryz.func57 rfl Tryz.ntmps57 [(0, _), (1, _), (2, _)] rfl rfl (Give.nil w) ?_
 refine q_ (g_ (o_ (bxG fun b1 => ?_)))
 refine s_ av_ (z_ (n_ (q_ (g_ (s_ mv_ (s_ mv_ (sg_ rfl (fA 1 Ty.fi40_1) (rg_ rfl (ld_ 0 Ty.sc9) (c0g rfl (cl_ Ty.ca22) (fun w hS => f22_ok _ w hy_) (jr_ (vB (R40.stepV t.Step)) (s_ mv_ ?_)))))))))))
 refine or_ 5 (decide ((0 : Int) ≤ R40.idx ([] : List Bytes) t.Step)) (fun g2 => ?_) ?_
 ·have g2r := g2
  refine sg_ g2 mv_ (sg_ g2 (fA 1 Ty.fi40_1) (rg_ g2 (ld_ 0 Ty.sc9) (c0g g2 (cl_ Ty.ca49) (fun w hS => f49_ok ([] : List Bytes) none 0 _ w RO.nil hy_) ?_)))
  have ha3 := R40.idx_lt ([] : List Bytes) t.Step
  try simp only [List.length_cons, List.length_nil, Nat.zero_add, Nat.reduceAdd, Nat.reduceMul] at ha3
  refine sg_ g2 (x_geq_i rfl rfl) ?_
  exact cr_
 refine s_ av_ (z_ (n_ (q_ (q_ (g_ (s_ (fA 0 Ty.fi40_0) (r_ (ld_ 0 Ty.sc3) (z_ (n_ (k_ (q_ (g_ (s_ (x_eql_i rfl rfl) (s_ av_ (z_ (n_ ?_))))))))))))))))
 refine ifd (fun h4w h4 => ?_) (fun h4w h4 => ?_)
 ·refine q_ (g_ (s_ mv_ (s_ mv_ ?_)))
  refine and_ 3 (decide ((0 : Int) ≤ t.Op)) (fun g5 => ?_) ?_
  ·have g5r := g5
   simp only [Bool.and_eq_true, Bool.or_eq_true, Bool.and_eq_false_iff, Bool.or_eq_false_iff, Bool.not_eq_true', Bool.not_eq_false', decide_eq_true_eq, decide_eq_false_iff_not] at g5r
   refine sg_ g5 (fA 2 Ty.fi40_2) (rg_ g5 (ld_ 0 Ty.sc3) (sg_ g5 (x_geq_i rfl rfl) ?_))
   exact cr_
  refine s_ mv_ ?_
  refine and_ 3 (decide (t.Op ≤ 5)) (fun g6 => ?_) ?_
  ·have g6r := g6
   have ⟨g6r, h7⟩ := band_true g6r
   simp only [Bool.and_eq_true, Bool.or_eq_true, Bool.and_eq_false_iff, Bool.or_eq_false_iff, Bool.not_eq_true', Bool.not_eq_false', decide_eq_true_eq, decide_eq_false_iff_not] at g6r
   have h7 := of_decide_eq_true h7
   refine sg_ g6 (fA 2 Ty.fi40_2) (rg_ g6 (ld_ 0 Ty.sc3) (sg_ g6 (x_leq_i rfl rfl) ?_))
   exact cr_
  refine s_ mv_ ?_
  refine and_ 3 (decide ((0 : Int) ≤ t.N)) (fun g8 => ?_) ?_
  ·have g8r := g8
   have ⟨g8r, h9⟩ := band_true g8r
   have ⟨g8r, h10⟩ := band_true g8r
   simp only [Bool.and_eq_true, Bool.or_eq_true, Bool.and_eq_false_iff, Bool.or_eq_false_iff, Bool.not_eq_true', Bool.not_eq_false', decide_eq_true_eq, decide_eq_false_iff_not] at g8r
   have h10 := of_decide_eq_true h10
   have h9 := of_decide_eq_true h9
   refine sg_ g8 (fA 3 Ty.fi40_3) (rg_ g8 (ld_ 0 Ty.sc3) (sg_ g8 (x_geq_i rfl rfl) ?_))
   exact cr_
  refine s_ mv_ ?_
  refine and_ 3 (decide (t.N ≤ 4095)) (fun g11 => ?_) ?_
  ·have g11r := g11
   have ⟨g11r, h12⟩ := band_true g11r
   have ⟨g11r, h13⟩ := band_true g11r
   have ⟨g11r, h14⟩ := band_true g11r
   simp only [Bool.and_eq_true, Bool.or_eq_true, Bool.and_eq_false_iff, Bool.or_eq_false_iff, Bool.not_eq_true', Bool.not_eq_false', decide_eq_true_eq, decide_eq_false_iff_not] at g11r
   have h14 := of_decide_eq_true h14
   have h13 := of_decide_eq_true h13
   have h12 := of_decide_eq_true h12
   refine sg_ g11 (fA 3 Ty.fi40_3) (rg_ g11 (ld_ 0 Ty.sc3) (sg_ g11 (x_leq_i rfl rfl) ?_))
   exact cr_
  refine s_ av_ (z_ (xk_ [6] ?_))
  refine n_ (rt_ (kq_ (nr_ ?_)))
  exact p1 Tryz.results57 rfl ⟨(eB c40o7_), rfl⟩
 ·refine q_ (q_ (g_ (s_ (x_eql_i rfl rfl) (s_ av_ (z_ (n_ ?_))))))
  refine ifd (fun h15w h15 => ?_) (fun h15w h15 => ?_)
  ·refine sk_ (n_ ?_)
   refine ifd (fun _ _ => ?_) (fun _ hc => absurd h15 hc)
   refine q_ (g_ (s_ mv_ (s_ mv_ ?_)))
   refine and_ 3 (decide (t.Op = 0)) (fun g17 => ?_) ?_
   ·have g17r := g17
    simp only [Bool.and_eq_true, Bool.or_eq_true, Bool.and_eq_false_iff, Bool.or_eq_false_iff, Bool.not_eq_true', Bool.not_eq_false', decide_eq_true_eq, decide_eq_false_iff_not] at g17r
    refine sg_ g17 (fA 2 Ty.fi40_2) (rg_ g17 (ld_ 0 Ty.sc3) (sg_ g17 (x_eql_i rfl rfl) ?_))
    exact cr_
   refine s_ mv_ ?_
   refine and_ 3 (decide (t.N = 0)) (fun g18 => ?_) ?_
   ·have g18r := g18
    have ⟨g18r, h19⟩ := band_true g18r
    simp only [Bool.and_eq_true, Bool.or_eq_true, Bool.and_eq_false_iff, Bool.or_eq_false_iff, Bool.not_eq_true', Bool.not_eq_false', decide_eq_true_eq, decide_eq_false_iff_not] at g18r
    have h19 := of_decide_eq_true h19
    refine sg_ g18 (fA 3 Ty.fi40_3) (rg_ g18 (ld_ 0 Ty.sc3) (sg_ g18 (x_eql_i rfl rfl) ?_))
    exact cr_
   refine s_ av_ (z_ (xk_ [6] ?_))
   refine n_ (rt_ (kq_ (nr_ ?_)))
   exact p1 Tryz.results57 rfl ⟨(eB c40o7_), rfl⟩
  ·refine g_ (s_ (x_eql_i rfl rfl) (s_ av_ (z_ (xk_ [3, 6, 7, 22, 46] ?_))))
   refine n_ ?_
   refine ifd (fun h20w h20 => ?_) (fun h20w h20 => ?_)
   ·refine q_ (g_ (s_ mv_ (s_ mv_ ?_)))
    refine and_ 3 (decide (t.Op = 0)) (fun g21 => ?_) ?_
    ·have g21r := g21
     simp only [Bool.and_eq_true, Bool.or_eq_true, Bool.and_eq_false_iff, Bool.or_eq_false_iff, Bool.not_eq_true', Bool.not_eq_false', decide_eq_true_eq, decide_eq_false_iff_not] at g21r
     refine sg_ g21 (fA 2 Ty.fi40_2) (rg_ g21 (ld_ 0 Ty.sc3) (sg_ g21 (x_eql_i rfl rfl) ?_))
     exact cr_
    refine s_ mv_ ?_
    refine and_ 3 (decide (t.N = 0)) (fun g22 => ?_) ?_
    ·have g22r := g22
     have ⟨g22r, h23⟩ := band_true g22r
     simp only [Bool.and_eq_true, Bool.or_eq_true, Bool.and_eq_false_iff, Bool.or_eq_false_iff, Bool.not_eq_true', Bool.not_eq_false', decide_eq_true_eq, decide_eq_false_iff_not] at g22r
     have h23 := of_decide_eq_true h23
     refine sg_ g22 (fA 3 Ty.fi40_3) (rg_ g22 (ld_ 0 Ty.sc3) (sg_ g22 (x_eql_i rfl rfl) ?_))
     exact cr_
    refine s_ av_ (z_ (n_ (rt_ (kq_ (nr_ ?_)))))
    exact p1 Tryz.results57 rfl ⟨(eB c40o7_), rfl⟩
   ·refine q_ (g_ (s_ (x_eql_i rfl rfl) (s_ av_ (z_ (n_ ?_)))))
    refine ifd (fun h24w h24 => ?_) (fun h24w h24 => ?_)
    ·refine q_ (g_ (r_ (ldN 0 (Test.enc t) Ty.ag40 Ty.sz40) (js_ (vG [vI 3, vS [], vI 0, vI 0]) (x_build (by kernel_rfl)) (s_ (x_eql_agg rfl rfl Ty.eg40 (Ty.eq40 9998 t (Test.mk 3 [] 0 0))) (s_ av_ (z_ (n_ (rt_ (kq_ (nr_ ?_))))))))))
     exact p1 Tryz.results57 rfl ⟨(eB c40o7_), rfl⟩
    ·refine sk_ (kx_ (n_ (q_ (g_ (s_ av_ (z_ (n_ (rt_ ?_))))))))
     exact p1 Tryz.results57 rfl ⟨(eB c40o7_), rfl⟩
set_option maxRecDepth 20000 in
theorem fvalid_nm (ts : List Test) (tsA : Option Addr) (tsC : Nat) (w : World) (tsR : RO [] w tsA (ts.flatMap Test.enc)) (q0 : ts.length ≤ 9223372036854775807) (q1 : ∀ i, (ts.getD i default).Step.length ≤ 1000000) : Calls Tryz.prog 28 #[vL tsA ts.length tsC, vL none 0 0, vB true] w (Gives [] w fun v L => v = vB (R40.validV R40.stepV ts) ∧ L = []) := by
 refine calls_J [] 58 Tryz.func28 rfl Tryz.ntmps28 [(0, _), (1, _), (2, _)] rfl rfl (Give.nil w) ?_
 refine q_ (g_ (s_ av_ (z_ (n_ (q_ (g_ (s_ av_ (z_ (n_ (q_ (q_ (g_ (s_ av_ (z_ (n_ (k_ ?_))))))))))))))))
 refine J_loop (X := Nat × Int) (fun (⟨k, d⟩ : Nat × Int) => (k ≤ ts.length) ∧ (R40.DepJ R40.stepV ts k d) ∧ (d ≤ k)) (fun (⟨k, d⟩ : Nat × Int) => [(0, vL tsA ts.length tsC), (1, vL none 0 0), (2, vB true), (7, vI d), (8, vI ((k : Nat) : Int))]) (fun (⟨k, d⟩ : Nat × Int) => []) (fun (⟨k, d⟩ : Nat × Int) => ts.length - k) ((0, 0) : Nat × Int) ?_ ⟨rfl, rfl, rfl, rfl, rfl, trivial⟩ (fun _ h => h) ?_
 ·try dsimp only
  refine ⟨?_, ?_, ?_⟩
  ·first | rfl | omega | (simp_all; done) | (simp_all; omega)
  ·exact R40.DepJ.start
  ·exact Int.le_refl _
 rintro ⟨k, d⟩ hI1
 obtain ⟨i1_0, i1_1, i1_2⟩ := hI1
 try dsimp only at i1_0
 try dsimp only at i1_1
 try dsimp only at i1_2
 have hd0 := i1_1.1
 have hstp := q1 k
 try dsimp only
 refine q_ (q_ (g_ (s_ mv_ (s_ mv_ (s_ (lnS Tryz.underlying23) (s_ (x_lss_i rfl rfl) (z_ (n_ ?_))))))))
 refine ifd (fun h1w h1 => ?_) (fun h1w h1 => ?_)
 ·refine sk_ (n_ (q_ (k_ (q_ (g_ (s_ mv_ (s_ mv_ (r_ (ixF Test.enc_len (cells_ro tsR) Tryz.underlying23 Ty.sz40) (r_ (ldFN Test.enc_len (cells_ro tsR) Ty.ag40 Ty.sz40) (o_ (al_ Ty.ze40 fun b2 => ?_)))))))))))
  refine o_ (stG 0 Ty.sz40 ?_)
  refine z_ (n_ (k_ (q_ (g_ (r_ (ldN 0 (Test.enc (ts.getD k default)) Ty.ag40 Ty.sz40) (js_ (vG [vI 4, vS [], vI 0, vI 0]) (x_build (by kernel_rfl)) (s_ (x_eql_agg rfl rfl Ty.eg40 (Ty.eq40 9998 (ts.getD k default) (Test.mk 4 [] 0 0))) (s_ av_ (z_ (n_ ?_))))))))))
  refine ifd (fun h3w h3 => ?_) (fun h3w h3 => ?_)
  ·refine q_ (g_ (s_ mv_ (s_ (x_lss_i rfl rfl) (z_ (n_ ?_)))))
   refine ifd (fun h4w h4 => ?_) (fun h4w h4 => ?_)
   ·refine q_ (g_ (s_ av_ (z_ (xk_ [0, 1, 2, 7, 8, 6] ?_))))
    refine n_ (rt_ (kq_ (kq_ (nr_ (rr_ (kq_ (nr_ ?_)))))))
    exact p1 Tryz.results28 rfl ⟨(eB c40o0_), rfl⟩
   ·refine sk_ (kx_ (kx_ (n_ (g_ (s_ mv_ (s_ (x_add_n (a := k) (b := 1) rfl rfl (by omega)) (s_ av_ (z_ ?_))))))))
    refine JX_round ((k + 1, d) : Nat × Int) ?_ ?_ ⟨rfl, rfl, rfl, rfl, rfl, trivial⟩ (fun _ h => h.keep [false] rfl)
    ·try dsimp only
     refine ⟨?_, ?_, ?_⟩
     ·first | rfl | omega | (simp_all; done) | (simp_all; omega)
     ·exact c40o4_
     ·omega
    ·try dsimp only
     first | omega | (simp; omega) | (simp_all; omega)
  ·refine q_ (g_ (r_ (ldN 0 (Test.enc (ts.getD k default)) Ty.ag40 Ty.sz40) (js_ (vG [vI 5, vS [], vI 0, vI 0]) (x_build (by kernel_rfl)) (s_ (x_eql_agg rfl rfl Ty.eg40 (Ty.eq40 9998 (ts.getD k default) (Test.mk 5 [] 0 0))) (s_ mv_ ?_)))))
   refine or_ 3 (decide (((ts.getD k default) : Test) = (Test.mk 6 [] 0 0))) (fun g5 => ?_) ?_
   ·have g5r := g5
    have g5r := of_decide_eq_false g5r
    refine rg_ g5 (ldN 0 (Test.enc (ts.getD k default)) Ty.ag40 Ty.sz40) (jg_ g5 (vG [vI 6, vS [], vI 0, vI 0]) (x_build (by kernel_rfl)) (sg_ g5 (x_eql_agg rfl rfl Ty.eg40 (Ty.eq40 9998 (ts.getD k default) (Test.mk 6 [] 0 0))) ?_))
    exact cr_
   refine s_ av_ (z_ (xk_ [0, 1, 2, 7, 8, 9, 26] ?_))
   refine n_ ?_
   refine if_ (fun h6 => ?_) (fun h6 => ?_)
   ·have h6w := h6
    simp only [Bool.and_eq_true, Bool.or_eq_true, Bool.and_eq_false_iff, Bool.or_eq_false_iff, Bool.not_eq_true', Bool.not_eq_false', decide_eq_true_eq, decide_eq_false_iff_not] at h6
    refine q_ (q_ (g_ (s_ mv_ (s_ (x_lss_i rfl rfl) (z_ (n_ ?_))))))
    refine ifd (fun h7w h7 => ?_) (fun h7w h7 => ?_)
    ·refine q_ (g_ (s_ av_ (z_ (n_ (rt_ (nr_ (kq_ (kq_ (nr_ (rr_ (kq_ (nr_ ?_))))))))))))
     exact p1 Tryz.results28 rfl ⟨(eB c40o0_), rfl⟩
    ·refine sk_ (n_ (g_ (s_ mv_ (s_ (x_sub_i (a := d) (b := 1) rfl rfl (by omega) (by omega)) (s_ av_ (z_ (kx_ (kx_ (n_ (g_ (s_ mv_ (s_ (x_add_n (a := k) (b := 1) rfl rfl (by omega)) (s_ av_ (z_ ?_))))))))))))))
     refine JX_round ((k + 1, d - 1) : Nat × Int) ?_ ?_ ⟨rfl, rfl, rfl, rfl, rfl, trivial⟩ (fun _ h => h.keep [false] rfl)
     ·try dsimp only
      refine ⟨?_, ?_, ?_⟩
      ·first | rfl | omega | (simp_all; done) | (simp_all; omega)
      ·exact c40o4_
      ·omega
     ·try dsimp only
      first | omega | (simp; omega) | (simp_all; omega)
   ·have h6w := h6
    have ⟨h6, h8⟩ := bor_false h6
    have h6 := of_decide_eq_false h6
    have h8 := of_decide_eq_false h8
    refine q_ (g_ (r_ (ldN 0 (Test.enc (ts.getD k default)) Ty.ag40 Ty.sz40) (s_ mv_ (s_ mv_ (c0 (cl_ Ty.ca57) (fun w hS => fbasic_nm _ w hy_) (s_ av_ (z_ (n_ ?_))))))))
    refine if_ (fun h9 => ?_) (fun h9 => ?_)
    ·have h9w := h9
     refine g_ (s_ mv_ (s_ (x_add_i (a := d) (b := 1) rfl rfl (by omega) (by omega)) (s_ av_ (z_ (kx_ (kx_ (n_ (g_ (s_ mv_ (s_ (x_add_n (a := k) (b := 1) rfl rfl (by omega)) (s_ av_ (z_ ?_))))))))))))
     refine JX_round ((k + 1, d + 1) : Nat × Int) ?_ ?_ ⟨rfl, rfl, rfl, rfl, rfl, trivial⟩ (fun _ h => h.keep [false] rfl)
     ·try dsimp only
      refine ⟨?_, ?_, ?_⟩
      ·first | rfl | omega | (simp_all; done) | (simp_all; omega)
      ·exact c40o4_
      ·omega
     ·try dsimp only
      first | omega | (simp; omega) | (simp_all; omega)
    ·have h9w := h9
     refine q_ (g_ (s_ av_ (z_ (n_ (rt_ (kq_ (kq_ (nr_ (rr_ (kq_ (nr_ ?_)))))))))))
     exact p1 Tryz.results28 rfl ⟨(eB c40o0_), rfl⟩
 ·refine J_exit (ne_ (re_ (kh_ (n_ (q_ ?_)))))
  refine g_ (s_ mv_ (s_ (lnS Tryz.underlying23) (s_ (x_leq_i rfl rfl) (s_ mv_ ?_))))
  refine and_ 7 ((decide (d = 1)) || (decide (((ts.length : Nat) : Int) = 0))) (fun g10 => ?_) ?_
  ·have g10r := g10
   have g10r := of_decide_eq_true g10r
   refine sg_ g10 mv_ (sg_ g10 (x_eql_i rfl rfl) (sg_ g10 mv_ ?_))
   refine or_ 3 (decide (((ts.length : Nat) : Int) = 0)) (fun g11 => ?_) ?_ (hw := by exact ⟨_, rfl, g10⟩)
   ·have g11r := g11
    have g11r := of_decide_eq_false g11r
    refine sg_ g11 mv_ (sg_ g11 (lnS Tryz.underlying23) (sg_ g11 (x_eql_i rfl rfl) ?_))
    exact cr_
   exact cr_
  refine s_ av_ (z_ (n_ (rt_ ?_)))
  exact p1 Tryz.results28 rfl ⟨(eB c40o0_), rfl⟩
end Go.Proofs.YtngjdmhpljmkpaaGreatDoor

namespace Go.GV
open Go.RowKit
theorem RO.of_blkF {S : List Nat} {w00 w0 w : World} {Lc Lr : List Ent} (hS : St S w0 w (Lc ++ Lr)) (h0 : St [] w00 w (Lc ++ Lr)) (j : Nat) {b : Nat} {tb : TypeId} {cs : List Value} {fz : Nat × Nat} (hj : Lr[j]? = some (Ent.blk b tb cs fz)) : RO (Lown Lc ++ List.range w00.heap.size) w (some ⟨b, 0, none⟩) cs := fun jj v hv => by
  obtain ⟨a, ha, hb, hn, hc⟩ := RO.of_blkS (Sc := Lown Lc) hS lown_mem j (off := 0) (m := cs.length) (news := cs) hj (by rw [List.drop_zero, List.take_length]) jj v hv
  refine ⟨a, ha, hb, fun hh => ?_, hc⟩
  rcases List.mem_append.1 hh with hh | hh
  · exact hn hh
  · injection ha with ha; subst ha
    rcases h0.own _ (List.mem_append.2 (.inr (List.mem_of_getElem? hj))) b rfl with h1 | h1
    · cases h1
    · exact absurd (List.mem_range.1 hh) (by show ¬ b < _; omega)
end Go.GV
