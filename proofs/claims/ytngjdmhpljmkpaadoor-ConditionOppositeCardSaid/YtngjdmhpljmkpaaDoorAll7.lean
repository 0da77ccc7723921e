/- Pl40, Pl40b, Pl40c, Pl40d, Pl40e, Sq, Pl40f in one text. -/
import Derived.Test.YtngjdmhpljmkpaaDoorAll3
import Derived.Test.YtngjdmhpljmkpaaDoorAll6
import Derived.Lib.SlicesCompact
set_option linter.unusedVariables false
set_option linter.unusedSimpArgs false
namespace Go.Proofs.YtngjdmhpljmkpaaDoor
open Go.GV
namespace R40
def bare (k : Int) : Test := ⟨k, [], 0, 0⟩
def leafOk (P : Bytes → Bool) (t : Test) : Bool :=
  decide (t = bare 3) || ((decide (t.Kind = 1) || decide (t.Kind = 2)) && decide (t.Op = 0) && decide (t.N = 0) && P t.Step) || (decide (t.Kind = 0) && decide (0 ≤ t.Op) && decide (t.Op ≤ 5) && decide (0 ≤ t.N) && decide (t.N ≤ 4095) && P t.Step)
def stepT (P : Bytes → Bool) (l : List Node) (i : Nat) (t : Test) : Option (List Node) :=
  if t = bare 4 ∧ 1 ≤ l.length then some (l.set (l.length - 1) (.neg (l.getD (l.length - 1) default)))
  else if (t = bare 5 ∨ t = bare 6) ∧ 2 ≤ l.length then some (l.take (l.length - 2) ++ [.pair (decide (t.Kind = 5)) (l.getD (l.length - 2) default) (l.getD (l.length - 1) default)])
  else if leafOk P t = true then some (l ++ [.leaf t i]) else none
def treeG (P : Bytes → Bool) : Nat → List Node → List Test → Option (List Node)
  | _, l, [] => some l
  | i, l, t :: r => match stepT P l i t with
    | none => none
    | some l' => treeG P (i + 1) l' r
def one : Option (List Node) → Option Node
  | some [x] => some x
  | _ => none
def treeV (P : Bytes → Bool) (ts : List Test) : Option Node := if 32 < ts.length then none else one (treeG P 0 [] ts)
def onP (steps : List Bytes) (s : Bytes) : Bool := decide (s ∈ steps)
def onV (ts : List Test) (steps : List Bytes) : Option Node := if ts = [] then some (.neg (.leaf (bare 3) 0)) else treeV (onP steps) ts
def eval (v : Test → Int → Bool) : Node → Bool
  | .leaf t i => v t i
  | .neg x => !eval v x
  | .pair b x y => if b = true then eval v x && eval v y else eval v x || eval v y
def size : Node → Nat
  | .leaf _ _ => 0
  | .neg x => size x + 1
  | .pair _ x y => size x + size y + 1
def related (c op n : Int) : Bool := if op = 0 then decide (c < n) else if op = 1 then decide (c ≤ n) else if op = 2 then decide (c = n) else if op = 3 then decide (c ≠ n) else if op = 4 then decide (n ≤ c) else decide (n < c)
def holds (t : Test) (e : StepEnd) : Bool := if t.Kind = 0 then (e.Ran && !e.Failed) && related e.Code t.Op t.N else if t.Kind = 1 then e.Ran && e.Failed else e.Ran
def failed (e : StepEnd) : Bool := e.Ran && e.Failed
def idx : List Bytes → Bytes → Int
  | [], _ => -1
  | x :: r, s => if x = s then 0 else if idx r s < 0 then -1 else idx r s + 1
def cutE (steps : List Bytes) (ends : List StepEnd) : List StepEnd := ends.take (min ends.length steps.length)
def leafV (steps : List Bytes) (E : List StepEnd) (t : Test) (_i : Int) : Bool := if t.Kind = 3 then E.any failed else decide (idx steps t.Step < E.length) && holds t (E.getD (idx steps t.Step).toNat default)
def evalV (ts : List Test) (steps : List Bytes) (ends : List StepEnd) : Bool := match onV ts steps with
  | none => false
  | some x => eval (leafV steps (cutE steps ends)) x
theorem leaf_any {P : Bytes → Bool} {t : Test} (h : leafOk P t = true) : t = bare 3 ∨ ((t.Kind = 1 ∨ t.Kind = 2) ∧ t.Op = 0 ∧ t.N = 0 ∧ P t.Step = true) ∨ (t.Kind = 0 ∧ 0 ≤ t.Op ∧ t.Op ≤ 5 ∧ 0 ≤ t.N ∧ t.N ≤ 4095 ∧ P t.Step = true) := by
  unfold leafOk at h
  simp only [Bool.or_eq_true, Bool.and_eq_true, decide_eq_true_eq] at h
  rcases h with (h | h) | h
  · exact .inl h
  · exact .inr (.inl ⟨h.1.1.1, h.1.1.2, h.1.2, h.2⟩)
  · exact .inr (.inr ⟨h.1.1.1.1.1, h.1.1.1.1.2, h.1.1.1.2, h.1.1.2, h.1.2, h.2⟩)
def good (P : Bytes → Bool) : Node → Prop
  | .leaf t _ => leafOk P t = true
  | .neg x => good P x
  | .pair _ x y => good P x ∧ good P y
theorem idx_lt (l : List Bytes) (s : Bytes) : -1 ≤ idx l s ∧ idx l s < l.length := by
  induction l with
  | nil => simp [idx]
  | cons x r ih =>
    rw [idx]; split
    · simp only [List.length_cons]; omega
    · split <;> simp only [List.length_cons] <;> omega
theorem idx_mem {l : List Bytes} {s : Bytes} : 0 ≤ idx l s ↔ s ∈ l := by
  induction l with
  | nil => simp [idx]
  | cons x r ih =>
    rw [idx]; split
    · rename_i h; subst h; simp
    · rename_i h
      have hm : s ∈ x :: r ↔ s ∈ r := by simp [show s ≠ x from fun e => h e.symm]
      rw [hm, ← ih]
      split <;> omega
theorem idx_at {l : List Bytes} {s : Bytes} (h : 0 ≤ idx l s) : l.getD (idx l s).toNat [] = s := by
  induction l with
  | nil => simp [idx] at h
  | cons x r ih =>
    rw [idx] at h ⊢; split
    · rename_i e; subst e; rfl
    · rename_i hne
      rw [if_neg hne] at h
      split
      · rename_i h2; rw [if_pos h2] at h; omega
      · rename_i h2
        rw [show (idx r s + 1).toNat = (idx r s).toNat + 1 by omega]
        exact ih (by omega)
def post : Node → List Test
  | .leaf t _ => [t]
  | .neg x => post x ++ [bare 4]
  | .pair b x y => post x ++ (post y ++ [bare (if b = true then 5 else 6)])
def at_ : Nat → Node → Prop
  | i, .leaf _ j => j = (i : Int)
  | i, .neg x => at_ i x
  | i, .pair _ x y => at_ i x ∧ at_ (i + (post x).length) y
theorem post_len (x : Node) : 1 ≤ (post x).length := by
  cases x with
  | leaf => simp [post]
  | neg x => simp [post]
  | pair b x y => simp [post]; omega
theorem bare_not {P : Bytes → Bool} {k : Int} (h : 4 ≤ k) : leafOk P (bare k) = false := by
  unfold leafOk bare
  have h3 : decide ((⟨k, [], 0, 0⟩ : Test) = ⟨3, [], 0, 0⟩) = false := decide_eq_false fun e => by injection e; omega
  rw [h3, decide_eq_false (show ¬ k = 1 by omega), decide_eq_false (show ¬ k = 2 by omega), decide_eq_false (show ¬ k = 0 by omega)]; simp
theorem leaf_bare {P : Bytes → Bool} {t : Test} {k : Int} (h : leafOk P t = true) (hk : 4 ≤ k) : t ≠ bare k := fun e => by
  rw [e, bare_not hk] at h; cases h
section
variable {P : Bytes → Bool} {l : List Node} {x y : Node} {i : Nat} {t : Test}
theorem step_leaf (h : leafOk P t = true) : stepT P l i t = some (l ++ [.leaf t i]) := by
  unfold stepT
  rw [if_neg (fun e => leaf_bare h (by omega) e.1), if_neg (fun e => e.1.elim (leaf_bare h (by omega)) (leaf_bare h (by omega))), if_pos h]
theorem step_neg : stepT P (l ++ [x]) i (bare 4) = some (l ++ [.neg x]) := by
  unfold stepT
  rw [if_pos ⟨rfl, by simp⟩]
  congr 1
  have h1 : (l ++ [x]).length - 1 = l.length := by simp
  rw [h1, List.getD_eq_getElem?_getD, List.getElem?_append_right (Nat.le_refl _), Nat.sub_self]
  simp
theorem step_pair {b : Bool} : stepT P (l ++ [x, y]) i (bare (if b = true then 5 else 6)) = some (l ++ [.pair b x y]) := by
  unfold stepT
  have h1 : (l ++ [x, y]).length - 1 = l.length + 1 := by simp
  have h2 : (l ++ [x, y]).length - 2 = l.length := by simp
  have hx : (l ++ [x, y]).getD l.length default = x := by rw [List.getD_eq_getElem?_getD, List.getElem?_append_right (Nat.le_refl _), Nat.sub_self]; rfl
  have hy : (l ++ [x, y]).getD (l.length + 1) default = y := by rw [List.getD_eq_getElem?_getD, List.getElem?_append_right (Nat.le_succ _), show l.length + 1 - l.length = 1 by omega]; rfl
  rw [h1, h2, hx, hy, List.take_left']
  · cases b with
    | true => rw [if_neg (fun e => absurd e.1 (by decide)), if_pos ⟨.inl rfl, by simp⟩]; rfl
    | false => rw [if_neg (fun e => absurd e.1 (by decide)), if_pos ⟨.inr rfl, by simp⟩]; rfl
  · rfl
end
def rei : Nat → Node → Node
  | i, .leaf t _ => .leaf t i
  | i, .neg x => .neg (rei i x)
  | i, .pair b x y => .pair b (rei i x) (rei (i + (post x).length) y)
theorem rei_post (x : Node) : ∀ i, post (rei i x) = post x := by
  induction x with
  | leaf t j => intro i; rfl
  | neg x ih => intro i; rw [rei, post, post, ih]
  | pair b x y ih1 ih2 => intro i; rw [rei, post, post, ih1, ih2]
theorem rei_eval {v : Test → Int → Bool} (hv : ∀ t i j, v t i = v t j) (x : Node) : ∀ i, eval v (rei i x) = eval v x := by
  induction x with
  | leaf t j => intro i; exact hv t _ _
  | neg x ih => intro i; rw [rei, eval, eval, ih]
  | pair b x y ih1 ih2 => intro i; rw [rei, eval, eval, ih1, ih2]
theorem rei_good {P : Bytes → Bool} (x : Node) : ∀ i, good P (rei i x) ↔ good P x := by
  induction x with
  | leaf t j => intro i; exact Iff.rfl
  | neg x ih => intro i; exact ih i
  | pair b x y ih1 ih2 => intro i; exact and_congr (ih1 _) (ih2 _)
theorem rei_at {x : Node} : ∀ {i : Nat}, at_ i x → rei i x = x := by
  induction x with
  | leaf t j => intro i h; rw [rei, ← show j = (i : Int) from h]
  | neg x ih => intro i h; rw [rei, ih h]
  | pair b x y ih1 ih2 => intro i h; rw [rei, ih1 h.1, ih2 h.2]
theorem at_rei (x : Node) : ∀ i, at_ i (rei i x) := by
  induction x with
  | leaf t j => intro i; rfl
  | neg x ih => intro i; exact ih i
  | pair b x y ih1 ih2 => intro i; exact ⟨ih1 i, by rw [rei_post]; exact ih2 _⟩
section
variable {P : Bytes → Bool}
theorem tree_post {x : Node} : ∀ {i : Nat} {l : List Node} {r : List Test}, good P x → treeG P i l (post x ++ r) = treeG P (i + (post x).length) (l ++ [rei i x]) r := by
  induction x with
  | leaf t j =>
    intro i l r h
    show treeG P i l (t :: r) = _
    rw [treeG, step_leaf h]; rfl
  | neg x ih =>
    intro i l r h
    rw [post, List.append_assoc, ih h]
    show treeG P _ _ (bare 4 :: r) = _
    rw [treeG, step_neg, List.length_append]; rfl
  | pair b x y ih1 ih2 =>
    intro i l r h
    rw [post, List.append_assoc, ih1 h.1, List.append_assoc, ih2 h.2]
    show treeG P _ _ (bare (if b = true then 5 else 6) :: r) = _
    rw [treeG, List.append_assoc, show [rei i x] ++ [rei (i + (post x).length) y] = [rei i x, rei (i + (post x).length) y] from rfl, step_pair, List.length_append, List.length_append]
    show treeG P _ _ r = treeG P _ _ r
    rw [show i + (post x).length + (post y).length + 1 = i + ((post x).length + ((post y).length + 1)) by omega]; rfl
def Inv (P : Bytes → Bool) : Nat → List Node → Prop
  | _, [] => True
  | i, x :: l => good P x ∧ at_ i x ∧ Inv P (i + (post x).length) l
def posts (l : List Node) : List Test := l.flatMap post
theorem Inv_app : ∀ {i : Nat} {l m : List Node}, Inv P i (l ++ m) ↔ Inv P i l ∧ Inv P (i + (posts l).length) m
  | i, [], m => by simp [Inv, posts]
  | i, x :: l, m => by
    have ih := Inv_app (i := i + (post x).length) (l := l) (m := m)
    unfold posts at *
    rw [List.flatMap_cons, List.length_append, List.cons_append, Inv, Inv, ih, ← Nat.add_assoc, and_assoc, and_assoc]
theorem posts_app (l m : List Node) : posts (l ++ m) = posts l ++ posts m := List.flatMap_append
theorem list_two {α : Type} {l : List α} {d : α} (h : 2 ≤ l.length) : l = l.take (l.length - 2) ++ [l.getD (l.length - 2) d, l.getD (l.length - 1) d] := by
  have e := R44.take_snoc (l := l) (k := l.length - 2) (d := d) (by omega)
  have e2 := R44.take_snoc (l := l) (k := l.length - 1) (d := d) (by omega)
  rw [show l.length - 2 + 1 = l.length - 1 by omega] at e
  rw [show l.length - 1 + 1 = l.length by omega, List.take_length, e, List.append_assoc] at e2
  exact e2
theorem list_one {α : Type} {l : List α} {d : α} (h : 1 ≤ l.length) : l = l.take (l.length - 1) ++ [l.getD (l.length - 1) d] := by
  have e2 := R44.take_snoc (l := l) (k := l.length - 1) (d := d) (by omega)
  rwa [show l.length - 1 + 1 = l.length by omega, List.take_length] at e2
theorem step_inv {l l' : List Node} {t : Test} (h : stepT P l (posts l).length t = some l') (hI : Inv P 0 l) : Inv P 0 l' ∧ posts l' = posts l ++ [t] := by
  unfold stepT at h
  split at h
  · rename_i h1
    cases h
    have e := list_one (d := default) h1.2
    have e2 : l.set (l.length - 1) (.neg (l.getD (l.length - 1) default)) = l.take (l.length - 1) ++ [.neg (l.getD (l.length - 1) default)] := by
      generalize l.getD (l.length - 1) default = x at *
      rw [e]; simp
    rw [e2]
    rw [e, Inv_app] at hI
    rw [Inv_app, posts_app]
    refine ⟨⟨hI.1, hI.2.1, hI.2.2.1, trivial⟩, ?_⟩
    have e3 : posts l = posts (l.take (l.length - 1)) ++ posts [l.getD (l.length - 1) default] := by rw [← posts_app, ← e]
    rw [e3, List.append_assoc, h1.1]
    simp [posts, post]
  · split at h
    · rename_i h1
      cases h
      have e := list_two (d := default) h1.2
      have e3 : posts l = posts (l.take (l.length - 2)) ++ posts [l.getD (l.length - 2) default, l.getD (l.length - 1) default] := by rw [← posts_app, ← e]
      rw [e, Inv_app] at hI
      rw [Inv_app, posts_app]
      refine ⟨⟨hI.1, ⟨hI.2.1, hI.2.2.2.1⟩, ⟨hI.2.2.1, hI.2.2.2.2.1⟩, trivial⟩, ?_⟩
      rw [e3, List.append_assoc]
      have ht : t = bare (if decide (t.Kind = 5) = true then 5 else 6) := by
        rcases h1.1 with h2 | h2 <;> rw [h2] <;> rfl
      rw [show [t] = [bare (if decide (t.Kind = 5) = true then 5 else 6)] from congrArg (fun x => [x]) ht]
      simp [posts, post]
    · split at h
      · rename_i h1
        cases h
        rw [Inv_app, posts_app]
        refine ⟨⟨hI, h1, ?_, trivial⟩, rfl⟩
        show _ = ((0 + (posts l).length : Nat) : Int)
        rw [Nat.zero_add]
      · cases h
theorem tree_inv : ∀ {r : List Test} {l l' : List Node}, treeG P (posts l).length l r = some l' → Inv P 0 l → Inv P 0 l' ∧ posts l' = posts l ++ r
  | [], l, l', h, hI => by cases h; exact ⟨hI, (List.append_nil _).symm⟩
  | t :: r, l, l', h, hI => by
    rw [treeG] at h
    split at h
    · cases h
    · rename_i m hm
      obtain ⟨h1, h2⟩ := step_inv hm hI
      have hl : (posts m).length = (posts l).length + 1 := by rw [h2, List.length_append]; rfl
      rw [← hl] at h
      have h3 := tree_inv h h1
      rw [h2, List.append_assoc] at h3
      exact h3
theorem tree_iff {ts : List Test} {x : Node} : treeV P ts = some x ↔ ts.length ≤ 32 ∧ good P x ∧ at_ 0 x ∧ post x = ts := by
  unfold treeV
  constructor
  · intro h
    split at h
    · cases h
    · unfold one at h
      split at h
      · rename_i hg
        cases h
        obtain ⟨h1, h2⟩ := tree_inv (l := []) hg trivial
        refine ⟨by omega, h1.1, h1.2.1, ?_⟩
        simpa [posts] using h2
      · cases h
  · rintro ⟨h1, h2, h3, rfl⟩
    rw [if_neg (by omega)]
    have := tree_post (P := P) (i := 0) (l := []) (r := []) h2
    rw [List.append_nil] at this
    rw [this, rei_at h3]; rfl
theorem tree_of {x : Node} (h : good P x) (hl : (post x).length ≤ 32) : treeV P (post x) = some (rei 0 x) :=
  tree_iff.2 ⟨hl, (rei_good x 0).2 h, at_rei x 0, rei_post x 0⟩
end
end R40
end Go.Proofs.YtngjdmhpljmkpaaDoor

namespace Go.Proofs.YtngjdmhpljmkpaaDoor
open Go.GV
namespace R40
section
variable {P : Bytes → Bool} {steps : List Bytes} {ends : List StepEnd} {ts a b : List Test}
theorem onV_some {x : Node} (h : ts ≠ []) : onV ts steps = some x ↔ ts.length ≤ 32 ∧ good (onP steps) x ∧ at_ 0 x ∧ post x = ts := by
  unfold onV; rw [if_neg h]; exact tree_iff
theorem leafV_ix (E : List StepEnd) (t : Test) (i j : Int) : leafV steps E t i = leafV steps E t j := rfl
theorem evalV_of {x : Node} (hg : good (onP steps) x) (hl : (post x).length ≤ 32) : onV (post x) steps = some (rei 0 x) ∧ evalV (post x) steps ends = eval (leafV steps (cutE steps ends)) x := by
  have hne : post x ≠ [] := fun e => by have := post_len x; rw [e] at this; simp at this
  have h : onV (post x) steps = some (rei 0 x) := by unfold onV; rw [if_neg hne]; exact tree_of hg hl
  refine ⟨h, ?_⟩
  unfold evalV; rw [h]
  exact rei_eval (leafV_ix _) x 0
theorem evalV_nil : evalV [] steps ends = !(cutE steps ends).any failed := rfl
theorem evalV_any : evalV [bare 3] steps ends = (cutE steps ends).any failed :=
  (evalV_of (x := .leaf (bare 3) 0) (steps := steps) (ends := ends) (by show leafOk _ _ = true; unfold leafOk; simp) (by decide)).2
theorem law_parts (ha : a ≠ []) (hb : b ≠ []) (la : a.length ≤ 12) (lb : b.length ≤ 12) (va : (onV a steps).isSome = true) (vb : (onV b steps).isSome = true) :
    evalV (a ++ b ++ [bare 5]) steps ends = (evalV a steps ends && evalV b steps ends) ∧ evalV (a ++ b ++ [bare 6]) steps ends = (evalV a steps ends || evalV b steps ends) ∧ evalV (a ++ [bare 4]) steps ends = (!evalV a steps ends) ∧ (onV (a ++ b) steps).isSome = false := by
  obtain ⟨x, hx⟩ := Option.isSome_iff_exists.1 va
  obtain ⟨y, hy⟩ := Option.isSome_iff_exists.1 vb
  obtain ⟨_, gx, ax, rfl⟩ := (onV_some ha).1 hx
  obtain ⟨_, gy, ay, rfl⟩ := (onV_some hb).1 hy
  have e1 := (evalV_of (ends := ends) gx (by omega)).2
  have e2 := (evalV_of (ends := ends) gy (by omega)).2
  have e3 := (evalV_of (x := .pair true x y) (steps := steps) (ends := ends) ⟨gx, gy⟩ (by simp [post]; omega)).2
  have e4 := (evalV_of (x := .pair false x y) (steps := steps) (ends := ends) ⟨gx, gy⟩ (by simp [post]; omega)).2
  have e5 := (evalV_of (x := .neg x) (steps := steps) (ends := ends) gx (by simp [post]; omega)).2
  rw [e1, e2]
  refine ⟨?_, ?_, ?_, ?_⟩
  · rw [List.append_assoc]; exact e3
  · rw [List.append_assoc]; exact e4
  · exact e5
  · unfold onV
    rw [if_neg (by simp [ha])]
    unfold treeV
    rw [if_neg (by rw [List.length_append]; omega)]
    have e := tree_post (P := onP steps) (i := 0) (l := []) (r := post y) gx
    have e2 := tree_post (P := onP steps) (i := 0 + (post x).length) (l := [] ++ [rei 0 x]) (r := []) gy
    rw [List.append_nil] at e2
    rw [e, e2]; rfl
def opp (o : Int) : Int := if o = 0 then 4 else if o = 1 then 5 else if o = 2 then 3 else if o = 3 then 2 else if o = 4 then 0 else if o = 5 then 1 else o
def pushT : Node → Bool → List Test
  | .neg x, o => pushT x (!o)
  | .pair b x y, o => pushT x o ++ pushT y o ++ [bare (if (b != o) = true then 5 else 6)]
  | .leaf t _, o => if o = false then [t] else if t.Kind = 0 then [⟨t.Kind, t.Step, opp t.Op, t.N⟩, ⟨1, t.Step, 0, 0⟩, bare 6, ⟨2, t.Step, 0, 0⟩, bare 4, bare 6] else [t, bare 4]
def pushN : Node → Bool → Node
  | .neg x, o => pushN x (!o)
  | .pair b x y, o => .pair (b != o) (pushN x o) (pushN y o)
  | .leaf t i, o => if o = false then .leaf t i else if t.Kind = 0 then .pair false (.pair false (.leaf ⟨t.Kind, t.Step, opp t.Op, t.N⟩ 0) (.leaf ⟨1, t.Step, 0, 0⟩ 0)) (.neg (.leaf ⟨2, t.Step, 0, 0⟩ 0)) else .neg (.leaf t i)
theorem push_post (x : Node) : ∀ o, post (pushN x o) = pushT x o := by
  induction x with
  | leaf t i =>
    intro o; rw [pushN, pushT]
    split
    · rfl
    · split <;> rfl
  | neg x ih => intro o; exact ih _
  | pair b x y ih1 ih2 => intro o; rw [pushN, pushT, post, ih1, ih2, List.append_assoc]
theorem opp_ok {o : Int} (h0 : 0 ≤ o) (h1 : o ≤ 5) : 0 ≤ opp o ∧ opp o ≤ 5 := by
  unfold opp; repeat' split
  all_goals omega
theorem leafOk_code {P : Bytes → Bool} {t : Test} (h0 : t.Kind = 0) (h1 : 0 ≤ t.Op) (h2 : t.Op ≤ 5) (h3 : 0 ≤ t.N) (h4 : t.N ≤ 4095) (h5 : P t.Step = true) : leafOk P t = true := by
  unfold leafOk; simp [h0, h1, h2, h3, h4, h5]
theorem leafOk_plain {P : Bytes → Bool} {s : Bytes} {k : Int} (hk : k = 1 ∨ k = 2) (h : P s = true) : leafOk P ⟨k, s, 0, 0⟩ = true := by
  unfold leafOk; rcases hk with rfl | rfl <;> simp [h]
theorem push_good (x : Node) : ∀ o, good P x → good P (pushN x o) := by
  induction x with
  | leaf t i =>
    intro o h; rw [pushN]
    split
    · exact h
    · split
      · rename_i hk
        rcases leaf_any h with h2 | h2 | h2
        · rw [h2] at hk; cases hk
        · omega
        · have ho := opp_ok h2.2.1 h2.2.2.1
          exact ⟨⟨leafOk_code hk ho.1 ho.2 h2.2.2.2.1 h2.2.2.2.2.1 h2.2.2.2.2.2, leafOk_plain (.inl rfl) h2.2.2.2.2.2⟩, leafOk_plain (.inr rfl) h2.2.2.2.2.2⟩
      · exact h
  | neg x ih => intro o h; exact ih _ h
  | pair b x y ih1 ih2 => intro o h; exact ⟨ih1 o h.1, ih2 o h.2⟩
theorem related_opp {c o n : Int} (h0 : 0 ≤ o) (h1 : o ≤ 5) : related c (opp o) n = !related c o n := by
  have : o = 0 ∨ o = 1 ∨ o = 2 ∨ o = 3 ∨ o = 4 ∨ o = 5 := by omega
  have flip : ∀ (p q : Prop) [Decidable p] [Decidable q], (p ↔ ¬ q) → decide p = !decide q := fun p q _ _ h => by
    by_cases hq : q
    · rw [decide_eq_true hq, decide_eq_false (fun hp => h.1 hp hq)]; rfl
    · rw [decide_eq_false hq, decide_eq_true (h.2 hq)]; rfl
  rcases this with rfl | rfl | rfl | rfl | rfl | rfl <;> (unfold related opp; simp; try exact flip _ _ (by omega))
theorem push_eval {E : List StepEnd} (x : Node) : ∀ o, good P x → eval (leafV steps E) (pushN x o) = (eval (leafV steps E) x != o) := by
  induction x with
  | leaf t i =>
    intro o h; rw [pushN]
    cases o with
    | false => simp
    | true =>
      rw [if_neg (by simp)]
      split
      · rename_i hk
        rcases leaf_any h with h2 | h2 | h2
        · rw [h2] at hk; cases hk
        · omega
        · have hr := related_opp (c := (E.getD (idx steps t.Step).toNat default).Code) (n := t.N) h2.2.1 h2.2.2.1
          simp only [eval, leafV, holds, hk, hr, if_neg (show ¬ (0 : Int) = 3 by decide), if_neg (show ¬ (1 : Int) = 3 by decide), if_neg (show ¬ (2 : Int) = 3 by decide), if_neg (show ¬ (1 : Int) = 0 by decide), if_neg (show ¬ (2 : Int) = 0 by decide), if_neg (show ¬ (2 : Int) = 1 by decide), if_true, Bool.false_eq_true, if_false]
          cases decide (idx steps t.Step < E.length) <;> cases (E.getD (idx steps t.Step).toNat default).Ran <;> cases (E.getD (idx steps t.Step).toNat default).Failed <;> cases related (E.getD (idx steps t.Step).toNat default).Code t.Op t.N <;> rfl
      · simp [eval]
  | neg x ih =>
    intro o h; rw [pushN, ih _ h, eval]
    cases eval (leafV steps E) x <;> cases o <;> rfl
  | pair b x y ih1 ih2 =>
    intro o h; rw [pushN, eval, ih1 o h.1, ih2 o h.2, eval]
    cases b <;> cases o <;> cases eval (leafV steps E) x <;> cases eval (leafV steps E) y <;> rfl
def leaves : Node → Nat
  | .leaf _ _ => 1
  | .neg x => leaves x
  | .pair _ x y => leaves x + leaves y
theorem push_len (x : Node) : ∀ o, (pushT x o).length + 1 ≤ 7 * leaves x := by
  induction x with
  | leaf t i => intro o; rw [pushT]; split <;> (try split) <;> simp [leaves]
  | neg x ih => intro o; exact ih _
  | pair b x y ih1 ih2 => intro o; have h1 := ih1 o; have h2 := ih2 o; rw [pushT, leaves]; simp only [List.length_append, List.length_singleton]; omega
theorem post_leaves (x : Node) : 2 * leaves x ≤ (post x).length + 1 := by
  induction x with
  | leaf t i => simp [post, leaves]
  | neg x ih => simp [post, leaves]; omega
  | pair b x y ih1 ih2 => simp [post, leaves]; omega
def NotsOk (l : List Test) : Prop := ∀ i, i < l.length → (l.getD i default).Kind = 4 → 0 < i ∧ ((l.getD (i - 1) default).Kind = 1 ∨ (l.getD (i - 1) default).Kind = 2 ∨ (l.getD (i - 1) default).Kind = 3)
theorem getD_app1 {α : Type} {l m : List α} {i : Nat} {d : α} (h : i < l.length) : (l ++ m).getD i d = l.getD i d := by
  rw [List.getD_eq_getElem?_getD, List.getElem?_append_left h, List.getD_eq_getElem?_getD]
theorem getD_app2 {α : Type} {l m : List α} {i : Nat} {d : α} (h : l.length ≤ i) : (l ++ m).getD i d = m.getD (i - l.length) d := by
  rw [List.getD_eq_getElem?_getD, List.getElem?_append_right h, List.getD_eq_getElem?_getD]
theorem NotsOk.app {l m : List Test} (hl : NotsOk l) (hm : NotsOk m) : NotsOk (l ++ m) := fun i hi hk => by
  rw [List.length_append] at hi
  by_cases h : i < l.length
  · rw [getD_app1 h] at hk
    have h2 := hl i h hk
    rw [getD_app1 (by omega)]; exact h2
  · rw [getD_app2 (by omega)] at hk
    have h2 := hm (i - l.length) (by omega) hk
    rw [getD_app2 (by omega), show i - 1 - l.length = i - l.length - 1 by omega]
    exact ⟨by omega, h2.2⟩
theorem NotsOk.one {t : Test} (h : t.Kind ≠ 4) : NotsOk [t] := fun i hi hk => by
  have : i = 0 := by simp at hi; exact hi
  subst this; exact absurd hk h
theorem NotsOk.two {t : Test} (h : t.Kind = 1 ∨ t.Kind = 2 ∨ t.Kind = 3) : NotsOk [t, bare 4] := fun i hi hk => by
  have : i = 0 ∨ i = 1 := by simp at hi; omega
  rcases this with rfl | rfl
  · have hk : t.Kind = 4 := hk; omega
  · exact ⟨by decide, h⟩
theorem push_nots (x : Node) : ∀ o, good P x → NotsOk (pushT x o) := by
  induction x with
  | leaf t i =>
    intro o h; rw [pushT]
    rcases leaf_any h with h2 | h2 | h2
    · split
      · exact .one (by rw [h2]; decide)
      · rw [h2, if_neg (by decide)]; exact .two (.inr (.inr rfl))
    · split
      · exact .one (by omega)
      · rw [if_neg (by omega)]; exact .two (by omega)
    · split
      · exact .one (by omega)
      · rw [if_pos h2.1]
        exact .app (l := [_]) (.one (by show t.Kind ≠ 4; omega)) (.app (l := [_]) (.one (show (1 : Int) ≠ 4 by decide)) (.app (l := [_]) (.one (show (6 : Int) ≠ 4 by decide)) (.app (l := [_, _]) (.two (.inr (.inl rfl))) (.one (show (6 : Int) ≠ 4 by decide)))))
  | neg x ih => intro o h; exact ih _ h
  | pair b x y ih1 ih2 =>
    intro o h; rw [pushT]
    exact ((ih1 o h.1).app (ih2 o h.2)).app (.one (by show (if _ then (5 : Int) else 6) ≠ 4; split <;> decide))
def stepV (s : Bytes) : Bool := R44.nameV (R44.qualV R44.isUp R44.isPl) s && decide ((((s.count 46 : Nat) : Int)) < 2)
def notV (ts : List Test) : List Test := if ts = [] then [bare 3] else match treeV stepV ts with
  | none => []
  | some x => if 32 < (pushT x true).length then [] else pushT x true
theorem good_names (hs : ∀ s ∈ steps, stepV s = true) (x : Node) : good (onP steps) x → good stepV x := by
  induction x with
  | leaf t i =>
    intro h
    have hm : onP steps t.Step = true → stepV t.Step = true := fun e => hs _ (of_decide_eq_true e)
    rcases leaf_any h with h2 | h2 | h2
    · rw [h2]; show leafOk _ _ = true; unfold leafOk; simp
    · obtain ⟨h3, h4, h5, h6⟩ := h2
      show leafOk _ _ = true; unfold leafOk
      simp [h3, h4, h5, hm h6]
    · exact leafOk_code h2.1 h2.2.1 h2.2.2.1 h2.2.2.2.1 h2.2.2.2.2.1 (hm h2.2.2.2.2.2)
  | neg x ih => exact ih
  | pair b x y ih1 ih2 => exact fun h => ⟨ih1 h.1, ih2 h.2⟩
theorem not_of (hs : ∀ s ∈ steps, stepV s = true) {x : Node} (hg : good (onP steps) x) (hl : (post x).length ≤ 32) (hne : notV (post x) ≠ []) : notV (post x) = pushT x true ∧ (pushT x true).length ≤ 32 := by
  have h1 : post x ≠ [] := fun e => by have := post_len x; rw [e] at this; simp at this
  unfold notV at *
  rw [if_neg h1, tree_of (good_names hs x hg) hl] at *
  have hr : ∀ (x : Node) i o, pushT (rei i x) o = pushT x o := by
    intro x; induction x with
    | leaf t j => intro i o; rfl
    | neg x ih => intro i o; exact ih i _
    | pair b x y ih1 ih2 => intro i o; rw [rei, pushT, pushT, ih1, ih2]
  dsimp only at *
  rw [hr] at *
  split at hne
  · exact absurd rfl hne
  · rename_i h; rw [if_neg h]; exact ⟨rfl, by omega⟩
theorem law_opposite (l16 : ts.length ≤ 16) (hv : (onV ts steps).isSome = true) (hs : ∀ s ∈ steps, stepV s = true) :
    (ts.length ≤ 5 → notV ts ≠ []) ∧ (notV ts ≠ [] → NotsOk (notV ts) ∧ (notV ts).length ≤ 32 ∧ (onV (notV ts) steps).isSome = true ∧ evalV (notV ts) steps ends = !evalV ts steps ends ∧ (notV (notV ts) = [] ∨ evalV (notV (notV ts)) steps ends = evalV ts steps ends)) := by
  by_cases h0 : ts = []
  · subst h0
    refine ⟨fun _ => by decide, fun _ => ?_⟩
    have e : notV [] = post (.leaf (bare 3) 0) := rfl
    have g : good (onP steps) (.leaf (bare 3) 0) := by show leafOk _ _ = true; unfold leafOk; simp
    obtain ⟨h1, h2⟩ := evalV_of (ends := ends) g (by decide)
    refine ⟨.one (by decide), by decide, by rw [e, h1]; rfl, ?_, ?_⟩
    · rw [show notV [] = [bare 3] from rfl, evalV_any, evalV_nil, Bool.not_not]
    · by_cases h3 : notV (notV []) = []
      · exact .inl h3
      · right
        rw [e] at h3
        obtain ⟨h4, h5⟩ := not_of hs g (by decide) h3
        rw [e, h4, ← push_post]
        rw [(evalV_of (ends := ends) (push_good _ true g) (by rw [push_post]; exact h5)).2, push_eval _ true g, evalV_nil]
        show (eval _ (.leaf (bare 3) 0) != true) = _
        rw [show eval (leafV steps (cutE steps ends)) (.leaf (bare 3) 0) = (cutE steps ends).any failed from rfl]
        simp
  · obtain ⟨x, hx⟩ := Option.isSome_iff_exists.1 hv
    obtain ⟨l32, g, _, rfl⟩ := (onV_some h0).1 hx
    refine ⟨fun h5 he => ?_, fun hne => ?_⟩
    · have := push_len x true; have := post_leaves x
      unfold notV at he
      rw [if_neg h0, tree_of (good_names hs x g) l32] at he
      have hr : ∀ (x : Node) i o, pushT (rei i x) o = pushT x o := by
        intro x; induction x with
        | leaf t j => intro i o; rfl
        | neg x ih => intro i o; exact ih i _
        | pair b x y ih1 ih2 => intro i o; rw [rei, pushT, pushT, ih1, ih2]
      dsimp only at he
      rw [hr, if_neg (by omega)] at he
      have h6 := post_len (pushN x true)
      rw [push_post, he] at h6; simp at h6
    · obtain ⟨h1, h2⟩ := not_of hs g l32 hne
      have g2 := push_good x true g
      have e2 := evalV_of (ends := ends) g2 (by rw [push_post]; exact h2)
      rw [push_post] at e2
      have e1 := (evalV_of (ends := ends) g l32).2
      rw [h1]
      refine ⟨push_nots x true g, h2, by rw [e2.1]; rfl, ?_, ?_⟩
      · rw [e2.2, push_eval x true g, e1]; simp
      · by_cases h3 : notV (pushT x true) = []
        · exact .inl h3
        · right
          rw [← push_post] at h3 ⊢
          obtain ⟨h4, h5⟩ := not_of hs g2 (by rw [push_post]; exact h2) h3
          rw [h4, ← push_post (pushN x true)]
          rw [(evalV_of (ends := ends) (push_good _ true g2) (by rw [push_post]; exact h5)).2, push_eval _ true g2, push_eval x true g, e1]
          simp
end
end R40
end Go.Proofs.YtngjdmhpljmkpaaDoor

namespace Go.Proofs.YtngjdmhpljmkpaaDoor
open Go.GV
namespace R40
abbrev wOR : Bytes := [111, 114]
abbrev wAND : Bytes := [97, 110, 100]
abbrev wNOT : Bytes := [110, 111, 116]
abbrev wLP : Bytes := [40]
abbrev wRP : Bytes := [41]
abbrev wFAILED : Bytes := [102, 97, 105, 108, 101, 100]
abbrev wRAN : Bytes := [114, 97, 110]
abbrev wRC : Bytes := [114, 99]
abbrev rels : List Bytes := [[60], [60, 61], [61], [33, 61], [62, 61], [62]]
def numC (s : Bytes) : Option Int := if R44.vN s ≤ 4095 ∧ Lib.decDigits (R44.vN s) = s then some (R44.vN s) else none
structure PR where
  ok : Bool
  pos : Nat
  out : List Test
def isA (ws : List Bytes) (i : Nat) (w : Bytes) : Bool := decide (i < ws.length) && decide (ws.getD i [] = w)
section
variable (ws : List Bytes)
def basicK (i : Nat) : Option (Test × Nat) ⊕ Nat :=
  if isA ws (i + 1) wFAILED = true then .inl (some (⟨1, ws.getD i [], 0, 0⟩, 2))
  else if isA ws (i + 1) wRAN = true then .inl (some (⟨2, ws.getD i [], 0, 0⟩, 2))
  else if isA ws (i + 1) wRC = true then
    (if i + 2 < ws.length ∧ 0 ≤ idx rels (ws.getD (i + 2) []) then
      (if i + 3 < ws.length then (match numC (ws.getD (i + 3) []) with
        | some n => .inl (some (⟨0, ws.getD i [], idx rels (ws.getD (i + 2) []), n⟩, 4))
        | none => .inr 3) else .inr 3)
    else .inr 2)
  else .inr 1
def basicV (i : Nat) : PR :=
  if i < ws.length ∧ stepV (ws.getD i []) = true then (match basicK ws i with
    | .inl (some (t, k)) => ⟨true, i + k, [t]⟩
    | .inl none => ⟨false, i, []⟩
    | .inr k => ⟨false, i + k, []⟩)
  else ⟨false, i, []⟩
def nots (i : Nat) : Nat := ((ws.drop i).takeWhile fun w => decide (w = wNOT)).length
def coreG (orF : Nat → PR) (j : Nat) : PR :=
  if isA ws j wLP = true then (if (orF (j + 1)).ok = true then (if isA ws (orF (j + 1)).pos wRP = true then ⟨true, (orF (j + 1)).pos + 1, (orF (j + 1)).out⟩ else ⟨false, (orF (j + 1)).pos, (orF (j + 1)).out⟩) else ⟨false, (orF (j + 1)).pos, (orF (j + 1)).out⟩)
  else if isA ws j wFAILED = true then ⟨true, j + 1, [bare 3]⟩
  else basicV ws j
def partG (orF : Nat → PR) (i : Nat) : PR :=
  ⟨(coreG ws orF (i + nots ws i)).ok, (coreG ws orF (i + nots ws i)).pos, (coreG ws orF (i + nots ws i)).out ++ List.replicate (nots ws i) (bare 4)⟩
def chainL (pf : Nat → PR) (w : Bytes) (k : Int) : Nat → PR → PR
  | 0, a => a
  | n + 1, a => if isA ws a.pos w = true then
      (if (pf (a.pos + 1)).ok = true then chainL pf w k n ⟨true, (pf (a.pos + 1)).pos, a.out ++ (pf (a.pos + 1)).out ++ [bare k]⟩
      else ⟨false, (pf (a.pos + 1)).pos, a.out ++ (pf (a.pos + 1)).out⟩)
    else a
def chainG (pf : Nat → PR) (w : Bytes) (k : Int) (i : Nat) : PR :=
  if (pf i).ok = true then chainL ws pf w k (ws.length + 1) (pf i) else pf i
def andG (orF : Nat → PR) (i : Nat) : PR := chainG ws (partG ws orF) wAND 5 i
def orN : Nat → Nat → PR
  | 0, i => ⟨false, i, []⟩
  | m + 1, i => chainG ws (andG ws (orN m)) wOR 6 i
def kindW (w : Bytes) : Int := if w = wOR then 6 else if w = wAND then 5 else 4
def red (all : Bool) : List Test → List Bytes → List Test × List Bytes
  | out, [] => (out, [])
  | out, w :: o => if w = wLP ∨ (w = wOR ∧ all = false) then (out, w :: o) else red all (out ++ [bare (kindW w)]) o
def mach (i : Nat) (out : List Test) (op : List Bytes) (operand : Bool) : Except Nat (List Test) :=
  if h : i < ws.length then
    (if operand = true ∧ (ws.getD i [] = wNOT ∨ ws.getD i [] = wLP) then mach (i + 1) out (ws.getD i [] :: op) true
    else if operand = true ∧ ws.getD i [] = wFAILED then mach (i + 1) (out ++ [bare 3]) op false
    else if operand = true ∧ stepV (ws.getD i []) = true then (match basicK ws i with
      | .inl (some (t, k)) => if 0 < k then mach (i + k) (out ++ [t]) op false else .error i
      | .inl none => .error i
      | .inr k => .error (i + k))
    else if operand = false ∧ (ws.getD i [] = wAND ∨ ws.getD i [] = wOR) then mach (i + 1) (red (decide (ws.getD i [] = wOR)) out op).1 (ws.getD i [] :: (red (decide (ws.getD i [] = wOR)) out op).2) true
    else if operand = false ∧ ws.getD i [] = wRP then (if (red true out op).2 = [] then .error i else mach (i + 1) (red true out op).1 (red true out op).2.tail false)
    else .error i)
  else if operand = true ∨ (red true out op).2 ≠ [] then .error ws.length else .ok (red true out op).1
termination_by ws.length - i
end
section
variable {ws : List Bytes}
def pk (P : List Bytes) : List Test := P.map fun w => bare (kindW w)
theorem nots_take : ∀ (l : List Bytes) (i : Nat), ws.drop i = l → (nots ws i = 0 ∧ (i < ws.length → ws.getD i [] ≠ wNOT)) ∨ (nots ws i = nots ws (i + 1) + 1 ∧ i < ws.length ∧ ws.getD i [] = wNOT)
  | [], i, h => .inl ⟨by unfold nots; rw [h]; rfl, fun h2 => absurd (List.drop_eq_nil_iff.1 h) (by omega)⟩
  | x :: l, i, h => by
    have hi : i < ws.length := by
      by_cases h2 : i < ws.length
      · exact h2
      · rw [List.drop_of_length_le (by omega)] at h; cases h
    have hx : ws.getD i [] = x := by
      have := congrArg List.head? h
      rw [List.head?_drop, List.head?_cons] at this
      rw [List.getD_eq_getElem?_getD, this]; rfl
    have hr : ws.drop (i + 1) = l := by rw [← List.tail_drop, h]; rfl
    by_cases hn : x = wNOT
    · right
      refine ⟨?_, hi, by rw [hx, hn]⟩
      unfold nots
      rw [h, hr, List.takeWhile_cons, if_pos (by simpa using hn), List.length_cons]
    · left
      refine ⟨?_, fun _ => by rw [hx]; exact hn⟩
      unfold nots
      rw [h, List.takeWhile_cons, if_neg (by simpa using hn)]; rfl
theorem nots_case (i : Nat) : (nots ws i = 0 ∧ (i < ws.length → ws.getD i [] ≠ wNOT)) ∨ (nots ws i = nots ws (i + 1) + 1 ∧ i < ws.length ∧ ws.getD i [] = wNOT) := nots_take _ i rfl
theorem isA_iff {i : Nat} {w : Bytes} : isA ws i w = true ↔ i < ws.length ∧ ws.getD i [] = w := by unfold isA; simp
def Sim (ok : List Bytes → Prop) (f : Nat → PR) (O : List Bytes) : Prop := ∀ i out,
  ((f i).ok = true → ∃ out' P, ok P ∧ out' ++ pk P = out ++ (f i).out ∧ mach ws i out O true = mach ws (f i).pos out' (P ++ O) false) ∧
  ((f i).ok = false → mach ws i out O true = .error (f i).pos)
def okP (P : List Bytes) : Prop := ∀ w ∈ P, w = wNOT
def okA (P : List Bytes) : Prop := ∀ w ∈ P, w = wNOT ∨ w = wAND
def okO (P : List Bytes) : Prop := ∀ w ∈ P, w = wNOT ∨ w = wAND ∨ w = wOR
def Prog (ws : List Bytes) (f : Nat → PR) : Prop := ∀ i, i ≤ ws.length → (f i).pos ≤ ws.length ∧ ((f i).ok = true → i < (f i).pos)
end
end R40
end Go.Proofs.YtngjdmhpljmkpaaDoor

namespace Go.Proofs.YtngjdmhpljmkpaaDoor
open Go.GV
namespace R40
section
variable {ws : List Bytes}
def SimP (ws : List Bytes) (lo : Nat) (ok : List Bytes → Prop) (f : Nat → PR) (O : List Bytes) : Prop := ∀ i, lo ≤ i → i ≤ ws.length → ∀ out,
  ((f i).ok = true → ∃ out' P, ok P ∧ out' ++ pk P = out ++ (f i).out ∧ mach ws i out O true = mach ws (f i).pos out' (P ++ O) false) ∧
  ((f i).ok = false → mach ws i out O true = .error (f i).pos)
def Base (O : List Bytes) : Prop := O = [] ∨ ∃ r, O = wLP :: r
theorem Base.red {O : List Bytes} (h : Base O) (all : Bool) (out : List Test) : R40.red all out O = (out, O) := by
  rcases h with rfl | ⟨r, rfl⟩
  · rfl
  · rw [R40.red, if_pos (.inl rfl)]
end
end R40
end Go.Proofs.YtngjdmhpljmkpaaDoor

namespace Go.Proofs.YtngjdmhpljmkpaaDoor
open Go.GV
namespace R40
structure PT where
  out : List Test
  at_ : Int
  e : Int
def parseV (ws : List Bytes) : PT := if ws = [] then ⟨[], 0, 0⟩ else if (orN ws (ws.length + 1) 0).ok = false ∨ (orN ws (ws.length + 1) 0).pos < ws.length then ⟨[], (orN ws (ws.length + 1) 0).pos, 3⟩ else if 32 < (orN ws (ws.length + 1) 0).out.length then ⟨[], 0, 8⟩ else ⟨(orN ws (ws.length + 1) 0).out, 0, 0⟩
def machV (ws : List Bytes) : PT := if ws = [] then ⟨[], 0, 0⟩ else match mach ws 0 [] [] true with
  | .error i => ⟨[], i, 3⟩
  | .ok T => if 32 < T.length then ⟨[], 0, 8⟩ else ⟨T, 0, 0⟩
def strength : Node → Nat
  | .leaf _ _ => 2
  | .neg _ => 2
  | .pair b _ _ => if b = true then 1 else 0
def leafW (t : Test) : List Bytes := if t.Kind = 0 then [t.Step, wRC, rels.getD t.Op.toNat [], Lib.decDigits t.N.toNat] else if t.Kind = 1 then [t.Step, wFAILED] else if t.Kind = 2 then [t.Step, wRAN] else [wFAILED]
def inP (b : Bool) (l : List Bytes) : List Bytes := if b = true then [wLP] ++ l ++ [wRP] else l
def wordsV : Node → Nat → List Bytes
  | .leaf t _, least => inP (decide (2 < least)) (leafW t)
  | .neg x, least => inP (decide (2 < least)) ([wNOT] ++ wordsV x 2)
  | .pair b x y, least => inP (decide ((if b = true then 1 else 0) < least)) (wordsV x (if b = true then 1 else 0) ++ [if b = true then wAND else wOR] ++ wordsV y ((if b = true then 1 else 0) + 1))
def formatV (ts : List Test) : List Bytes := match treeV stepV ts with
  | none => []
  | some x => wordsV x 0
section
variable {ws : List Bytes}
def At (ws : List Bytes) (i : Nat) (l : List Bytes) : Prop := ∃ r, ws.drop i = l ++ r
theorem At.len {i : Nat} {l : List Bytes} (h : At ws i l) (hl : l ≠ []) : i + l.length ≤ ws.length := by
  obtain ⟨r, h⟩ := h
  have := congrArg List.length h
  rw [List.length_drop, List.length_append] at this
  have : 0 < l.length := List.length_pos_iff.2 hl
  omega
theorem At.app {i : Nat} {l m : List Bytes} (h : At ws i (l ++ m)) : At ws i l ∧ At ws (i + l.length) m := by
  obtain ⟨r, h⟩ := h
  refine ⟨⟨m ++ r, by rw [h, List.append_assoc]⟩, r, ?_⟩
  rw [← List.drop_drop, h, List.append_assoc, List.drop_left']
  rfl
theorem At.word {i : Nat} {w : Bytes} {l : List Bytes} (h : At ws i (w :: l)) : i < ws.length ∧ ws.getD i [] = w ∧ At ws (i + 1) l := by
  have h1 := h.len (List.cons_ne_nil _ _)
  have h2 := (At.app (l := [w]) (m := l) h).2
  obtain ⟨r, h⟩ := h
  refine ⟨by simp at h1; omega, ?_, h2⟩
  have := congrArg List.head? h
  rw [List.head?_drop, List.cons_append, List.head?_cons] at this
  rw [List.getD_eq_getElem?_getD, this]; rfl
theorem numC_dec {n : Int} (h0 : 0 ≤ n) (h1 : n ≤ 4095) : numC (Lib.decDigits n.toNat) = some n := by
  unfold numC
  rw [R44.dec_val, if_pos ⟨by omega, rfl⟩]
  congr 1; omega
theorem chainL_fuel {pf : Nat → PR} {w : Bytes} {k : Int} (hp : Prog ws pf) : ∀ (n m : Nat) (a : PR), a.pos ≤ ws.length → ws.length < a.pos + n → ws.length < a.pos + m → chainL ws pf w k n a = chainL ws pf w k m a
  | 0, _, a, h, hn, _ => absurd hn (by omega)
  | _ + 1, 0, a, h, _, hm => absurd hm (by omega)
  | n + 1, m + 1, a, h, hn, hm => by
    rw [chainL, chainL]
    split
    · rename_i h1
      have h0 := (isA_iff.1 h1).1
      have h2 := hp (a.pos + 1) (by omega)
      split
      · rename_i h3
        have := h2.2 h3
        exact chainL_fuel hp n m _ h2.1 (by show _ < (pf (a.pos + 1)).pos + n; omega) (by show _ < (pf (a.pos + 1)).pos + m; omega)
      · rfl
    · rfl
theorem chainL_no {pf : Nat → PR} {w : Bytes} {k : Int} {n : Nat} {a : PR} (h : isA ws a.pos w = false) : chainL ws pf w k n a = a := by
  cases n with
  | zero => rfl
  | succ n => rw [chainL, if_neg (by rw [h]; decide)]
def Cont (ws : List Bytes) (pf : Nat → PR) (w : Bytes) (k : Int) (i j : Nat) (T : List Test) : Prop := chainG ws pf w k i = chainL ws pf w k (ws.length + 1) ⟨true, j, T⟩
theorem Cont.first {pf : Nat → PR} {w : Bytes} {k : Int} {i j : Nat} {T : List Test} (h : pf i = ⟨true, j, T⟩) : Cont ws pf w k i j T := by
  unfold Cont chainG; rw [h, if_pos rfl]
theorem Cont.next {pf : Nat → PR} {w : Bytes} {k : Int} {i j j2 : Nat} {T T2 : List Test} (hp : Prog ws pf) (h : Cont ws pf w k i j T) (hw : isA ws j w = true) (h2 : pf (j + 1) = ⟨true, j2, T2⟩) : Cont ws pf w k i j2 (T ++ T2 ++ [bare k]) := by
  unfold Cont at *
  rw [h, chainL, if_pos hw, h2, if_pos rfl]
  have h0 := (isA_iff.1 hw).1
  have h3 := hp (j + 1) (by omega)
  rw [h2] at h3
  have h4 : j + 1 < j2 := h3.2 rfl
  exact chainL_fuel hp _ _ _ h3.1 (by show _ < j2 + _; omega) (by show _ < j2 + _; omega)
theorem Cont.done {pf : Nat → PR} {w : Bytes} {k : Int} {i j : Nat} {T : List Test} (h : Cont ws pf w k i j T) (hw : isA ws j w = false) : chainG ws pf w k i = ⟨true, j, T⟩ := by
  unfold Cont at h; rw [h, chainL_no hw]
def need : Node → Nat × Nat
  | .leaf _ _ => (0, 0)
  | .neg x => ((need x).2, (need x).2)
  | .pair _ x y => (max (need x).2 (need y).2, max (need x).2 (need y).2 + 1)
def L0 (ws : List Bytes) (m i j : Nat) (T : List Test) : Prop := Cont ws (andG ws (orN ws m)) wOR 6 i j T
def L1 (ws : List Bytes) (m i j : Nat) (T : List Test) : Prop := Cont ws (partG ws (orN ws m)) wAND 5 i j T
def L2 (ws : List Bytes) (m i j : Nat) (T : List Test) : Prop := partG ws (orN ws m) i = ⟨true, j, T⟩
end
end R40
end Go.Proofs.YtngjdmhpljmkpaaDoor

namespace Go.Proofs.YtngjdmhpljmkpaaDoor
open Go.GV Go.Sort
def srt (xs : List Bytes) : List Bytes := xs.mergeSort fun x y => decide (x ≤ y)
def cmp (xs : List Bytes) : List Bytes := Lib.compact xs
theorem less_iff : ∀ (a b : Bytes), Op.bytesLess a b = true ↔ a < b
  | _, [] => by constructor <;> intro h <;> simp_all [Op.bytesLess]
  | [], y :: b => by simp [Op.bytesLess]
  | x :: a, y :: b => by
    rw [Op.bytesLess, List.cons_lt_cons_iff, Bool.or_eq_true, Bool.and_eq_true, less_iff a b]
    simp
namespace Ord
theorem le_iff (a b : Bytes) : decide (a ≤ b) = !Op.bytesLess b a := by
  rw [Bool.eq_iff_iff, decide_eq_true_eq, Bool.not_eq_true']
  show ¬ b < a ↔ _
  rw [← less_iff]
  simp
theorem not_lt {a b : Bytes} (h : ¬ lt a b) : b = a ∨ lt b a := by
  rcases tri a b with h2 | h2 | h2
  · exact absurd h2 h
  · exact .inl h2.symm
  · exact .inr h2
theorem unique : ∀ {l m : List Bytes}, l.Pairwise lt → m.Pairwise lt → (∀ x, x ∈ l ↔ x ∈ m) → l = m
  | [], [], _, _, _ => rfl
  | [], y :: m, _, _, h => by have := (h y).2 (by simp); cases this
  | x :: l, [], _, _, h => by have := (h x).1 (by simp); cases this
  | x :: l, y :: m, h1, h2, h => by
    rw [List.pairwise_cons] at h1 h2
    have hxy : x = y := by
      rcases tri x y with h3 | h3 | h3
      · rcases List.mem_cons.1 ((h x).1 (by simp)) with h4 | h4
        · exact h4
        · exact absurd (h2.1 x h4) (asymm h3)
      · exact h3
      · rcases List.mem_cons.1 ((h y).2 (by simp)) with h4 | h4
        · exact h4.symm
        · exact absurd (h1.1 y h4) (asymm h3)
    subst hxy
    congr 1
    refine unique h1.2 h2.2 fun z => ⟨fun hz => ?_, fun hz => ?_⟩
    · rcases List.mem_cons.1 ((h z).1 (by simp [hz])) with h4 | h4
      · subst h4; exact absurd (h1.1 z hz) (irr z)
      · exact h4
    · rcases List.mem_cons.1 ((h z).2 (by simp [hz])) with h4 | h4
      · subst h4; exact absurd (h2.1 z hz) (irr z)
      · exact h4
theorem compact_inv (d : Array Bytes) (hs : ∀ i j, i < j → j < d.size → ¬ lt d[j]! d[i]!) : ∀ m, m ≤ d.size → (Lib.compactUpTo d m).Pairwise lt ∧ ∀ x, x ∈ Lib.compactUpTo d m ↔ ∃ j, j < m ∧ d[j]! = x
  | 0, _ => ⟨.nil, fun x => ⟨fun h => (by cases h), fun ⟨j, h, _⟩ => absurd h (Nat.not_lt_zero _)⟩⟩
  | m + 1, hm => by
    obtain ⟨h1, h2⟩ := compact_inv d hs m (by omega)
    rw [Lib.compactUpTo_succ]
    cases hk : Lib.keeps d m with
    | true =>
      rw [if_pos rfl]
      refine ⟨List.pairwise_append.2 ⟨h1, List.pairwise_singleton _ _, fun x hx y hy => ?_⟩, fun x => ?_⟩
      · rw [List.mem_singleton] at hy; subst hy
        obtain ⟨j, hj, rfl⟩ := (h2 x).1 hx
        rcases not_lt (hs j m hj (by omega)) with h3 | h3
        · exfalso
          have hne : d[m]! ≠ d[m - 1]! := by
            intro e
            rw [Lib.keeps_neg (by omega) e] at hk; cases hk
          by_cases hjm : j = m - 1
          · subst hjm; exact hne h3.symm
          · rcases not_lt (hs j (m - 1) (by omega) (by omega)) with h4 | h4
            · exact hne (by rw [← h3, h4])
            · have := hs (m - 1) m (by omega) (by omega)
              rw [← h3] at this
              exact this h4
        · exact h3
      · rw [List.mem_append, h2 x, List.mem_singleton]
        constructor
        · rintro (⟨j, hj, e⟩ | rfl)
          · exact ⟨j, by omega, e⟩
          · exact ⟨m, by omega, rfl⟩
        · rintro ⟨j, hj, e⟩
          by_cases h : j = m
          · subst h; exact .inr e.symm
          · exact .inl ⟨j, by omega, e⟩
    | false =>
      rw [if_neg (by decide), List.append_nil]
      refine ⟨h1, fun x => ?_⟩
      rw [h2 x]
      constructor
      · rintro ⟨j, hj, e⟩; exact ⟨j, by omega, e⟩
      · rintro ⟨j, hj, e⟩
        by_cases h : j = m
        · subst h
          have h0 : 0 < j := by
            rcases Nat.eq_zero_or_pos j with h0 | h0
            · subst h0
              rw [Lib.keeps_lt_one d 0 (by omega)] at hk; cases hk
            · exact h0
          by_cases he : d[j]! = d[j - 1]!
          · exact ⟨j - 1, by omega, by rw [← he]; exact e⟩
          · rw [Lib.keeps_pos he] at hk; cases hk
        · exact ⟨j, by omega, e⟩
theorem srt_sorted (xs : List Bytes) : (srt xs).Pairwise fun a b => ¬ lt b a := by
  have h := List.pairwise_mergeSort (le := fun x y : Bytes => decide (x ≤ y)) (fun a b c h1 h2 => ?_) (fun a b => ?_) xs
  · refine List.Pairwise.imp (fun {a b} hab => ?_) h
    rw [le_iff] at hab
    intro h2
    unfold lt at h2
    rw [h2] at hab; cases hab
  · rw [le_iff] at *
    rw [Bool.not_eq_true'] at *
    rw [Bool.eq_false_iff]
    intro h3
    have n1 : ¬ lt b a := by unfold lt; rw [h1]; decide
    have n2 : ¬ lt c b := by unfold lt; rw [h2]; decide
    have h3 : lt c a := h3
    rcases not_lt n1 with e | e
    · subst e; exact n2 h3
    · exact n2 (trans h3 e)
  · rw [le_iff, le_iff]
    cases h1 : Op.bytesLess b a with
    | false => rfl
    | true =>
      have : ¬ lt a b := asymm h1
      cases h2 : Op.bytesLess a b with
      | false => rfl
      | true => exact absurd h2 this
theorem srt_mem (xs : List Bytes) (x : Bytes) : x ∈ srt xs ↔ x ∈ xs := (List.mergeSort_perm xs _).mem_iff
theorem cs_spec (xs : List Bytes) : (cmp (srt xs)).Pairwise lt ∧ ∀ x, x ∈ cmp (srt xs) ↔ x ∈ xs := by
  have hget : ∀ j, j < (srt xs).length → (srt xs).toArray[j]! = (srt xs).getD j [] := fun j hj => by
    rw [List.getD_eq_getElem?_getD, List.getElem?_eq_getElem hj]
    simp [getElem!_pos, hj]
  have h := compact_inv (srt xs).toArray (fun i j hij hj => ?_) (srt xs).length (by simp)
  · refine ⟨h.1, fun x => ?_⟩
    have := h.2 x
    show x ∈ Lib.compactUpTo (srt xs).toArray (srt xs).length ↔ _
    rw [this, ← srt_mem]
    constructor
    · rintro ⟨j, hj, rfl⟩
      rw [hget j hj, List.getD_eq_getElem?_getD, List.getElem?_eq_getElem hj]
      exact List.getElem_mem hj
    · intro hx
      obtain ⟨j, hj, rfl⟩ := List.getElem_of_mem hx
      exact ⟨j, hj, by rw [hget j hj, List.getD_eq_getElem?_getD, List.getElem?_eq_getElem hj]; rfl⟩
  · have hj' : j < (srt xs).length := by simpa using hj
    rw [hget j hj', hget i (by omega), List.getD_eq_getElem?_getD, List.getElem?_eq_getElem hj', List.getD_eq_getElem?_getD, List.getElem?_eq_getElem (show i < (srt xs).length by omega)]
    exact List.pairwise_iff_getElem.1 (srt_sorted xs) i j (by omega) hj' hij
def ins : List Bytes → Bytes → List Bytes
  | [], s => [s]
  | x :: l, s => if Op.bytesLess x s = true then x :: ins l s else if x = s then x :: l else s :: x :: l
theorem ins_mem : ∀ (l : List Bytes) (s x : Bytes), x ∈ ins l s ↔ x = s ∨ x ∈ l
  | [], s, x => by simp [ins]
  | y :: l, s, x => by
    unfold ins
    split
    · rw [List.mem_cons, ins_mem l s x, List.mem_cons]
      constructor
      · rintro (h | h | h)
        · exact .inr (.inl h)
        · exact .inl h
        · exact .inr (.inr h)
      · rintro (h | h | h)
        · exact .inr (.inl h)
        · exact .inl h
        · exact .inr (.inr h)
    · split
      · rename_i h; subst h
        constructor
        · intro h; exact .inr h
        · rintro (rfl | h)
          · simp
          · exact h
      · rw [List.mem_cons]
theorem ins_sorted : ∀ (l : List Bytes) (s : Bytes), l.Pairwise lt → (ins l s).Pairwise lt
  | [], s, _ => List.pairwise_singleton _ _
  | y :: l, s, h => by
    rw [List.pairwise_cons] at h
    unfold ins
    split
    · rename_i h1
      refine List.pairwise_cons.2 ⟨fun z hz => ?_, ins_sorted l s h.2⟩
      rcases (ins_mem l s z).1 hz with rfl | hz
      · exact h1
      · exact h.1 z hz
    · rename_i h1
      split
      · exact List.pairwise_cons.2 h
      · rename_i h2
        have hsy : lt s y := by
          rcases not_lt (a := y) (b := s) h1 with e | e
          · exact absurd e.symm h2
          · exact e
        exact List.pairwise_cons.2 ⟨fun z hz => by
          rcases List.mem_cons.1 hz with rfl | hz
          · exact hsy
          · exact trans hsy (h.1 z hz), List.pairwise_cons.2 h⟩
def insl (ys : List Bytes) : List Bytes := ys.foldl ins []
theorem fold_spec : ∀ (ys l : List Bytes), l.Pairwise lt → (ys.foldl ins l).Pairwise lt ∧ ∀ x, x ∈ ys.foldl ins l ↔ x ∈ ys ∨ x ∈ l
  | [], l, h => ⟨h, fun x => by simp⟩
  | y :: ys, l, h => by
    obtain ⟨h1, h2⟩ := fold_spec ys (ins l y) (ins_sorted l y h)
    refine ⟨h1, fun x => ?_⟩
    rw [List.foldl_cons, h2 x, ins_mem, List.mem_cons]
    constructor
    · rintro (h | h | h)
      · exact .inl (.inr h)
      · exact .inl (.inl h)
      · exact .inr h
    · rintro ((h | h) | h)
      · exact .inr (.inl h)
      · exact .inl h
      · exact .inr (.inr h)
theorem same (ys : List Bytes) : cmp (srt ys) = insl ys := by
  have h1 := cs_spec ys
  have h2 := fold_spec ys [] .nil
  refine unique h1.1 h2.1 fun x => ?_
  rw [h1.2 x]
  show _ ↔ x ∈ ys.foldl ins []
  rw [h2.2 x]
  simp
theorem ins_len (l : List Bytes) (s : Bytes) : (ins l s).length ≤ l.length + 1 := by
  induction l with
  | nil => exact Nat.le_refl _
  | cons x l ih =>
    unfold ins
    split
    · rw [List.length_cons, List.length_cons]; omega
    · split
      · rw [List.length_cons]; omega
      · rw [List.length_cons]; exact Nat.le_refl _
end Ord
end Go.Proofs.YtngjdmhpljmkpaaDoor

namespace Go.Proofs.YtngjdmhpljmkpaaDoor
open Go.GV
namespace R40
def refersV (ts : List Test) : List Bytes := Ord.insl ((ts.map (·.Step)).filter fun s => decide (s ≠ []))
section
variable {ws : List Bytes}
def GoodR (r : PR) : Prop := r.ok = true → ∃ x, good stepV x ∧ post x = r.out
end
end R40
end Go.Proofs.YtngjdmhpljmkpaaDoor
