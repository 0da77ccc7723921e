/- Sq, Pl40f, Pw40, C40a, GvTa, C40b, GvLt in one text. -/
import Derived.Test.YtngjdmhpljmkpaaGreatDoorConditionValues6
import Derived.Lib.SlicesCompact
import Derived.Test.YtngjdmhpljmkpaaGreatDoorConditionValues7
import Derived.Test.YtngjdmhpljmkpaaGreatDoorConditionValues3
import Derived.Test.YtngjdmhpljmkpaaGreatDoorConditionValues5
import Derived.Test.YtngjdmhpljmkpaaGreatDoorConditionValues4
set_option linter.unusedVariables false
set_option linter.unusedSimpArgs false
namespace Go.Proofs.YtngjdmhpljmkpaaGreatDoor
open Go.GV Go.Sort
def srt (xs : List Bytes) : List Bytes := xs.mergeSort fun x y => decide (x ≤ y)
def cmp (xs : List Bytes) : List Bytes := Lib.compact xs
theorem srt_length (xs : List Bytes) : (srt xs).length = xs.length := List.length_mergeSort xs
theorem cmp_length (xs : List Bytes) : (cmp xs).length ≤ xs.length := by
  unfold cmp Lib.compact Lib.compactUpTo
  rw [List.length_map]
  exact Nat.le_trans (List.length_filter_le _ _) (by simp)
theorem less_iff : ∀ (a b : Bytes), Op.bytesLess a b = true ↔ a < b
  | _, [] => by constructor <;> intro h <;> simp_all [Op.bytesLess]
  | [], y :: b => by simp [Op.bytesLess]
  | x :: a, y :: b => by
    rw [Op.bytesLess, List.cons_lt_cons_iff, Bool.or_eq_true, Bool.and_eq_true, less_iff a b]
    simp
namespace Ord
theorem le_iff (a b : Bytes) : decide (a ≤ b) = !Op.bytesLess b a := by
  rw [Bool.eq_iff_iff, decide_eq_true_eq, Bool.not_eq_true']
  show ¬ b < a ↔ _
  rw [← less_iff]
  simp
theorem not_lt {a b : Bytes} (h : ¬ lt a b) : b = a ∨ lt b a := by
  rcases tri a b with h2 | h2 | h2
  · exact absurd h2 h
  · exact .inl h2.symm
  · exact .inr h2
theorem unique : ∀ {l m : List Bytes}, l.Pairwise lt → m.Pairwise lt → (∀ x, x ∈ l ↔ x ∈ m) → l = m
  | [], [], _, _, _ => rfl
  | [], y :: m, _, _, h => by have := (h y).2 (by simp); cases this
  | x :: l, [], _, _, h => by have := (h x).1 (by simp); cases this
  | x :: l, y :: m, h1, h2, h => by
    rw [List.pairwise_cons] at h1 h2
    have hxy : x = y := by
      rcases tri x y with h3 | h3 | h3
      · rcases List.mem_cons.1 ((h x).1 (by simp)) with h4 | h4
        · exact h4
        · exact absurd (h2.1 x h4) (asymm h3)
      · exact h3
      · rcases List.mem_cons.1 ((h y).2 (by simp)) with h4 | h4
        · exact h4.symm
        · exact absurd (h1.1 y h4) (asymm h3)
    subst hxy
    congr 1
    refine unique h1.2 h2.2 fun z => ⟨fun hz => ?_, fun hz => ?_⟩
    · rcases List.mem_cons.1 ((h z).1 (by simp [hz])) with h4 | h4
      · subst h4; exact absurd (h1.1 z hz) (irr z)
      · exact h4
    · rcases List.mem_cons.1 ((h z).2 (by simp [hz])) with h4 | h4
      · subst h4; exact absurd (h2.1 z hz) (irr z)
      · exact h4
theorem compact_inv (d : Array Bytes) (hs : ∀ i j, i < j → j < d.size → ¬ lt d[j]! d[i]!) : ∀ m, m ≤ d.size → (Lib.compactUpTo d m).Pairwise lt ∧ ∀ x, x ∈ Lib.compactUpTo d m ↔ ∃ j, j < m ∧ d[j]! = x
  | 0, _ => ⟨.nil, fun x => ⟨fun h => (by cases h), fun ⟨j, h, _⟩ => absurd h (Nat.not_lt_zero _)⟩⟩
  | m + 1, hm => by
    obtain ⟨h1, h2⟩ := compact_inv d hs m (by omega)
    rw [Lib.compactUpTo_succ]
    cases hk : Lib.keeps d m with
    | true =>
      rw [if_pos rfl]
      refine ⟨List.pairwise_append.2 ⟨h1, List.pairwise_singleton _ _, fun x hx y hy => ?_⟩, fun x => ?_⟩
      · rw [List.mem_singleton] at hy; subst hy
        obtain ⟨j, hj, rfl⟩ := (h2 x).1 hx
        rcases not_lt (hs j m hj (by omega)) with h3 | h3
        · exfalso
          have hne : d[m]! ≠ d[m - 1]! := by
            intro e
            rw [Lib.keeps_neg (by omega) e] at hk; cases hk
          by_cases hjm : j = m - 1
          · subst hjm; exact hne h3.symm
          · rcases not_lt (hs j (m - 1) (by omega) (by omega)) with h4 | h4
            · exact hne (by rw [← h3, h4])
            · have := hs (m - 1) m (by omega) (by omega)
              rw [← h3] at this
              exact this h4
        · exact h3
      · rw [List.mem_append, h2 x, List.mem_singleton]
        constructor
        · rintro (⟨j, hj, e⟩ | rfl)
          · exact ⟨j, by omega, e⟩
          · exact ⟨m, by omega, rfl⟩
        · rintro ⟨j, hj, e⟩
          by_cases h : j = m
          · subst h; exact .inr e.symm
          · exact .inl ⟨j, by omega, e⟩
    | false =>
      rw [if_neg (by decide), List.append_nil]
      refine ⟨h1, fun x => ?_⟩
      rw [h2 x]
      constructor
      · rintro ⟨j, hj, e⟩; exact ⟨j, by omega, e⟩
      · rintro ⟨j, hj, e⟩
        by_cases h : j = m
        · subst h
          have h0 : 0 < j := by
            rcases Nat.eq_zero_or_pos j with h0 | h0
            · subst h0
              rw [Lib.keeps_lt_one d 0 (by omega)] at hk; cases hk
            · exact h0
          by_cases he : d[j]! = d[j - 1]!
          · exact ⟨j - 1, by omega, by rw [← he]; exact e⟩
          · rw [Lib.keeps_pos he] at hk; cases hk
        · exact ⟨j, by omega, e⟩
theorem srt_sorted (xs : List Bytes) : (srt xs).Pairwise fun a b => ¬ lt b a := by
  have h := List.pairwise_mergeSort (le := fun x y : Bytes => decide (x ≤ y)) (fun a b c h1 h2 => ?_) (fun a b => ?_) xs
  · refine List.Pairwise.imp (fun {a b} hab => ?_) h
    rw [le_iff] at hab
    intro h2
    unfold lt at h2
    rw [h2] at hab; cases hab
  · rw [le_iff] at *
    rw [Bool.not_eq_true'] at *
    rw [Bool.eq_false_iff]
    intro h3
    have n1 : ¬ lt b a := by unfold lt; rw [h1]; decide
    have n2 : ¬ lt c b := by unfold lt; rw [h2]; decide
    have h3 : lt c a := h3
    rcases not_lt n1 with e | e
    · subst e; exact n2 h3
    · exact n2 (trans h3 e)
  · rw [le_iff, le_iff]
    cases h1 : Op.bytesLess b a with
    | false => rfl
    | true =>
      have : ¬ lt a b := asymm h1
      cases h2 : Op.bytesLess a b with
      | false => rfl
      | true => exact absurd h2 this
theorem srt_mem (xs : List Bytes) (x : Bytes) : x ∈ srt xs ↔ x ∈ xs := (List.mergeSort_perm xs _).mem_iff
theorem cs_spec (xs : List Bytes) : (cmp (srt xs)).Pairwise lt ∧ ∀ x, x ∈ cmp (srt xs) ↔ x ∈ xs := by
  have hget : ∀ j, j < (srt xs).length → (srt xs).toArray[j]! = (srt xs).getD j [] := fun j hj => by
    rw [List.getD_eq_getElem?_getD, List.getElem?_eq_getElem hj]
    simp [getElem!_pos, hj]
  have h := compact_inv (srt xs).toArray (fun i j hij hj => ?_) (srt xs).length (by simp)
  · refine ⟨h.1, fun x => ?_⟩
    have := h.2 x
    show x ∈ Lib.compactUpTo (srt xs).toArray (srt xs).length ↔ _
    rw [this, ← srt_mem]
    constructor
    · rintro ⟨j, hj, rfl⟩
      rw [hget j hj, List.getD_eq_getElem?_getD, List.getElem?_eq_getElem hj]
      exact List.getElem_mem hj
    · intro hx
      obtain ⟨j, hj, rfl⟩ := List.getElem_of_mem hx
      exact ⟨j, hj, by rw [hget j hj, List.getD_eq_getElem?_getD, List.getElem?_eq_getElem hj]; rfl⟩
  · have hj' : j < (srt xs).length := by simpa using hj
    rw [hget j hj', hget i (by omega), List.getD_eq_getElem?_getD, List.getElem?_eq_getElem hj', List.getD_eq_getElem?_getD, List.getElem?_eq_getElem (show i < (srt xs).length by omega)]
    exact List.pairwise_iff_getElem.1 (srt_sorted xs) i j (by omega) hj' hij
def ins : List Bytes → Bytes → List Bytes
  | [], s => [s]
  | x :: l, s => if Op.bytesLess x s = true then x :: ins l s else if x = s then x :: l else s :: x :: l
theorem ins_mem : ∀ (l : List Bytes) (s x : Bytes), x ∈ ins l s ↔ x = s ∨ x ∈ l
  | [], s, x => by simp [ins]
  | y :: l, s, x => by
    unfold ins
    split
    · rw [List.mem_cons, ins_mem l s x, List.mem_cons]
      constructor
      · rintro (h | h | h)
        · exact .inr (.inl h)
        · exact .inl h
        · exact .inr (.inr h)
      · rintro (h | h | h)
        · exact .inr (.inl h)
        · exact .inl h
        · exact .inr (.inr h)
    · split
      · rename_i h; subst h
        constructor
        · intro h; exact .inr h
        · rintro (rfl | h)
          · simp
          · exact h
      · rw [List.mem_cons]
theorem ins_sorted : ∀ (l : List Bytes) (s : Bytes), l.Pairwise lt → (ins l s).Pairwise lt
  | [], s, _ => List.pairwise_singleton _ _
  | y :: l, s, h => by
    rw [List.pairwise_cons] at h
    unfold ins
    split
    · rename_i h1
      refine List.pairwise_cons.2 ⟨fun z hz => ?_, ins_sorted l s h.2⟩
      rcases (ins_mem l s z).1 hz with rfl | hz
      · exact h1
      · exact h.1 z hz
    · rename_i h1
      split
      · exact List.pairwise_cons.2 h
      · rename_i h2
        have hsy : lt s y := by
          rcases not_lt (a := y) (b := s) h1 with e | e
          · exact absurd e.symm h2
          · exact e
        exact List.pairwise_cons.2 ⟨fun z hz => by
          rcases List.mem_cons.1 hz with rfl | hz
          · exact hsy
          · exact trans hsy (h.1 z hz), List.pairwise_cons.2 h⟩
def insl (ys : List Bytes) : List Bytes := ys.foldl ins []
theorem fold_spec : ∀ (ys l : List Bytes), l.Pairwise lt → (ys.foldl ins l).Pairwise lt ∧ ∀ x, x ∈ ys.foldl ins l ↔ x ∈ ys ∨ x ∈ l
  | [], l, h => ⟨h, fun x => by simp⟩
  | y :: ys, l, h => by
    obtain ⟨h1, h2⟩ := fold_spec ys (ins l y) (ins_sorted l y h)
    refine ⟨h1, fun x => ?_⟩
    rw [List.foldl_cons, h2 x, ins_mem, List.mem_cons]
    constructor
    · rintro (h | h | h)
      · exact .inl (.inr h)
      · exact .inl (.inl h)
      · exact .inr h
    · rintro ((h | h) | h)
      · exact .inr (.inl h)
      · exact .inl h
      · exact .inr (.inr h)
theorem same (ys : List Bytes) : cmp (srt ys) = insl ys := by
  have h1 := cs_spec ys
  have h2 := fold_spec ys [] .nil
  refine unique h1.1 h2.1 fun x => ?_
  rw [h1.2 x]
  show _ ↔ x ∈ ys.foldl ins []
  rw [h2.2 x]
  simp
theorem ins_len (l : List Bytes) (s : Bytes) : (ins l s).length ≤ l.length + 1 := by
  induction l with
  | nil => exact Nat.le_refl _
  | cons x l ih =>
    unfold ins
    split
    · rw [List.length_cons, List.length_cons]; omega
    · split
      · rw [List.length_cons]; omega
      · rw [List.length_cons]; exact Nat.le_refl _
theorem ins_at : ∀ (k : Nat) (l : List Bytes) (s : Bytes), k ≤ l.length → (∀ i, i < k → Op.bytesLess (l.getD i []) s = true) → (k < l.length → Op.bytesLess (l.getD k []) s = false) → ins l s = l.take k ++ (if k < l.length ∧ l.getD k [] = s then l.drop k else s :: l.drop k)
  | 0, [], s, _, _, _ => rfl
  | 0, x :: l, s, _, _, h3 => by
    have h4 : Op.bytesLess x s = false := h3 (by simp)
    unfold ins
    rw [if_neg (by rw [h4]; decide)]
    by_cases h : x = s
    · rw [if_pos h, if_pos ⟨by simp, h⟩]; rfl
    · rw [if_neg h, if_neg (fun h2 => h h2.2)]; rfl
  | k + 1, [], s, h, _, _ => by simp at h
  | k + 1, x :: l, s, h, h2, h3 => by
    have h4 : Op.bytesLess x s = true := h2 0 (by omega)
    unfold ins
    rw [if_pos h4, ins_at k l s (by simpa using h) (fun i hi => h2 (i + 1) (by omega)) (fun hk => h3 (by simpa using hk))]
    simp
end Ord
end Go.Proofs.YtngjdmhpljmkpaaGreatDoor

namespace Go.Proofs.YtngjdmhpljmkpaaGreatDoor
open Go.GV
namespace R40
def refersV (ts : List Test) : List Bytes := Ord.insl ((ts.map (·.Step)).filter fun s => decide (s ≠ []))
section
variable {ws : List Bytes}
def GoodR (r : PR) : Prop := r.ok = true → ∃ x, good stepV x ∧ post x = r.out
end
end R40
end Go.Proofs.YtngjdmhpljmkpaaGreatDoor

namespace Go.Proofs.YtngjdmhpljmkpaaGreatDoor
open Go.GV
namespace R40
theorem related_list {c op n : Int} (h0 : 0 ≤ op) (h1 : op ≤ 5) : (([decide (c < n), decide (c ≤ n), decide (c = n), decide (c ≠ n), decide (n ≤ c), decide (n < c)] : List Bool).getD op.toNat false) = related c op n := by
  have : op = 0 ∨ op = 1 ∨ op = 2 ∨ op = 3 ∨ op = 4 ∨ op = 5 := by omega
  rcases this with rfl | rfl | rfl | rfl | rfl | rfl <;> rfl
section
variable {t : Test} {e : StepEnd}
theorem holds_0 (h : t.Kind = 0) : (((e.Ran && (!e.Failed)) && (related e.Code t.Op t.N)) : Bool) = holds t e := by unfold holds; rw [if_pos h]
theorem holds_1 (h0 : ¬ t.Kind = 0) (h : t.Kind = 1) : ((e.Ran && e.Failed) : Bool) = holds t e := by unfold holds; rw [if_neg h0, if_pos h]
theorem holds_2 (h0 : ¬ t.Kind = 0) (h : ¬ t.Kind = 1) : e.Ran = holds t e := by unfold holds; rw [if_neg h0, if_neg h]
end
section
variable {l : List Bytes} {s : Bytes} {k : Nat}
theorem idx_cons_ne {x : Bytes} {r : List Bytes} (h : x ≠ s) : idx (x :: r) s = if idx r s < 0 then -1 else idx r s + 1 := by rw [idx, if_neg h]
theorem idx_hit : ∀ {k : Nat} {l : List Bytes}, k < l.length → (∀ i, i < k → l.getD i [] ≠ s) → s = l.getD k [] → (k : Int) = idx l s
  | 0, x :: r, _, _, h => by rw [idx, if_pos (show x = s from h.symm)]; rfl
  | k + 1, x :: r, hk, hn, h => by
    have ih := idx_hit (k := k) (l := r) (by simpa using hk) (fun i hi => hn (i + 1) (by omega)) h
    rw [idx_cons_ne (show x ≠ s from hn 0 (by omega)), ← ih, if_neg (by omega)]; omega
theorem idx_none : ∀ {l : List Bytes}, (∀ i, i < l.length → l.getD i [] ≠ s) → -1 = idx l s
  | [], _ => rfl
  | x :: r, hn => by
    have ih := idx_none (l := r) (fun i hi => hn (i + 1) (by simp; omega))
    rw [idx_cons_ne (show x ≠ s from hn 0 (by simp)), ← ih, if_pos (by omega)]
theorem idx_on : (decide ((0 : Int) ≤ idx l s)) = onP l s := by
  unfold onP
  by_cases h : s ∈ l
  · rw [decide_eq_true (idx_mem.2 h), decide_eq_true h]
  · rw [decide_eq_false (fun e => h (idx_mem.1 e)), decide_eq_false h]
end
section
variable {E : List StepEnd} {k : Nat}
theorem any_yes (hk : k < E.length) (h : failed (E.getD k default) = true) : decide ((0 : Int) ≤ (k : Int)) = E.any failed := by
  rw [decide_eq_true (by omega)]
  exact (List.any_eq_true.2 ⟨_, R44.getD_mem hk, h⟩).symm
theorem any_no (h : ∀ i, i < E.length → failed (E.getD i default) = false) : decide ((0 : Int) ≤ -1) = E.any failed := by
  rw [decide_eq_false (by omega)]
  refine (Bool.eq_false_iff.2 fun h2 => ?_).symm
  obtain ⟨x, hx, h3⟩ := List.any_eq_true.1 h2
  obtain ⟨i, hi, rfl⟩ := List.mem_iff_getElem.1 hx
  have := h i hi
  rw [List.getD_eq_getElem?_getD, List.getElem?_eq_getElem hi] at this
  rw [show failed E[i] = false from this] at h3; cases h3
end
section
variable {P : Bytes → Bool} {ts : List Test} {l : List Node} {k : Nat}
theorem tree_go (hk : k < ts.length) (h : treeG P k l (ts.drop k) = treeG P 0 [] ts) {l' : List Node} (hs : stepT P l k (ts.getD k default) = some l') : treeG P (k + 1) l' (ts.drop (k + 1)) = treeG P 0 [] ts := by
  rw [← h, R44.drop_cons (d := default) hk, treeG, hs]
theorem bare_of {t : Test} {j : Int} (hj : t.Kind = j) (hb : t = Test.mk t.Kind [] 0 0) : t = bare j := by rw [hb]; unfold bare; rw [hj]
theorem tree_neg (hk : k < ts.length) (h : treeG P k l (ts.drop k) = treeG P 0 [] ts) (h4 : (ts.getD k default).Kind = 4) (hb : ts.getD k default = Test.mk (ts.getD k default).Kind [] 0 0) (hn : 1 ≤ l.length) :
    treeG P (k + 1) (l.set (l.length - 1) (Node.neg (l.getD (l.length - 1) default))) (ts.drop (k + 1)) = treeG P 0 [] ts := by
  refine tree_go hk h ?_
  unfold stepT; rw [if_pos ⟨bare_of h4 hb, hn⟩]
theorem tree_pair (hk : k < ts.length) (h : treeG P k l (ts.drop k) = treeG P 0 [] ts) (h5 : (ts.getD k default).Kind = 5 ∨ (ts.getD k default).Kind = 6) (hb : ts.getD k default = Test.mk (ts.getD k default).Kind [] 0 0) (hn : 2 ≤ l.length) :
    treeG P (k + 1) (l.take (l.length - 2) ++ [Node.pair (decide ((ts.getD k default).Kind = 5)) (l.getD (l.length - 2) default) (l.getD (l.length - 1) default)]) (ts.drop (k + 1)) = treeG P 0 [] ts := by
  refine tree_go hk h ?_
  have h4 : ¬ ts.getD k default = bare 4 := fun e => by rw [e] at h5; revert h5; decide
  unfold stepT; rw [if_neg (fun e => h4 e.1), if_pos ⟨h5.imp (fun e => bare_of e hb) (fun e => bare_of e hb), hn⟩]
theorem leaf_1 {t : Test} (h3 : t.Kind = 3) (hb : t = Test.mk t.Kind [] 0 0) : leafOk P t = true := by
  rw [bare_of h3 hb]; unfold leafOk; simp
theorem leaf_2 {t : Test} (h : ((((decide (t.Kind = 1) || decide (t.Kind = 2)) && decide (t.Op = 0)) && decide (t.N = 0)) && P t.Step) = true) : leafOk P t = true := by
  unfold leafOk; rw [h]; simp
theorem leaf_3 {t : Test} (h : ((((((decide (t.Kind = 0)) && (decide ((0 : Int) ≤ t.Op))) && (decide (t.Op ≤ 5))) && (decide ((0 : Int) ≤ t.N))) && (decide (t.N ≤ 4095))) && P t.Step) = true) : leafOk P t = true := by
  unfold leafOk; rw [h]; simp
theorem leaf_no {t : Test} (h1 : ((decide (t.Kind = 3)) && (decide (t = Test.mk t.Kind [] 0 0))) = false) (h2 : ((((decide (t.Kind = 1) || decide (t.Kind = 2)) && decide (t.Op = 0)) && decide (t.N = 0)) && P t.Step) = false)
    (h3 : ((((((decide (t.Kind = 0)) && (decide ((0 : Int) ≤ t.Op))) && (decide (t.Op ≤ 5))) && (decide ((0 : Int) ≤ t.N))) && (decide (t.N ≤ 4095))) && P t.Step) = false) : leafOk P t = false := by
  unfold leafOk
  rw [h2, h3]
  have : decide (t = bare 3) = false := decide_eq_false fun e => by
    rw [e] at h1; revert h1; unfold bare; simp
  rw [this]; rfl
theorem tree_leaf (hk : k < ts.length) (h : treeG P k l (ts.drop k) = treeG P 0 [] ts) (hl : leafOk P (ts.getD k default) = true) : treeG P (k + 1) (l ++ [Node.leaf (ts.getD k default) (k : Int)]) (ts.drop (k + 1)) = treeG P 0 [] ts :=
  tree_go hk h (step_leaf hl)
theorem tree_long (h : 32 < ts.length) : treeV P ts = none := by unfold treeV; rw [if_pos h]
theorem tree_stop (hk : k < ts.length) (h : treeG P k l (ts.drop k) = treeG P 0 [] ts)
    (h4 : (((decide ((ts.getD k default).Kind = 4)) && (decide (((ts.getD k default) : Test) = (Test.mk ((ts.getD k default).Kind) [] 0 0)))) && (decide ((1 : Int) ≤ ((l.length : Nat) : Int)))) = false)
    (h5 : ((((decide ((ts.getD k default).Kind = 5)) || (decide ((ts.getD k default).Kind = 6))) && (decide (((ts.getD k default) : Test) = (Test.mk ((ts.getD k default).Kind) [] 0 0)))) && (decide ((2 : Int) ≤ ((l.length : Nat) : Int)))) = false)
    (hl : leafOk P (ts.getD k default) = false) : treeV P ts = none := by
  have hs : stepT P l k (ts.getD k default) = none := by
    unfold stepT
    rw [if_neg, if_neg, if_neg (by rw [hl]; decide)]
    · rintro ⟨h1, h2⟩
      have e1 : (decide ((ts.getD k default).Kind = 5) || decide ((ts.getD k default).Kind = 6)) = true := by rcases h1 with h1 | h1 <;> rw [h1] <;> rfl
      have e2 : decide (((ts.getD k default) : Test) = (Test.mk ((ts.getD k default).Kind) [] 0 0)) = true := by rcases h1 with h1 | h1 <;> rw [h1] <;> rfl
      rw [e1, e2, decide_eq_true (show (2 : Int) ≤ ((l.length : Nat) : Int) by omega)] at h5; cases h5
    · rintro ⟨h1, h2⟩
      rw [h1, decide_eq_true (show (1 : Int) ≤ ((l.length : Nat) : Int) by omega)] at h4; revert h4; decide
  unfold treeV
  split
  · rfl
  · rw [← h, R44.drop_cons (d := default) hk, treeG, hs]; rfl
theorem tree_end (hk : k = ts.length) (h : treeG P k l (ts.drop k) = treeG P 0 [] ts) (h32 : ts.length ≤ 32) : treeV P ts = one (some l) := by
  unfold treeV
  rw [if_neg (by omega), ← h, hk, List.drop_length]; rfl
theorem tree_len (hk : k = ts.length) (h : treeG P k l (ts.drop k) = treeG P 0 [] ts) (h32 : ts.length ≤ 32) (hl : l.length ≠ 1) : treeV P ts = none := by
  rw [tree_end hk h h32]
  match l, hl with
  | [], _ => rfl
  | [_], hl => exact absurd rfl hl
  | _ :: _ :: _, _ => rfl
theorem tree_one (hk : k = ts.length) (h : treeG P k l (ts.drop k) = treeG P 0 [] ts) (h32 : ts.length ≤ 32) (hl : l.length = 1) : treeV P ts = some (l.getD 0 default) := by
  rw [tree_end hk h h32]
  match l, hl with
  | [x], _ => rfl
end
section
variable {ts : List Test} {steps : List Bytes} {E : List StepEnd} {t : Test} {i : Int}
theorem on_nil (h : ts.length = 0) : onV ts steps = some (.neg (.leaf (bare 3) 0)) := by unfold onV; rw [if_pos (List.length_eq_zero_iff.1 h)]
theorem on_tree (h : ¬ ts.length = 0) : onV ts steps = treeV (onP steps) ts := by unfold onV; rw [if_neg (fun e => h (by rw [e]; rfl))]
theorem on_good (h : (onV ts steps).isSome = true) : good (onP steps) ((onV ts steps).getD default) := by
  obtain ⟨x, hx⟩ := Option.isSome_iff_exists.1 h
  rw [hx]
  by_cases h0 : ts = []
  · subst h0; cases hx; show leafOk _ _ = true; unfold leafOk; simp
  · exact ((onV_some h0).1 hx).2.1
theorem leafV_any (h : t.Kind = 3) : E.any failed = leafV steps E t i := by unfold leafV; rw [if_pos h]
theorem leafV_step (h : ¬ t.Kind = 3) : (decide (idx steps t.Step < ((E.length : Nat) : Int)) && holds t (E.getD (idx steps t.Step).toNat default)) = leafV steps E t i := by unfold leafV; rw [if_neg h]
theorem leafV_t (h : ¬ t.Kind = 3) (h2 : idx steps t.Step < ((E.length : Nat) : Int)) : holds t (E.getD (idx steps t.Step).toNat default) = leafV steps E t i := by rw [← leafV_step h, decide_eq_true h2]; rfl
theorem leafV_f (h : ¬ t.Kind = 3) (h2 : ¬ idx steps t.Step < ((E.length : Nat) : Int)) : false = leafV steps E t i := by rw [← leafV_step h, decide_eq_false h2]; rfl
theorem leaf_code {P : Bytes → Bool} (h : leafOk P t = true) : t.Kind = 0 → 0 ≤ t.Op ∧ t.Op ≤ 5 := fun hk => by
  rcases leaf_any h with h2 | h2 | h2
  · rw [h2] at hk; cases hk
  · omega
  · exact ⟨h2.2.1, h2.2.2.1⟩
theorem leaf_idx (h : leafOk (onP steps) t = true) : t.Kind ≠ 3 → 0 ≤ idx steps t.Step := fun hk => by
  rcases leaf_any h with h2 | h2 | h2
  · exact absurd (by rw [h2]; rfl) hk
  · exact idx_mem.2 (of_decide_eq_true h2.2.2.2)
  · exact idx_mem.2 (of_decide_eq_true h2.2.2.2.2.2)
theorem eval_t {v : Test → Int → Bool} {b : Bool} {y z : Node} (h : b = true) : (eval v y && eval v z) = eval v (Node.pair b y z) := by rw [eval, if_pos h]
theorem eval_f {v : Test → Int → Bool} {b : Bool} {y z : Node} (h : b = false) : (eval v y || eval v z) = eval v (Node.pair b y z) := by rw [eval, if_neg (by rw [h]; decide)]
theorem evalV_no (h : (onV ts steps).isSome = false) {ends : List StepEnd} : false = evalV ts steps ends := by
  unfold evalV
  cases ho : onV ts steps with
  | none => rfl
  | some x => rw [ho] at h; cases h
theorem evalV_yes (h : (onV ts steps).isSome = true) {ends : List StepEnd} : eval (leafV steps (ends.take (min ends.length steps.length))) ((onV ts steps).getD default) = evalV ts steps ends := by
  unfold evalV
  cases ho : onV ts steps with
  | none => rw [ho] at h; cases h
  | some x => rfl
end
end R40
end Go.Proofs.YtngjdmhpljmkpaaGreatDoor

namespace Go.Proofs.YtngjdmhpljmkpaaGreatDoor
open Go.GV
set_option linter.unusedVariables false
set_option linter.unusedSimpArgs false
theorem c40a0_ {p : Prop} (h : p := by first | exact R44.qual_0 (by assumption) | exact R44.qual_bad (k := k) (by omega) (by omega) (by assumption) | exact R44.qual_end (by assumption) (fun i h1 h2 => i1_2 i h1 (by omega))) : p := h
theorem c40a1_ {p : Prop} (h : p := by first | exact R44.name_0 (by assumption) | exact R44.name_bad (k := k) (by omega) (by assumption) | exact R44.name_end (by assumption) (fun i h2 => i1_1 i (by omega))) : p := h
set_option maxRecDepth 20000 in
theorem f71_ok (c : UInt8) (w : World) : Calls Tryz.prog 71 #[vU8 c] w (Gives [] w fun v L => v = vB (R44.isUp c) ∧ L = []) := by
 refine calls_J [] 9 Tryz.func71 rfl Tryz.ntmps71 [(0, _)] rfl rfl (Give.nil w) ?_
 refine q_ (g_ (s_ av_ (z_ (n_ (q_ (g_ (s_ mv_ (js_ (vB (decide ((65 : UInt8) ≤ c))) (x_geq_u8 rfl rfl) (s_ mv_ ?_)))))))))
 refine and_ 2 (decide (c ≤ (90 : UInt8))) (fun g1 => ?_) ?_
 ·have g1r := g1
  have g1r := of_decide_eq_true g1r
  have g1ru := g1r
  try simp only [UInt8.lt_iff_toNat_lt, UInt8.le_iff_toNat_le, UInt8.reduceToNat, UInt32.lt_iff_toNat_lt, UInt32.le_iff_toNat_le, UInt32.reduceToNat, UInt64.lt_iff_toNat_lt, UInt64.le_iff_toNat_le, UInt64.reduceToNat] at g1ru
  refine sg_ g1 mv_ (jg_ g1 (vB (decide (c ≤ (90 : UInt8)))) (x_leq_u8 rfl rfl) ?_)
  exact cr_
 refine s_ av_ (z_ (n_ (rt_ ?_)))
 exact p1 Tryz.results71 rfl ⟨(eB (by rfl)), rfl⟩
set_option maxRecDepth 20000 in
theorem f92_ok (c : UInt8) (w : World) : Calls Tryz.prog 92 #[vU8 c] w (Gives [] w fun v L => v = vB (R44.isDg c) ∧ L = []) := by
 refine calls_J [] 9 Tryz.func92 rfl Tryz.ntmps92 [(0, _)] rfl rfl (Give.nil w) ?_
 refine q_ (g_ (s_ av_ (z_ (n_ (q_ (g_ (s_ mv_ (js_ (vB (decide ((48 : UInt8) ≤ c))) (x_geq_u8 rfl rfl) (s_ mv_ ?_)))))))))
 refine and_ 2 (decide (c ≤ (57 : UInt8))) (fun g1 => ?_) ?_
 ·have g1r := g1
  have g1r := of_decide_eq_true g1r
  have g1ru := g1r
  try simp only [UInt8.lt_iff_toNat_lt, UInt8.le_iff_toNat_le, UInt8.reduceToNat, UInt32.lt_iff_toNat_lt, UInt32.le_iff_toNat_le, UInt32.reduceToNat, UInt64.lt_iff_toNat_lt, UInt64.le_iff_toNat_le, UInt64.reduceToNat] at g1ru
  refine sg_ g1 mv_ (jg_ g1 (vB (decide (c ≤ (57 : UInt8)))) (x_leq_u8 rfl rfl) ?_)
  exact cr_
 refine s_ av_ (z_ (n_ (rt_ ?_)))
 exact p1 Tryz.results92 rfl ⟨(eB (by rfl)), rfl⟩
set_option maxRecDepth 20000 in
theorem f72_ok (c : UInt8) (w : World) : Calls Tryz.prog 72 #[vU8 c] w (Gives [] w fun v L => v = vB (R44.isPl c) ∧ L = []) := by
 refine calls_J [] 9 Tryz.func72 rfl Tryz.ntmps72 [(0, _)] rfl rfl (Give.nil w) ?_
 refine q_ (g_ (s_ av_ (z_ (n_ (q_ (g_ (s_ mv_ (c0 (cl_ Ty.ca71) (fun w hS => f71_ok c w) (s_ mv_ ?_)))))))))
 refine or_ 2 (R44.isDg c) (fun g1 => ?_) ?_
 ·have g1r := g1
  refine sg_ g1 mv_ (c0g g1 (cl_ Ty.ca92) (fun w hS => f92_ok c w) ?_)
  exact cr_
 refine s_ av_ (z_ (n_ (rt_ ?_)))
 exact p1 Tryz.results72 rfl ⟨(eB (by rfl)), rfl⟩
set_option maxRecDepth 20000 in
theorem f70_ok (s : Bytes) (w : World) (q0 : s.length ≤ 9223372036854775807) : Calls Tryz.prog 70 #[vS s, Value.func (.func 71) #[] #[], Value.func (.func 72) #[] #[]] w (Gives [] w fun v L => v = vB (R44.qualV R44.isUp R44.isPl s) ∧ L = []) := by
 refine calls_J [] 35 Tryz.func70 rfl Tryz.ntmps70 [(0, _), (1, _), (2, _)] rfl rfl (Give.nil w) ?_
 refine q_ (g_ (s_ av_ (z_ (n_ (q_ (q_ (g_ (s_ mv_ (s_ (x_len_s rfl Tryz.underlying9) (s_ (x_lss_i rfl rfl) (s_ mv_ ?_)))))))))))
 refine or_ 3 (decide ((8 : Int) < ((s.length : Nat) : Int))) (fun g1 => ?_) ?_
 ·have g1r := g1
  have g1r := of_decide_eq_false g1r
  refine sg_ g1 mv_ (sg_ g1 (x_len_s rfl Tryz.underlying9) (sg_ g1 (x_gtr_i rfl rfl) ?_))
  exact cr_
 refine s_ mv_ ?_
 refine or_ 5 (!(R44.isUp (s.getD 0 0))) (fun g2 => ?_) ?_
 ·have g2r := g2
  have ⟨g2r, h3⟩ := bor_false g2r
  have g2r := of_decide_eq_false g2r
  have h3 := of_decide_eq_false h3
  refine sg_ g2 mv_ (sg_ g2 mv_ (sg_ g2 (x_idx_s (k := 0) rfl rfl Tryz.underlying9 (by omega)) (c0g g2 (x_callv (first := []) (caps := []) rfl Ty.ca71 rfl) (fun w hS => f71_ok _ w) (sg_ g2 (x_not rfl) ?_))))
  exact cr_
 refine z_ (n_ ?_)
 refine if_ (fun h4 => ?_) (fun h4 => ?_)
 ·have h4w := h4
  simp only [Bool.and_eq_true, Bool.or_eq_true, Bool.and_eq_false_iff, Bool.or_eq_false_iff, Bool.not_eq_true', Bool.not_eq_false', decide_eq_true_eq, decide_eq_false_iff_not] at h4
  refine q_ (g_ (s_ av_ (z_ (n_ (rt_ (nr_ ?_))))))
  exact p1 Tryz.results70 rfl ⟨(eB c40a0_), rfl⟩
 ·have h4w := h4
  have ⟨h4, h5⟩ := bor_false h4
  have ⟨h4, h6⟩ := bor_false h4
  have h4 := of_decide_eq_false h4
  have h6 := of_decide_eq_false h6
  have h5 : (R44.isUp (s.getD 0 0)) = true := bnot_false h5
  refine sk_ (n_ (q_ (q_ (g_ (s_ av_ (z_ (n_ (k_ ?_))))))))
  refine J_loop (X := Nat) (fun (k : Nat) => (1 ≤ k) ∧ (k ≤ s.length) ∧ (∀ i, 1 ≤ i → i < k → R44.isPl (s.getD i 0) = true)) (fun (k : Nat) => [(0, vS s), (2, Value.func (.func 72) #[] #[]), (7, vI ((k : Nat) : Int))]) (fun (k : Nat) => []) (fun (k : Nat) => s.length - k) (1 : Nat) ?_ ⟨rfl, rfl, rfl, trivial⟩ (fun _ h => h) ?_
  ·try dsimp only
   refine ⟨?_, ?_, ?_⟩
   ·first | rfl | omega | (simp_all; done) | (simp_all; omega)
   ·first | rfl | omega | (simp_all; done) | (simp_all; omega)
   ·intro i h1 h2; omega
  intro k hI1
  obtain ⟨i1_0, i1_1, i1_2⟩ := hI1
  try dsimp only at i1_0
  try dsimp only at i1_1
  try dsimp only at i1_2
  try dsimp only
  refine q_ (q_ (g_ (s_ mv_ (s_ mv_ (s_ (x_len_s rfl Tryz.underlying9) (s_ (x_lss_i rfl rfl) (z_ (n_ ?_))))))))
  refine ifd (fun h7w h7 => ?_) (fun h7w h7 => ?_)
  ·refine sk_ (n_ (q_ (k_ (q_ (g_ (s_ mv_ (s_ mv_ (s_ mv_ (s_ (x_idx_s (k := k) rfl rfl Tryz.underlying9 (by omega)) (c0 (x_callv (first := []) (caps := []) rfl Ty.ca72 rfl) (fun w hS => f72_ok _ w) (s_ (x_not rfl) (z_ (n_ ?_)))))))))))))
   refine if_ (fun h8 => ?_) (fun h8 => ?_)
   ·have h8w := h8
    have h8 : (R44.isPl (s.getD k 0)) = false := bnot_true h8
    refine q_ (g_ (s_ av_ (z_ (n_ (rt_ (kq_ (nr_ (rr_ (kq_ (nr_ ?_))))))))))
    exact p1 Tryz.results70 rfl ⟨(eB c40a0_), rfl⟩
   ·have h8w := h8
    have h8 : (R44.isPl (s.getD k 0)) = true := bnot_false h8
    refine sk_ (kx_ (n_ (g_ (s_ mv_ (s_ (x_add_n (a := k) (b := 1) rfl rfl (by omega)) (s_ av_ (z_ ?_)))))))
    refine JX_round (k + 1 : Nat) ?_ ?_ ⟨rfl, rfl, rfl, trivial⟩ (fun _ h => h)
    ·try dsimp only
     refine ⟨?_, ?_, ?_⟩
     ·first | rfl | omega | (simp_all; done) | (simp_all; omega)
     ·first | rfl | omega | (simp_all; done) | (simp_all; omega)
     ·exact R44.qual_step i1_2 (by assumption)
    ·try dsimp only
     first | omega | (simp; omega) | (simp_all; omega)
  ·refine J_exit (ne_ (re_ (kh_ (n_ (q_ ?_)))))
   refine g_ (s_ av_ (z_ (n_ (rt_ ?_))))
   exact p1 Tryz.results70 rfl ⟨(eB c40a0_), rfl⟩
set_option maxRecDepth 20000 in
theorem f69_ok (s : Bytes) (w : World) (q0 : s.length ≤ 9223372036854775807) : Calls Tryz.prog 69 #[vS s] w (Gives [] w fun v L => v = vB (R44.qualV R44.isUp R44.isPl s) ∧ L = []) := by
 refine calls_J [] 5 Tryz.func69 rfl Tryz.ntmps69 [(0, _)] rfl rfl (Give.nil w) ?_
 refine q_ (g_ (s_ av_ (z_ (n_ (q_ (g_ (s_ mv_ (c0 (cl_ Ty.ca70) (fun w hS => f70_ok s w hy_) (s_ av_ (z_ (n_ (rt_ ?_))))))))))))
 exact p1 Tryz.results69 rfl ⟨rfl, rfl⟩
set_option maxRecDepth 20000 in
theorem f68_ok (s : Bytes) (w : World) (hT : Tab [] w) (q0 : s.length ≤ 1000000) : Calls Tryz.prog 68 #[vS s, vI 31, Value.func (.func 69) #[] #[]] w (Gives [] w fun v L => v = vB (R44.nameV (R44.qualV R44.isUp R44.isPl) s) ∧ L = []) := by
 refine calls_J [] 30 Tryz.func68 rfl Tryz.ntmps68 [(0, _), (1, _), (2, _)] rfl rfl (Give.nil w) ?_
 refine q_ (g_ (s_ av_ (z_ (n_ (q_ (q_ (g_ (s_ mv_ (s_ (x_len_s rfl Tryz.underlying9) (s_ (x_lss_i rfl rfl) (s_ mv_ ?_)))))))))))
 refine or_ 4 (decide ((31 : Int) < ((s.length : Nat) : Int))) (fun g1 => ?_) ?_
 ·have g1r := g1
  have g1r := of_decide_eq_false g1r
  refine sg_ g1 mv_ (sg_ g1 (x_len_s rfl Tryz.underlying9) (sg_ g1 mv_ (sg_ g1 (x_gtr_i rfl rfl) ?_)))
  exact cr_
 refine z_ (n_ ?_)
 refine if_ (fun h2 => ?_) (fun h2 => ?_)
 ·have h2w := h2
  simp only [Bool.and_eq_true, Bool.or_eq_true, Bool.and_eq_false_iff, Bool.or_eq_false_iff, Bool.not_eq_true', Bool.not_eq_false', decide_eq_true_eq, decide_eq_false_iff_not] at h2
  refine q_ (g_ (s_ av_ (z_ (n_ (rt_ (nr_ ?_))))))
  exact p1 Tryz.results68 rfl ⟨(eB c40a1_), rfl⟩
 ·have h2w := h2
  have ⟨h2, h3⟩ := bor_false h2
  have h2 := of_decide_eq_false h2
  have h3 := of_decide_eq_false h3
  refine sk_ (n_ (q_ (q_ (g_ (s_ mv_ ?_)))))
  refine c1 (cl_ Ty.ca91) (fun w hS => split_ok s w (hT.on hS (fun _ h => by cases h)) hy_) ?_
  rintro _ _ ⟨e4, e5, rfl, rfl⟩
  have ha6 := R44.splitC_count 46 s
  refine s_ (lnS Tryz.underlying22) (s_ mv_ (z_ (n_ (k_ ?_))))
  refine J_loop (X := Nat) (fun (k : Nat) => (k ≤ (R44.splitC 46 s).length) ∧ (∀ i, i < k → (R44.qualV R44.isUp R44.isPl) ((R44.splitC 46 s).getD i []) = true)) (fun (k : Nat) => [(2, Value.func (.func 69) #[] #[]), (19, vL e4 ((R44.splitC 46 s).length) e5), (20, vI (((R44.splitC 46 s).length : Nat) : Int)), (21, vI ((k : Nat) : Int))]) (fun (k : Nat) => [Ent.row (.slice e4 (R44.splitC 46 s).length e5) 9 1 (R44.splitC 46 s).length ((R44.splitC 46 s).map vS)]) (fun (k : Nat) => (R44.splitC 46 s).length - k) (0 : Nat) ?_ ⟨rfl, rfl, rfl, rfl, trivial⟩ (fun _ h => h) ?_
  ·try dsimp only
   refine ⟨?_, ?_⟩
   ·first | rfl | omega | (simp_all; done) | (simp_all; omega)
   ·intro i h2; omega
  intro k hI1
  obtain ⟨i1_0, i1_1⟩ := hI1
  try dsimp only at i1_0
  try dsimp only at i1_1
  have hpl := R44.splitC_len 46 s k
  try dsimp only
  refine q_ (g_ (s_ (x_lss_i rfl rfl) (z_ (n_ (q_ ?_)))))
  refine ifd (fun h7w h7 => ?_) (fun h7w h7 => ?_)
  ·refine sk_ (n_ (q_ (k_ (q_ (g_ (r_ (ixM (cells_row 0 rfl) Tryz.underlying22 Ty.sz9) (r_ (ldM vS [] (cells_row 0 rfl) Ty.sc9) (s_ av_ (z_ (n_ (q_ (g_ (s_ mv_ (s_ mv_ (c0 (x_callv (first := []) (caps := []) rfl Ty.ca69 rfl) (fun w hS => f69_ok _ w hy_) (s_ (x_not rfl) (z_ (n_ ?_))))))))))))))))))
   refine if_ (fun h8 => ?_) (fun h8 => ?_)
   ·have h8w := h8
    have h8 : (R44.qualV R44.isUp R44.isPl ((R44.splitC 46 s).getD k [])) = false := bnot_true h8
    refine q_ (g_ (s_ av_ (z_ (n_ (rt_ (kq_ (nr_ (rr_ (kq_ (nr_ ?_))))))))))
    exact p1 Tryz.results68 rfl ⟨(eB c40a1_), rfl⟩
   ·have h8w := h8
    have h8 : (R44.qualV R44.isUp R44.isPl ((R44.splitC 46 s).getD k [])) = true := bnot_false h8
    refine sk_ (kx_ (n_ (g_ (s_ (x_add_n (a := k) (b := 1) rfl rfl (by omega)) (s_ mv_ (z_ ?_))))))
    refine JX_round (k + 1 : Nat) ?_ ?_ ⟨rfl, rfl, rfl, rfl, trivial⟩ (fun _ h => h)
    ·try dsimp only
     refine ⟨?_, ?_⟩
     ·first | rfl | omega | (simp_all; done) | (simp_all; omega)
     ·exact R44.all_step i1_1 (by assumption)
    ·try dsimp only
     first | omega | (simp; omega) | (simp_all; omega)
  ·refine J_exit (ne_ (re_ (kh_ (n_ (q_ ?_)))))
   refine g_ (s_ av_ (z_ (n_ (rt_ ?_))))
   exact p1 Tryz.results68 rfl ⟨(eB c40a1_), rfl⟩
set_option maxRecDepth 20000 in
theorem f51_ok (s : Bytes) (w : World) (hT : Tab [] w) (q0 : s.length ≤ 1000000) : Calls Tryz.prog 51 #[vS s] w (Gives [] w fun v L => v = vB (R44.nameV (R44.qualV R44.isUp R44.isPl) s) ∧ L = []) := by
 refine calls_J [] 5 Tryz.func51 rfl Tryz.ntmps51 [(0, _)] rfl rfl (Give.nil w) ?_
 refine q_ (g_ (s_ av_ (z_ (n_ (q_ (g_ (s_ mv_ (c0 (cl_ Ty.ca68) (fun w hS => f68_ok s w (hT.on hS (fun _ h => by cases h)) hy_) (s_ av_ (z_ (n_ (rt_ ?_))))))))))))
 exact p1 Tryz.results51 rfl ⟨rfl, rfl⟩
set_option maxRecDepth 20000 in
theorem f26_ok (s : Bytes) (w : World) (hT : Tab [] w) (q0 : s.length ≤ 1000000) : Calls Tryz.prog 26 #[vS s] w (Gives [] w fun v L => v = vB (R40.stepV s) ∧ L = []) := by
 refine calls_J [] 10 Tryz.func26 rfl Tryz.ntmps26 [(0, _)] rfl rfl (Give.nil w) ?_
 refine q_ (g_ (s_ av_ (z_ (n_ (q_ (g_ (s_ mv_ (c0 (cl_ Ty.ca51) (fun w hS => f51_ok s w (hT.on hS (fun _ h => by cases h)) hy_) (s_ mv_ ?_)))))))))
 refine and_ 3 (decide (((s.count 46 : Nat) : Int) < 2)) (fun g1 => ?_) ?_
 ·have g1r := g1
  refine sg_ g1 mv_ (c0g g1 (cl_ Ty.ca52) (fun w hS => count_ok s w) (sg_ g1 (x_lss_i rfl rfl) ?_))
  exact cr_
 refine s_ av_ (z_ (n_ (rt_ ?_)))
 exact p1 Tryz.results26 rfl ⟨(eB (by rfl)), rfl⟩
end Go.Proofs.YtngjdmhpljmkpaaGreatDoor

namespace Go.GV
open Go.RowKit
section
variable {E : Env} {P : Program} {w : World} {x : Operand} {dst : Option Nat} {t a xt ty : TypeId} {pos : String} {af : Array Edge} {g : Option (Nat × Bool)}
theorem x_assert_hit {fs : Array Field} {v : Value} (hx : ev E x = .iface t v) (ht : P.underlying t = some (.struct fs)) : (execOp (ev E) ⟨dst, .typeAssert x xt t true, ty, pos, af, g⟩).run P w = .ok (.value (.tuple #[v, vB true])) w := by
  have h : (Instr.typeAssert (.iface t v) xt t true).run P w = .ok (.tuple #[v, vB true]) w := by
    unfold Instr.typeAssert
    simp only [Sem.run_bind, run_underlying ht, Result.andThen_ok, if_true, Sem.run_pure]
  simp only [execOp, hx]
  show Sem.run P (do let v ← Instr.typeAssert (.iface t v) xt t true; pure (Next.value v)) w = _
  rw [Sem.run_bind, h]; rfl
theorem x_assert_miss {fs : Array Field} {v zv : Value} (hx : ev E x = .iface t v) (ht : P.underlying a = some (.struct fs)) (hz : zeroIs P a = some zv) (hne : t ≠ a) : (execOp (ev E) ⟨dst, .typeAssert x xt a true, ty, pos, af, g⟩).run P w = .ok (.value (.tuple #[zv, vB false])) w := by
  have h : (Instr.typeAssert (.iface t v) xt a true).run P w = .ok (.tuple #[zv, vB false]) w := by
    unfold Instr.typeAssert
    simp only [Sem.run_bind, run_underlying ht, Result.andThen_ok, if_neg hne, if_true, run_zeroValue_is hz, Sem.run_pure]
  simp only [execOp, hx]
  show Sem.run P (do let v ← Instr.typeAssert (.iface t v) xt a true; pure (Next.value v)) w = _
  rw [Sem.run_bind, h]; rfl
end
end Go.GV

namespace Go.Proofs.YtngjdmhpljmkpaaGreatDoor
open Go.GV
set_option linter.unusedVariables false
set_option linter.unusedSimpArgs false
theorem c40b0_ {p : Prop} (h : p := by first | exact R40.holds_0 (by assumption) | exact R40.holds_1 (by assumption) (by assumption) | exact R40.holds_2 (by assumption) (by assumption)) : p := h
theorem c40b2_ {p : Prop} (h : p := by first | exact R40.idx_hit (k := k) (by omega) i1_1 (by assumption) | exact R40.idx_none (fun i hi => i1_1 i (by omega))) : p := h
theorem c40b4_ {p : Prop} (h : p := by first | exact R40.any_yes (k := k) (by omega) (by assumption) | exact R40.any_no (fun i hi => i1_1 i (by omega))) : p := h
set_option maxRecDepth 20000 in
theorem f61_ok (c : Int) (op : Int) (n : Int) (w : World) (q0 : 0 ≤ op) (q1 : op ≤ 5) : Calls Tryz.prog 61 #[vI c, vI op, vI n] w (Gives [] w fun v L => v = vB (R40.related c op n) ∧ L = []) := by
 refine calls_J [] 29 Tryz.func61 rfl Tryz.ntmps61 [(0, _), (1, _), (2, _)] rfl rfl (Give.nil w) ?_
 refine q_ (g_ (s_ av_ (z_ (n_ (q_ (g_ (s_ mv_ (s_ mv_ (s_ (x_lss_i rfl rfl) (s_ mv_ (s_ mv_ (s_ (x_leq_i rfl rfl) (s_ mv_ ?_)))))))))))))
 refine s_ mv_ (s_ (x_eql_i rfl rfl) (s_ mv_ (s_ mv_ (s_ (x_neq_i rfl rfl) (s_ mv_ (s_ mv_ (s_ (x_geq_i rfl rfl) (s_ mv_ (s_ mv_ ?_)))))))))
 refine s_ (x_gtr_i rfl rfl) (o_ (O_buildSlice (cs := [vB (decide (c < n)), vB (decide (c ≤ n)), vB (decide (c = n)), vB (decide (c ≠ n)), vB (decide (n ≤ c)), vB (decide (n < c))]) Tryz.underlying71 Ty.sz4 Ty.ze4 (by decide) (by decide) (by kernel_rfl) fun b1 => ?_))
 refine s_ mv_ (s_ (x_indexAddr_sl (k := (op).toNat) Tryz.underlying71 Ty.sz4 rfl (ix_nat rfl (by omega)) lt_ (add_0k1 _ _)) (r_ (x_load_arr 0 (xs := ([decide (c < n), decide (c ≤ n), decide (c = n), decide (c ≠ n), decide (n ≤ c), decide (n < c)] : List Bool)) vB false rfl rfl Ty.sc4 lt_) (s_ av_ (z_ (xk_ [6] ?_)))))
 refine n_ (rt_ ?_)
 exact p1 Tryz.results61 rfl ⟨(eB (R40.related_list q0 q1)), rfl⟩
set_option maxRecDepth 20000 in
theorem f38_ok (t : Test) (e : StepEnd) (w : World) (q0 : t.Kind = 0 → 0 ≤ t.Op ∧ t.Op ≤ 5) : Calls Tryz.prog 38 #[vG (Test.enc t), vG [vB e.Ran, vB e.Failed, vI e.Code]] w (Gives [] w fun v L => v = vB (R40.holds t e) ∧ L = []) := by
 refine calls_J [] 35 Tryz.func38 rfl Tryz.ntmps38 [(0, _), (1, _)] rfl rfl (Give.nil w) ?_
 refine q_ (g_ (o_ (bxG fun b1 => ?_)))
 refine o_ (bxG fun b2 => ?_)
 refine s_ av_ (z_ (n_ (q_ (q_ (g_ (s_ (fA 0 Ty.fi40_0) (r_ (ld_ 1 Ty.sc3) (z_ (n_ (k_ (q_ (g_ (s_ (x_eql_i rfl rfl) (s_ av_ (z_ (n_ ?_))))))))))))))))
 refine ifd (fun h3w h3 => ?_) (fun h3w h3 => ?_)
 ·refine q_ (g_ (s_ (fA 0 Ty.fi38_0) (r_ (ld_ 0 Ty.sc4) (s_ mv_ ?_))))
  refine and_ 3 (!e.Failed) (fun g4 => ?_) ?_
  ·have g4r := g4
   refine sg_ g4 (fA 1 Ty.fi38_1) (rg_ g4 (ld_ 0 Ty.sc4) (sg_ g4 (x_not rfl) ?_))
   exact cr_
  refine s_ mv_ ?_
  refine and_ 7 (R40.related e.Code t.Op t.N) (fun g5 => ?_) ?_
  ·have g5r := g5
   have ⟨g5r, h6⟩ := band_true g5r
   have h6 : (e.Failed) = false := bnot_true h6
   refine sg_ g5 (fA 2 Ty.fi38_2) (rg_ g5 (ld_ 0 Ty.sc3) (sg_ g5 (fA 2 Ty.fi40_2) (rg_ g5 (ld_ 1 Ty.sc3) (sg_ g5 (fA 3 Ty.fi40_3) (rg_ g5 (ld_ 1 Ty.sc3) (c0g g5 (cl_ Ty.ca61) (fun w hS => f61_ok _ t.Op t.N w hy_ hy_) ?_))))))
   exact cr_
  refine s_ av_ (z_ (n_ (rt_ (kq_ (nr_ ?_)))))
  exact p1 Tryz.results38 rfl ⟨(eB c40b0_), rfl⟩
 ·refine q_ (g_ (s_ (x_eql_i rfl rfl) (s_ av_ (z_ (n_ ?_)))))
  refine ifd (fun h7w h7 => ?_) (fun h7w h7 => ?_)
  ·refine q_ (g_ (s_ (fA 0 Ty.fi38_0) (r_ (ld_ 0 Ty.sc4) (s_ mv_ ?_))))
   refine and_ 2 (e.Failed) (fun g8 => ?_) ?_
   ·have g8r := g8
    refine sg_ g8 (fA 1 Ty.fi38_1) (rg_ g8 (ld_ 0 Ty.sc4) ?_)
    exact cr_
   refine s_ av_ (z_ (n_ (rt_ (kq_ (nr_ ?_)))))
   exact p1 Tryz.results38 rfl ⟨(eB c40b0_), rfl⟩
  ·refine sk_ (kx_ (n_ (q_ (g_ (s_ (fA 0 Ty.fi38_0) (r_ (ld_ 0 Ty.sc4) (s_ av_ (z_ (n_ (rt_ ?_))))))))))
   exact p1 Tryz.results38 rfl ⟨(eB c40b0_), rfl⟩
set_option maxRecDepth 20000 in
theorem f36_ok (e : StepEnd) (w : World) : Calls Tryz.prog 36 #[vG [vB e.Ran, vB e.Failed, vI e.Code]] w (Gives [] w fun v L => v = vB (R40.failed e) ∧ L = []) := by
 refine calls_J [] 9 Tryz.func36 rfl Tryz.ntmps36 [(0, _)] rfl rfl (Give.nil w) ?_
 refine q_ (g_ (o_ (bxG fun b1 => ?_)))
 refine s_ av_ (z_ (n_ (q_ (g_ (s_ (fA 0 Ty.fi38_0) (r_ (ld_ 0 Ty.sc4) (s_ mv_ ?_)))))))
 refine and_ 2 (e.Failed) (fun g2 => ?_) ?_
 ·have g2r := g2
  refine sg_ g2 (fA 1 Ty.fi38_1) (rg_ g2 (ld_ 0 Ty.sc4) ?_)
  exact cr_
 refine s_ av_ (z_ (n_ (rt_ ?_)))
 exact p1 Tryz.results36 rfl ⟨(eB (by rfl)), rfl⟩
set_option maxRecDepth 20000 in
theorem f37_ok (l : List Bytes) (lA : Option Addr) (lC : Nat) (s : Bytes) (w : World) (lR : RO [] w lA (l.map vS)) (q0 : l.length ≤ 9223372036854775807) : Calls Tryz.prog 37 #[vL lA l.length lC, vS s] w (Gives [] w fun v L => v = vI (R40.idx l s) ∧ L = []) := by
 refine calls_J [] 19 Tryz.func37 rfl Tryz.ntmps37 [(0, _), (1, _)] rfl rfl (Give.nil w) ?_
 refine q_ (g_ (s_ av_ (z_ (n_ (q_ (q_ (g_ (s_ mv_ (s_ (lnS Tryz.underlying22) (s_ mv_ (z_ (n_ (k_ ?_)))))))))))))
 refine J_loop (X := Nat) (fun (k : Nat) => (k ≤ l.length) ∧ (∀ i, i < k → l.getD i [] ≠ s)) (fun (k : Nat) => [(0, vL lA l.length lC), (1, vS s), (7, vI ((l.length : Nat) : Int)), (8, vI ((k : Nat) : Int))]) (fun (k : Nat) => []) (fun (k : Nat) => l.length - k) (0 : Nat) ?_ ⟨rfl, rfl, rfl, rfl, trivial⟩ (fun _ h => h) ?_
 ·try dsimp only
  refine ⟨?_, ?_⟩
  ·first | rfl | omega | (simp_all; done) | (simp_all; omega)
  ·intro i h2; omega
 intro k hI1
 obtain ⟨i1_0, i1_1⟩ := hI1
 try dsimp only at i1_0
 try dsimp only at i1_1
 try dsimp only
 refine q_ (g_ (s_ (x_lss_i rfl rfl) (z_ (n_ (q_ ?_)))))
 refine ifd (fun h1w h1 => ?_) (fun h1w h1 => ?_)
 ·refine sk_ (n_ (q_ (k_ (q_ (g_ (s_ mv_ (s_ av_ (z_ (n_ (q_ (g_ (s_ mv_ (s_ mv_ (s_ mv_ (r_ (ixM (cells_ro lR) Tryz.underlying22 Ty.sz9) (r_ (ldM vS [] (cells_ro lR) Ty.sc9) (s_ (x_eql_s rfl rfl) ?_)))))))))))))))))
  refine z_ (n_ ?_)
  refine ifd (fun h2w h2 => ?_) (fun h2w h2 => ?_)
  ·refine q_ (g_ (s_ mv_ (s_ av_ (z_ (n_ (rt_ (kq_ (nr_ (rr_ (kq_ (nr_ ?_)))))))))))
   exact p1 Tryz.results37 rfl ⟨(eI c40b2_), rfl⟩
  ·refine sk_ (kx_ (n_ (g_ (s_ (x_add_n (a := k) (b := 1) rfl rfl (by omega)) (s_ mv_ (z_ ?_))))))
   refine JX_round (k + 1 : Nat) ?_ ?_ ⟨rfl, rfl, rfl, rfl, trivial⟩ (fun _ h => h)
   ·try dsimp only
    refine ⟨?_, ?_⟩
    ·first | rfl | omega | (simp_all; done) | (simp_all; omega)
    ·intro i hi
     by_cases hik : i = k
     ·subst hik; exact fun e => (by assumption : ¬ s = l.getD i []) e.symm
     ·exact i1_1 i (by omega)
   ·try dsimp only
    first | omega | (simp; omega) | (simp_all; omega)
 ·refine J_exit (ne_ (re_ (kh_ (n_ (q_ ?_)))))
  refine g_ (s_ av_ (z_ (n_ (rt_ ?_))))
  exact p1 Tryz.results37 rfl ⟨(eI c40b2_), rfl⟩
set_option maxRecDepth 20000 in
theorem f59_ok (l : List Bytes) (lA : Option Addr) (lC : Nat) (s : Bytes) (w : World) (lR : RO [] w lA (l.map vS)) (q0 : l.length ≤ 9223372036854775807) : Calls Tryz.prog 59 #[vL lA l.length lC, vS s] w (Gives [] w fun v L => v = vB (R40.onP l s) ∧ L = []) := by
 refine calls_J [] 9 Tryz.func59 rfl Tryz.ntmps59 [(0, _), (1, _)] rfl rfl (Give.nil w) ?_
 refine q_ (g_ (s_ av_ (z_ (n_ (q_ (g_ (s_ mv_ (s_ mv_ (c0 (cl_ Ty.ca37) (fun w hS => f37_ok l lA lC s w (rno lR hS) hy_) ?_)))))))))
 have ha1 := R40.idx_lt l s
 refine s_ (x_geq_i rfl rfl) (s_ av_ (z_ (n_ (rt_ ?_))))
 exact p1 Tryz.results59 rfl ⟨(eB (R40.idx_on)), rfl⟩
set_option maxRecDepth 20000 in
theorem f58_ok (s : Bytes) (bp : Nat) (steps : List Bytes) (stepsA : Option Addr) (stepsC : Nat) (w : World) (stepsR : RO [bp] w stepsA (steps.map vS)) (q0 : steps.length ≤ 9223372036854775807) (hg : Give [bp] w [Ent.blk bp 22 [vL stepsA steps.length stepsC]]) : Calls Tryz.prog 58 #[vS s, pB bp 0] w (Gives [bp] w fun v L => v = vB (R40.onP steps s) ∧ L = [Ent.blk bp 22 [vL stepsA steps.length stepsC]]) := by
 refine calls_J [bp] 7 Tryz.func58 rfl Tryz.ntmps58 [(0, _), (1, _)] rfl rfl hg ?_
 refine q_ (g_ (s_ av_ (z_ (n_ (q_ (g_ (r_ (ld_ 0 Ty.sc22) (s_ mv_ (c0 (cl_ Ty.ca59) (fun w hS => f59_ok _ _ _ s w (rno stepsR hS) hy_) (s_ av_ (z_ (n_ (rt_ ?_)))))))))))))
 refine JX_rets [_] _ Tryz.results58 (fun w h => ⟨rfl, trivial⟩) rfl _ (fun _ h => h) ⟨?_, ?_⟩
 ·rfl
 ·rfl
set_option maxRecDepth 20000 in
theorem f60_ok (E : List StepEnd) (EA : Option Addr) (EC : Nat) (w : World) (ER : RO [] w EA (E.flatMap StepEnd.enc)) (q0 : E.length ≤ 9223372036854775807) : Calls Tryz.prog 60 #[vL EA E.length EC, Value.func (.func 36) #[] #[]] w (Gives [] w fun v L => ∃ r : Int, v = vI r ∧ L = [] ∧ (decide (0 ≤ r) = E.any R40.failed)) := by
 refine calls_J [] 19 Tryz.func60 rfl Tryz.ntmps60 [(0, _), (1, _)] rfl rfl (Give.nil w) ?_
 refine q_ (g_ (s_ av_ (z_ (n_ (q_ (q_ (g_ (s_ mv_ (s_ (lnS Tryz.underlying33) (s_ mv_ (z_ (n_ (k_ ?_)))))))))))))
 refine J_loop (X := Nat) (fun (k : Nat) => (k ≤ E.length) ∧ (∀ i, i < k → R40.failed (E.getD i default) = false)) (fun (k : Nat) => [(0, vL EA E.length EC), (1, Value.func (.func 36) #[] #[]), (7, vI ((E.length : Nat) : Int)), (8, vI ((k : Nat) : Int))]) (fun (k : Nat) => []) (fun (k : Nat) => E.length - k) (0 : Nat) ?_ ⟨rfl, rfl, rfl, rfl, trivial⟩ (fun _ h => h) ?_
 ·try dsimp only
  refine ⟨?_, ?_⟩
  ·first | rfl | omega | (simp_all; done) | (simp_all; omega)
  ·intro i h2; omega
 intro k hI1
 obtain ⟨i1_0, i1_1⟩ := hI1
 try dsimp only at i1_0
 try dsimp only at i1_1
 try dsimp only
 refine q_ (g_ (s_ (x_lss_i rfl rfl) (z_ (n_ (q_ ?_)))))
 refine ifd (fun h1w h1 => ?_) (fun h1w h1 => ?_)
 ·refine sk_ (n_ (q_ (k_ (q_ (g_ (s_ mv_ (s_ av_ (z_ (n_ (q_ (g_ (s_ mv_ (s_ mv_ (s_ mv_ (r_ (ixF StepEnd.enc_len (cells_ro ER) Tryz.underlying33 Ty.sz38) (r_ (ldFN StepEnd.enc_len (cells_ro ER) Ty.ag38 Ty.sz38) (c0 (x_callv (first := []) (caps := []) rfl Ty.ca36 rfl) (fun w hS => f36_ok _ w) ?_)))))))))))))))))
  refine z_ (n_ ?_)
  refine if_ (fun h2 => ?_) (fun h2 => ?_)
  ·refine q_ (g_ (s_ mv_ (s_ av_ (z_ (n_ (rt_ (kq_ (nr_ (rr_ (kq_ (nr_ ?_)))))))))))
   refine JX_rets [_] _ Tryz.results60 (fun w h => ⟨rfl, trivial⟩) rfl _ (fun _ h => h) ⟨((k : Nat) : Int), ?_, ?_, ?_⟩
   ·rfl
   ·rfl
   ·exact c40b4_
  ·refine sk_ (kx_ (n_ (g_ (s_ (x_add_n (a := k) (b := 1) rfl rfl (by omega)) (s_ mv_ (z_ ?_))))))
   refine JX_round (k + 1 : Nat) ?_ ?_ ⟨rfl, rfl, rfl, rfl, trivial⟩ (fun _ h => h)
   ·try dsimp only
    refine ⟨?_, ?_⟩
    ·first | rfl | omega | (simp_all; done) | (simp_all; omega)
    ·intro i hi
     by_cases hik : i = k
     ·subst hik; assumption
     ·exact i1_1 i (by omega)
   ·try dsimp only
    first | omega | (simp; omega) | (simp_all; omega)
 ·refine J_exit (ne_ (re_ (kh_ (n_ (q_ ?_)))))
  refine g_ (s_ av_ (z_ (n_ (rt_ ?_))))
  refine JX_rets [_] _ Tryz.results60 (fun w h => ⟨rfl, trivial⟩) rfl _ (fun _ h => h) ⟨(-1), ?_, ?_, ?_⟩
  ·rfl
  ·rfl
  ·exact c40b4_
set_option maxRecDepth 20000 in
theorem f35_ok (E : List StepEnd) (EA : Option Addr) (EC : Nat) (w : World) (ER : RO [] w EA (E.flatMap StepEnd.enc)) (q0 : E.length ≤ 9223372036854775807) : Calls Tryz.prog 35 #[vL EA E.length EC, Value.func (.func 36) #[] #[]] w (Gives [] w fun v L => v = vB (E.any R40.failed) ∧ L = []) := by
 refine calls_J [] 9 Tryz.func35 rfl Tryz.ntmps35 [(0, _), (1, _)] rfl rfl (Give.nil w) ?_
 refine q_ (g_ (s_ av_ (z_ (n_ (q_ (g_ (s_ mv_ (s_ mv_ ?_))))))))
 refine c1 (cl_ Ty.ca60) (fun w hS => f60_ok E EA EC w (rno ER hS) hy_) ?_
 rintro _ _ ⟨r1, rfl, rfl, hf2⟩
 refine s_ (x_geq_i rfl rfl) (s_ av_ (z_ (n_ (rt_ ?_))))
 exact p1 Tryz.results35 rfl ⟨(eB (by assumption)), rfl⟩
end Go.Proofs.YtngjdmhpljmkpaaGreatDoor

namespace Go.GV
open Go.RowKit
def lateB (ops : Array Oper) : Nat → Nat → Nat → Bool
  | 0, _, _ => false
  | f + 1, u, i => match ops[u]? with
    | some x => x.after.any fun e => Region.binds .any e && (e.on == i || lateB ops f e.on i)
    | none => false
theorem getD_up {l : Array Bool} {i : Nat} (h : l.getD i false = true) : l.getD i true = true := by
  rw [Array.getD_eq_getD_getElem?] at *
  cases hc : l[i]? with
  | none => rw [hc] at h; cases h
  | some b => rw [hc] at h; exact h
theorem late_listed {ops : Array Oper} {l : Array Bool} (hl : Closed ops l) : ∀ (f u i : Nat), lateB ops f u i = true → l.getD u true = true → l.getD i false = true
  | 0, u, i, h, _ => by cases h
  | f + 1, u, i, h, hu => by
    rw [lateB] at h
    cases hx : ops[u]? with
    | none => rw [hx] at h; cases h
    | some x =>
      rw [hx] at h
      obtain ⟨e, he, hb⟩ := Array.any_eq_true'.1 h
      rw [Bool.and_eq_true, Bool.or_eq_true] at hb
      have h2 := hl.2 u x hx hu e he hb.1
      rcases hb.2 with h3 | h3
      · rw [beq_iff_eq] at h3; rw [h3] at h2; exact h2
      · exact late_listed hl f e.on i h3 (getD_up h2)
section
variable {P : Program} {n : Dim} {S : List Nat} {w0 : World} {Q : Post} {E : Env} {L : List Ent}
variable {ops : Array Oper} {Lg Lu : List Ent} {us : List Nat} {fuel : Nat} {listed : Array Bool}
theorem JA_earlyT (i : Nat) {o : Oper} (v : Value) (hi : ops[i]? = some o) (hs : Region.noSelect ops = true) (hf : Region.free .any ops listed i = true) (hr : (Region.ready .any ops listed).contains i = true) (hu : us.contains i = false)
    (hlate : (us.all fun u => lateB ops 64 u i) = true)
    (hQ : ∀ c a w, Q (.panic c) (a.put o.dst v) w → Q (.panic c) a w) (hfit : fit n E o = true) (hw : wants ops E o) (hv : ∀ w, St S w0 w Lu → (execOp (ev E) o).run P w = .ok (.value v) w)
    (h : JA P n S w0 ops Q Lg us Lu fuel (listed.setIfInBounds i true) (put E o.dst v) L) : JA P n S w0 ops Q Lg us Lu (fuel + 1) listed E L := by
  intro a w hR hS hcl
  have hr' : i ∈ Region.ready .any ops listed := by simpa using hr
  have hnone : ∀ l : Array Bool, Closed ops l → l.getD i true = false → (us.all fun u => !l.getD u true) = true := by
    intro l hl hun
    rw [List.all_eq_true] at hlate ⊢
    intro u hu'
    cases hc : l.getD u true with
    | false => rfl
    | true =>
      have h2 := late_listed hl 64 u i (hlate u hu') hc
      have h3 := getD_up h2
      rw [hun] at h3; cases h3
  refine wpAnyG_first (H := fun w => St S w0 w Lu) hi (Region.noSelect_spec hs) hQ
    (fun l w hc hl h => h.2 (by rw [all_unset hu]; exact hnone l hc hl)) (fun l w _ hl h => ⟨h.1, fun hh => h.2 (by rw [all_unset hu]; exact hh)⟩) fuel listed a w hcl (Region.free_spec hi hf) hr' (.inl ⟨wants_wanted hR hw, fit_nodefer hfit, fun w' hG => ?_⟩) (h _ w (hR.put (fit_dst hfit) v) hS (hcl.add hr'))
  rw [fit_exec hfit hR]; exact hv w' hG
end
end Go.GV
namespace Go.GV
open Go.RowKit
section
variable {α : Type} {S : List Nat} {w : World} {A : Option Addr} {xs : List α}
theorem RO.head {cs : List Value} (h : RO S w A cs) (n : Nat) : RO S w A (cs.take n) := fun j v hj => by
  rw [List.getElem?_take] at hj
  split at hj
  · exact h j v hj
  · cases hj
theorem RO.headF {f : α → List Value} {sz : Nat} (hf : ∀ a, (f a).length = sz) (h : RO S w A (xs.flatMap f)) (n : Nat) : RO S w A ((xs.take n).flatMap f) := by
  rw [take_flat f sz hf]; exact h.head _
end
end Go.GV
namespace Go.GV
open Go.RowKit Go.MapKept
theorem mapK_u32 {P : Program} {kt : TypeId} (h : P.underlying kt = some (.int .u32)) : MapK P kt vU32 := ⟨_, h, fun _ => rfl, fun a b h => by
  have h2 : (a.toNat : Int) = b.toNat := by injection h
  exact UInt32.toNat_inj.1 (by omega)⟩
theorem mapK_b {P : Program} {kt : TypeId} (h : P.underlying kt = some .bool) : MapK P kt vB := ⟨_, h, fun _ => trivial, fun a b h => by injection h⟩
end Go.GV
