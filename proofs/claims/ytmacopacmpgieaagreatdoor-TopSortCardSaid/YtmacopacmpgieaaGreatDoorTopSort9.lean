/- Hp44, Pl44c, Pl44d, Pl44e in one text. -/
import Derived.Test.YtmacopacmpgieaaGreatDoorTopSort8
import Derived.Test.YtmacopacmpgieaaGreatDoorTopSort6
set_option linter.unusedVariables false
set_option linter.unusedSimpArgs false
namespace Go.Proofs.YtmacopacmpgieaaGreatDoor
open Go.GV
namespace Hp
open Srt (Cmp)
variable {α : Type} {c : α → α → Int}
def orL : List Int → Int
  | [] => 0
  | x :: r => if x ≠ 0 then x else orL r
theorem or_go {l : List Int} {k : Nat} (hk : k < l.length) (h : orL (l.drop k) = orL l) (h0 : l.getD k 0 = 0) : orL (l.drop (k + 1)) = orL l := by
  rw [← h, R44.drop_cons (d := 0) hk, orL, if_neg (by omega)]
theorem or_hit {l : List Int} {k : Nat} (hk : k < l.length) (h : orL (l.drop k) = orL l) (h0 : l.getD k 0 ≠ 0) : l.getD k 0 = orL l := by
  rw [← h, R44.drop_cons (d := 0) hk, orL, if_pos h0]
theorem or_end {l : List Int} {k : Nat} (hk : l.length ≤ k) (h : orL (l.drop k) = orL l) : 0 = orL l := by rw [← h, List.drop_of_length_le hk]; rfl
theorem or_cmp {β : Type} {c d : β → β → Int} (h : Cmp c) (k : Cmp d) : Cmp fun p q => if c p q ≠ 0 then c p q else d p q := by
  constructor
  · intro a b
    have := h.anti a b
    by_cases h0 : c a b = 0
    · rw [if_neg (by omega), if_neg (by omega)]; exact k.anti a b
    · rw [if_pos (by omega), if_pos h0]; exact this
  · intro a b d' h1 h2
    have t := h.trans a b d'
    replace h1 : (if c a b ≠ 0 then c a b else d a b) ≤ 0 := h1
    replace h2 : (if c b d' ≠ 0 then c b d' else d b d') ≤ 0 := h2
    show (if c a d' ≠ 0 then c a d' else d a d') ≤ 0
    by_cases h3 : c a b = 0
    · rw [if_neg (by omega)] at h1
      by_cases h4 : c b d' = 0
      · rw [if_neg (by omega)] at h2
        have t2 := h.trans d' b a (by have := h.anti b d'; omega) (by have := h.anti a b; omega)
        have := h.anti a d'
        rw [if_neg (by have := t (by omega) (by omega); omega)]
        exact k.trans _ _ _ h1 h2
      · rw [if_pos h4] at h2
        have := h.le_lt (a := a) (b := b) (d := d') (by omega) (by omega)
        rw [if_pos (by omega)]; omega
    · rw [if_pos h3] at h1
      have h5 : c b d' ≤ 0 := by
        by_cases h4 : c b d' = 0
        · omega
        · rw [if_pos h4] at h2; exact h2
      have := h.lt_le (a := a) (b := b) (d := d') (by omega) h5
      rw [if_pos (by omega)]; omega
def ec (l : List SortField) (p q : element) : Int := orL [R44.cmpI p.run q.run, R44.cmpL l p.record q.record, R44.cmpI p.no q.no]
theorem ec_ok (l : List SortField) : Cmp (ec l) := by
  have h1 : Cmp fun p q : element => R44.cmpI p.run q.run := R44.cmp_map R44.cmpI_ok element.run
  have h2 : Cmp fun p q : element => R44.cmpL l p.record q.record := R44.cmp_map (R44.cmpL_ok l) element.record
  have h3 : Cmp fun p q : element => R44.cmpI p.no q.no := R44.cmp_map R44.cmpI_ok element.no
  have := or_cmp h1 (or_cmp h2 h3)
  refine ⟨fun a b => ?_, fun a b d => ?_⟩
  · have e := this.anti a b
    unfold ec orL orL orL orL
    simp only [ne_eq] at e ⊢
    by_cases e3 : R44.cmpI a.no b.no = 0 <;> by_cases e4 : R44.cmpI b.no a.no = 0 <;> simp_all
  · have e := this.trans a b d
    have key : ∀ p q : element, ec l p q = if R44.cmpI p.run q.run ≠ 0 then R44.cmpI p.run q.run else if R44.cmpL l p.record q.record ≠ 0 then R44.cmpL l p.record q.record else R44.cmpI p.no q.no := fun p q => by
      unfold ec orL orL orL orL
      by_cases e3 : R44.cmpI p.no q.no = 0 <;> simp_all
    rw [key, key, key]; exact e
def Heap (c : α → α → Int) (d : α) (ys : List α) : Prop := ∀ j, 0 < j → j < ys.length → c (ys.getD ((j - 1) / 2) d) (ys.getD j d) ≤ 0
theorem heap_min (h : Cmp c) {d : α} {ys : List α} (hh : Heap c d ys) : ∀ j, j < ys.length → c (ys.getD 0 d) (ys.getD j d) ≤ 0 := by
  intro j
  induction j using Nat.strongRecOn with
  | _ j ih =>
    intro hj
    by_cases h0 : j = 0
    · subst h0; rw [h.self]; omega
    · exact h.trans _ _ _ (ih ((j - 1) / 2) (by omega) (by omega)) (hh j (by omega) hj)
def swap (ys : List α) (d : α) (i k : Nat) : List α := (ys.set i (ys.getD k d)).set k (ys.getD i d)
theorem swap_len (ys : List α) (d : α) (i k : Nat) : (swap ys d i k).length = ys.length := by unfold swap; rw [List.length_set, List.length_set]
theorem getD_lt {ys : List α} {d : α} {i : Nat} (h : i < ys.length) : ys.getD i d = ys[i] := by rw [List.getD_eq_getElem?_getD, List.getElem?_eq_getElem h]; rfl
theorem swap_perm {ys : List α} {d : α} {i k : Nat} (hi : i < ys.length) (hk : k < ys.length) : (swap ys d i k).Perm ys := by
  unfold swap
  rw [getD_lt hi, getD_lt hk]
  exact List.set_set_perm hi hk
theorem set_getD {ys : List α} {d x : α} {i j : Nat} (hi : i < ys.length) : (ys.set i x).getD j d = if i = j then x else ys.getD j d := by
  rw [List.getD_eq_getElem?_getD, List.getElem?_set]
  by_cases h : i = j
  · subst h; rw [if_pos rfl, if_pos rfl, if_pos hi]; rfl
  · rw [if_neg h, if_neg h, ← List.getD_eq_getElem?_getD]
theorem swap_at {ys : List α} {d : α} {i k : Nat} (hi : i < ys.length) (hk : k < ys.length) (j : Nat) : (swap ys d i k).getD j d = if j = k then ys.getD i d else if j = i then ys.getD k d else ys.getD j d := by
  unfold swap
  rw [set_getD (by rw [List.length_set]; exact hk), set_getD hi]
  by_cases h1 : k = j
  · rw [if_pos h1, if_pos h1.symm]
  · rw [if_neg h1, if_neg (show ¬ j = k from fun e => h1 e.symm)]
    by_cases h2 : i = j
    · rw [if_pos h2, if_pos h2.symm]
    · rw [if_neg h2, if_neg (show ¬ j = i from fun e => h2 e.symm)]
structure Up (c : α → α → Int) (d : α) (ys : List α) (i : Nat) : Prop where
  lt : i < ys.length
  ok : ∀ j, 0 < j → j < ys.length → j ≠ i → c (ys.getD ((j - 1) / 2) d) (ys.getD j d) ≤ 0
  below : 0 < i → ∀ j, 0 < j → j < ys.length → (j - 1) / 2 = i → c (ys.getD ((i - 1) / 2) d) (ys.getD j d) ≤ 0
theorem up_start {d : α} {ys : List α} (h : Heap c d ys) (x : α) : Up c d (ys ++ [x]) ys.length := by
  have hl : (ys ++ [x]).length = ys.length + 1 := by simp
  have ha : ∀ j, j < ys.length → (ys ++ [x]).getD j d = ys.getD j d := fun j hj => by rw [List.getD_eq_getElem?_getD, List.getElem?_append_left hj, ← List.getD_eq_getElem?_getD]
  refine ⟨by omega, fun j h0 hj hne => ?_, fun h0 j hj hjl hp => by omega⟩
  rw [ha _ (by omega), ha _ (by omega)]
  exact h j h0 (by omega)
theorem up_step (h : Cmp c) {d : α} {ys : List α} {i : Nat} (hu : Up c d ys i) (h0 : 0 < i) (hlt : c (ys.getD i d) (ys.getD ((i - 1) / 2) d) < 0) : Up c d (swap ys d i ((i - 1) / 2)) ((i - 1) / 2) := by
  have hi := hu.lt
  have hk : (i - 1) / 2 < ys.length := by omega
  have hki : (i - 1) / 2 ≠ i := by omega
  refine ⟨by rw [swap_len]; exact hk, fun j hj hjl hne => ?_, fun hp j hj hjl hjp => ?_⟩
  · rw [swap_len] at hjl
    rw [swap_at hi hk, swap_at hi hk]
    by_cases e1 : j = i
    · subst e1
      rw [if_pos rfl, if_neg hki.symm, if_pos rfl]; omega
    · rw [if_neg hne, if_neg e1]
      by_cases e2 : (j - 1) / 2 = (i - 1) / 2
      · rw [if_pos e2]
        have h1 := hu.ok j hj hjl e1
        rw [e2] at h1
        exact h.trans _ _ _ (by omega) h1
      · rw [if_neg e2]
        by_cases e3 : (j - 1) / 2 = i
        · rw [if_pos e3]
          exact hu.below h0 j hj hjl e3
        · rw [if_neg e3]; exact hu.ok j hj hjl e1
  · rw [swap_len] at hjl
    rw [swap_at hi hk, swap_at hi hk]
    rw [if_neg (by omega), if_neg (by omega)]
    have h1 := hu.ok ((i - 1) / 2) hp hk hki
    by_cases e1 : j = i
    · subst e1; rw [if_neg hki.symm, if_pos rfl]; exact h1
    · rw [if_neg (by omega), if_neg e1]
      have h2 := hu.ok j hj hjl e1
      rw [hjp] at h2
      exact h.trans _ _ _ h1 h2
theorem up_end (h : Cmp c) {d : α} {ys : List α} {i : Nat} (hu : Up c d ys i) (he : 0 < i → ¬ c (ys.getD i d) (ys.getD ((i - 1) / 2) d) < 0) : Heap c d ys := by
  intro j hj hjl
  by_cases e : j = i
  · subst e; have := he hj; have := h.anti (ys.getD j d) (ys.getD ((j - 1) / 2) d); omega
  · exact hu.ok j hj hjl e
structure Down (c : α → α → Int) (d : α) (ys : List α) (i : Nat) : Prop where
  ok : ∀ j, 0 < j → j < ys.length → (j - 1) / 2 ≠ i → c (ys.getD ((j - 1) / 2) d) (ys.getD j d) ≤ 0
  below : 0 < i → ∀ j, 0 < j → j < ys.length → (j - 1) / 2 = i → c (ys.getD ((i - 1) / 2) d) (ys.getD j d) ≤ 0
theorem down_start {d : α} {ys : List α} (h : Heap c d ys) (h0 : 0 < ys.length) : Down c d ((ys.set 0 (ys.getD (ys.length - 1) d)).take (ys.length - 1)) 0 := by
  have hl : ((ys.set 0 (ys.getD (ys.length - 1) d)).take (ys.length - 1)).length = ys.length - 1 := by rw [List.length_take, List.length_set]; omega
  have ha : ∀ j, 0 < j → j < ys.length - 1 → ((ys.set 0 (ys.getD (ys.length - 1) d)).take (ys.length - 1)).getD j d = ys.getD j d := fun j hj hjl => by
    rw [List.getD_eq_getElem?_getD, List.getElem?_take, if_pos hjl, ← List.getD_eq_getElem?_getD, set_getD h0, if_neg (by omega)]
  refine ⟨fun j hj hjl hne => ?_, fun hh => by omega⟩
  rw [hl] at hjl
  rw [ha _ (by omega) (by omega), ha _ hj hjl]
  exact h j hj (by omega)
theorem down_step {d : α} {ys : List α} {i k : Nat} (hu : Down c d ys i) (hk : k < ys.length) (h0 : 0 < k) (hki : (k - 1) / 2 = i) (hlt : c (ys.getD k d) (ys.getD i d) < 0) (hmin : ∀ j, 0 < j → j < ys.length → (j - 1) / 2 = i → c (ys.getD k d) (ys.getD j d) ≤ 0) : Down c d (swap ys d i k) k := by
  have hi : i < ys.length := by omega
  refine ⟨fun j hj hjl hne => ?_, fun hp j hj hjl hjp => ?_⟩
  · rw [swap_len] at hjl
    rw [swap_at hi hk, swap_at hi hk]
    by_cases e1 : (j - 1) / 2 = i
    · rw [if_neg hne, if_pos e1]
      by_cases e2 : j = k
      · subst e2; rw [if_pos rfl]; omega
      · rw [if_neg e2, if_neg (by omega)]
        exact hmin j hj hjl e1
    · rw [if_neg hne, if_neg e1]
      by_cases e2 : j = k
      · subst e2; exact absurd hki e1
      · rw [if_neg e2]
        by_cases e3 : j = i
        · subst e3; rw [if_pos rfl]
          exact hu.below hj k h0 hk hki
        · rw [if_neg e3]; exact hu.ok j hj hjl e1
  · rw [swap_len] at hjl
    rw [swap_at hi hk, swap_at hi hk]
    rw [hki, if_neg (by omega), if_pos rfl, if_neg (by omega), if_neg (by omega)]
    have := hu.ok j hj hjl (by omega)
    rwa [hjp] at this
theorem down_end {d : α} {ys : List α} {i : Nat} (hu : Down c d ys i) (he : ∀ j, 0 < j → j < ys.length → (j - 1) / 2 = i → c (ys.getD i d) (ys.getD j d) ≤ 0) : Heap c d ys := by
  intro j hj hjl
  by_cases e : (j - 1) / 2 = i
  · rw [e]; exact he j hj hjl e
  · exact hu.ok j hj hjl e
theorem pop_perm {d : α} {ys : List α} (h0 : 0 < ys.length) : (ys.getD 0 d :: (ys.set 0 (ys.getD (ys.length - 1) d)).take (ys.length - 1)).Perm ys := by
  cases ys with
  | nil => simp at h0
  | cons x r =>
    show (x :: (((x :: r).getD r.length d :: r).take r.length)).Perm (x :: r)
    refine List.Perm.cons x ?_
    cases r with
    | nil => exact .nil
    | cons y s =>
      rw [List.length_cons, List.take_succ_cons]
      have e : (x :: y :: s).getD (s.length + 1) d = (y :: s).getLast (by simp) := by
        rw [List.getD_eq_getElem?_getD, List.getElem?_cons_succ, List.getLast_eq_getElem, List.getElem?_eq_getElem (by simp)]; simp
      rw [e]
      have e2 : (y :: s).take s.length = (y :: s).dropLast := by rw [List.dropLast_eq_take]; rfl
      rw [e2]
      have := List.dropLast_concat_getLast (l := y :: s) (by simp)
      refine (List.perm_append_singleton _ _).symm.trans ?_
      rw [this]
structure Kid (c : α → α → Int) (d : α) (ys : List α) (i k : Nat) : Prop where
  at_ : k = 2 * i + 1 ∨ k = 2 * i + 2
  lt : 2 * i + 1 < ys.length → k < ys.length
  least : ∀ j, 0 < j → j < ys.length → (j - 1) / 2 = i → c (ys.getD k d) (ys.getD j d) ≤ 0
theorem kid_a {d : α} {ys : List α} {i : Nat} (h : Cmp c) (hl : 2 * i + 1 + 1 < ys.length) (hc : c (ys.getD (2 * i + 1 + 1) d) (ys.getD (2 * i + 1) d) < 0) : Kid c d ys i (2 * i + 1 + 1) :=
  ⟨.inr rfl, fun _ => hl, fun j h0 hj hp => by
    rcases (by omega : j = 2 * i + 1 ∨ j = 2 * i + 1 + 1) with rfl | rfl
    · omega
    · rw [h.self]; omega⟩
theorem kid_b {d : α} {ys : List α} {i : Nat} (h : Cmp c) (hc : ¬ c (ys.getD (2 * i + 1 + 1) d) (ys.getD (2 * i + 1) d) < 0) : Kid c d ys i (2 * i + 1) :=
  ⟨.inl rfl, fun h => h, fun j h0 hj hp => by
    rcases (by omega : j = 2 * i + 1 ∨ j = 2 * i + 1 + 1) with rfl | rfl
    · rw [h.self]; omega
    · have := h.anti (ys.getD (2 * i + 1 + 1) d) (ys.getD (2 * i + 1) d); omega⟩
theorem kid_c {d : α} {ys : List α} {i : Nat} (h : Cmp c) (hl : ¬ 2 * i + 1 + 1 < ys.length) : Kid c d ys i (2 * i + 1) :=
  ⟨.inl rfl, fun h => h, fun j h0 hj hp => by
    rcases (by omega : j = 2 * i + 1 ∨ j = 2 * i + 1 + 1) with rfl | rfl
    · rw [h.self]; omega
    · omega⟩
theorem down_kid {d : α} {ys : List α} {i k : Nat} (hu : Down c d ys i) (hk : k < ys.length) (hlt : c (ys.getD k d) (ys.getD i d) < 0) (m : Kid c d ys i k) : Down c d ((ys.set i (ys.getD k d)).set k (ys.getD i d)) k :=
  down_step hu hk (by have := m.at_; omega) (by have := m.at_; omega) hlt m.least
theorem down_none {d : α} {ys : List α} {i k : Nat} (hu : Down c d ys i) (hk : ys.length ≤ k) (m : Kid c d ys i k) : Heap c d ys :=
  down_end hu fun j h0 hj hp => by have := m.at_; have := m.lt; omega
theorem down_stop (h : Cmp c) {d : α} {ys : List α} {i k : Nat} (hu : Down c d ys i) (hlt : ¬ c (ys.getD k d) (ys.getD i d) < 0) (m : Kid c d ys i k) : Heap c d ys :=
  down_end hu fun j h0 hj hp => h.trans _ _ _ (by have := h.anti (ys.getD k d) (ys.getD i d); omega) (m.least j h0 hj hp)
theorem swap_perm2 {xs ys : List α} {d : α} {i k : Nat} (hi : i < ys.length) (hk : k < ys.length) (hp : ys.Perm xs) : ((ys.set i (ys.getD k d)).set k (ys.getD i d)).Perm xs := (swap_perm hi hk).trans hp
theorem swap_perm3 {x : α} {xs ys : List α} {d : α} {i k : Nat} (hi : i < ys.length) (hk : k < ys.length) (hp : (x :: ys).Perm xs) : (x :: (ys.set i (ys.getD k d)).set k (ys.getD i d)).Perm xs := ((swap_perm hi hk).cons x).trans hp
theorem swap_len2 (ys : List α) (d : α) (i k : Nat) : ((ys.set i (ys.getD k d)).set k (ys.getD i d)).length = ys.length := swap_len ys d i k
theorem up_swap (h : Cmp c) {d : α} {ys : List α} {i : Nat} (hu : Up c d ys i) (h0 : 0 < i) (hlt : c (ys.getD i d) (ys.getD ((i - 1) / 2) d) < 0) : Up c d ((ys.set i (ys.getD ((i - 1) / 2) d)).set ((i - 1) / 2) (ys.getD i d)) ((i - 1) / 2) := up_step h hu h0 hlt
def Rok (l : List element) : Prop := ∀ e ∈ l, e.record.length ≤ 1000000000
theorem Rok.perm {l m : List element} (h : Rok m) (hp : l.Perm m) : Rok l := fun e he => h e (hp.mem_iff.1 he)
theorem Rok.snoc {l : List element} {x : element} (h : Rok l) (hx : x.record.length ≤ 1000000000) : Rok (l ++ [x]) := fun e he => by
  rcases List.mem_append.1 he with h1 | h1
  · exact h e h1
  · rw [List.mem_singleton.1 h1]; exact hx
theorem Rok.at_ {l : List element} (h : Rok l) {i : Nat} (hi : i < l.length) : (l.getD i default).record.length ≤ 1000000000 := by
  rw [getD_lt hi]; exact h _ (List.getElem_mem hi)
theorem Rok.tail {l m : List element} {x : element} (h : Rok m) (hp : (x :: l).Perm m) : Rok l := fun e he => h e (hp.mem_iff.1 (List.mem_cons_of_mem _ he))
end Hp
end Go.Proofs.YtmacopacmpgieaaGreatDoor

namespace Go.Proofs.YtmacopacmpgieaaGreatDoor
open Go.GV
namespace R44
open Srt (Cmp)
def few (l : List Bytes) (m : Int) : Bool := l.all (fun x => decide (x.length ≤ 60)) && decide ((l.length : Int) ≤ m)
theorem few_facts {l : List Bytes} {m : Int} (h : few l m = true) : (l.length : Int) ≤ m ∧ ∀ i, (l.getD i []).length ≤ 60 := by
  unfold few at h
  simp only [Bool.and_eq_true, decide_eq_true_eq, List.all_eq_true] at h
  refine ⟨h.2, fun i => ?_⟩
  by_cases hi : i < l.length
  · rw [List.getD_eq_getElem?_getD, List.getElem?_eq_getElem hi]; exact h.1 _ (List.getElem_mem hi)
  · rw [List.getD_eq_getElem?_getD, List.getElem?_eq_none (by omega)]; exact Nat.zero_le _
def long (l : List Bytes) : Bool := l.any fun x => decide (1000 < x.length)
theorem long_hit {l : List Bytes} {i : Nat} (hi : i < l.length) (h : 1000 < (l.getD i []).length) : true = long l := by
  refine (List.any_eq_true.2 ⟨l.getD i [], getD_mem hi, decide_eq_true h⟩).symm
theorem long_none {l : List Bytes} (h : ∀ i, i < l.length → (l.getD i []).length ≤ 1000) : false = long l := by
  refine (Bool.eq_false_iff.2 fun h2 => ?_).symm
  obtain ⟨x, hx, h3⟩ := List.any_eq_true.1 h2
  obtain ⟨i, hi, rfl⟩ := List.mem_iff_getElem.1 hx
  have := h i hi
  rw [List.getD_eq_getElem?_getD, List.getElem?_eq_getElem hi] at this
  have := of_decide_eq_true h3
  simp only [Option.getD_some] at *
  omega
theorem long_facts {l : List Bytes} (h : long l = false) : ∀ i, (l.getD i []).length ≤ 1000 := fun i => by
  by_cases hi : i < l.length
  · rcases Nat.lt_or_ge 1000 (l.getD i []).length with h2 | h2
    · rw [← long_hit hi h2] at h; cases h
    · exact h2
  · rw [List.getD_eq_getElem?_getD, List.getElem?_eq_none (by omega)]; exact Nat.zero_le _
theorem texts_end {a b : List Bytes} (hl : a.length = b.length) (h : ∀ i, i < a.length → a.getD i [] = b.getD i []) : true = decide (a = b) := by
  refine (decide_eq_true ?_).symm
  apply List.ext_getElem hl
  intro i h1 h2
  have := h i h1
  rwa [List.getD_eq_getElem?_getD, List.getD_eq_getElem?_getD, List.getElem?_eq_getElem h1, List.getElem?_eq_getElem h2] at this
theorem texts_bad {a b : List Bytes} {i : Nat} (h : a.getD i [] ≠ b.getD i []) : false = decide (a = b) := by
  refine (decide_eq_false fun e => ?_).symm
  rw [e] at h; exact h rfl
theorem texts_len {a b : List Bytes} (h : a.length ≠ b.length) : false = decide (a = b) := by
  refine (decide_eq_false fun e => ?_).symm
  rw [e] at h; exact h rfl
def inK (k : Int) (s : Bytes) : Bytes × Bool := if k = 1 then (if 120 ∈ s then ([], false) else (s, true)) else if k = 2 then (s.reverse, decide (s ≠ [])) else (s, true)
def smK (k : Int) (a b : Bytes) : Bytes × Bool := if k = 1 then (a, true) else if k = 2 then (a ++ b, true) else if k = 3 then (b, decide ((b.length : Int) ≤ (a.length : Int))) else ([], false)
def inputs (f : Bytes → Bytes × Bool) : List Bytes → Option (List Bytes)
  | [] => some []
  | s :: r => if (f s).2 = true then (if 1000 < (f s).1.length then none else (inputs f r).map fun l => (f s).1 :: l) else inputs f r
def inTo (f : Bytes → Bytes × Bool) (out : List Bytes) (l : List Bytes) : Option (List Bytes) := (inputs f l).map fun r => out ++ r
theorem inputs_len {f : Bytes → Bytes × Bool} : ∀ {l out : List Bytes}, inputs f l = some out → out.length ≤ l.length ∧ ∀ x ∈ out, x.length ≤ 1000
  | [], out, h => by cases h; exact ⟨Nat.le_refl _, fun _ hx => by cases hx⟩
  | s :: r, out, h => by
    rw [inputs] at h
    split at h
    · split at h
      · cases h
      · obtain ⟨o, ho, rfl⟩ := Option.map_eq_some_iff.1 h
        have := inputs_len ho
        refine ⟨by simp; omega, fun x hx => ?_⟩
        rcases List.mem_cons.1 hx with rfl | hx
        · omega
        · exact this.2 x hx
    · have := inputs_len h
      exact ⟨by simp; omega, this.2⟩
def sums (c : Bytes → Bytes → Int) (f : Bytes → Bytes → Bytes × Bool) (out : List Bytes) : List Bytes → List Bytes × Int
  | [] => (out, 0)
  | s :: r => if 0 < out.length ∧ c (out.getD (out.length - 1) []) s = 0 ∧ (f (out.getD (out.length - 1) []) s).2 = true then
      (if 1000 < (f (out.getD (out.length - 1) []) s).1.length then ([], 8)
       else if c (f (out.getD (out.length - 1) []) s).1 s ≠ 0 then ([], 9)
       else sums c f (out.set (out.length - 1) (f (out.getD (out.length - 1) []) s).1) r)
    else sums c f (out ++ [s]) r
section
variable {c : Bytes → Bytes → Int} {f : Bytes → Bytes → Bytes × Bool} {out l : List Bytes} {k : Nat} {R : List Bytes × Int}
theorem sums_nil (h : ∀ a b, (f a b).2 = false) : ∀ (l out : List Bytes), sums c f out l = (out ++ l, 0)
  | [], out => by rw [sums, List.append_nil]
  | s :: r, out => by rw [sums, if_neg (by rw [h]; simp), sums_nil h r]; simp
theorem sums_len : ∀ (l out : List Bytes), (sums c f out l).2 = 0 → (sums c f out l).1.length ≤ out.length + l.length
  | [], out, _ => Nat.le_refl _
  | s :: r, out, h => by
    rw [sums] at h ⊢
    split at h
    · rename_i h1
      rw [if_pos h1]
      split at h
      · cases h
      · rename_i h2
        rw [if_neg h2]
        split at h
        · cases h
        · rename_i h3
          rw [if_neg h3]
          have := sums_len r _ h
          rw [List.length_set] at this; rw [List.length_cons]; omega
    · rename_i h1
      rw [if_neg h1]
      have := sums_len r _ h
      rw [List.length_append, List.length_singleton] at this; rw [List.length_cons]; omega
end
end R44
end Go.Proofs.YtmacopacmpgieaaGreatDoor

namespace Go.Proofs.YtmacopacmpgieaaGreatDoor
open Go.GV
namespace R44
open Srt (Cmp El Sel)
open Hp (ec Heap Rok)
def el (e : El Bytes) : element := ⟨(e.run : Int), (e.no : Int), e.x⟩
theorem cmpI_lt {x y : Int} : cmpI x y < 0 ↔ x < y := by unfold cmpI; split <;> (try split) <;> omega
theorem cmpI_zero {x y : Int} : cmpI x y = 0 ↔ x = y := by unfold cmpI; split <;> (try split) <;> omega
theorem ec_lt {l : List SortField} {p q : El Bytes} : ec l (el p) (el q) < 0 ↔ El.lt (cmpL l) p q := by
  show Hp.orL [cmpI (p.run : Int) q.run, cmpL l p.x q.x, cmpI (p.no : Int) q.no] < 0 ↔ _
  have h1 := cmpI_lt (x := (p.run : Int)) (y := q.run)
  have h2 := cmpI_zero (x := (p.run : Int)) (y := q.run)
  have h3 := cmpI_lt (x := (p.no : Int)) (y := q.no)
  have h4 := cmpI_zero (x := (p.no : Int)) (y := q.no)
  unfold El.lt Srt.lt El.tag Hp.orL Hp.orL Hp.orL Hp.orL
  simp only
  split
  · omega
  · split
    · omega
    · split <;> omega
theorem sel_any {c : Bytes → Bytes → Int} : ∀ (m m' : Nat) (mem : List (El Bytes)) (rest : List (Bytes × Nat)) (out : List (List (Bytes × Nat))), mem.length + rest.length ≤ m → mem.length + rest.length ≤ m' → Srt.sel c m mem rest out = Srt.sel c m' mem rest out
  | 0, 0, _, _, _, _, _ => rfl
  | 0, m' + 1, [], _, _, _, _ => rfl
  | m + 1, 0, [], _, _, _, _ => rfl
  | m + 1, m' + 1, [], _, _, _, _ => rfl
  | 0, _ + 1, _ :: _, _, _, h, _ => by simp at h
  | _ + 1, 0, _ :: _, _, _, _, h => by simp at h
  | m + 1, m' + 1, e :: mem, [], out, h, h' => by rw [Srt.sel, Srt.sel, sel_any m m' mem [] _ (by simp at h ⊢; omega) (by simp at h' ⊢; omega)]
  | m + 1, m' + 1, e :: mem, y :: rest, out, h, h' => by
    rw [Srt.sel, Srt.sel, sel_any m m' _ rest _ (by rw [(Srt.insE_perm _ _).length_eq]; simp at h ⊢; omega) (by rw [(Srt.insE_perm _ _).length_eq]; simp at h' ⊢; omega)]
def selA (c : Bytes → Bytes → Int) (mem : List (El Bytes)) (rest : List (Bytes × Nat)) (out : List (List (Bytes × Nat))) : List (List (Bytes × Nat)) := Srt.sel c (mem.length + rest.length) mem rest out
theorem selA_nil {c : Bytes → Bytes → Int} {rest : List (Bytes × Nat)} {out : List (List (Bytes × Nat))} : selA c [] rest out = out := by
  unfold selA; cases hn : ([] : List (El Bytes)).length + rest.length <;> rfl
theorem selA_dry {c : Bytes → Bytes → Int} {e : El Bytes} {mem : List (El Bytes)} {out : List (List (Bytes × Nat))} : selA c (e :: mem) [] out = selA c mem [] (Srt.putR out e.run e.tag) := by
  unfold selA; rw [show (e :: mem).length + ([] : List (Bytes × Nat)).length = (mem.length + 0) + 1 by simp, Srt.sel]; rfl
theorem selA_go {c : Bytes → Bytes → Int} {e : El Bytes} {y : Bytes × Nat} {mem : List (El Bytes)} {rest : List (Bytes × Nat)} {out : List (List (Bytes × Nat))} : selA c (e :: mem) (y :: rest) out = selA c (Srt.insE c mem ⟨if c y.1 e.x < 0 then e.run + 1 else e.run, y.2, y.1⟩) rest (Srt.putR out e.run e.tag) := by
  unfold selA
  rw [show (e :: mem).length + (y :: rest).length = (mem.length + rest.length + 1) + 1 by simp; omega, Srt.sel]
  exact sel_any _ _ _ _ _ (by rw [(Srt.insE_perm _ _).length_eq, List.length_cons]; omega) (by rw [(Srt.insE_perm _ _).length_eq, List.length_cons]; omega)
structure RunI (l : List SortField) (M : Nat) (rs : List Bytes) (next : Nat) (ys : List element) (rws : List (List Bytes)) (mem : List (El Bytes)) (out : List (List (Bytes × Nat))) : Prop where
  sel : Sel (cmpL l) M rs.zipIdx mem (rs.zipIdx.drop next) out 0
  dry : mem = [] → rs.zipIdx.drop next = []
  eq : selA (cmpL l) mem (rs.zipIdx.drop next) out = Srt.runsT (cmpL l) M rs
  perm : ys.Perm (mem.map el)
  heap : Heap (ec l) default ys
  rows : rws = out.map (List.map Prod.fst)
  nx : next ≤ rs.length
def RunJ (l : List SortField) (M : Nat) (rs : List Bytes) (next : Nat) (ys : List element) (rws : List (List Bytes)) : Prop := ∃ mem out, RunI l M rs next ys rws mem out
theorem heap_head {l : List SortField} {ys : List element} {e : El Bytes} {r : List (El Bytes)} (hh : Heap (ec l) default ys) (hp : ys.Perm ((e :: r).map el)) (ho : (e :: r).Pairwise (El.lt (cmpL l))) : ys.getD 0 default = el e := by
  have hc := Hp.ec_ok l
  have hl : 0 < ys.length := by rw [hp.length_eq]; simp
  have h0 : ys.getD 0 default ∈ (e :: r).map el := hp.mem_iff.1 (getD_mem hl)
  rw [List.map_cons] at h0
  rcases List.mem_cons.1 h0 with h | h
  · exact h
  · obtain ⟨f, hf, hfe⟩ := List.mem_map.1 h
    have hlt := ec_lt.2 ((List.pairwise_cons.1 ho).1 f hf)
    have hmem : el e ∈ ys := hp.mem_iff.2 (by rw [List.map_cons]; exact List.mem_cons_self)
    obtain ⟨j, hj, hje⟩ := List.mem_iff_getElem.1 hmem
    have hm := Hp.heap_min hc hh j hj
    rw [Hp.getD_lt hj, hje, ← hfe] at hm
    have := hc.anti (el e) (el f)
    omega
theorem pop_rest {ys ys' : List element} {e : El Bytes} {r : List (El Bytes)} (hp : ys.Perm ((e :: r).map el)) (h0 : ys.getD 0 default = el e) (hq : (ys.getD 0 default :: ys').Perm ys) : ys'.Perm (r.map el) := by
  have h := hq.trans hp
  rw [h0, List.map_cons] at h
  exact (List.perm_cons (el e)).1 h
theorem zip_drop {rs : List Bytes} {k : Nat} (hk : k < rs.length) : rs.zipIdx.drop k = (rs.getD k [], k) :: rs.zipIdx.drop (k + 1) := by
  rw [List.drop_eq_getElem_cons (by simpa using hk)]
  congr 1
  rw [List.getElem_zipIdx, List.getD_eq_getElem?_getD, List.getElem?_eq_getElem hk]
  simp
theorem zip_done {rs : List Bytes} {k : Nat} (hk : rs.length ≤ k) : rs.zipIdx.drop k = [] := List.drop_of_length_le (by simpa using hk)
theorem RunJ.head {l : List SortField} {M next : Nat} {rs : List Bytes} {ys : List element} {rws : List (List Bytes)} (h : RunJ l M rs next ys rws) (h0 : 0 < ys.length) :
    0 ≤ (ys.getD 0 default).run ∧ (ys.getD 0 default).run ≤ (rws.length : Int) ∧ (rws.length : Int) ≤ (ys.getD 0 default).run + 1 := by
  obtain ⟨mem, out, h⟩ := h
  have hl : rws.length = out.length := by rw [h.rows, List.length_map]
  cases hm : mem with
  | nil => rw [hm] at h; have := h.perm.length_eq; simp at this; simp [this] at h0
  | cons e r =>
    subst hm
    rw [heap_head h.heap h.perm h.sel.ord]
    have := h.sel.runsE e List.mem_cons_self
    show (0 : Int) ≤ (e.run : Int) ∧ (e.run : Int) ≤ _ ∧ _ ≤ (e.run : Int) + 1
    rw [hl]; omega
def putS (out : List (List Bytes)) (r : Nat) (s : Bytes) : List (List Bytes) := if r = out.length then out ++ [[s]] else out.set r (out.getD r [] ++ [s])
theorem putS_map {out : List (List (Bytes × Nat))} {r : Nat} {p : Bytes × Nat} : putS (out.map (List.map Prod.fst)) r p.1 = (Srt.putR out r p).map (List.map Prod.fst) := by
  unfold putS Srt.putR
  rw [List.length_map]
  split
  · rw [List.map_append]; rfl
  · rw [List.map_set, List.map_append, Srt.getD_map]; rfl
theorem RunJ.dry {l : List SortField} {M next : Nat} {rs : List Bytes} {ys ys' : List element} {rws : List (List Bytes)} (h : RunJ l M rs next ys rws) (h0 : 0 < ys.length) (hn : ¬ next < rs.length) (hp : (ys.getD 0 default :: ys').Perm ys) (hh : Heap (ec l) default ys') :
    RunJ l M rs next ys' (putS rws (ys.getD 0 default).run.toNat (ys.getD 0 default).record) := by
  obtain ⟨mem, out, h⟩ := h
  cases hm : mem with
  | nil => rw [hm] at h; have := h.perm.length_eq; simp at this; simp [this] at h0
  | cons e r =>
    subst hm
    have he := heap_head h.heap h.perm h.sel.ord
    have hd := zip_done (rs := rs) (k := next) (by omega)
    have hs := h.sel
    have heq := h.eq
    rw [hd] at hs heq
    refine ⟨r, Srt.putR out e.run e.tag, ?_, fun _ => hd, ?_, pop_rest h.perm he hp, hh, ?_, h.nx⟩
    · rw [hd]; exact hs.pop.1.dry
    · rw [hd, ← heq, selA_dry]
    · rw [h.rows, he]; exact putS_map (p := e.tag)
theorem RunJ.go {l : List SortField} {M next : Nat} {rs : List Bytes} {ys ys' ys2 : List element} {rws : List (List Bytes)} {run : Int} (h : RunJ l M rs next ys rws) (h0 : 0 < ys.length) (hn : next < rs.length) (hp : (ys.getD 0 default :: ys').Perm ys)
    (hrun : run = if cmpL l (rs.getD next []) (ys.getD 0 default).record < 0 then (ys.getD 0 default).run + 1 else (ys.getD 0 default).run) (hp2 : ys2.Perm (ys' ++ [element.mk run (next : Int) (rs.getD next [])])) (hh : Heap (ec l) default ys2) :
    RunJ l M rs (next + 1) ys2 (putS rws (ys.getD 0 default).run.toNat (ys.getD 0 default).record) := by
  obtain ⟨mem, out, h⟩ := h
  cases hm : mem with
  | nil => rw [hm] at h; have := h.perm.length_eq; simp at this; simp [this] at h0
  | cons e r =>
    subst hm
    have he := heap_head h.heap h.perm h.sel.ord
    have hd := zip_drop hn
    have hs := h.sel
    have heq := h.eq
    rw [hd] at hs heq
    obtain ⟨p1, p2, p3, p4⟩ := hs.pop
    have hpush := p1.push (cmpL_ok l) p2 p3 p4
    rw [he] at hrun
    have hr2 : run = ((if cmpL l (rs.getD next []) e.x < 0 then e.run + 1 else e.run : Nat) : Int) := by
      rw [hrun]
      show (if cmpL l (rs.getD next []) e.x < 0 then (e.run : Int) + 1 else (e.run : Int)) = _
      split <;> rfl
    refine ⟨_, _, hpush, fun hnil => ?_, ?_, ?_, hh, ?_, by omega⟩
    · have := congrArg List.length hnil
      rw [(Srt.insE_perm _ _).length_eq] at this; simp at this
    · rw [← heq, selA_go]
    · have hq := pop_rest h.perm he hp
      refine hp2.trans ?_
      have h3 := (Srt.insE_perm (c := cmpL l) r ⟨if cmpL l (rs.getD next [], next).1 e.x < 0 then e.run + 1 else e.run, (rs.getD next [], next).2, (rs.getD next [], next).1⟩).map el
      refine List.Perm.trans ?_ h3.symm
      rw [List.map_cons]
      refine (List.perm_append_singleton _ _).trans ?_
      have : element.mk run (next : Int) (rs.getD next []) = el ⟨if cmpL l (rs.getD next [], next).1 e.x < 0 then e.run + 1 else e.run, (rs.getD next [], next).2, (rs.getD next [], next).1⟩ := by rw [hr2]; rfl
      rw [this]
      exact hq.cons _
    · rw [h.rows, he]; exact putS_map (p := e.tag)
def FillJ (l : List SortField) (rs : List Bytes) (k : Nat) (ys : List element) : Prop := ys.Perm ((Srt.fillE (cmpL l) (rs.zipIdx.take k)).map el) ∧ Heap (ec l) default ys
theorem FillJ.start (l : List SortField) (rs : List Bytes) : FillJ l rs 0 [] := ⟨.nil, fun j _ hj => by simp at hj⟩
theorem FillJ.step {l : List SortField} {rs : List Bytes} {k : Nat} {ys ys2 : List element} (h : FillJ l rs k ys) (hk : k < rs.length) (hp : ys2.Perm (ys ++ [element.mk 0 (k : Int) (rs.getD k [])])) (hh : Heap (ec l) default ys2) : FillJ l rs (k + 1) ys2 := by
  refine ⟨?_, hh⟩
  have e : rs.zipIdx.take (k + 1) = rs.zipIdx.take k ++ [(rs.getD k [], k)] := by
    rw [List.take_succ_eq_append_getElem (by simpa using hk)]
    congr 2
    rw [List.getElem_zipIdx, List.getD_eq_getElem?_getD, List.getElem?_eq_getElem hk]; simp
  rw [e]
  unfold Srt.fillE
  rw [List.foldl_append]
  show ys2.Perm ((Srt.insE (cmpL l) (Srt.fillE (cmpL l) (rs.zipIdx.take k)) ⟨0, k, rs.getD k []⟩).map el)
  refine hp.trans (List.Perm.trans ?_ ((Srt.insE_perm _ _).map el).symm)
  rw [List.map_cons]
  exact (List.perm_append_singleton _ _).trans (h.1.cons _)
theorem FillJ.run {l : List SortField} {rs : List Bytes} {M : Nat} {ys : List element} (hM : 0 < M) (h : FillJ l rs (min M rs.length) ys) : RunJ l M rs (min M rs.length) ys [] := by
  have hs := Srt.start_spec (cmpL_ok l) M rs
  have hd : rs.zipIdx.drop (min M rs.length) = rs.zipIdx.drop M := by
    by_cases hM : M ≤ rs.length
    · rw [Nat.min_eq_left hM]
    · rw [Nat.min_eq_right (by omega), zip_done (Nat.le_refl _), zip_done (by omega)]
  have ht : rs.zipIdx.take (min M rs.length) = rs.zipIdx.take M := by
    by_cases hM : M ≤ rs.length
    · rw [Nat.min_eq_left hM]
    · rw [Nat.min_eq_right (by omega), List.take_of_length_le (by simp), List.take_of_length_le (by simp; omega)]
  have h1 := h.1
  rw [ht] at h1
  refine ⟨_, [], by rw [hd]; exact hs.1, fun hn => ?_, ?_, h1, h.2, rfl, Nat.min_le_right _ _⟩
  · have := hs.2
    rw [hn] at this
    have h0 : min M rs.length = 0 := this.symm
    exact zip_done (by omega)
  · rw [hd]
    unfold selA Srt.runsT
    rw [hs.2]
    exact sel_any _ _ _ _ _ (by rw [hs.2]; exact Nat.le_refl _) (by rw [hs.2]; simp; omega)
theorem RunJ.done {l : List SortField} {M next : Nat} {rs : List Bytes} {ys : List element} {rws : List (List Bytes)} (h : RunJ l M rs next ys rws) (h0 : ¬ 0 < ys.length) : rws = Srt.runs (cmpL l) M rs := by
  obtain ⟨mem, out, h⟩ := h
  have hm : mem = [] := by
    have := h.perm.length_eq
    simp at this
    exact List.length_eq_zero_iff.1 (by omega)
  subst hm
  have he := h.eq
  rw [selA_nil] at he
  rw [h.rows, he]; rfl
def runsV (l : List SortField) (m : Int) (rs : List Bytes) : List (List Bytes) := if 1 ≤ m ∧ valid l = true then Srt.runs (cmpL l) m.toNat rs else []
theorem rw_new {rws : List Rw} {r : Int} {s : Bytes} {A : Option Addr} {c : Nat} {z : Rw} (hz : z.s = []) (h : r = ((rws.length : Nat) : Int)) : ((rws ++ [z]).set r.toNat (Rw.mk (((rws ++ [z]).getD r.toNat default).s ++ [s]) A c)).map Rw.s = putS (rws.map Rw.s) r.toNat s := by
  have hr : r.toNat = rws.length := by omega
  rw [hr]
  unfold putS
  rw [List.length_map, if_pos rfl, List.getD_eq_getElem?_getD, List.getElem?_append_right (Nat.le_refl _), Nat.sub_self]
  rw [List.set_append_right _ _ (Nat.le_refl _), Nat.sub_self]
  simp [hz]
theorem rw_old {rws : List Rw} {r : Int} {s : Bytes} {A : Option Addr} {c : Nat} (h0 : 0 ≤ r) (h : ¬ r = ((rws.length : Nat) : Int)) : (rws.set r.toNat (Rw.mk ((rws.getD r.toNat default).s ++ [s]) A c)).map Rw.s = putS (rws.map Rw.s) r.toNat s := by
  unfold putS
  rw [List.length_map, if_neg (by omega), List.map_set]
  congr 2
  rw [List.getD_eq_getElem?_getD, List.getD_eq_getElem?_getD, List.getElem?_map]
  cases rws[r.toNat]? <;> rfl
theorem runs_small {c : Bytes → Bytes → Int} (h : Cmp c) {M : Nat} (hM : 0 < M) (rs : List Bytes) : (Srt.runs c M rs).length ≤ rs.length ∧ ∀ x ∈ Srt.runs c M rs, x.length ≤ rs.length := by
  have hp := (Srt.runs_perm h hM rs).length_eq
  have key : ∀ (ls : List (List Bytes)), (∀ x ∈ ls, x ≠ []) → ls.length ≤ ls.flatten.length := by
    intro ls
    induction ls with
    | nil => intro _; exact Nat.le_refl _
    | cons x r ih =>
      intro hx
      rw [List.flatten_cons, List.length_append, List.length_cons]
      have h1 := List.length_pos_iff.2 (hx x List.mem_cons_self)
      have h2 := ih fun y hy => hx y (List.mem_cons_of_mem _ hy)
      omega
  refine ⟨hp ▸ key _ (Srt.runs_ne h hM rs), fun x hx => ?_⟩
  rw [← hp]
  exact (List.sublist_flatten_of_mem hx).length_le
theorem RunJ.small {l : List SortField} {M next : Nat} {rs : List Bytes} {ys : List element} {rws : List Rw} (h : RunJ l M rs next ys (rws.map Rw.s)) : rws.length ≤ rs.length ∧ ys.length ≤ rs.length ∧ (∀ i, (rws.getD i default).s.length ≤ rs.length) ∧ ∀ i, ((rws ++ [Rw.mk [] none 0]).getD i default).s.length ≤ rs.length := by
  obtain ⟨mem, out, h⟩ := h
  have hp := h.sel.perm.length_eq
  simp only [List.length_append, List.length_map, List.length_zipIdx] at hp
  have hy := h.perm.length_eq
  rw [List.length_map] at hy
  have key : ∀ (ls : List (List (Bytes × Nat))), (∀ x ∈ ls, x ≠ []) → ls.length ≤ ls.flatten.length := by
    intro ls
    induction ls with
    | nil => intro _; exact Nat.le_refl _
    | cons x r ih =>
      intro hx
      rw [List.flatten_cons, List.length_append, List.length_cons]
      have h1 := List.length_pos_iff.2 (hx x List.mem_cons_self)
      have h2 := ih fun y hy => hx y (List.mem_cons_of_mem _ hy)
      omega
  have hk := key out h.sel.ne
  have hl : rws.length = out.length := by
    have := congrArg List.length h.rows
    rwa [List.length_map, List.length_map] at this
  have hs : ∀ i, (rws.getD i default).s.length ≤ rs.length := fun i => by
    by_cases hi : i < rws.length
    · have e : (rws.getD i default).s = (out.getD i []).map Prod.fst := by
        have h2 := congrArg (fun x : List (List Bytes) => x.getD i []) h.rows
        replace h2 : (rws.map Rw.s).getD i [] = (out.map (List.map Prod.fst)).getD i [] := h2
        rw [Srt.getD_map, List.getD_eq_getElem?_getD, List.getElem?_map, List.getElem?_eq_getElem hi] at h2
        rw [List.getD_eq_getElem?_getD, List.getElem?_eq_getElem hi]
        exact h2
      rw [e, List.length_map]
      have hm : out.getD i [] ∈ out := by
        rw [List.getD_eq_getElem?_getD, List.getElem?_eq_getElem (by omega)]; exact List.getElem_mem _
      have := (List.sublist_flatten_of_mem hm).length_le
      omega
    · rw [getD_out (by omega)]; exact Nat.zero_le _
  refine ⟨by omega, by omega, hs, fun i => ?_⟩
  by_cases hi : i < rws.length
  · rw [List.getD_eq_getElem?_getD, List.getElem?_append_left hi, ← List.getD_eq_getElem?_getD]; exact hs i
  · rw [List.getD_eq_getElem?_getD, List.getElem?_append_right (by omega)]
    cases hj : i - rws.length with
    | zero => exact Nat.zero_le _
    | succ k => exact Nat.zero_le _
theorem RunJ.headR {l : List SortField} {M next : Nat} {rs : List Bytes} {ys : List element} {rws : List Rw} (h : RunJ l M rs next ys (rws.map Rw.s)) (h0 : 0 < ys.length) :
    0 ≤ (ys.getD 0 default).run ∧ (ys.getD 0 default).run ≤ (rws.length : Int) ∧ (rws.length : Int) ≤ (ys.getD 0 default).run + 1 := by
  have := h.head h0
  rwa [List.length_map] at this
theorem RunJ.hp {l : List SortField} {M next : Nat} {rs : List Bytes} {ys : List element} {rws : List (List Bytes)} (h : RunJ l M rs next ys rws) : Heap (ec l) default ys := by
  obtain ⟨mem, out, h⟩ := h; exact h.heap
theorem runsV_or {l : List SortField} {m : Int} {rs : List Bytes} (h : m < 1 ∨ valid l = false) : [] = runsV l m rs := by
  unfold runsV; rw [if_neg]; rintro ⟨h1, h2⟩; rcases h with h | h
  · omega
  · rw [h] at h2; cases h2
theorem RunJ.fin {l : List SortField} {next : Nat} {m : Int} {rs : List Bytes} {ys : List element} {rws : List (List Bytes)} (h : RunJ l m.toNat rs next ys rws) (h0 : ¬ 0 < ys.length) (hm : 1 ≤ m) (hv : valid l = true) : rws = runsV l m rs := by
  unfold runsV; rw [if_pos ⟨hm, hv⟩]; exact h.done h0
end R44
end Go.Proofs.YtmacopacmpgieaaGreatDoor

namespace Go.Proofs.YtmacopacmpgieaaGreatDoor
open Go.GV
namespace R44
open Srt (Cmp El Sel)
theorem cmpV_eq {l : List SortField} (h : valid l = true) : cmpV l = cmpL l := by funext a b; unfold cmpV; rw [if_pos h]
def ile (c : Bytes → Bytes → Int) (a b : item) : Prop := c a.s b.s < 0 ∨ (c a.s b.s = 0 ∧ a.no ≤ b.no)
structure Best (c : Bytes → Bytes → Int) (ms : List item) (run : Int) (k : Nat) (r : Int) : Prop where
  bd : -1 ≤ r ∧ r < (k : Int)
  non : r < 0 → ∀ i, i < k → (ms.getD i default).run ≠ run
  som : 0 ≤ r → (ms.getD r.toNat default).run = run ∧ ∀ i, i < k → (ms.getD i default).run = run → ile c (ms.getD r.toNat default) (ms.getD i default)
section
variable {c : Bytes → Bytes → Int} {ms : List item} {run r : Int} {k : Nat}
theorem Best.skip (h : Best c ms run k r) (hr : (ms.getD k default).run ≠ run) : Best c ms run (k + 1) r := by
  have hb := h.bd
  refine ⟨by omega, fun h0 i hi => ?_, fun h0 => ⟨(h.som h0).1, fun i hi he => ?_⟩⟩
  · by_cases e : i = k
    · subst e; exact hr
    · exact h.non h0 i (by omega)
  · by_cases e : i = k
    · subst e; exact absurd he hr
    · exact (h.som h0).2 i (by omega) he
theorem Best.first (hc : Cmp c) (h : Best c ms run k r) (h0 : r < 0) (hr : ¬ (ms.getD k default).run ≠ run) : Best c ms run (k + 1) (k : Int) := by
  refine ⟨by omega, fun h1 => by omega, fun _ => ⟨?_, fun i hi he => ?_⟩⟩
  · rw [Int.toNat_natCast]; exact Decidable.not_not.1 hr
  · rw [Int.toNat_natCast]
    by_cases e : i = k
    · subst e; exact .inr ⟨hc.self _, Int.le_refl _⟩
    · exact absurd he (h.non h0 i (by omega))
theorem Best.keep (hc : Cmp c) (h : Best c ms run k r) (h0 : 0 ≤ r) (hk : 0 < c (ms.getD k default).s (ms.getD r.toNat default).s ∨ (c (ms.getD k default).s (ms.getD r.toNat default).s = 0 ∧ (ms.getD r.toNat default).no < (ms.getD k default).no)) : Best c ms run (k + 1) r := by
  have hb := h.bd
  refine ⟨by omega, fun h1 => by omega, fun _ => ⟨(h.som h0).1, fun i hi he => ?_⟩⟩
  by_cases e : i = k
  · subst e
    have := hc.anti (ms.getD r.toNat default).s (ms.getD i default).s
    unfold ile; omega
  · exact (h.som h0).2 i (by omega) he
theorem Best.swap (hc : Cmp c) (h : Best c ms run k r) (h0 : 0 ≤ r) (hr : ¬ (ms.getD k default).run ≠ run) (hk : ¬ (0 < c (ms.getD k default).s (ms.getD r.toNat default).s ∨ (c (ms.getD k default).s (ms.getD r.toNat default).s = 0 ∧ (ms.getD r.toNat default).no < (ms.getD k default).no))) : Best c ms run (k + 1) (k : Int) := by
  refine ⟨by omega, fun h1 => by omega, fun _ => ⟨?_, fun i hi he => ?_⟩⟩
  · rw [Int.toNat_natCast]; exact Decidable.not_not.1 hr
  · rw [Int.toNat_natCast]
    by_cases e : i = k
    · subst e; exact .inr ⟨hc.self _, Int.le_refl _⟩
    · have h1 := (h.som h0).2 i (by omega) he
      unfold ile at *
      have t1 := hc.trans (ms.getD k default).s (ms.getD r.toNat default).s (ms.getD i default).s
      have t2 := hc.trans (ms.getD i default).s (ms.getD k default).s (ms.getD r.toNat default).s
      have a1 := hc.anti (ms.getD k default).s (ms.getD i default).s
      have a2 := hc.anti (ms.getD r.toNat default).s (ms.getD i default).s
      have a3 := hc.anti (ms.getD k default).s (ms.getD r.toNat default).s
      have t3 := hc.trans (ms.getD r.toNat default).s (ms.getD i default).s (ms.getD k default).s
      omega
theorem best_lt (h : Best c ms run ms.length (k : Int)) : k < ms.length := by have := h.bd; omega
end
def itm (e : El Bytes) : item := ⟨e.x, (e.run : Int) + 1, (e.no : Int)⟩
structure RefI (l : List SortField) (M : Nat) (rs : List Bytes) (next : Nat) (ms : List item) (X : List (List Bytes)) (mem : List (El Bytes)) (out : List (List (Bytes × Nat))) : Prop where
  sel : Sel (cmpL l) M rs.zipIdx mem (rs.zipIdx.drop next) out 0
  dry : mem = [] → rs.zipIdx.drop next = []
  eq : selA (cmpL l) mem (rs.zipIdx.drop next) out = Srt.runsT (cmpL l) M rs
  perm : ms.Perm (mem.map itm)
  rows : (X = out.map (List.map Prod.fst) ∧ out ≠ []) ∨ (X = out.map (List.map Prod.fst) ++ [[]] ∧ mem ≠ [] ∧ ∀ e ∈ mem, e.run = out.length)
  nx : next ≤ rs.length
  val : valid l = true
def RefJ (l : List SortField) (M : Nat) (rs : List Bytes) (next : Nat) (ms : List item) (X : List (List Bytes)) : Prop := ∃ mem out, RefI l M rs next ms X mem out
section
variable {l : List SortField} {M next : Nat} {rs : List Bytes} {ms ms' : List item} {X : List (List Bytes)} {mem : List (El Bytes)} {out : List (List (Bytes × Nat))} {k : Nat}
theorem getD_ex {α : Type} {l : List α} {x d : α} (h : x ∈ l) : ∃ i, i < l.length ∧ l.getD i d = x := by
  obtain ⟨i, hi, e⟩ := List.mem_iff_getElem.1 h
  exact ⟨i, hi, by rw [List.getD_eq_getElem?_getD, List.getElem?_eq_getElem hi]; exact e⟩
theorem RefI.xl (h : RefI l M rs next ms X mem out) : (X.length = out.length ∧ X = out.map (List.map Prod.fst) ∧ out ≠ []) ∨ (X.length = out.length + 1 ∧ X = out.map (List.map Prod.fst) ++ [[]] ∧ mem ≠ [] ∧ ∀ e ∈ mem, e.run = out.length) := by
  rcases h.rows with ⟨h1, h2⟩ | ⟨h1, h2, h3⟩
  · exact .inl ⟨by rw [h1, List.length_map], h1, h2⟩
  · exact .inr ⟨by rw [h1]; simp, h1, h2, h3⟩
theorem RefI.pick (h : RefI l M rs next ms X mem out) (hb : Best (cmpV l) ms (X.length : Int) ms.length (k : Int)) : ∃ e r, mem = e :: r ∧ ms.getD k default = itm e ∧ e.run + 1 = X.length := by
  have hk := best_lt hb
  obtain ⟨b1, b2⟩ := hb.som (by omega)
  rw [Int.toNat_natCast] at b1 b2
  obtain ⟨f, hf, hfe⟩ := List.mem_map.1 (h.perm.mem_iff.1 (getD_mem (d := default) hk))
  have hrun : f.run + 1 = X.length := by
    rw [← hfe] at b1
    have : ((f.run : Int) + 1) = (X.length : Int) := b1
    omega
  cases hm : mem with
  | nil => rw [hm] at hf; cases hf
  | cons e r =>
    refine ⟨e, r, rfl, ?_⟩
    rw [hm] at hf
    rcases List.mem_cons.1 hf with rfl | hf
    · exact ⟨hfe.symm, hrun⟩
    exfalso
    have hsel := h.sel
    rw [hm] at hsel
    have hlt := (List.pairwise_cons.1 hsel.ord).1 f hf
    have he : e.run = f.run := by
      have h1 := hsel.runsE e List.mem_cons_self
      have h2 : e.run ≤ f.run := by rcases hlt with hlt | ⟨hlt, _⟩ <;> omega
      rcases h.xl with ⟨hx, _⟩ | ⟨hx, _, _, hall⟩
      · omega
      · have := hall e (by rw [hm]; exact List.mem_cons_self); omega
    obtain ⟨i, hi, hie⟩ := getD_ex (d := default) (h.perm.mem_iff.2 (List.mem_map_of_mem (f := itm) (show e ∈ mem by rw [hm]; exact List.mem_cons_self)))
    have h3 := b2 i hi (by rw [hie]; show (e.run : Int) + 1 = _; omega)
    rw [hie, ← hfe, cmpV_eq h.val] at h3
    have hc := cmpL_ok l
    have h4 := hc.anti f.x e.x
    rcases hlt with hlt | ⟨_, hlt⟩
    · omega
    · have h5 : cmpL l f.x e.x < 0 ∨ (cmpL l f.x e.x = 0 ∧ (f.no : Int) ≤ (e.no : Int)) := h3
      have h6 : cmpL l e.x f.x < 0 ∨ (cmpL l e.x f.x = 0 ∧ e.no < f.no) := hlt
      omega
theorem set_map {out : List (List (Bytes × Nat))} {p : Bytes × Nat} {n : Nat} : (out.set n (out.getD n [] ++ [p])).map (List.map Prod.fst) = (out.map (List.map Prod.fst)).set n ((out.map (List.map Prod.fst)).getD n [] ++ [p.1]) := by
  rw [List.map_set, List.map_append, Srt.getD_map]; rfl
theorem RefI.put (h : RefI l M rs next ms X mem out) {e : El Bytes} {r : List (El Bytes)} (_hm : mem = e :: r) (he : e.run + 1 = X.length) :
    X.set (X.length - 1) (X.getD (X.length - 1) [] ++ [e.x]) = (Srt.putR out e.run e.tag).map (List.map Prod.fst) ∧ Srt.putR out e.run e.tag ≠ [] := by
  unfold Srt.putR
  rcases h.xl with ⟨hx, h1, h2⟩ | ⟨hx, h1, h2, h3⟩
  · rw [if_neg (by omega)]
    refine ⟨?_, fun e => h2 ?_⟩
    · rw [set_map, ← h1, show X.length - 1 = e.run by omega]; rfl
    · have := congrArg List.length e; rw [List.length_set] at this; exact List.length_eq_zero_iff.1 this
  · rw [if_pos (by omega)]
    refine ⟨?_, by simp⟩
    rw [h1, List.length_append, List.length_map, List.length_singleton, Nat.add_sub_cancel]
    have hl : (out.map (List.map Prod.fst)).length = out.length := List.length_map _
    rw [List.set_append_right _ _ (by omega), hl, Nat.sub_self, List.getD_eq_getElem?_getD, List.getElem?_append_right (by omega), hl, Nat.sub_self, List.map_append]
    rfl
theorem pop_mem {e : El Bytes} {r : List (El Bytes)} (hp : ms.Perm ((e :: r).map itm)) (he : ms.getD k default = itm e) (hq : ms.Perm (ms.getD k default :: ms')) : ms'.Perm (r.map itm) := by
  rw [he] at hq
  have h := hq.symm.trans hp
  rw [List.map_cons] at h
  exact (List.perm_cons (itm e)).1 h
theorem RefJ.dry (h : RefJ l M rs next ms X) (hb : Best (cmpV l) ms (X.length : Int) ms.length (k : Int)) (hn : ¬ next < rs.length) (hp : ms.Perm (ms.getD k default :: ms')) :
    RefJ l M rs next ms' (X.set (X.length - 1) (X.getD (X.length - 1) [] ++ [(ms.getD k default).s])) := by
  obtain ⟨mem, out, h⟩ := h
  obtain ⟨e, r, hm, he, hr⟩ := h.pick hb
  have hput := h.put hm hr
  subst hm
  have hd := zip_done (rs := rs) (k := next) (by omega)
  have hs := h.sel
  have heq := h.eq
  rw [hd] at hs heq
  refine ⟨r, Srt.putR out e.run e.tag, ?_, fun _ => hd, ?_, pop_mem h.perm he hp, .inl ⟨?_, hput.2⟩, h.nx, h.val⟩
  · rw [hd]; exact hs.pop.1.dry
  · rw [hd, ← heq, selA_dry]
  · rw [he]; exact hput.1
theorem RefJ.go (h : RefJ l M rs next ms X) (hb : Best (cmpV l) ms (X.length : Int) ms.length (k : Int)) (hn : next < rs.length) (hp : ms.Perm (ms.getD k default :: ms')) {run : Int}
    (hrun : run = if cmpV l (rs.getD next []) (ms.getD k default).s < 0 then (X.length : Int) + 1 else (X.length : Int)) :
    RefJ l M rs (next + 1) (ms' ++ [item.mk (rs.getD next []) run (next : Int)]) (X.set (X.length - 1) (X.getD (X.length - 1) [] ++ [(ms.getD k default).s])) := by
  obtain ⟨mem, out, h⟩ := h
  obtain ⟨e, r, hm, he, hr⟩ := h.pick hb
  have hput := h.put hm hr
  subst hm
  have hd := zip_drop hn
  have hs := h.sel
  have heq := h.eq
  rw [hd] at hs heq
  obtain ⟨p1, p2, p3, p4⟩ := hs.pop
  have hpush := p1.push (cmpL_ok l) p2 p3 p4
  rw [he, cmpV_eq h.val] at hrun
  have hr2 : run = ((if cmpL l (rs.getD next []) e.x < 0 then e.run + 1 else e.run : Nat) : Int) + 1 := by
    rw [hrun]
    show (if cmpL l (rs.getD next []) e.x < 0 then (X.length : Int) + 1 else (X.length : Int)) = _
    split <;> omega
  refine ⟨_, _, hpush, fun hnil => ?_, ?_, ?_, .inl ⟨?_, hput.2⟩, by omega, h.val⟩
  · have := congrArg List.length hnil
    rw [(Srt.insE_perm _ _).length_eq] at this; simp at this
  · rw [← heq, selA_go]
  · have hq := pop_mem h.perm he hp
    have h3 := (Srt.insE_perm (c := cmpL l) r ⟨if cmpL l (rs.getD next [], next).1 e.x < 0 then e.run + 1 else e.run, (rs.getD next [], next).2, (rs.getD next [], next).1⟩).map itm
    refine List.Perm.trans ?_ h3.symm
    rw [List.map_cons]
    refine (List.perm_append_singleton _ _).trans ?_
    have : item.mk (rs.getD next []) run (next : Int) = itm ⟨if cmpL l (rs.getD next [], next).1 e.x < 0 then e.run + 1 else e.run, (rs.getD next [], next).2, (rs.getD next [], next).1⟩ := by rw [hr2]; rfl
    rw [this]
    exact hq.cons _
  · rw [he]; exact hput.1
theorem RefJ.fresh {r : Int} (h : RefJ l M rs next ms X) (hb : Best (cmpV l) ms (X.length : Int) ms.length r) (h0 : r < 0) (hl : 0 < ms.length) : RefJ l M rs next ms (X ++ [[]]) ∧ X.getD (X.length - 1) [] ≠ [] := by
  obtain ⟨mem, out, h⟩ := h
  have hno : ∀ e ∈ mem, (e.run : Int) + 1 ≠ (X.length : Int) := fun e he => by
    obtain ⟨i, hi, hie⟩ := getD_ex (d := default) (h.perm.mem_iff.2 (List.mem_map_of_mem (f := itm) he))
    have := hb.non h0 i hi
    rw [hie] at this; exact this
  have hne : mem ≠ [] := fun e => by have := h.perm.length_eq; rw [e] at this; simp at this; rw [this] at hl; exact absurd hl (by simp)
  rcases h.xl with ⟨hx, h1, h2⟩ | ⟨hx, h1, h2, h3⟩
  · refine ⟨⟨mem, out, h.sel, h.dry, h.eq, h.perm, .inr ⟨by rw [h1], hne, fun e he => ?_⟩, h.nx, h.val⟩, ?_⟩
    · have := h.sel.runsE e he; have := hno e he; omega
    · rw [h1, Srt.getD_map, List.length_map]
      have hol : 0 < out.length := List.length_pos_iff.2 h2
      have := h.sel.ne (out.getD (out.length - 1) []) (getD_mem (by omega))
      intro hc; exact this (List.map_eq_nil_iff.1 hc)
  · exfalso
    cases hm : mem with
    | nil => exact hne hm
    | cons e r =>
      have he : e ∈ mem := by rw [hm]; exact List.mem_cons_self
      have := h3 e he; have := hno e he; omega
theorem RefJ.fin {m : Int} (h : RefJ l m.toNat rs next ms X) (h0 : ¬ 0 < ms.length) (hm : 1 ≤ m) : X = runsV l m rs := by
  obtain ⟨mem, out, h⟩ := h
  have hmem : mem = [] := by
    have := h.perm.length_eq
    simp at this
    exact List.length_eq_zero_iff.1 (by omega)
  subst hmem
  have he := h.eq
  rw [selA_nil] at he
  unfold runsV
  rw [if_pos ⟨hm, h.val⟩]
  rcases h.rows with ⟨h1, _⟩ | ⟨_, h2, _⟩
  · rw [h1, he]; rfl
  · exact absurd rfl h2
def fills (rs : List Bytes) (k : Nat) : List item := (List.range k).map fun i => ⟨rs.getD i [], 1, (i : Int)⟩
theorem fillE_perm {c : Bytes → Bytes → Int} : ∀ (l : List (Bytes × Nat)) (m : List (El Bytes)), (l.foldl (fun m y => Srt.insE c m ⟨0, y.2, y.1⟩) m).Perm (m ++ l.map fun y => ⟨0, y.2, y.1⟩)
  | [], m => by simp
  | y :: l, m => by
    rw [List.foldl_cons, List.map_cons]
    refine (fillE_perm l _).trans ?_
    refine ((Srt.insE_perm (c := c) m ⟨0, y.2, y.1⟩).append_right _).trans ?_
    exact List.perm_middle.symm
theorem fills_eq {k : Nat} (hk : k ≤ rs.length) : ((rs.zipIdx.take k).map fun y => (⟨0, y.2, y.1⟩ : El Bytes)).map itm = fills rs k := by
  unfold fills
  refine List.ext_getElem (by simp; omega) fun i h1 h2 => ?_
  have hi : i < rs.length := by simp at h2; omega
  simp only [List.getElem_map, List.getElem_take, List.getElem_zipIdx, List.getElem_range, itm]
  rw [List.getD_eq_getElem?_getD, List.getElem?_eq_getElem hi]
  simp
theorem RefJ.start (hv : valid l = true) (hM : 0 < M) (hl : 0 < rs.length) (hn : next = min M rs.length) : RefJ l M rs next (fills rs next) [[]] := by
  subst hn
  have hs := Srt.start_spec (cmpL_ok l) M rs
  have hd : rs.zipIdx.drop (min M rs.length) = rs.zipIdx.drop M := by
    by_cases hM : M ≤ rs.length
    · rw [Nat.min_eq_left hM]
    · rw [Nat.min_eq_right (by omega), zip_done (Nat.le_refl _), zip_done (by omega)]
  have ht : rs.zipIdx.take (min M rs.length) = rs.zipIdx.take M := by
    by_cases hM : M ≤ rs.length
    · rw [Nat.min_eq_left hM]
    · rw [Nat.min_eq_right (by omega), List.take_of_length_le (by simp), List.take_of_length_le (by simp; omega)]
  have hp := fillE_perm (c := cmpL l) (rs.zipIdx.take M) []
  rw [List.nil_append] at hp
  have hfl := hs.2
  refine ⟨Srt.fillE (cmpL l) (rs.zipIdx.take M), [], by rw [hd]; exact hs.1, fun hnil => ?_, ?_, ?_, .inr ⟨rfl, fun hnil => ?_, fun e he => ?_⟩, Nat.min_le_right _ _, hv⟩
  · rw [hnil] at hfl; simp at hfl; omega
  · rw [hd]
    unfold selA Srt.runsT
    rw [hs.2]
    exact sel_any _ _ _ _ _ (by rw [hs.2]; exact Nat.le_refl _) (by rw [hs.2]; simp; omega)
  · rw [← fills_eq (Nat.min_le_right _ _), ht]
    exact (List.Perm.map itm hp).symm
  · rw [hnil] at hfl; simp at hfl; omega
  · obtain ⟨y, _, rfl⟩ := List.mem_map.1 (hp.mem_iff.1 he); rfl
theorem flat_count : ∀ (ls : List (List (Bytes × Nat))), (∀ x ∈ ls, x ≠ []) → ls.length ≤ ls.flatten.length
  | [], _ => Nat.le_refl _
  | x :: r, hx => by
    rw [List.flatten_cons, List.length_append, List.length_cons]
    have h1 := List.length_pos_iff.2 (hx x List.mem_cons_self)
    have h2 := flat_count r fun y hy => hx y (List.mem_cons_of_mem _ hy)
    omega
theorem map_at {rws : List Rw} {i : Nat} : (rws.map Rw.s).getD i [] = (rws.getD i default).s := by
  rw [List.getD_eq_getElem?_getD, List.getElem?_map, List.getD_eq_getElem?_getD]
  cases rws[i]? <;> rfl
theorem RefJ.small (h : RefJ l M rs next ms X) : X.length ≤ rs.length + 1 ∧ ms.length ≤ rs.length ∧ 0 < X.length ∧ (∀ i, (X.getD i []).length ≤ rs.length) ∧ ms.length + (rs.length - next) ≤ rs.length := by
  obtain ⟨mem, out, h⟩ := h
  have hp := h.sel.perm.length_eq
  simp only [List.length_append, List.length_map, List.length_zipIdx, List.length_drop] at hp
  have hy := h.perm.length_eq
  rw [List.length_map] at hy
  have hk := flat_count out h.sel.ne
  have hi : ∀ i, ((out.map (List.map Prod.fst)).getD i []).length ≤ out.flatten.length := fun i => by
    rw [Srt.getD_map, List.length_map]
    by_cases hi : i < out.length
    · exact (List.sublist_flatten_of_mem (getD_mem (d := []) hi)).length_le
    · rw [Srt.getD_none (by omega)]; exact Nat.zero_le _
  rcases h.xl with ⟨hx, h1, h2⟩ | ⟨hx, h1, h2, h3⟩
  · have := List.length_pos_iff.2 h2
    refine ⟨by omega, by omega, by omega, fun i => ?_, by omega⟩
    have := hi i; rw [← h1] at this; omega
  · refine ⟨by omega, by omega, by omega, fun i => ?_, by omega⟩
    rw [h1]
    by_cases hi2 : i < (out.map (List.map Prod.fst)).length
    · rw [Srt.getD_append_left hi2]; have := hi i; omega
    · rw [List.getD_eq_getElem?_getD, List.getElem?_append_right (by omega)]
      cases i - (out.map (List.map Prod.fst)).length <;> exact Nat.zero_le _
theorem RefJ.short (h : RefJ l M rs next ms X) {n : Nat} (hq : ∀ i, (rs.getD i []).length ≤ n) (i : Nat) : (ms.getD i default).s.length ≤ n := by
  by_cases hi : i < ms.length
  · obtain ⟨mem, out, h⟩ := h
    obtain ⟨e, he, hie⟩ := List.mem_map.1 (h.perm.mem_iff.1 (getD_mem (d := default) hi))
    rw [← hie]
    have h1 : e.tag ∈ rs.zipIdx := h.sel.perm.mem_iff.1 (List.mem_append_left _ (List.mem_append_right _ (List.mem_map_of_mem he)))
    have h2 := List.mem_zipIdx h1
    have h3 : e.x = rs.getD e.no [] := by
      have hlt : e.no < rs.length := by have := h2.2.1; simpa using this
      rw [List.getD_eq_getElem?_getD, List.getElem?_eq_getElem hlt]
      have := h2.2.2; simpa using this
    show e.x.length ≤ n
    rw [h3]; exact hq _
  · rw [getD_out (by omega)]; exact Nat.zero_le _
end
section
variable {l : List SortField} {M next : Nat} {rs : List Bytes} {ms : List item} {rws : List Rw} {k : Nat} {r : Int} {z : Rw} {A : Option Addr} {cc : Nat}
abbrev er (ms : List item) (k : Nat) : List item := (([] : List item) ++ ((ms.drop 0).take (k - 0))) ++ ((ms.drop (k + 1)).take (ms.length - (k + 1)))
end
end R44
end Go.Proofs.YtmacopacmpgieaaGreatDoor
