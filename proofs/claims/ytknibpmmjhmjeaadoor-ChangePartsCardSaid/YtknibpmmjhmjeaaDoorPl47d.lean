/- Pl47d: numbers in order, the changes of a data set, what a map holds. -/
import Derived.Test.YtknibpmmjhmjeaaDoorPl47c
import Derived.Test.YtknibpmmjhmjeaaDoorSi
namespace Go.Proofs.YtknibpmmjhmjeaaDoor
open Go.GV
namespace OrdI
theorem unique : ∀ {l m : List Int}, l.Pairwise (· < ·) → m.Pairwise (· < ·) → (∀ x, x ∈ l ↔ x ∈ m) → l = m
  | [], [], _, _, _ => rfl
  | [], y :: m, _, _, h => by have := (h y).2 (by simp); cases this
  | x :: l, [], _, _, h => by have := (h x).1 (by simp); cases this
  | x :: l, y :: m, h1, h2, h => by
    rw [List.pairwise_cons] at h1 h2
    have hxy : x = y := by
      rcases List.mem_cons.1 ((h x).1 (by simp)) with h4 | h4
      · exact h4
      · rcases List.mem_cons.1 ((h y).2 (by simp)) with h5 | h5
        · exact h5.symm
        · have := h1.1 y h5
          have := h2.1 x h4
          omega
    subst hxy
    congr 1
    refine unique h1.2 h2.2 fun z => ⟨fun hz => ?_, fun hz => ?_⟩
    · rcases List.mem_cons.1 ((h z).1 (by simp [hz])) with h4 | h4
      · have := h1.1 z hz; omega
      · exact h4
    · rcases List.mem_cons.1 ((h z).2 (by simp [hz])) with h4 | h4
      · have := h2.1 z hz; omega
      · exact h4
theorem compact_inv (d : Array Int) (hs : ∀ i j, i < j → j < d.size → d[i]! ≤ d[j]!) : ∀ m, m ≤ d.size → (Lib.compactUpTo d m).Pairwise (· < ·) ∧ ∀ x, x ∈ Lib.compactUpTo d m ↔ ∃ j, j < m ∧ d[j]! = x
  | 0, _ => ⟨.nil, fun x => ⟨fun h => (by cases h), fun ⟨j, h, _⟩ => absurd h (Nat.not_lt_zero _)⟩⟩
  | m + 1, hm => by
    obtain ⟨h1, h2⟩ := compact_inv d hs m (by omega)
    rw [Lib.compactUpTo_succ]
    cases hk : Lib.keeps d m with
    | true =>
      rw [if_pos rfl]
      refine ⟨List.pairwise_append.2 ⟨h1, List.pairwise_singleton _ _, fun x hx y hy => ?_⟩, fun x => ?_⟩
      · rw [List.mem_singleton] at hy; subst hy
        obtain ⟨j, hj, rfl⟩ := (h2 x).1 hx
        have hne : d[m]! ≠ d[m - 1]! := by
          intro e
          rw [Lib.keeps_neg (by omega) e] at hk; cases hk
        have h3 := hs (m - 1) m (by omega) (by omega)
        by_cases hjm : j = m - 1
        · subst hjm; omega
        · have := hs j (m - 1) (by omega) (by omega)
          omega
      · rw [List.mem_append, h2 x, List.mem_singleton]
        constructor
        · rintro (⟨j, hj, e⟩ | rfl)
          · exact ⟨j, by omega, e⟩
          · exact ⟨m, by omega, rfl⟩
        · rintro ⟨j, hj, e⟩
          by_cases h : j = m
          · subst h; exact .inr e.symm
          · exact .inl ⟨j, by omega, e⟩
    | false =>
      rw [if_neg (by decide), List.append_nil]
      refine ⟨h1, fun x => ?_⟩
      rw [h2 x]
      constructor
      · rintro ⟨j, hj, e⟩; exact ⟨j, by omega, e⟩
      · rintro ⟨j, hj, e⟩
        by_cases h : j = m
        · subst h
          have h0 : 0 < j := by
            rcases Nat.eq_zero_or_pos j with h0 | h0
            · subst h0
              rw [Lib.keeps_lt_one d 0 (by omega)] at hk; cases hk
            · exact h0
          by_cases he : d[j]! = d[j - 1]!
          · exact ⟨j - 1, by omega, by rw [← he]; exact e⟩
          · rw [Lib.keeps_pos he] at hk; cases hk
        · exact ⟨j, by omega, e⟩
theorem srt_sorted (xs : List Int) : (srt xs).Pairwise fun a b => a ≤ b := by
  have h := List.pairwise_mergeSort (le := fun x y : Int => decide (x ≤ y)) (fun a b c h1 h2 => ?_) (fun a b => ?_) xs
  · exact List.Pairwise.imp (fun {a b} hab => of_decide_eq_true hab) h
  · have := of_decide_eq_true h1
    have := of_decide_eq_true h2
    exact decide_eq_true (by omega)
  · rw [Bool.or_eq_true, decide_eq_true_eq, decide_eq_true_eq]; omega
theorem srt_mem (xs : List Int) (x : Int) : x ∈ srt xs ↔ x ∈ xs := (List.mergeSort_perm xs _).mem_iff
theorem cs_spec (xs : List Int) : (cmp (srt xs)).Pairwise (· < ·) ∧ ∀ x, x ∈ cmp (srt xs) ↔ x ∈ xs := by
  have hget : ∀ j, j < (srt xs).length → (srt xs).toArray[j]! = (srt xs).getD j 0 := fun j hj => by
    rw [List.getD_eq_getElem?_getD, List.getElem?_eq_getElem hj]
    simp [getElem!_pos, hj]
  have h := compact_inv (srt xs).toArray (fun i j hij hj => ?_) (srt xs).length (by simp)
  · refine ⟨h.1, fun x => ?_⟩
    have := h.2 x
    show x ∈ Lib.compactUpTo (srt xs).toArray (srt xs).length ↔ _
    rw [this, ← srt_mem]
    constructor
    · rintro ⟨j, hj, rfl⟩
      rw [hget j hj, List.getD_eq_getElem?_getD, List.getElem?_eq_getElem hj]
      exact List.getElem_mem hj
    · intro hx
      obtain ⟨j, hj, rfl⟩ := List.getElem_of_mem hx
      exact ⟨j, hj, by rw [hget j hj, List.getD_eq_getElem?_getD, List.getElem?_eq_getElem hj]; rfl⟩
  · have hj' : j < (srt xs).length := by simpa using hj
    rw [hget j hj', hget i (by omega), List.getD_eq_getElem?_getD, List.getElem?_eq_getElem (show i < (srt xs).length by omega), List.getD_eq_getElem?_getD, List.getElem?_eq_getElem hj']
    exact List.pairwise_iff_getElem.1 (srt_sorted xs) i j (by omega) hj' hij
def ins : List Int → Int → List Int
  | [], s => [s]
  | x :: l, s => if x < s then x :: ins l s else if x = s then x :: l else s :: x :: l
theorem ins_mem : ∀ (l : List Int) (s x : Int), x ∈ ins l s ↔ x = s ∨ x ∈ l
  | [], s, x => by simp [ins]
  | y :: l, s, x => by
    unfold ins
    split
    · rw [List.mem_cons, ins_mem l s x, List.mem_cons]
      constructor
      · rintro (h | h | h)
        · exact .inr (.inl h)
        · exact .inl h
        · exact .inr (.inr h)
      · rintro (h | h | h)
        · exact .inr (.inl h)
        · exact .inl h
        · exact .inr (.inr h)
    · split
      · rename_i h; subst h
        constructor
        · intro h; exact .inr h
        · rintro (rfl | h)
          · simp
          · exact h
      · rw [List.mem_cons]
theorem ins_sorted : ∀ (l : List Int) (s : Int), l.Pairwise (· < ·) → (ins l s).Pairwise (· < ·)
  | [], s, _ => List.pairwise_singleton _ _
  | y :: l, s, h => by
    rw [List.pairwise_cons] at h
    unfold ins
    split
    · rename_i h1
      refine List.pairwise_cons.2 ⟨fun z hz => ?_, ins_sorted l s h.2⟩
      rcases (ins_mem l s z).1 hz with rfl | hz
      · exact h1
      · exact h.1 z hz
    · rename_i h1
      split
      · exact List.pairwise_cons.2 h
      · rename_i h2
        have hsy : s < y := by omega
        exact List.pairwise_cons.2 ⟨fun z hz => by
          rcases List.mem_cons.1 hz with rfl | hz
          · exact hsy
          · have := h.1 z hz; omega, List.pairwise_cons.2 h⟩
def insl (ys : List Int) : List Int := ys.foldl ins []
theorem fold_spec : ∀ (ys l : List Int), l.Pairwise (· < ·) → (ys.foldl ins l).Pairwise (· < ·) ∧ ∀ x, x ∈ ys.foldl ins l ↔ x ∈ ys ∨ x ∈ l
  | [], l, h => ⟨h, fun x => by simp⟩
  | y :: ys, l, h => by
    obtain ⟨h1, h2⟩ := fold_spec ys (ins l y) (ins_sorted l y h)
    refine ⟨h1, fun x => ?_⟩
    rw [List.foldl_cons, h2 x, ins_mem, List.mem_cons]
    constructor
    · rintro (h | h | h)
      · exact .inl (.inr h)
      · exact .inl (.inl h)
      · exact .inr h
    · rintro ((h | h) | h)
      · exact .inr (.inl h)
      · exact .inl h
      · exact .inr (.inr h)
theorem same (ys : List Int) : cmp (srt ys) = insl ys := by
  have h1 := cs_spec ys
  have h2 := fold_spec ys [] .nil
  refine unique h1.1 h2.1 fun x => ?_
  rw [h1.2 x]
  show _ ↔ x ∈ ys.foldl ins []
  rw [h2.2 x]
  simp
theorem ins_len (l : List Int) (s : Int) : (ins l s).length ≤ l.length + 1 := by
  induction l with
  | nil => exact Nat.le_refl _
  | cons x l ih =>
    unfold ins
    split
    · rw [List.length_cons, List.length_cons]; omega
    · split
      · rw [List.length_cons]; omega
      · rw [List.length_cons]; exact Nat.le_refl _
theorem ins_at : ∀ (k : Nat) (l : List Int) (s : Int), k ≤ l.length → (∀ i, i < k → l.getD i 0 < s) → (k < l.length → ¬ l.getD k 0 < s) → ins l s = l.take k ++ (if k < l.length ∧ l.getD k 0 = s then l.drop k else s :: l.drop k)
  | 0, [], s, _, _, _ => rfl
  | 0, x :: l, s, _, _, h3 => by
    have h4 : ¬ x < s := h3 (by simp)
    unfold ins
    rw [if_neg h4]
    by_cases h : x = s
    · rw [if_pos h, if_pos ⟨by simp, h⟩]; rfl
    · rw [if_neg h, if_neg (fun h2 => h h2.2)]; rfl
  | k + 1, [], s, h, _, _ => by simp at h
  | k + 1, x :: l, s, h, h2, h3 => by
    have h4 : x < s := h2 0 (by omega)
    unfold ins
    rw [if_pos h4, ins_at k l s (by simpa using h) (fun i hi => h2 (i + 1) (by omega)) (fun hk => h3 (by simpa using hk))]
    simp
section
variable {l out : List Int} {i k : Nat}
theorem insl_step (hi : i < l.length) : insl (l.take (i + 1)) = ins (insl (l.take i)) (l.getD i 0) := by
  unfold insl
  rw [List.take_succ_eq_append_getElem hi, List.foldl_append, List.getD_eq_getElem?_getD, List.getElem?_eq_getElem hi]; rfl
theorem set_hit (hi : i < l.length) (h : out = insl (l.take i)) (hk : k ≤ out.length) (h1 : ∀ j, j < k → out.getD j 0 < l.getD i 0) (h2 : k < out.length) (h3 : out.getD k 0 = l.getD i 0) : out = insl (l.take (i + 1)) := by
  rw [insl_step hi, ← h, ins_at k out _ hk h1 (fun _ => by omega), if_pos ⟨h2, h3⟩, List.take_append_drop]
theorem set_new (hi : i < l.length) (h : out = insl (l.take i)) (hk : k ≤ out.length) (h1 : ∀ j, j < k → out.getD j 0 < l.getD i 0) (h2 : k < out.length → ¬ out.getD k 0 < l.getD i 0) (h3 : ¬ (k < out.length ∧ out.getD k 0 = l.getD i 0)) : ((([] : List Int) ++ ((out.drop 0).take (k - 0))) ++ [l.getD i 0]) ++ ((out.drop k).take (out.length - k)) = insl (l.take (i + 1)) := by
  rw [insl_step hi, ← h, ins_at k out _ hk h1 h2, if_neg h3]
  rw [List.drop_zero, Nat.sub_zero, List.nil_append, List.append_assoc, List.take_of_length_le (by simp : (out.drop k).length ≤ out.length - k)]
  rfl
theorem insl_len : ∀ l : List Int, (insl l).length ≤ l.length := by
  intro l
  rw [← same]
  exact Nat.le_trans (cmp_length _) (by rw [srt_length]; exact Nat.le_refl _)
end
end OrdI
namespace R47
def ids (ch : List Change) : List Int := cmp (srt (ch.map Change.Id))
theorem ids_len (ch : List Change) : (ids ch).length ≤ ch.length := by
  have h1 := cmp_length (srt (ch.map Change.Id))
  have h2 := srt_length (ch.map Change.Id)
  rw [List.length_map] at h2
  unfold ids; omega
theorem ids_mem (ch : List Change) (x : Int) : x ∈ ids ch ↔ ∃ c ∈ ch, c.Id = x := by
  unfold ids; rw [(OrdI.cs_spec _).2 x, List.mem_map]
theorem map_step {ch : List Change} {k : Nat} (hk : k < ch.length) : (ch.take (k + 1)).map Change.Id = (ch.take k).map Change.Id ++ [(ch.getD k default).Id] := by
  rw [List.take_succ_eq_append_getElem hk, List.map_append, List.getD_eq_getElem?_getD, List.getElem?_eq_getElem hk]; rfl
def ofN (num : Int) (ch : List Change) (id : Int) : Nat → List Numbered
  | 0 => []
  | k + 1 => ofN num ch id k ++ (if (ch.getD k default).Id = id then [⟨num + k, ch.getD k default⟩] else [])
def of (num : Int) (ch : List Change) (id : Int) : List Numbered := ofN num ch id ch.length
theorem ofN_len (num : Int) (ch : List Change) (id : Int) : ∀ k, (ofN num ch id k).length ≤ k
  | 0 => Nat.le_refl _
  | k + 1 => by
    have := ofN_len num ch id k
    show (ofN num ch id k ++ _).length ≤ k + 1
    rw [List.length_append]
    split
    · simp only [List.length_cons, List.length_nil]; omega
    · simp only [List.length_nil]; omega
theorem of_len (num : Int) (ch : List Change) (id : Int) : (of num ch id).length ≤ ch.length := ofN_len num ch id _
theorem ofN_yes {num id : Int} {ch : List Change} {k : Nat} (h : (ch.getD k default).Id = id) : ofN num ch id (k + 1) = ofN num ch id k ++ [⟨num + k, ch.getD k default⟩] := by show _ ++ _ = _; rw [if_pos h]
theorem ofN_no {num id : Int} {ch : List Change} {k : Nat} (h : ¬ (ch.getD k default).Id = id) : ofN num ch id (k + 1) = ofN num ch id k := by show _ ++ _ = _; rw [if_neg h, List.append_nil]
theorem ofN_mem {num id : Int} {ch : List Change} : ∀ (k : Nat) (n : Numbered), n ∈ ofN num ch id k ↔ ∃ i, i < k ∧ (ch.getD i default).Id = id ∧ n = ⟨num + i, ch.getD i default⟩
  | 0, n => ⟨fun h => (by cases h), fun ⟨i, h, _⟩ => absurd h (Nat.not_lt_zero _)⟩
  | k + 1, n => by
    show n ∈ ofN num ch id k ++ _ ↔ _
    rw [List.mem_append, ofN_mem k n]
    constructor
    · rintro (⟨i, h1, h2⟩ | h)
      · exact ⟨i, by omega, h2⟩
      · split at h
        · rename_i h3; exact ⟨k, by omega, h3, by simpa using h⟩
        · cases h
    · rintro ⟨i, h1, h2, h3⟩
      by_cases hi : i = k
      · subst hi; right; rw [if_pos h2, List.mem_singleton]; exact h3
      · exact .inl ⟨i, by omega, h2, h3⟩
/-! maps -/
def mc (p : Int × Change) : Int × Value := (p.1, Value.agg (Change.enc p.2).toArray)
def lkC : List (Int × Change) → Int → Option Change
  | [], _ => none
  | (a, v) :: l, k => if k = a then some v else lkC l k
def updC : List (Int × Change) → Int → Change → List (Int × Change)
  | [], k, v => [(k, v)]
  | (a, u) :: l, k, v => if k = a then (k, v) :: l else (a, u) :: updC l k v
theorem lk_mc : ∀ (m : List (Int × Change)) (k : Int), lk (m.map mc) k = (lkC m k).map fun c => Value.agg (Change.enc c).toArray
  | [], _ => rfl
  | (a, v) :: l, k => by
    show lk ((a, Value.agg (Change.enc v).toArray) :: l.map mc) k = _
    unfold lk lkC
    by_cases h : k = a
    · rw [if_pos h, if_pos h]; rfl
    · rw [if_neg h, if_neg h, lk_mc l k]
theorem upd_mc : ∀ (m : List (Int × Change)) (k : Int) (v : Change), upd (m.map mc) k (Value.agg (Change.enc v).toArray) = (updC m k v).map mc
  | [], _, _ => rfl
  | (a, u) :: l, k, v => by
    show upd ((a, Value.agg (Change.enc u).toArray) :: l.map mc) k _ = _
    unfold upd updC
    by_cases h : k = a
    · rw [if_pos h, if_pos h]; rfl
    · rw [if_neg h, if_neg h, upd_mc l k v]; rfl
theorem lk_v (m : List (Int × Change)) (k : Int) : ((lkC m k).map fun c => Value.agg (Change.enc c).toArray).getD (Value.agg #[vI 0, vI 0, vS [], vS [], vS []]) = Value.agg (Change.enc ((lkC m k).getD (Change.mk 0 0 [] [] []))).toArray := by
  cases lkC m k <;> rfl
theorem lk_o (m : List (Int × Change)) (k : Int) : ((lkC m k).map fun c => Value.agg (Change.enc c).toArray).isSome = (lkC m k).isSome := by
  cases lkC m k <;> rfl
theorem lk_upd : ∀ (m : List (Int × Change)) (k j : Int) (v : Change), lkC (updC m k v) j = if j = k then some v else lkC m j
  | [], k, j, v => rfl
  | (a, u) :: l, k, j, v => by
    unfold updC
    by_cases h : k = a
    · subst h
      rw [if_pos rfl]
      unfold lkC
      by_cases h2 : j = k
      · rw [if_pos h2, if_pos h2]
      · rw [if_neg h2, if_neg h2, if_neg h2]
    · rw [if_neg h]
      unfold lkC
      by_cases h2 : j = a
      · subst h2
        rw [if_pos rfl, if_neg (fun e => h e.symm), if_pos rfl]
      · rw [if_neg h2, lk_upd l k j v]
        by_cases h3 : j = k
        · rw [if_pos h3, if_pos h3]
        · rw [if_neg h3, if_neg h3, if_neg h2]
def Sat (m : List (Int × Change)) (n : Numbered) : Prop := lkC m n.Number = some n.Change
def Good (num : Int) (ch : List Change) (n : Numbered) : Prop := ∃ i : Nat, n = ⟨num + i, ch.getD i default⟩
theorem sat_upd {num : Int} {ch : List Change} {m : List (Int × Change)} {n n' : Numbered} (h : Sat m n) (g : Good num ch n) (g' : Good num ch n') : Sat (updC m n'.Number n'.Change) n := by
  unfold Sat at *
  rw [lk_upd]
  by_cases e : n.Number = n'.Number
  · rw [if_pos e]
    obtain ⟨i, rfl⟩ := g
    obtain ⟨j, rfl⟩ := g'
    have e : num + (i : Int) = num + j := e
    have : i = j := by omega
    subst this; rfl
  · rw [if_neg e]; exact h
theorem sat_new (m : List (Int × Change)) (n : Numbered) : Sat (updC m n.Number n.Change) n := by unfold Sat; rw [lk_upd, if_pos rfl]
theorem of_good {num id : Int} {ch : List Change} {n : Numbered} (h : n ∈ of num ch id) : Good num ch n := by
  obtain ⟨i, _, _, h3⟩ := (ofN_mem _ n).1 h
  exact ⟨i, h3⟩
theorem of_mem {num : Int} {ch : List Change} {i : Nat} (hi : i < ch.length) : (⟨num + i, ch.getD i default⟩ : Numbered) ∈ of num ch (ch.getD i default).Id := (ofN_mem _ _).2 ⟨i, hi, rfl, rfl⟩
section
variable {num : Int} {ch : List Change} {m : List (Int × Change)} {L : List Int} {a j : Nat}
def Done (num : Int) (ch : List Change) (m : List (Int × Change)) (L : List Int) (a : Nat) : Prop := ∀ t, t < a → ∀ n ∈ of num ch (L.getD t 0), Sat m n
def Half (num : Int) (ch : List Change) (m : List (Int × Change)) (l : List Numbered) (j : Nat) : Prop := ∀ t, t < j → Sat m (l.getD t default)
theorem done_upd {n : Numbered} (h : Done num ch m L a) (g : Good num ch n) : Done num ch (updC m n.Number n.Change) L a := fun t ht x hx => sat_upd (h t ht x hx) (of_good hx) g
theorem half_step {id : Int} (hj : j < (of num ch id).length) (h : Half num ch m (of num ch id) j) : Half num ch (updC m ((of num ch id).getD j default).Number ((of num ch id).getD j default).Change) (of num ch id) (j + 1) := fun t ht => by
  by_cases e : t = j
  · subst e; exact sat_new _ _
  · exact sat_upd (h t (by omega)) (of_good (mem_getD (by omega))) (of_good (mem_getD hj))
theorem done_step (h : Done num ch m L a) (h2 : Half num ch m (of num ch (L.getD a 0)) j) (hj : (of num ch (L.getD a 0)).length ≤ j) : Done num ch m L (a + 1) := fun t ht n hn => by
  by_cases e : t = a
  · subst e
    obtain ⟨i, hi, rfl⟩ := List.getElem_of_mem hn
    have := h2 i (by omega)
    rwa [List.getD_eq_getElem?_getD, List.getElem?_eq_getElem hi] at this
  · exact h t (by omega) n hn
theorem done_all (h : Done num ch m L a) (ha : L.length ≤ a) (hL : L = ids ch ++ [-5]) {i : Nat} (hi : i < ch.length) : lkC m (num + i) = some (ch.getD i default) := by
  have hm : (ch.getD i default).Id ∈ L := by
    rw [hL]
    exact List.mem_append_left _ ((ids_mem ch _).2 ⟨_, mem_getD hi, rfl⟩)
  obtain ⟨t, ht, e⟩ := List.getElem_of_mem hm
  have := h t (by omega) ⟨num + i, ch.getD i default⟩ (by
    rw [List.getD_eq_getElem?_getD, List.getElem?_eq_getElem ht]
    show _ ∈ of num ch L[t]
    rw [e]
    exact of_mem hi)
  exact this
theorem seen_bad {c x : Change} {p q : Bool} (h : (p && ((!q) || (!(decide (x = c))))) = true) (hq : q = true) (hx : x = c) : False := by
  subst hx; subst hq
  simp at h
end
theorem ints_no {a b : List Int} (h : a.length ≠ b.length) : decide (a = b) = false := decide_eq_false fun e => h (by rw [e])
theorem ints_bad {a b : List Int} {k : Nat} (h : ¬ a.getD k 0 = b.getD k 0) : decide (a = b) = false := decide_eq_false fun e => h (by rw [e])
theorem ints_all {a b : List Int} (hl : a.length = b.length) (h : ∀ i, i < a.length → a.getD i 0 = b.getD i 0) : decide (a = b) = true := by
  refine decide_eq_true (List.ext_getElem hl fun i h1 h2 => ?_)
  have := h i h1
  rwa [List.getD_eq_getElem?_getD, List.getElem?_eq_getElem h1, List.getD_eq_getElem?_getD, List.getElem?_eq_getElem h2] at this
theorem parts_bad1 {a : List Int} {x : Int} (h : ((!(decide (a = a))) || (decide (x ≠ x))) = true) : False := by simp at h
theorem parts_bad2 {n : Nat} (h : decide ((n : Int) ≠ (n : Int)) = true) : False := by simp at h
theorem parts_bad3 {m : List (Int × Change)} {k : Int} {c : Change} (hs : lkC m k = some c) (h : ((decide (c.Id ≠ -5)) && ((!((lkC m k).isSome)) || (!(decide ((lkC m k).getD (Change.mk 0 0 [] [] []) = c))))) = true) : False := by
  rw [hs] at h
  simp at h
end R47
end Go.Proofs.YtknibpmmjhmjeaaDoor
