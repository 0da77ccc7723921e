/- Pl26c: lists of strings in order: sorting and leaving out repetitions is inserting each string once; the records of an index. -/
import Derived.Test.YtmbinhhlfbgiaaaPl26b
import Derived.Test.YtmbinhhlfbgiaaaSs
namespace Go.Proofs.Ytmbinhhlfbgiaaa
open Go.GV
namespace Ord
def lt (a b : Bytes) : Prop := Op.bytesLess a b = true
theorem irr (a : Bytes) : ¬ lt a a := by unfold lt; rw [R26.less_self]; decide
theorem lt_cons {x y : UInt8} {a b : Bytes} : lt (x :: a) (y :: b) ↔ (x.toNat < y.toNat ∨ (x.toNat = y.toNat ∧ lt a b)) := by
  unfold lt
  rw [Op.bytesLess, Bool.or_eq_true, Bool.and_eq_true, decide_eq_true_eq, beq_iff_eq, UInt8.lt_iff_toNat_lt, ← UInt8.toNat_inj]
theorem trans : ∀ {a b c : Bytes}, lt a b → lt b c → lt a c
  | _, _, [], _, h => by simp [lt, Op.bytesLess] at h
  | _, [], _ :: _, h, _ => by simp [lt, Op.bytesLess] at h
  | [], _ :: _, _ :: _, _, _ => rfl
  | x :: a, y :: b, z :: c, h, h2 => by
    rw [lt_cons] at *
    rcases h with h | ⟨h, h3⟩ <;> rcases h2 with h2 | ⟨h2, h4⟩
    · left; omega
    · left; omega
    · left; omega
    · exact .inr ⟨by omega, trans h3 h4⟩
theorem tri : ∀ (a b : Bytes), lt a b ∨ a = b ∨ lt b a
  | [], [] => .inr (.inl rfl)
  | [], _ :: _ => .inl rfl
  | _ :: _, [] => .inr (.inr rfl)
  | x :: a, y :: b => by
    rw [lt_cons, lt_cons]
    rcases Nat.lt_trichotomy x.toNat y.toNat with h | h | h
    · exact .inl (.inl h)
    · rcases tri a b with h2 | h2 | h2
      · exact .inl (.inr ⟨h, h2⟩)
      · exact .inr (.inl (by rw [UInt8.toNat_inj.1 h, h2]))
      · exact .inr (.inr (.inr ⟨h.symm, h2⟩))
    · exact .inr (.inr (.inl h))
theorem asymm {a b : Bytes} (h : lt a b) : ¬ lt b a := fun h2 => irr a (trans h h2)
theorem le_iff (a b : Bytes) : decide (a ≤ b) = !Op.bytesLess b a := by
  rw [Bool.eq_iff_iff, decide_eq_true_eq, Bool.not_eq_true']
  show ¬ b < a ↔ _
  rw [← less_iff]
  simp
theorem not_lt {a b : Bytes} (h : ¬ lt a b) : b = a ∨ lt b a := by
  rcases tri a b with h2 | h2 | h2
  · exact absurd h2 h
  · exact .inl h2.symm
  · exact .inr h2
theorem unique : ∀ {l m : List Bytes}, l.Pairwise lt → m.Pairwise lt → (∀ x, x ∈ l ↔ x ∈ m) → l = m
  | [], [], _, _, _ => rfl
  | [], y :: m, _, _, h => by have := (h y).2 (by simp); cases this
  | x :: l, [], _, _, h => by have := (h x).1 (by simp); cases this
  | x :: l, y :: m, h1, h2, h => by
    rw [List.pairwise_cons] at h1 h2
    have hxy : x = y := by
      rcases tri x y with h3 | h3 | h3
      · rcases List.mem_cons.1 ((h x).1 (by simp)) with h4 | h4
        · exact h4
        · exact absurd (h2.1 x h4) (asymm h3)
      · exact h3
      · rcases List.mem_cons.1 ((h y).2 (by simp)) with h4 | h4
        · exact h4.symm
        · exact absurd (h1.1 y h4) (asymm h3)
    subst hxy
    congr 1
    refine unique h1.2 h2.2 fun z => ⟨fun hz => ?_, fun hz => ?_⟩
    · rcases List.mem_cons.1 ((h z).1 (by simp [hz])) with h4 | h4
      · subst h4; exact absurd (h1.1 z hz) (irr z)
      · exact h4
    · rcases List.mem_cons.1 ((h z).2 (by simp [hz])) with h4 | h4
      · subst h4; exact absurd (h2.1 z hz) (irr z)
      · exact h4
theorem compact_inv (d : Array Bytes) (hs : ∀ i j, i < j → j < d.size → ¬ lt d[j]! d[i]!) : ∀ m, m ≤ d.size → (Lib.compactUpTo d m).Pairwise lt ∧ ∀ x, x ∈ Lib.compactUpTo d m ↔ ∃ j, j < m ∧ d[j]! = x
  | 0, _ => ⟨.nil, fun x => ⟨fun h => (by cases h), fun ⟨j, h, _⟩ => absurd h (Nat.not_lt_zero _)⟩⟩
  | m + 1, hm => by
    obtain ⟨h1, h2⟩ := compact_inv d hs m (by omega)
    rw [Lib.compactUpTo_succ]
    cases hk : Lib.keeps d m with
    | true =>
      rw [if_pos rfl]
      refine ⟨List.pairwise_append.2 ⟨h1, List.pairwise_singleton _ _, fun x hx y hy => ?_⟩, fun x => ?_⟩
      · rw [List.mem_singleton] at hy; subst hy
        obtain ⟨j, hj, rfl⟩ := (h2 x).1 hx
        rcases not_lt (hs j m hj (by omega)) with h3 | h3
        · exfalso
          have hne : d[m]! ≠ d[m - 1]! := by
            intro e
            rw [Lib.keeps_neg (by omega) e] at hk; cases hk
          by_cases hjm : j = m - 1
          · subst hjm; exact hne h3.symm
          · rcases not_lt (hs j (m - 1) (by omega) (by omega)) with h4 | h4
            · exact hne (by rw [← h3, h4])
            · have := hs (m - 1) m (by omega) (by omega)
              rw [← h3] at this
              exact this h4
        · exact h3
      · rw [List.mem_append, h2 x, List.mem_singleton]
        constructor
        · rintro (⟨j, hj, e⟩ | rfl)
          · exact ⟨j, by omega, e⟩
          · exact ⟨m, by omega, rfl⟩
        · rintro ⟨j, hj, e⟩
          by_cases h : j = m
          · subst h; exact .inr e.symm
          · exact .inl ⟨j, by omega, e⟩
    | false =>
      rw [if_neg (by decide), List.append_nil]
      refine ⟨h1, fun x => ?_⟩
      rw [h2 x]
      constructor
      · rintro ⟨j, hj, e⟩; exact ⟨j, by omega, e⟩
      · rintro ⟨j, hj, e⟩
        by_cases h : j = m
        · subst h
          have h0 : 0 < j := by
            rcases Nat.eq_zero_or_pos j with h0 | h0
            · subst h0
              rw [Lib.keeps_lt_one d 0 (by omega)] at hk; cases hk
            · exact h0
          by_cases he : d[j]! = d[j - 1]!
          · exact ⟨j - 1, by omega, by rw [← he]; exact e⟩
          · rw [Lib.keeps_pos he] at hk; cases hk
        · exact ⟨j, by omega, e⟩
theorem srt_sorted (xs : List Bytes) : (srt xs).Pairwise fun a b => ¬ lt b a := by
  have h := List.pairwise_mergeSort (le := fun x y : Bytes => decide (x ≤ y)) (fun a b c h1 h2 => ?_) (fun a b => ?_) xs
  · refine List.Pairwise.imp (fun {a b} hab => ?_) h
    rw [le_iff] at hab
    intro h2
    unfold lt at h2
    rw [h2] at hab; cases hab
  · rw [le_iff] at *
    rw [Bool.not_eq_true'] at *
    rw [Bool.eq_false_iff]
    intro h3
    have n1 : ¬ lt b a := by unfold lt; rw [h1]; decide
    have n2 : ¬ lt c b := by unfold lt; rw [h2]; decide
    have h3 : lt c a := h3
    rcases not_lt n1 with e | e
    · subst e; exact n2 h3
    · exact n2 (trans h3 e)
  · rw [le_iff, le_iff]
    cases h1 : Op.bytesLess b a with
    | false => rfl
    | true =>
      have : ¬ lt a b := asymm h1
      cases h2 : Op.bytesLess a b with
      | false => rfl
      | true => exact absurd h2 this
theorem srt_mem (xs : List Bytes) (x : Bytes) : x ∈ srt xs ↔ x ∈ xs := (List.mergeSort_perm xs _).mem_iff
theorem cs_spec (xs : List Bytes) : (cmp (srt xs)).Pairwise lt ∧ ∀ x, x ∈ cmp (srt xs) ↔ x ∈ xs := by
  have hget : ∀ j, j < (srt xs).length → (srt xs).toArray[j]! = (srt xs).getD j [] := fun j hj => by
    rw [List.getD_eq_getElem?_getD, List.getElem?_eq_getElem hj]
    simp [getElem!_pos, hj]
  have h := compact_inv (srt xs).toArray (fun i j hij hj => ?_) (srt xs).length (by simp)
  · refine ⟨h.1, fun x => ?_⟩
    have := h.2 x
    show x ∈ Lib.compactUpTo (srt xs).toArray (srt xs).length ↔ _
    rw [this, ← srt_mem]
    constructor
    · rintro ⟨j, hj, rfl⟩
      rw [hget j hj, List.getD_eq_getElem?_getD, List.getElem?_eq_getElem hj]
      exact List.getElem_mem hj
    · intro hx
      obtain ⟨j, hj, rfl⟩ := List.getElem_of_mem hx
      exact ⟨j, hj, by rw [hget j hj, List.getD_eq_getElem?_getD, List.getElem?_eq_getElem hj]; rfl⟩
  · have hj' : j < (srt xs).length := by simpa using hj
    rw [hget j hj', hget i (by omega), List.getD_eq_getElem?_getD, List.getElem?_eq_getElem hj', List.getD_eq_getElem?_getD, List.getElem?_eq_getElem (show i < (srt xs).length by omega)]
    exact List.pairwise_iff_getElem.1 (srt_sorted xs) i j (by omega) hj' hij
def ins : List Bytes → Bytes → List Bytes
  | [], s => [s]
  | x :: l, s => if Op.bytesLess x s = true then x :: ins l s else if x = s then x :: l else s :: x :: l
theorem ins_mem : ∀ (l : List Bytes) (s x : Bytes), x ∈ ins l s ↔ x = s ∨ x ∈ l
  | [], s, x => by simp [ins]
  | y :: l, s, x => by
    unfold ins
    split
    · rw [List.mem_cons, ins_mem l s x, List.mem_cons]
      constructor
      · rintro (h | h | h)
        · exact .inr (.inl h)
        · exact .inl h
        · exact .inr (.inr h)
      · rintro (h | h | h)
        · exact .inr (.inl h)
        · exact .inl h
        · exact .inr (.inr h)
    · split
      · rename_i h; subst h
        constructor
        · intro h; exact .inr h
        · rintro (rfl | h)
          · simp
          · exact h
      · rw [List.mem_cons]
theorem ins_sorted : ∀ (l : List Bytes) (s : Bytes), l.Pairwise lt → (ins l s).Pairwise lt
  | [], s, _ => List.pairwise_singleton _ _
  | y :: l, s, h => by
    rw [List.pairwise_cons] at h
    unfold ins
    split
    · rename_i h1
      refine List.pairwise_cons.2 ⟨fun z hz => ?_, ins_sorted l s h.2⟩
      rcases (ins_mem l s z).1 hz with rfl | hz
      · exact h1
      · exact h.1 z hz
    · rename_i h1
      split
      · exact List.pairwise_cons.2 h
      · rename_i h2
        have hsy : lt s y := by
          rcases not_lt (a := y) (b := s) h1 with e | e
          · exact absurd e.symm h2
          · exact e
        exact List.pairwise_cons.2 ⟨fun z hz => by
          rcases List.mem_cons.1 hz with rfl | hz
          · exact hsy
          · exact trans hsy (h.1 z hz), List.pairwise_cons.2 h⟩
def insl (ys : List Bytes) : List Bytes := ys.foldl ins []
theorem fold_spec : ∀ (ys l : List Bytes), l.Pairwise lt → (ys.foldl ins l).Pairwise lt ∧ ∀ x, x ∈ ys.foldl ins l ↔ x ∈ ys ∨ x ∈ l
  | [], l, h => ⟨h, fun x => by simp⟩
  | y :: ys, l, h => by
    obtain ⟨h1, h2⟩ := fold_spec ys (ins l y) (ins_sorted l y h)
    refine ⟨h1, fun x => ?_⟩
    rw [List.foldl_cons, h2 x, ins_mem, List.mem_cons]
    constructor
    · rintro (h | h | h)
      · exact .inl (.inr h)
      · exact .inl (.inl h)
      · exact .inr h
    · rintro ((h | h) | h)
      · exact .inr (.inl h)
      · exact .inl h
      · exact .inr (.inr h)
theorem same (ys : List Bytes) : cmp (srt ys) = insl ys := by
  have h1 := cs_spec ys
  have h2 := fold_spec ys [] .nil
  refine unique h1.1 h2.1 fun x => ?_
  rw [h1.2 x]
  show _ ↔ x ∈ ys.foldl ins []
  rw [h2.2 x]
  simp
end Ord
namespace R26
def ent (a : DataSet) (x : Pair) : List Bytes := if (key a x.record).2 = true ∧ (x.key.length : Int) = a.KeyLength - a.AltLength then [(key a x.record).1 ++ x.key] else []
def add (a : DataSet) (x : Pair) (xs : List Bytes) : List Bytes := xs ++ ent a x
def ents (a : DataSet) (l : List Pair) : List Bytes := l.flatMap (ent a)
def recs (a : DataSet) (l : List Pair) : List Bytes := cmp (srt (ents a l))
theorem flat_step {α : Type} {f : α → List Bytes} {l : List α} {d : α} {k : Nat} (hk : k < l.length) : (l.take (k + 1)).flatMap f = (l.take k).flatMap f ++ f (l.getD k d) := by
  rw [List.take_succ_eq_append_getElem hk, List.flatMap_append, List.getD_eq_getElem?_getD, List.getElem?_eq_getElem hk]
  simp
section
variable {l xs : List Bytes} {s : Bytes} {k : Nat}
end
section
variable {a : DataSet} {l : List Pair} {k : Nat} {xs : List Bytes} {m : Int}
theorem same_no {x y : List Bytes} (h : x.length ≠ y.length) : decide (x = y) = false := decide_eq_false fun e => h (by rw [e])
theorem same_bad {x y : List Bytes} (h : ¬ x.getD k [] = y.getD k []) : decide (x = y) = false := decide_eq_false fun e => h (by rw [e])
theorem same_all {x y : List Bytes} (hl : x.length = y.length) (h : ∀ i, i < x.length → x.getD i [] = y.getD i []) : decide (x = y) = true := by
  refine decide_eq_true (List.ext_getElem hl fun i h1 h2 => ?_)
  have := h i h1
  rwa [List.getD_eq_getElem?_getD, List.getElem?_eq_getElem h1, List.getD_eq_getElem?_getD, List.getElem?_eq_getElem h2] at this
def few (l : List Pair) (m : Int) : Bool := (l.all fun x => decide (x.key.length ≤ 100) && decide (x.record.length ≤ 300)) && decide ((l.length : Int) ≤ m)
end
end R26
end Go.Proofs.Ytmbinhhlfbgiaaa
