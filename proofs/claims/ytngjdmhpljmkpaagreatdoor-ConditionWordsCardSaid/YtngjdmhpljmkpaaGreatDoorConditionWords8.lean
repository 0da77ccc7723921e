/- Pl40e, Sq, Pl40f, Pw40, C40a, Pw40c, Pw40d, Pw40e in one text. -/
import Derived.Test.YtngjdmhpljmkpaaGreatDoorConditionWords7
import Derived.Test.YtngjdmhpljmkpaaGreatDoorConditionWords6
import Derived.Lib.SlicesCompact
import Derived.Test.YtngjdmhpljmkpaaGreatDoorConditionWords3
import Derived.Test.YtngjdmhpljmkpaaGreatDoorConditionWords5
set_option linter.unusedVariables false
set_option linter.unusedSimpArgs false
namespace Go.Proofs.YtngjdmhpljmkpaaGreatDoor
open Go.GV
namespace R40
structure PT where
  out : List Test
  at_ : Int
  e : Int
def parseV (ws : List Bytes) : PT := if ws = [] then ⟨[], 0, 0⟩ else if (orN ws (ws.length + 1) 0).ok = false ∨ (orN ws (ws.length + 1) 0).pos < ws.length then ⟨[], (orN ws (ws.length + 1) 0).pos, 3⟩ else if 32 < (orN ws (ws.length + 1) 0).out.length then ⟨[], 0, 8⟩ else ⟨(orN ws (ws.length + 1) 0).out, 0, 0⟩
def machV (ws : List Bytes) : PT := if ws = [] then ⟨[], 0, 0⟩ else match mach ws 0 [] [] true with
  | .error i => ⟨[], i, 3⟩
  | .ok T => if 32 < T.length then ⟨[], 0, 8⟩ else ⟨T, 0, 0⟩
theorem mach_end {ws : List Bytes} {i : Nat} {out' : List Test} {P : List Bytes} (hP : okO P) (h2 : ¬ isA ws i wAND = true) (h3 : ¬ isA ws i wOR = true) : mach ws i out' (P ++ []) false = if i < ws.length then .error i else .ok (out' ++ pk P) := by
  have hr : red true out' (P ++ []) = (out' ++ pk P, []) := by rw [red_app (okO_red hP)]; rfl
  by_cases hi : i < ws.length
  · have a2 := isA_no h2 hi; have a3 := isA_no h3 hi
    rw [mach, dif_pos hi, if_neg (by simp), if_neg (by simp), if_neg (by simp), if_neg (fun e => e.2.elim a2 a3), if_pos hi]
    split
    · rw [hr]; rfl
    · rfl
  · rw [mach, dif_neg hi, hr, if_neg (by simp), if_neg hi]
theorem parse_mach (ws : List Bytes) : machV ws = parseV ws := by
  unfold machV parseV
  split
  · rfl
  · have h := sim_or (ws := ws) (ws.length + 1) [] (.inl rfl) 0 (Nat.zero_le _) (by omega) []
    cases ho : (orN ws (ws.length + 1) 0).ok with
    | false => rw [h.2 ho, if_pos (.inl rfl)]
    | true =>
      obtain ⟨out', P, hP, he, hm, hA, hO⟩ := h.1 ho
      rw [hm, mach_end hP hA hO, he]
      by_cases hl : (orN ws (ws.length + 1) 0).pos < ws.length
      · rw [if_pos hl, if_pos (.inr hl)]
      · rw [if_neg hl, if_neg (by simp [hl])]; rfl
def strength : Node → Nat
  | .leaf _ _ => 2
  | .neg _ => 2
  | .pair b _ _ => if b = true then 1 else 0
def leafW (t : Test) : List Bytes := if t.Kind = 0 then [t.Step, wRC, rels.getD t.Op.toNat [], Lib.decDigits t.N.toNat] else if t.Kind = 1 then [t.Step, wFAILED] else if t.Kind = 2 then [t.Step, wRAN] else [wFAILED]
def inP (b : Bool) (l : List Bytes) : List Bytes := if b = true then [wLP] ++ l ++ [wRP] else l
def wordsV : Node → Nat → List Bytes
  | .leaf t _, least => inP (decide (2 < least)) (leafW t)
  | .neg x, least => inP (decide (2 < least)) ([wNOT] ++ wordsV x 2)
  | .pair b x y, least => inP (decide ((if b = true then 1 else 0) < least)) (wordsV x (if b = true then 1 else 0) ++ [if b = true then wAND else wOR] ++ wordsV y ((if b = true then 1 else 0) + 1))
def formatV (ts : List Test) : List Bytes := match treeV stepV ts with
  | none => []
  | some x => wordsV x 0
section
variable {ws : List Bytes}
def At (ws : List Bytes) (i : Nat) (l : List Bytes) : Prop := ∃ r, ws.drop i = l ++ r
theorem At.len {i : Nat} {l : List Bytes} (h : At ws i l) (hl : l ≠ []) : i + l.length ≤ ws.length := by
  obtain ⟨r, h⟩ := h
  have := congrArg List.length h
  rw [List.length_drop, List.length_append] at this
  have : 0 < l.length := List.length_pos_iff.2 hl
  omega
theorem At.app {i : Nat} {l m : List Bytes} (h : At ws i (l ++ m)) : At ws i l ∧ At ws (i + l.length) m := by
  obtain ⟨r, h⟩ := h
  refine ⟨⟨m ++ r, by rw [h, List.append_assoc]⟩, r, ?_⟩
  rw [← List.drop_drop, h, List.append_assoc, List.drop_left']
  rfl
theorem At.word {i : Nat} {w : Bytes} {l : List Bytes} (h : At ws i (w :: l)) : i < ws.length ∧ ws.getD i [] = w ∧ At ws (i + 1) l := by
  have h1 := h.len (List.cons_ne_nil _ _)
  have h2 := (At.app (l := [w]) (m := l) h).2
  obtain ⟨r, h⟩ := h
  refine ⟨by simp at h1; omega, ?_, h2⟩
  have := congrArg List.head? h
  rw [List.head?_drop, List.cons_append, List.head?_cons] at this
  rw [List.getD_eq_getElem?_getD, this]; rfl
theorem numC_dec {n : Int} (h0 : 0 ≤ n) (h1 : n ≤ 4095) : numC (Lib.decDigits n.toNat) = some n := by
  unfold numC
  rw [R44.dec_val, if_pos ⟨by omega, rfl⟩]
  congr 1; omega
theorem chainL_fuel {pf : Nat → PR} {w : Bytes} {k : Int} (hp : Prog ws pf) : ∀ (n m : Nat) (a : PR), a.pos ≤ ws.length → ws.length < a.pos + n → ws.length < a.pos + m → chainL ws pf w k n a = chainL ws pf w k m a
  | 0, _, a, h, hn, _ => absurd hn (by omega)
  | _ + 1, 0, a, h, _, hm => absurd hm (by omega)
  | n + 1, m + 1, a, h, hn, hm => by
    rw [chainL, chainL]
    split
    · rename_i h1
      have h0 := (isA_iff.1 h1).1
      have h2 := hp (a.pos + 1) (by omega)
      split
      · rename_i h3
        have := h2.2 h3
        exact chainL_fuel hp n m _ h2.1 (by show _ < (pf (a.pos + 1)).pos + n; omega) (by show _ < (pf (a.pos + 1)).pos + m; omega)
      · rfl
    · rfl
theorem chainL_no {pf : Nat → PR} {w : Bytes} {k : Int} {n : Nat} {a : PR} (h : isA ws a.pos w = false) : chainL ws pf w k n a = a := by
  cases n with
  | zero => rfl
  | succ n => rw [chainL, if_neg (by rw [h]; decide)]
def Cont (ws : List Bytes) (pf : Nat → PR) (w : Bytes) (k : Int) (i j : Nat) (T : List Test) : Prop := chainG ws pf w k i = chainL ws pf w k (ws.length + 1) ⟨true, j, T⟩
theorem Cont.first {pf : Nat → PR} {w : Bytes} {k : Int} {i j : Nat} {T : List Test} (h : pf i = ⟨true, j, T⟩) : Cont ws pf w k i j T := by
  unfold Cont chainG; rw [h, if_pos rfl]
theorem Cont.next {pf : Nat → PR} {w : Bytes} {k : Int} {i j j2 : Nat} {T T2 : List Test} (hp : Prog ws pf) (h : Cont ws pf w k i j T) (hw : isA ws j w = true) (h2 : pf (j + 1) = ⟨true, j2, T2⟩) : Cont ws pf w k i j2 (T ++ T2 ++ [bare k]) := by
  unfold Cont at *
  rw [h, chainL, if_pos hw, h2, if_pos rfl]
  have h0 := (isA_iff.1 hw).1
  have h3 := hp (j + 1) (by omega)
  rw [h2] at h3
  have h4 : j + 1 < j2 := h3.2 rfl
  exact chainL_fuel hp _ _ _ h3.1 (by show _ < j2 + _; omega) (by show _ < j2 + _; omega)
theorem Cont.done {pf : Nat → PR} {w : Bytes} {k : Int} {i j : Nat} {T : List Test} (h : Cont ws pf w k i j T) (hw : isA ws j w = false) : chainG ws pf w k i = ⟨true, j, T⟩ := by
  unfold Cont at h; rw [h, chainL_no hw]
def need : Node → Nat × Nat
  | .leaf _ _ => (0, 0)
  | .neg x => ((need x).2, (need x).2)
  | .pair _ x y => (max (need x).2 (need y).2, max (need x).2 (need y).2 + 1)
def L0 (ws : List Bytes) (m i j : Nat) (T : List Test) : Prop := Cont ws (andG ws (orN ws m)) wOR 6 i j T
def L1 (ws : List Bytes) (m i j : Nat) (T : List Test) : Prop := Cont ws (partG ws (orN ws m)) wAND 5 i j T
def L2 (ws : List Bytes) (m i j : Nat) (T : List Test) : Prop := partG ws (orN ws m) i = ⟨true, j, T⟩
end
end R40
end Go.Proofs.YtngjdmhpljmkpaaGreatDoor

namespace Go.Proofs.YtngjdmhpljmkpaaGreatDoor
open Go.GV Go.Sort
def srt (xs : List Bytes) : List Bytes := xs.mergeSort fun x y => decide (x ≤ y)
def cmp (xs : List Bytes) : List Bytes := Lib.compact xs
theorem less_iff : ∀ (a b : Bytes), Op.bytesLess a b = true ↔ a < b
  | _, [] => by constructor <;> intro h <;> simp_all [Op.bytesLess]
  | [], y :: b => by simp [Op.bytesLess]
  | x :: a, y :: b => by
    rw [Op.bytesLess, List.cons_lt_cons_iff, Bool.or_eq_true, Bool.and_eq_true, less_iff a b]
    simp
namespace Ord
theorem le_iff (a b : Bytes) : decide (a ≤ b) = !Op.bytesLess b a := by
  rw [Bool.eq_iff_iff, decide_eq_true_eq, Bool.not_eq_true']
  show ¬ b < a ↔ _
  rw [← less_iff]
  simp
theorem not_lt {a b : Bytes} (h : ¬ lt a b) : b = a ∨ lt b a := by
  rcases tri a b with h2 | h2 | h2
  · exact absurd h2 h
  · exact .inl h2.symm
  · exact .inr h2
theorem unique : ∀ {l m : List Bytes}, l.Pairwise lt → m.Pairwise lt → (∀ x, x ∈ l ↔ x ∈ m) → l = m
  | [], [], _, _, _ => rfl
  | [], y :: m, _, _, h => by have := (h y).2 (by simp); cases this
  | x :: l, [], _, _, h => by have := (h x).1 (by simp); cases this
  | x :: l, y :: m, h1, h2, h => by
    rw [List.pairwise_cons] at h1 h2
    have hxy : x = y := by
      rcases tri x y with h3 | h3 | h3
      · rcases List.mem_cons.1 ((h x).1 (by simp)) with h4 | h4
        · exact h4
        · exact absurd (h2.1 x h4) (asymm h3)
      · exact h3
      · rcases List.mem_cons.1 ((h y).2 (by simp)) with h4 | h4
        · exact h4.symm
        · exact absurd (h1.1 y h4) (asymm h3)
    subst hxy
    congr 1
    refine unique h1.2 h2.2 fun z => ⟨fun hz => ?_, fun hz => ?_⟩
    · rcases List.mem_cons.1 ((h z).1 (by simp [hz])) with h4 | h4
      · subst h4; exact absurd (h1.1 z hz) (irr z)
      · exact h4
    · rcases List.mem_cons.1 ((h z).2 (by simp [hz])) with h4 | h4
      · subst h4; exact absurd (h2.1 z hz) (irr z)
      · exact h4
theorem compact_inv (d : Array Bytes) (hs : ∀ i j, i < j → j < d.size → ¬ lt d[j]! d[i]!) : ∀ m, m ≤ d.size → (Lib.compactUpTo d m).Pairwise lt ∧ ∀ x, x ∈ Lib.compactUpTo d m ↔ ∃ j, j < m ∧ d[j]! = x
  | 0, _ => ⟨.nil, fun x => ⟨fun h => (by cases h), fun ⟨j, h, _⟩ => absurd h (Nat.not_lt_zero _)⟩⟩
  | m + 1, hm => by
    obtain ⟨h1, h2⟩ := compact_inv d hs m (by omega)
    rw [Lib.compactUpTo_succ]
    cases hk : Lib.keeps d m with
    | true =>
      rw [if_pos rfl]
      refine ⟨List.pairwise_append.2 ⟨h1, List.pairwise_singleton _ _, fun x hx y hy => ?_⟩, fun x => ?_⟩
      · rw [List.mem_singleton] at hy; subst hy
        obtain ⟨j, hj, rfl⟩ := (h2 x).1 hx
        rcases not_lt (hs j m hj (by omega)) with h3 | h3
        · exfalso
          have hne : d[m]! ≠ d[m - 1]! := by
            intro e
            rw [Lib.keeps_neg (by omega) e] at hk; cases hk
          by_cases hjm : j = m - 1
          · subst hjm; exact hne h3.symm
          · rcases not_lt (hs j (m - 1) (by omega) (by omega)) with h4 | h4
            · exact hne (by rw [← h3, h4])
            · have := hs (m - 1) m (by omega) (by omega)
              rw [← h3] at this
              exact this h4
        · exact h3
      · rw [List.mem_append, h2 x, List.mem_singleton]
        constructor
        · rintro (⟨j, hj, e⟩ | rfl)
          · exact ⟨j, by omega, e⟩
          · exact ⟨m, by omega, rfl⟩
        · rintro ⟨j, hj, e⟩
          by_cases h : j = m
          · subst h; exact .inr e.symm
          · exact .inl ⟨j, by omega, e⟩
    | false =>
      rw [if_neg (by decide), List.append_nil]
      refine ⟨h1, fun x => ?_⟩
      rw [h2 x]
      constructor
      · rintro ⟨j, hj, e⟩; exact ⟨j, by omega, e⟩
      · rintro ⟨j, hj, e⟩
        by_cases h : j = m
        · subst h
          have h0 : 0 < j := by
            rcases Nat.eq_zero_or_pos j with h0 | h0
            · subst h0
              rw [Lib.keeps_lt_one d 0 (by omega)] at hk; cases hk
            · exact h0
          by_cases he : d[j]! = d[j - 1]!
          · exact ⟨j - 1, by omega, by rw [← he]; exact e⟩
          · rw [Lib.keeps_pos he] at hk; cases hk
        · exact ⟨j, by omega, e⟩
theorem srt_sorted (xs : List Bytes) : (srt xs).Pairwise fun a b => ¬ lt b a := by
  have h := List.pairwise_mergeSort (le := fun x y : Bytes => decide (x ≤ y)) (fun a b c h1 h2 => ?_) (fun a b => ?_) xs
  · refine List.Pairwise.imp (fun {a b} hab => ?_) h
    rw [le_iff] at hab
    intro h2
    unfold lt at h2
    rw [h2] at hab; cases hab
  · rw [le_iff] at *
    rw [Bool.not_eq_true'] at *
    rw [Bool.eq_false_iff]
    intro h3
    have n1 : ¬ lt b a := by unfold lt; rw [h1]; decide
    have n2 : ¬ lt c b := by unfold lt; rw [h2]; decide
    have h3 : lt c a := h3
    rcases not_lt n1 with e | e
    · subst e; exact n2 h3
    · exact n2 (trans h3 e)
  · rw [le_iff, le_iff]
    cases h1 : Op.bytesLess b a with
    | false => rfl
    | true =>
      have : ¬ lt a b := asymm h1
      cases h2 : Op.bytesLess a b with
      | false => rfl
      | true => exact absurd h2 this
theorem srt_mem (xs : List Bytes) (x : Bytes) : x ∈ srt xs ↔ x ∈ xs := (List.mergeSort_perm xs _).mem_iff
theorem cs_spec (xs : List Bytes) : (cmp (srt xs)).Pairwise lt ∧ ∀ x, x ∈ cmp (srt xs) ↔ x ∈ xs := by
  have hget : ∀ j, j < (srt xs).length → (srt xs).toArray[j]! = (srt xs).getD j [] := fun j hj => by
    rw [List.getD_eq_getElem?_getD, List.getElem?_eq_getElem hj]
    simp [getElem!_pos, hj]
  have h := compact_inv (srt xs).toArray (fun i j hij hj => ?_) (srt xs).length (by simp)
  · refine ⟨h.1, fun x => ?_⟩
    have := h.2 x
    show x ∈ Lib.compactUpTo (srt xs).toArray (srt xs).length ↔ _
    rw [this, ← srt_mem]
    constructor
    · rintro ⟨j, hj, rfl⟩
      rw [hget j hj, List.getD_eq_getElem?_getD, List.getElem?_eq_getElem hj]
      exact List.getElem_mem hj
    · intro hx
      obtain ⟨j, hj, rfl⟩ := List.getElem_of_mem hx
      exact ⟨j, hj, by rw [hget j hj, List.getD_eq_getElem?_getD, List.getElem?_eq_getElem hj]; rfl⟩
  · have hj' : j < (srt xs).length := by simpa using hj
    rw [hget j hj', hget i (by omega), List.getD_eq_getElem?_getD, List.getElem?_eq_getElem hj', List.getD_eq_getElem?_getD, List.getElem?_eq_getElem (show i < (srt xs).length by omega)]
    exact List.pairwise_iff_getElem.1 (srt_sorted xs) i j (by omega) hj' hij
def ins : List Bytes → Bytes → List Bytes
  | [], s => [s]
  | x :: l, s => if Op.bytesLess x s = true then x :: ins l s else if x = s then x :: l else s :: x :: l
theorem ins_mem : ∀ (l : List Bytes) (s x : Bytes), x ∈ ins l s ↔ x = s ∨ x ∈ l
  | [], s, x => by simp [ins]
  | y :: l, s, x => by
    unfold ins
    split
    · rw [List.mem_cons, ins_mem l s x, List.mem_cons]
      constructor
      · rintro (h | h | h)
        · exact .inr (.inl h)
        · exact .inl h
        · exact .inr (.inr h)
      · rintro (h | h | h)
        · exact .inr (.inl h)
        · exact .inl h
        · exact .inr (.inr h)
    · split
      · rename_i h; subst h
        constructor
        · intro h; exact .inr h
        · rintro (rfl | h)
          · simp
          · exact h
      · rw [List.mem_cons]
theorem ins_sorted : ∀ (l : List Bytes) (s : Bytes), l.Pairwise lt → (ins l s).Pairwise lt
  | [], s, _ => List.pairwise_singleton _ _
  | y :: l, s, h => by
    rw [List.pairwise_cons] at h
    unfold ins
    split
    · rename_i h1
      refine List.pairwise_cons.2 ⟨fun z hz => ?_, ins_sorted l s h.2⟩
      rcases (ins_mem l s z).1 hz with rfl | hz
      · exact h1
      · exact h.1 z hz
    · rename_i h1
      split
      · exact List.pairwise_cons.2 h
      · rename_i h2
        have hsy : lt s y := by
          rcases not_lt (a := y) (b := s) h1 with e | e
          · exact absurd e.symm h2
          · exact e
        exact List.pairwise_cons.2 ⟨fun z hz => by
          rcases List.mem_cons.1 hz with rfl | hz
          · exact hsy
          · exact trans hsy (h.1 z hz), List.pairwise_cons.2 h⟩
def insl (ys : List Bytes) : List Bytes := ys.foldl ins []
theorem fold_spec : ∀ (ys l : List Bytes), l.Pairwise lt → (ys.foldl ins l).Pairwise lt ∧ ∀ x, x ∈ ys.foldl ins l ↔ x ∈ ys ∨ x ∈ l
  | [], l, h => ⟨h, fun x => by simp⟩
  | y :: ys, l, h => by
    obtain ⟨h1, h2⟩ := fold_spec ys (ins l y) (ins_sorted l y h)
    refine ⟨h1, fun x => ?_⟩
    rw [List.foldl_cons, h2 x, ins_mem, List.mem_cons]
    constructor
    · rintro (h | h | h)
      · exact .inl (.inr h)
      · exact .inl (.inl h)
      · exact .inr h
    · rintro ((h | h) | h)
      · exact .inr (.inl h)
      · exact .inl h
      · exact .inr (.inr h)
theorem same (ys : List Bytes) : cmp (srt ys) = insl ys := by
  have h1 := cs_spec ys
  have h2 := fold_spec ys [] .nil
  refine unique h1.1 h2.1 fun x => ?_
  rw [h1.2 x]
  show _ ↔ x ∈ ys.foldl ins []
  rw [h2.2 x]
  simp
theorem ins_len (l : List Bytes) (s : Bytes) : (ins l s).length ≤ l.length + 1 := by
  induction l with
  | nil => exact Nat.le_refl _
  | cons x l ih =>
    unfold ins
    split
    · rw [List.length_cons, List.length_cons]; omega
    · split
      · rw [List.length_cons]; omega
      · rw [List.length_cons]; exact Nat.le_refl _
end Ord
end Go.Proofs.YtngjdmhpljmkpaaGreatDoor

namespace Go.Proofs.YtngjdmhpljmkpaaGreatDoor
open Go.GV
namespace R40
def refersV (ts : List Test) : List Bytes := Ord.insl ((ts.map (·.Step)).filter fun s => decide (s ≠ []))
section
variable {ws : List Bytes}
def GoodR (r : PR) : Prop := r.ok = true → ∃ x, good stepV x ∧ post x = r.out
end
end R40
end Go.Proofs.YtngjdmhpljmkpaaGreatDoor

namespace Go.Proofs.YtngjdmhpljmkpaaGreatDoor
open Go.GV
namespace R40
theorem related_list {c op n : Int} (h0 : 0 ≤ op) (h1 : op ≤ 5) : (([decide (c < n), decide (c ≤ n), decide (c = n), decide (c ≠ n), decide (n ≤ c), decide (n < c)] : List Bool).getD op.toNat false) = related c op n := by
  have : op = 0 ∨ op = 1 ∨ op = 2 ∨ op = 3 ∨ op = 4 ∨ op = 5 := by omega
  rcases this with rfl | rfl | rfl | rfl | rfl | rfl <;> rfl
section
variable {t : Test} {e : StepEnd}
theorem holds_0 (h : t.Kind = 0) : (((e.Ran && (!e.Failed)) && (related e.Code t.Op t.N)) : Bool) = holds t e := by unfold holds; rw [if_pos h]
theorem holds_1 (h0 : ¬ t.Kind = 0) (h : t.Kind = 1) : ((e.Ran && e.Failed) : Bool) = holds t e := by unfold holds; rw [if_neg h0, if_pos h]
theorem holds_2 (h0 : ¬ t.Kind = 0) (h : ¬ t.Kind = 1) : e.Ran = holds t e := by unfold holds; rw [if_neg h0, if_neg h]
end
section
variable {l : List Bytes} {s : Bytes} {k : Nat}
theorem idx_cons_ne {x : Bytes} {r : List Bytes} (h : x ≠ s) : idx (x :: r) s = if idx r s < 0 then -1 else idx r s + 1 := by rw [idx, if_neg h]
theorem idx_hit : ∀ {k : Nat} {l : List Bytes}, k < l.length → (∀ i, i < k → l.getD i [] ≠ s) → s = l.getD k [] → (k : Int) = idx l s
  | 0, x :: r, _, _, h => by rw [idx, if_pos (show x = s from h.symm)]; rfl
  | k + 1, x :: r, hk, hn, h => by
    have ih := idx_hit (k := k) (l := r) (by simpa using hk) (fun i hi => hn (i + 1) (by omega)) h
    rw [idx_cons_ne (show x ≠ s from hn 0 (by omega)), ← ih, if_neg (by omega)]; omega
theorem idx_none : ∀ {l : List Bytes}, (∀ i, i < l.length → l.getD i [] ≠ s) → -1 = idx l s
  | [], _ => rfl
  | x :: r, hn => by
    have ih := idx_none (l := r) (fun i hi => hn (i + 1) (by simp; omega))
    rw [idx_cons_ne (show x ≠ s from hn 0 (by simp)), ← ih, if_pos (by omega)]
theorem idx_on : (decide ((0 : Int) ≤ idx l s)) = onP l s := by
  unfold onP
  by_cases h : s ∈ l
  · rw [decide_eq_true (idx_mem.2 h), decide_eq_true h]
  · rw [decide_eq_false (fun e => h (idx_mem.1 e)), decide_eq_false h]
end
section
variable {E : List StepEnd} {k : Nat}
theorem any_yes (hk : k < E.length) (h : failed (E.getD k default) = true) : decide ((0 : Int) ≤ (k : Int)) = E.any failed := by
  rw [decide_eq_true (by omega)]
  exact (List.any_eq_true.2 ⟨_, R44.getD_mem hk, h⟩).symm
theorem any_no (h : ∀ i, i < E.length → failed (E.getD i default) = false) : decide ((0 : Int) ≤ -1) = E.any failed := by
  rw [decide_eq_false (by omega)]
  refine (Bool.eq_false_iff.2 fun h2 => ?_).symm
  obtain ⟨x, hx, h3⟩ := List.any_eq_true.1 h2
  obtain ⟨i, hi, rfl⟩ := List.mem_iff_getElem.1 hx
  have := h i hi
  rw [List.getD_eq_getElem?_getD, List.getElem?_eq_getElem hi] at this
  rw [show failed E[i] = false from this] at h3; cases h3
end
section
variable {P : Bytes → Bool} {ts : List Test} {l : List Node} {k : Nat}
theorem tree_go (hk : k < ts.length) (h : treeG P k l (ts.drop k) = treeG P 0 [] ts) {l' : List Node} (hs : stepT P l k (ts.getD k default) = some l') : treeG P (k + 1) l' (ts.drop (k + 1)) = treeG P 0 [] ts := by
  rw [← h, R44.drop_cons (d := default) hk, treeG, hs]
theorem bare_of {t : Test} {j : Int} (hj : t.Kind = j) (hb : t = Test.mk t.Kind [] 0 0) : t = bare j := by rw [hb]; unfold bare; rw [hj]
theorem tree_neg (hk : k < ts.length) (h : treeG P k l (ts.drop k) = treeG P 0 [] ts) (h4 : (ts.getD k default).Kind = 4) (hb : ts.getD k default = Test.mk (ts.getD k default).Kind [] 0 0) (hn : 1 ≤ l.length) :
    treeG P (k + 1) (l.set (l.length - 1) (Node.neg (l.getD (l.length - 1) default))) (ts.drop (k + 1)) = treeG P 0 [] ts := by
  refine tree_go hk h ?_
  unfold stepT; rw [if_pos ⟨bare_of h4 hb, hn⟩]
theorem tree_pair (hk : k < ts.length) (h : treeG P k l (ts.drop k) = treeG P 0 [] ts) (h5 : (ts.getD k default).Kind = 5 ∨ (ts.getD k default).Kind = 6) (hb : ts.getD k default = Test.mk (ts.getD k default).Kind [] 0 0) (hn : 2 ≤ l.length) :
    treeG P (k + 1) (l.take (l.length - 2) ++ [Node.pair (decide ((ts.getD k default).Kind = 5)) (l.getD (l.length - 2) default) (l.getD (l.length - 1) default)]) (ts.drop (k + 1)) = treeG P 0 [] ts := by
  refine tree_go hk h ?_
  have h4 : ¬ ts.getD k default = bare 4 := fun e => by rw [e] at h5; revert h5; decide
  unfold stepT; rw [if_neg (fun e => h4 e.1), if_pos ⟨h5.imp (fun e => bare_of e hb) (fun e => bare_of e hb), hn⟩]
theorem leaf_1 {t : Test} (h3 : t.Kind = 3) (hb : t = Test.mk t.Kind [] 0 0) : leafOk P t = true := by
  rw [bare_of h3 hb]; unfold leafOk; simp
theorem leaf_2 {t : Test} (h : ((((decide (t.Kind = 1) || decide (t.Kind = 2)) && decide (t.Op = 0)) && decide (t.N = 0)) && P t.Step) = true) : leafOk P t = true := by
  unfold leafOk; rw [h]; simp
theorem leaf_3 {t : Test} (h : ((((((decide (t.Kind = 0)) && (decide ((0 : Int) ≤ t.Op))) && (decide (t.Op ≤ 5))) && (decide ((0 : Int) ≤ t.N))) && (decide (t.N ≤ 4095))) && P t.Step) = true) : leafOk P t = true := by
  unfold leafOk; rw [h]; simp
theorem leaf_no {t : Test} (h1 : ((decide (t.Kind = 3)) && (decide (t = Test.mk t.Kind [] 0 0))) = false) (h2 : ((((decide (t.Kind = 1) || decide (t.Kind = 2)) && decide (t.Op = 0)) && decide (t.N = 0)) && P t.Step) = false)
    (h3 : ((((((decide (t.Kind = 0)) && (decide ((0 : Int) ≤ t.Op))) && (decide (t.Op ≤ 5))) && (decide ((0 : Int) ≤ t.N))) && (decide (t.N ≤ 4095))) && P t.Step) = false) : leafOk P t = false := by
  unfold leafOk
  rw [h2, h3]
  have : decide (t = bare 3) = false := decide_eq_false fun e => by
    rw [e] at h1; revert h1; unfold bare; simp
  rw [this]; rfl
theorem tree_leaf (hk : k < ts.length) (h : treeG P k l (ts.drop k) = treeG P 0 [] ts) (hl : leafOk P (ts.getD k default) = true) : treeG P (k + 1) (l ++ [Node.leaf (ts.getD k default) (k : Int)]) (ts.drop (k + 1)) = treeG P 0 [] ts :=
  tree_go hk h (step_leaf hl)
theorem tree_long (h : 32 < ts.length) : treeV P ts = none := by unfold treeV; rw [if_pos h]
theorem tree_stop (hk : k < ts.length) (h : treeG P k l (ts.drop k) = treeG P 0 [] ts)
    (h4 : (((decide ((ts.getD k default).Kind = 4)) && (decide (((ts.getD k default) : Test) = (Test.mk ((ts.getD k default).Kind) [] 0 0)))) && (decide ((1 : Int) ≤ ((l.length : Nat) : Int)))) = false)
    (h5 : ((((decide ((ts.getD k default).Kind = 5)) || (decide ((ts.getD k default).Kind = 6))) && (decide (((ts.getD k default) : Test) = (Test.mk ((ts.getD k default).Kind) [] 0 0)))) && (decide ((2 : Int) ≤ ((l.length : Nat) : Int)))) = false)
    (hl : leafOk P (ts.getD k default) = false) : treeV P ts = none := by
  have hs : stepT P l k (ts.getD k default) = none := by
    unfold stepT
    rw [if_neg, if_neg, if_neg (by rw [hl]; decide)]
    · rintro ⟨h1, h2⟩
      have e1 : (decide ((ts.getD k default).Kind = 5) || decide ((ts.getD k default).Kind = 6)) = true := by rcases h1 with h1 | h1 <;> rw [h1] <;> rfl
      have e2 : decide (((ts.getD k default) : Test) = (Test.mk ((ts.getD k default).Kind) [] 0 0)) = true := by rcases h1 with h1 | h1 <;> rw [h1] <;> rfl
      rw [e1, e2, decide_eq_true (show (2 : Int) ≤ ((l.length : Nat) : Int) by omega)] at h5; cases h5
    · rintro ⟨h1, h2⟩
      rw [h1, decide_eq_true (show (1 : Int) ≤ ((l.length : Nat) : Int) by omega)] at h4; revert h4; decide
  unfold treeV
  split
  · rfl
  · rw [← h, R44.drop_cons (d := default) hk, treeG, hs]; rfl
theorem tree_end (hk : k = ts.length) (h : treeG P k l (ts.drop k) = treeG P 0 [] ts) (h32 : ts.length ≤ 32) : treeV P ts = one (some l) := by
  unfold treeV
  rw [if_neg (by omega), ← h, hk, List.drop_length]; rfl
theorem tree_len (hk : k = ts.length) (h : treeG P k l (ts.drop k) = treeG P 0 [] ts) (h32 : ts.length ≤ 32) (hl : l.length ≠ 1) : treeV P ts = none := by
  rw [tree_end hk h h32]
  match l, hl with
  | [], _ => rfl
  | [_], hl => exact absurd rfl hl
  | _ :: _ :: _, _ => rfl
theorem tree_one (hk : k = ts.length) (h : treeG P k l (ts.drop k) = treeG P 0 [] ts) (h32 : ts.length ≤ 32) (hl : l.length = 1) : treeV P ts = some (l.getD 0 default) := by
  rw [tree_end hk h h32]
  match l, hl with
  | [x], _ => rfl
end
section
variable {ts : List Test} {steps : List Bytes} {E : List StepEnd} {t : Test} {i : Int}
theorem on_nil (h : ts.length = 0) : onV ts steps = some (.neg (.leaf (bare 3) 0)) := by unfold onV; rw [if_pos (List.length_eq_zero_iff.1 h)]
theorem on_tree (h : ¬ ts.length = 0) : onV ts steps = treeV (onP steps) ts := by unfold onV; rw [if_neg (fun e => h (by rw [e]; rfl))]
theorem on_good (h : (onV ts steps).isSome = true) : good (onP steps) ((onV ts steps).getD default) := by
  obtain ⟨x, hx⟩ := Option.isSome_iff_exists.1 h
  rw [hx]
  by_cases h0 : ts = []
  · subst h0; cases hx; show leafOk _ _ = true; unfold leafOk; simp
  · exact ((onV_some h0).1 hx).2.1
theorem leafV_any (h : t.Kind = 3) : E.any failed = leafV steps E t i := by unfold leafV; rw [if_pos h]
theorem leafV_step (h : ¬ t.Kind = 3) : (decide (idx steps t.Step < ((E.length : Nat) : Int)) && holds t (E.getD (idx steps t.Step).toNat default)) = leafV steps E t i := by unfold leafV; rw [if_neg h]
theorem leafV_t (h : ¬ t.Kind = 3) (h2 : idx steps t.Step < ((E.length : Nat) : Int)) : holds t (E.getD (idx steps t.Step).toNat default) = leafV steps E t i := by rw [← leafV_step h, decide_eq_true h2]; rfl
theorem leafV_f (h : ¬ t.Kind = 3) (h2 : ¬ idx steps t.Step < ((E.length : Nat) : Int)) : false = leafV steps E t i := by rw [← leafV_step h, decide_eq_false h2]; rfl
theorem leaf_code {P : Bytes → Bool} (h : leafOk P t = true) : t.Kind = 0 → 0 ≤ t.Op ∧ t.Op ≤ 5 := fun hk => by
  rcases leaf_any h with h2 | h2 | h2
  · rw [h2] at hk; cases hk
  · omega
  · exact ⟨h2.2.1, h2.2.2.1⟩
theorem leaf_idx (h : leafOk (onP steps) t = true) : t.Kind ≠ 3 → 0 ≤ idx steps t.Step := fun hk => by
  rcases leaf_any h with h2 | h2 | h2
  · exact absurd (by rw [h2]; rfl) hk
  · exact idx_mem.2 (of_decide_eq_true h2.2.2.2)
  · exact idx_mem.2 (of_decide_eq_true h2.2.2.2.2.2)
theorem eval_t {v : Test → Int → Bool} {b : Bool} {y z : Node} (h : b = true) : (eval v y && eval v z) = eval v (Node.pair b y z) := by rw [eval, if_pos h]
theorem eval_f {v : Test → Int → Bool} {b : Bool} {y z : Node} (h : b = false) : (eval v y || eval v z) = eval v (Node.pair b y z) := by rw [eval, if_neg (by rw [h]; decide)]
theorem evalV_no (h : (onV ts steps).isSome = false) {ends : List StepEnd} : false = evalV ts steps ends := by
  unfold evalV
  cases ho : onV ts steps with
  | none => rfl
  | some x => rw [ho] at h; cases h
theorem evalV_yes (h : (onV ts steps).isSome = true) {ends : List StepEnd} : eval (leafV steps (ends.take (min ends.length steps.length))) ((onV ts steps).getD default) = evalV ts steps ends := by
  unfold evalV
  cases ho : onV ts steps with
  | none => rw [ho] at h; cases h
  | some x => rfl
end
end R40
end Go.Proofs.YtngjdmhpljmkpaaGreatDoor

namespace Go.Proofs.YtngjdmhpljmkpaaGreatDoor
open Go.GV
set_option linter.unusedVariables false
set_option linter.unusedSimpArgs false
theorem c40a0_ {p : Prop} (h : p := by first | exact R44.qual_0 (by assumption) | exact R44.qual_bad (k := k) (by omega) (by omega) (by assumption) | exact R44.qual_end (by assumption) (fun i h1 h2 => i1_2 i h1 (by omega))) : p := h
theorem c40a1_ {p : Prop} (h : p := by first | exact R44.name_0 (by assumption) | exact R44.name_bad (k := k) (by omega) (by assumption) | exact R44.name_end (by assumption) (fun i h2 => i1_1 i (by omega))) : p := h
set_option maxRecDepth 20000 in
theorem f71_ok (c : UInt8) (w : World) : Calls Tryz.prog 71 #[vU8 c] w (Gives [] w fun v L => v = vB (R44.isUp c) ∧ L = []) := by
 refine calls_J [] 9 Tryz.func71 rfl Tryz.ntmps71 [(0, _)] rfl rfl (Give.nil w) ?_
 refine q_ (g_ (s_ av_ (z_ (n_ (q_ (g_ (s_ mv_ (js_ (vB (decide ((65 : UInt8) ≤ c))) (x_geq_u8 rfl rfl) (s_ mv_ ?_)))))))))
 refine and_ 2 (decide (c ≤ (90 : UInt8))) (fun g1 => ?_) ?_
 ·have g1r := g1
  have g1r := of_decide_eq_true g1r
  have g1ru := g1r
  try simp only [UInt8.lt_iff_toNat_lt, UInt8.le_iff_toNat_le, UInt8.reduceToNat, UInt32.lt_iff_toNat_lt, UInt32.le_iff_toNat_le, UInt32.reduceToNat, UInt64.lt_iff_toNat_lt, UInt64.le_iff_toNat_le, UInt64.reduceToNat] at g1ru
  refine sg_ g1 mv_ (jg_ g1 (vB (decide (c ≤ (90 : UInt8)))) (x_leq_u8 rfl rfl) ?_)
  exact cr_
 refine s_ av_ (z_ (n_ (rt_ ?_)))
 exact p1 Tryz.results71 rfl ⟨(eB (by rfl)), rfl⟩
set_option maxRecDepth 20000 in
theorem f92_ok (c : UInt8) (w : World) : Calls Tryz.prog 92 #[vU8 c] w (Gives [] w fun v L => v = vB (R44.isDg c) ∧ L = []) := by
 refine calls_J [] 9 Tryz.func92 rfl Tryz.ntmps92 [(0, _)] rfl rfl (Give.nil w) ?_
 refine q_ (g_ (s_ av_ (z_ (n_ (q_ (g_ (s_ mv_ (js_ (vB (decide ((48 : UInt8) ≤ c))) (x_geq_u8 rfl rfl) (s_ mv_ ?_)))))))))
 refine and_ 2 (decide (c ≤ (57 : UInt8))) (fun g1 => ?_) ?_
 ·have g1r := g1
  have g1r := of_decide_eq_true g1r
  have g1ru := g1r
  try simp only [UInt8.lt_iff_toNat_lt, UInt8.le_iff_toNat_le, UInt8.reduceToNat, UInt32.lt_iff_toNat_lt, UInt32.le_iff_toNat_le, UInt32.reduceToNat, UInt64.lt_iff_toNat_lt, UInt64.le_iff_toNat_le, UInt64.reduceToNat] at g1ru
  refine sg_ g1 mv_ (jg_ g1 (vB (decide (c ≤ (57 : UInt8)))) (x_leq_u8 rfl rfl) ?_)
  exact cr_
 refine s_ av_ (z_ (n_ (rt_ ?_)))
 exact p1 Tryz.results92 rfl ⟨(eB (by rfl)), rfl⟩
set_option maxRecDepth 20000 in
theorem f72_ok (c : UInt8) (w : World) : Calls Tryz.prog 72 #[vU8 c] w (Gives [] w fun v L => v = vB (R44.isPl c) ∧ L = []) := by
 refine calls_J [] 9 Tryz.func72 rfl Tryz.ntmps72 [(0, _)] rfl rfl (Give.nil w) ?_
 refine q_ (g_ (s_ av_ (z_ (n_ (q_ (g_ (s_ mv_ (c0 (cl_ Ty.ca71) (fun w hS => f71_ok c w) (s_ mv_ ?_)))))))))
 refine or_ 2 (R44.isDg c) (fun g1 => ?_) ?_
 ·have g1r := g1
  refine sg_ g1 mv_ (c0g g1 (cl_ Ty.ca92) (fun w hS => f92_ok c w) ?_)
  exact cr_
 refine s_ av_ (z_ (n_ (rt_ ?_)))
 exact p1 Tryz.results72 rfl ⟨(eB (by rfl)), rfl⟩
set_option maxRecDepth 20000 in
theorem f70_ok (s : Bytes) (w : World) (q0 : s.length ≤ 9223372036854775807) : Calls Tryz.prog 70 #[vS s, Value.func (.func 71) #[] #[], Value.func (.func 72) #[] #[]] w (Gives [] w fun v L => v = vB (R44.qualV R44.isUp R44.isPl s) ∧ L = []) := by
 refine calls_J [] 35 Tryz.func70 rfl Tryz.ntmps70 [(0, _), (1, _), (2, _)] rfl rfl (Give.nil w) ?_
 refine q_ (g_ (s_ av_ (z_ (n_ (q_ (q_ (g_ (s_ mv_ (s_ (x_len_s rfl Tryz.underlying9) (s_ (x_lss_i rfl rfl) (s_ mv_ ?_)))))))))))
 refine or_ 3 (decide ((8 : Int) < ((s.length : Nat) : Int))) (fun g1 => ?_) ?_
 ·have g1r := g1
  have g1r := of_decide_eq_false g1r
  refine sg_ g1 mv_ (sg_ g1 (x_len_s rfl Tryz.underlying9) (sg_ g1 (x_gtr_i rfl rfl) ?_))
  exact cr_
 refine s_ mv_ ?_
 refine or_ 5 (!(R44.isUp (s.getD 0 0))) (fun g2 => ?_) ?_
 ·have g2r := g2
  have ⟨g2r, h3⟩ := bor_false g2r
  have g2r := of_decide_eq_false g2r
  have h3 := of_decide_eq_false h3
  refine sg_ g2 mv_ (sg_ g2 mv_ (sg_ g2 (x_idx_s (k := 0) rfl rfl Tryz.underlying9 (by omega)) (c0g g2 (x_callv (first := []) (caps := []) rfl Ty.ca71 rfl) (fun w hS => f71_ok _ w) (sg_ g2 (x_not rfl) ?_))))
  exact cr_
 refine z_ (n_ ?_)
 refine if_ (fun h4 => ?_) (fun h4 => ?_)
 ·have h4w := h4
  simp only [Bool.and_eq_true, Bool.or_eq_true, Bool.and_eq_false_iff, Bool.or_eq_false_iff, Bool.not_eq_true', Bool.not_eq_false', decide_eq_true_eq, decide_eq_false_iff_not] at h4
  refine q_ (g_ (s_ av_ (z_ (n_ (rt_ (nr_ ?_))))))
  exact p1 Tryz.results70 rfl ⟨(eB c40a0_), rfl⟩
 ·have h4w := h4
  have ⟨h4, h5⟩ := bor_false h4
  have ⟨h4, h6⟩ := bor_false h4
  have h4 := of_decide_eq_false h4
  have h6 := of_decide_eq_false h6
  have h5 : (R44.isUp (s.getD 0 0)) = true := bnot_false h5
  refine sk_ (n_ (q_ (q_ (g_ (s_ av_ (z_ (n_ (k_ ?_))))))))
  refine J_loop (X := Nat) (fun (k : Nat) => (1 ≤ k) ∧ (k ≤ s.length) ∧ (∀ i, 1 ≤ i → i < k → R44.isPl (s.getD i 0) = true)) (fun (k : Nat) => [(0, vS s), (2, Value.func (.func 72) #[] #[]), (7, vI ((k : Nat) : Int))]) (fun (k : Nat) => []) (fun (k : Nat) => s.length - k) (1 : Nat) ?_ ⟨rfl, rfl, rfl, trivial⟩ (fun _ h => h) ?_
  ·try dsimp only
   refine ⟨?_, ?_, ?_⟩
   ·first | rfl | omega | (simp_all; done) | (simp_all; omega)
   ·first | rfl | omega | (simp_all; done) | (simp_all; omega)
   ·intro i h1 h2; omega
  intro k hI1
  obtain ⟨i1_0, i1_1, i1_2⟩ := hI1
  try dsimp only at i1_0
  try dsimp only at i1_1
  try dsimp only at i1_2
  try dsimp only
  refine q_ (q_ (g_ (s_ mv_ (s_ mv_ (s_ (x_len_s rfl Tryz.underlying9) (s_ (x_lss_i rfl rfl) (z_ (n_ ?_))))))))
  refine ifd (fun h7w h7 => ?_) (fun h7w h7 => ?_)
  ·refine sk_ (n_ (q_ (k_ (q_ (g_ (s_ mv_ (s_ mv_ (s_ mv_ (s_ (x_idx_s (k := k) rfl rfl Tryz.underlying9 (by omega)) (c0 (x_callv (first := []) (caps := []) rfl Ty.ca72 rfl) (fun w hS => f72_ok _ w) (s_ (x_not rfl) (z_ (n_ ?_)))))))))))))
   refine if_ (fun h8 => ?_) (fun h8 => ?_)
   ·have h8w := h8
    have h8 : (R44.isPl (s.getD k 0)) = false := bnot_true h8
    refine q_ (g_ (s_ av_ (z_ (n_ (rt_ (kq_ (nr_ (rr_ (kq_ (nr_ ?_))))))))))
    exact p1 Tryz.results70 rfl ⟨(eB c40a0_), rfl⟩
   ·have h8w := h8
    have h8 : (R44.isPl (s.getD k 0)) = true := bnot_false h8
    refine sk_ (kx_ (n_ (g_ (s_ mv_ (s_ (x_add_n (a := k) (b := 1) rfl rfl (by omega)) (s_ av_ (z_ ?_)))))))
    refine JX_round (k + 1 : Nat) ?_ ?_ ⟨rfl, rfl, rfl, trivial⟩ (fun _ h => h)
    ·try dsimp only
     refine ⟨?_, ?_, ?_⟩
     ·first | rfl | omega | (simp_all; done) | (simp_all; omega)
     ·first | rfl | omega | (simp_all; done) | (simp_all; omega)
     ·exact R44.qual_step i1_2 (by assumption)
    ·try dsimp only
     first | omega | (simp; omega) | (simp_all; omega)
  ·refine J_exit (ne_ (re_ (kh_ (n_ (q_ ?_)))))
   refine g_ (s_ av_ (z_ (n_ (rt_ ?_))))
   exact p1 Tryz.results70 rfl ⟨(eB c40a0_), rfl⟩
set_option maxRecDepth 20000 in
theorem f69_ok (s : Bytes) (w : World) (q0 : s.length ≤ 9223372036854775807) : Calls Tryz.prog 69 #[vS s] w (Gives [] w fun v L => v = vB (R44.qualV R44.isUp R44.isPl s) ∧ L = []) := by
 refine calls_J [] 5 Tryz.func69 rfl Tryz.ntmps69 [(0, _)] rfl rfl (Give.nil w) ?_
 refine q_ (g_ (s_ av_ (z_ (n_ (q_ (g_ (s_ mv_ (c0 (cl_ Ty.ca70) (fun w hS => f70_ok s w hy_) (s_ av_ (z_ (n_ (rt_ ?_))))))))))))
 exact p1 Tryz.results69 rfl ⟨rfl, rfl⟩
set_option maxRecDepth 20000 in
theorem f68_ok (s : Bytes) (w : World) (hT : Tab [] w) (q0 : s.length ≤ 140737488355328) : Calls Tryz.prog 68 #[vS s, vI 31, Value.func (.func 69) #[] #[]] w (Gives [] w fun v L => v = vB (R44.nameV (R44.qualV R44.isUp R44.isPl) s) ∧ L = []) := by
 refine calls_J [] 30 Tryz.func68 rfl Tryz.ntmps68 [(0, _), (1, _), (2, _)] rfl rfl (Give.nil w) ?_
 refine q_ (g_ (s_ av_ (z_ (n_ (q_ (q_ (g_ (s_ mv_ (s_ (x_len_s rfl Tryz.underlying9) (s_ (x_lss_i rfl rfl) (s_ mv_ ?_)))))))))))
 refine or_ 4 (decide ((31 : Int) < ((s.length : Nat) : Int))) (fun g1 => ?_) ?_
 ·have g1r := g1
  have g1r := of_decide_eq_false g1r
  refine sg_ g1 mv_ (sg_ g1 (x_len_s rfl Tryz.underlying9) (sg_ g1 mv_ (sg_ g1 (x_gtr_i rfl rfl) ?_)))
  exact cr_
 refine z_ (n_ ?_)
 refine if_ (fun h2 => ?_) (fun h2 => ?_)
 ·have h2w := h2
  simp only [Bool.and_eq_true, Bool.or_eq_true, Bool.and_eq_false_iff, Bool.or_eq_false_iff, Bool.not_eq_true', Bool.not_eq_false', decide_eq_true_eq, decide_eq_false_iff_not] at h2
  refine q_ (g_ (s_ av_ (z_ (n_ (rt_ (nr_ ?_))))))
  exact p1 Tryz.results68 rfl ⟨(eB c40a1_), rfl⟩
 ·have h2w := h2
  have ⟨h2, h3⟩ := bor_false h2
  have h2 := of_decide_eq_false h2
  have h3 := of_decide_eq_false h3
  refine sk_ (n_ (q_ (q_ (g_ (s_ mv_ ?_)))))
  refine c1 (cl_ Ty.ca91) (fun w hS => split_ok s w (hT.on hS (fun _ h => by cases h)) hy_) ?_
  rintro _ _ ⟨e4, e5, rfl, rfl⟩
  have ha6 := R44.splitC_count 46 s
  refine s_ (lnS Tryz.underlying22) (s_ mv_ (z_ (n_ (k_ ?_))))
  refine J_loop (X := Nat) (fun (k : Nat) => (k ≤ (R44.splitC 46 s).length) ∧ (∀ i, i < k → (R44.qualV R44.isUp R44.isPl) ((R44.splitC 46 s).getD i []) = true)) (fun (k : Nat) => [(2, Value.func (.func 69) #[] #[]), (19, vL e4 ((R44.splitC 46 s).length) e5), (20, vI (((R44.splitC 46 s).length : Nat) : Int)), (21, vI ((k : Nat) : Int))]) (fun (k : Nat) => [Ent.row (.slice e4 (R44.splitC 46 s).length e5) 9 1 (R44.splitC 46 s).length ((R44.splitC 46 s).map vS)]) (fun (k : Nat) => (R44.splitC 46 s).length - k) (0 : Nat) ?_ ⟨rfl, rfl, rfl, rfl, trivial⟩ (fun _ h => h) ?_
  ·try dsimp only
   refine ⟨?_, ?_⟩
   ·first | rfl | omega | (simp_all; done) | (simp_all; omega)
   ·intro i h2; omega
  intro k hI1
  obtain ⟨i1_0, i1_1⟩ := hI1
  try dsimp only at i1_0
  try dsimp only at i1_1
  have hpl := R44.splitC_len 46 s k
  try dsimp only
  refine q_ (g_ (s_ (x_lss_i rfl rfl) (z_ (n_ (q_ ?_)))))
  refine ifd (fun h7w h7 => ?_) (fun h7w h7 => ?_)
  ·refine sk_ (n_ (q_ (k_ (q_ (g_ (r_ (ixM (cells_row 0 rfl) Tryz.underlying22 Ty.sz9) (r_ (ldM vS [] (cells_row 0 rfl) Ty.sc9) (s_ av_ (z_ (n_ (q_ (g_ (s_ mv_ (s_ mv_ (c0 (x_callv (first := []) (caps := []) rfl Ty.ca69 rfl) (fun w hS => f69_ok _ w hy_) (s_ (x_not rfl) (z_ (n_ ?_))))))))))))))))))
   refine if_ (fun h8 => ?_) (fun h8 => ?_)
   ·have h8w := h8
    have h8 : (R44.qualV R44.isUp R44.isPl ((R44.splitC 46 s).getD k [])) = false := bnot_true h8
    refine q_ (g_ (s_ av_ (z_ (n_ (rt_ (kq_ (nr_ (rr_ (kq_ (nr_ ?_))))))))))
    exact p1 Tryz.results68 rfl ⟨(eB c40a1_), rfl⟩
   ·have h8w := h8
    have h8 : (R44.qualV R44.isUp R44.isPl ((R44.splitC 46 s).getD k [])) = true := bnot_false h8
    refine sk_ (kx_ (n_ (g_ (s_ (x_add_n (a := k) (b := 1) rfl rfl (by omega)) (s_ mv_ (z_ ?_))))))
    refine JX_round (k + 1 : Nat) ?_ ?_ ⟨rfl, rfl, rfl, rfl, trivial⟩ (fun _ h => h)
    ·try dsimp only
     refine ⟨?_, ?_⟩
     ·first | rfl | omega | (simp_all; done) | (simp_all; omega)
     ·exact R44.all_step i1_1 (by assumption)
    ·try dsimp only
     first | omega | (simp; omega) | (simp_all; omega)
  ·refine J_exit (ne_ (re_ (kh_ (n_ (q_ ?_)))))
   refine g_ (s_ av_ (z_ (n_ (rt_ ?_))))
   exact p1 Tryz.results68 rfl ⟨(eB c40a1_), rfl⟩
set_option maxRecDepth 20000 in
theorem f51_ok (s : Bytes) (w : World) (hT : Tab [] w) (q0 : s.length ≤ 140737488355328) : Calls Tryz.prog 51 #[vS s] w (Gives [] w fun v L => v = vB (R44.nameV (R44.qualV R44.isUp R44.isPl) s) ∧ L = []) := by
 refine calls_J [] 5 Tryz.func51 rfl Tryz.ntmps51 [(0, _)] rfl rfl (Give.nil w) ?_
 refine q_ (g_ (s_ av_ (z_ (n_ (q_ (g_ (s_ mv_ (c0 (cl_ Ty.ca68) (fun w hS => f68_ok s w (hT.on hS (fun _ h => by cases h)) hy_) (s_ av_ (z_ (n_ (rt_ ?_))))))))))))
 exact p1 Tryz.results51 rfl ⟨rfl, rfl⟩
set_option maxRecDepth 20000 in
theorem f26_ok (s : Bytes) (w : World) (hT : Tab [] w) (q0 : s.length ≤ 140737488355328) : Calls Tryz.prog 26 #[vS s] w (Gives [] w fun v L => v = vB (R40.stepV s) ∧ L = []) := by
 refine calls_J [] 10 Tryz.func26 rfl Tryz.ntmps26 [(0, _)] rfl rfl (Give.nil w) ?_
 refine q_ (g_ (s_ av_ (z_ (n_ (q_ (g_ (s_ mv_ (c0 (cl_ Ty.ca51) (fun w hS => f51_ok s w (hT.on hS (fun _ h => by cases h)) hy_) (s_ mv_ ?_)))))))))
 refine and_ 3 (decide (((s.count 46 : Nat) : Int) < 2)) (fun g1 => ?_) ?_
 ·have g1r := g1
  refine sg_ g1 mv_ (c0g g1 (cl_ Ty.ca52) (fun w hS => count_ok s w) (sg_ g1 (x_lss_i rfl rfl) ?_))
  exact cr_
 refine s_ av_ (z_ (n_ (rt_ ?_)))
 exact p1 Tryz.results26 rfl ⟨(eB (by rfl)), rfl⟩
end Go.Proofs.YtngjdmhpljmkpaaGreatDoor

namespace Go.Proofs.YtngjdmhpljmkpaaGreatDoor
open Go.GV
namespace R40
theorem rels_len : rels.length = 6 := rfl
section
variable {ws : List Bytes} {i : Nat} {w : Bytes}
theorem isA_t (h : i < ws.length) (hw : ws.getD i [] = w) : true = isA ws i w := (isA_iff.2 ⟨h, hw⟩).symm
theorem isA_f (h : i < ws.length) (hw : ¬ ws.getD i [] = w) : false = isA ws i w := (Bool.eq_false_iff.2 fun e => hw (isA_iff.1 e).2).symm
theorem isA_g (h : ¬ i < ws.length) : false = isA ws i w := (Bool.eq_false_iff.2 fun e => h (isA_iff.1 e).1).symm
theorem is_bd {j : Nat} (h1 : isA ws i w = true → i + 1 = j ∧ i < ws.length) (h2 : isA ws i w = false → i = j) : i ≤ j ∧ j ≤ i + 1 ∧ (i ≤ ws.length → j ≤ ws.length) := by
  cases h : isA ws i w with
  | true => have := h1 h; omega
  | false => have := h2 h; omega
def RelJ (ws : List Bytes) (j0 r : Nat) (op : Int) (j : Nat) : Prop := (op = -1 ∧ j = j0 ∧ ∀ q, q < r → isA ws j0 (rels.getD q []) = false) ∨ (0 ≤ op ∧ j = j0 + 1 ∧ j0 < ws.length ∧ idx rels (ws.getD j0 []) = op)
theorem RelJ.start {j0 : Nat} : RelJ ws j0 0 (-1) j0 := .inl ⟨rfl, rfl, fun q h => absurd h (Nat.not_lt_zero _)⟩
section
variable {j0 r j : Nat} {op : Int}
theorem RelJ.bd (h : RelJ ws j0 r op j) : (op = -1 ∧ j = j0) ∨ (0 ≤ op ∧ op ≤ 5 ∧ j = j0 + 1 ∧ j0 < ws.length) := by
  rcases h with ⟨h1, h2, _⟩ | ⟨h1, h2, h3, h4⟩
  · exact .inl ⟨h1, h2⟩
  · have := (idx_lt rels (ws.getD j0 [])).2
    rw [rels_len] at this
    exact .inr ⟨h1, by omega, h2, h3⟩
theorem RelJ.skip (h : RelJ ws j0 r op j) (ho : ¬ op < 0) : RelJ ws j0 (r + 1) op j := by
  rcases h with ⟨h1, _, _⟩ | h
  · omega
  · exact .inr h
theorem RelJ.miss (h : RelJ ws j0 r op j) (ho : op < 0) (hn : isA ws j (rels.getD r []) = false) : RelJ ws j0 (r + 1) op j := by
  rcases h with ⟨h1, h2, h3⟩ | h
  · refine .inl ⟨h1, h2, fun q hq => ?_⟩
    by_cases e : q = r
    · rw [e, ← h2]; exact hn
    · exact h3 q (by omega)
  · omega
theorem RelJ.hit (h : RelJ ws j0 r op j) (ho : op < 0) (hr : r < rels.length) (hn : isA ws j (rels.getD r []) = true) : RelJ ws j0 (r + 1) (r : Int) (j + 1) := by
  rcases h with ⟨_, h2, h3⟩ | h
  · subst h2
    obtain ⟨h4, h5⟩ := isA_iff.1 hn
    refine .inr ⟨by omega, rfl, h4, ?_⟩
    refine (idx_hit (k := r) hr (fun q hq e => ?_) h5).symm
    have := h3 q hq
    rw [isA_iff.2 ⟨h4, e.symm⟩] at this; cases this
  · omega
theorem RelJ.none_ (h : RelJ ws j0 r op j) (hr : r = 6) (ho : op < 0) : ¬ (j0 < ws.length ∧ 0 ≤ idx rels (ws.getD j0 [])) := by
  rcases h with ⟨_, _, h3⟩ | h
  · rintro ⟨h4, h5⟩
    have h6 := (idx_lt rels (ws.getD j0 [])).2
    rw [rels_len] at h6
    have h7 := h3 (idx rels (ws.getD j0 [])).toNat (by omega)
    rw [isA_iff.2 ⟨h4, (idx_at h5).symm⟩] at h7; cases h7
  · omega
end
theorem basic_0 (h : ws.length ≤ i) : basicV ws i = ⟨false, i, []⟩ := by unfold basicV; rw [if_neg (by omega)]
theorem basic_1 (h : stepV (ws.getD i []) = false) : basicV ws i = ⟨false, i, []⟩ := by unfold basicV; rw [if_neg (by rw [h]; simp)]
section
variable (hi : i < ws.length) (hs : stepV (ws.getD i []) = true)
include hi hs
theorem basic_f (h : isA ws (i + 1) wFAILED = true) : basicV ws i = ⟨true, i + 2, [⟨1, ws.getD i [], 0, 0⟩]⟩ := by
  unfold basicV basicK; rw [if_pos ⟨hi, hs⟩, if_pos h]
theorem basic_r (h0 : isA ws (i + 1) wFAILED = false) (h : isA ws (i + 1) wRAN = true) : basicV ws i = ⟨true, i + 2, [⟨2, ws.getD i [], 0, 0⟩]⟩ := by
  unfold basicV basicK; rw [if_pos ⟨hi, hs⟩, if_neg (by rw [h0]; decide), if_pos h]
theorem basic_n (h0 : isA ws (i + 1) wFAILED = false) (h1 : isA ws (i + 1) wRAN = false) (h : isA ws (i + 1) wRC = false) : basicV ws i = ⟨false, i + 1, []⟩ := by
  unfold basicV basicK; rw [if_pos ⟨hi, hs⟩, if_neg (by rw [h0]; decide), if_neg (by rw [h1]; decide), if_neg (by rw [h]; decide)]
variable {r j : Nat} {op n : Int} (h0 : isA ws (i + 1) wFAILED = false) (h1 : isA ws (i + 1) wRAN = false) (h2 : isA ws (i + 1) wRC = true) (hR : RelJ ws (i + 2) r op j)
include h0 h1 h2 hR
theorem basic_op (hr : r = 6) (ho : op < 0) : basicV ws i = ⟨false, j, []⟩ := by
  have hb := hR.bd
  have hn := hR.none_ hr ho
  unfold basicV basicK
  rw [if_pos ⟨hi, hs⟩, if_neg (by rw [h0]; decide), if_neg (by rw [h1]; decide), if_pos h2, if_neg hn, show j = i + 2 by omega]
theorem basic_c (ho : ¬ op < 0) : basicV ws i = if i + 3 < ws.length then (match numC (ws.getD (i + 3) []) with | some n => ⟨true, i + 4, [⟨0, ws.getD i [], op, n⟩]⟩ | none => ⟨false, i + 3, []⟩) else ⟨false, i + 3, []⟩ := by
  have hb := hR.bd
  have he : idx rels (ws.getD (i + 2) []) = op := by
    rcases hR with ⟨h, _, _⟩ | ⟨_, _, _, h⟩
    · omega
    · exact h
  unfold basicV basicK
  rw [if_pos ⟨hi, hs⟩, if_neg (by rw [h0]; decide), if_neg (by rw [h1]; decide), if_pos h2, he, if_pos ⟨by omega, by omega⟩]
  by_cases h3 : i + 3 < ws.length
  · rw [if_pos h3, if_pos h3]
    cases numC (ws.getD (i + 3) []) <;> rfl
  · rw [if_neg h3, if_neg h3]
theorem basic_e (ho : ¬ op < 0) (hj : ws.length ≤ j) : basicV ws i = ⟨false, j, []⟩ := by
  have hb := hR.bd
  rw [basic_c hi hs h0 h1 h2 hR ho, if_neg (by omega), show j = i + 3 by omega]
theorem basic_x (ho : ¬ op < 0) (hn : numC (ws.getD j []) = none) : basicV ws i = ⟨false, j, []⟩ := by
  have hb := hR.bd
  have e : j = i + 3 := by omega
  rw [basic_c hi hs h0 h1 h2 hR ho, ← e, hn]
  split <;> rfl
theorem basic_y (ho : ¬ op < 0) (hj : j < ws.length) (hn : numC (ws.getD j []) = some n) : basicV ws i = ⟨true, j + 1, [⟨0, ws.getD i [], op, n⟩]⟩ := by
  have hb := hR.bd
  have e : j = i + 3 := by omega
  rw [basic_c hi hs h0 h1 h2 hR ho, ← e, if_pos hj, hn, e]
end
theorem numC_yes {s : Bytes} {n : Int} (h : ¬ Lib.decDigits n.toNat ≠ s) (h0 : 0 ≤ n) (h1 : n ≤ 4095) : numC s = some n := by rw [← Decidable.not_not.1 h]; exact numC_dec h0 h1
theorem numC_no {s : Bytes} {n : Int} {er : Bool} (h : R44.AtoiJ s n er) (hb : er = false ∨ n < 0 ∨ 4095 < n ∨ Lib.decDigits n.toNat ≠ s) : numC s = none := by
  cases hn : numC s with
  | none => rfl
  | some m =>
    exfalso
    unfold numC at hn
    split at hn
    · rename_i h2
      cases hn
      have ha := R44.atoi_dec (n := R44.vN s) (by omega)
      rw [h2.2] at ha
      cases her : er with
      | false => exact h.2.1 her _ ha
      | true =>
        have h3 := h.1 her
        rw [ha] at h3
        injection h3 with h3
        subst h3
        rw [her] at hb
        rcases hb with hb | hb | hb | hb
        · cases hb
        · omega
        · omega
        · exact hb (by rw [Int.toNat_natCast]; exact h2.2)
    · cases hn
section
variable {orF : Nat → PR} {n j m : Nat}
theorem nots_step (h : isA ws i wNOT = true) : nots ws i = nots ws (i + 1) + 1 := by
  obtain ⟨h1, h2⟩ := isA_iff.1 h
  rcases nots_case (ws := ws) i with h3 | h3
  · exact absurd h2 (h3.2 h1)
  · exact h3.1
theorem nots_none (h : isA ws i wNOT = false) : nots ws i = 0 := by
  rcases nots_case (ws := ws) i with h3 | h3
  · exact h3.1
  · rw [isA_iff.2 h3.2] at h; cases h
theorem part_eq (hn : nots ws i = n) {ok : Bool} {p : Nat} {T : List Test} (h : coreG ws orF (i + n) = ⟨ok, p, T⟩) : partG ws orF i = ⟨ok, p, T ++ List.replicate n (bare 4)⟩ := by
  unfold partG; rw [hn, h]
theorem part_eq' (hn : nots ws i = n) (hj : j = i + n) {ok : Bool} {p : Nat} {T : List Test} (h : coreG ws orF j = ⟨ok, p, T⟩) : partG ws orF i = ⟨ok, p, T ++ List.replicate n (bare 4)⟩ := part_eq hn (by rw [← hj]; exact h)
theorem core_lp0 (h1 : isA ws j wLP = true) (h : (orF (j + 1)).ok = false) : coreG ws orF j = ⟨false, (orF (j + 1)).pos, (orF (j + 1)).out⟩ := by
  unfold coreG; rw [if_pos h1, if_neg (by rw [h]; decide)]
theorem core_lp {q : Nat} (h1 : isA ws j wLP = true) (h : (orF (j + 1)).ok = true) (h2 : isA ws (orF (j + 1)).pos wRP = true → (orF (j + 1)).pos + 1 = q ∧ (orF (j + 1)).pos < ws.length) (h3 : isA ws (orF (j + 1)).pos wRP = false → (orF (j + 1)).pos = q) : coreG ws orF j = ⟨isA ws (orF (j + 1)).pos wRP, q, (orF (j + 1)).out⟩ := by
  unfold coreG; rw [if_pos h1, if_pos h]
  cases hp : isA ws (orF (j + 1)).pos wRP with
  | true => rw [if_pos rfl, (h2 hp).1]
  | false => rw [if_neg (by decide), h3 hp]
theorem core_any (h1 : isA ws j wLP = false) (h2 : isA ws j wFAILED = true) : coreG ws orF j = ⟨true, j + 1, [bare 3]⟩ := by
  unfold coreG; rw [if_neg (by rw [h1]; decide), if_pos h2]
theorem core_basic (h1 : isA ws j wLP = false) (h2 : isA ws j wFAILED = false) : coreG ws orF j = basicV ws j := by
  unfold coreG; rw [if_neg (by rw [h1]; decide), if_neg (by rw [h2]; decide)]
theorem core_basic' (h1 : isA ws j wLP = false) (h2 : isA ws j wFAILED = false) : coreG ws orF j = ⟨(basicV ws j).ok, (basicV ws j).pos, (basicV ws j).out⟩ := core_basic h1 h2
end
section
variable {pf : Nat → PR} {k : Int} {n j : Nat} {T : List Test}
theorem chain_no (h : (pf i).ok = false) : chainG ws pf w k i = ⟨false, (pf i).pos, (pf i).out⟩ := by
  unfold chainG; rw [if_neg (by rw [h]; decide)]
  cases hp : pf i; rw [hp] at h; cases h; rfl
theorem chain_start (h : (pf i).ok = true) : chainL ws pf w k (ws.length + 1) ⟨true, (pf i).pos, (pf i).out⟩ = chainG ws pf w k i := by
  unfold chainG; rw [if_pos h]
  cases hp : pf i; rw [hp] at h; cases h; rfl
theorem chain_step {G : PR} (hG : chainL ws pf w k n ⟨true, j, T⟩ = G) (hn : 0 < n) (h : isA ws j w = true) (hok : (pf (j + 1)).ok = true) : chainL ws pf w k (n - 1) ⟨true, (pf (j + 1)).pos, T ++ (pf (j + 1)).out ++ [bare k]⟩ = G := by
  obtain ⟨n, rfl⟩ : ∃ q, n = q + 1 := ⟨n - 1, by omega⟩
  rw [← hG, chainL, if_pos h, if_pos hok]; rfl
theorem chain_bad {G : PR} (hG : chainL ws pf w k n ⟨true, j, T⟩ = G) (hn : 0 < n) (h : isA ws j w = true) (hok : (pf (j + 1)).ok = false) : G = ⟨false, (pf (j + 1)).pos, T ++ (pf (j + 1)).out⟩ := by
  obtain ⟨n, rfl⟩ : ∃ q, n = q + 1 := ⟨n - 1, by omega⟩
  rw [← hG, chainL, if_pos h, if_neg (by rw [hok]; decide)]
theorem chain_done {G : PR} (hG : chainL ws pf w k n ⟨true, j, T⟩ = G) (h : isA ws j w = false) : G = ⟨true, j, T⟩ := by
  rw [← hG, chainL_no h]
end
end
end R40
end Go.Proofs.YtngjdmhpljmkpaaGreatDoor

namespace Go.Proofs.YtngjdmhpljmkpaaGreatDoor
open Go.GV
namespace R40
section
variable {ls : List Rw} {k : Nat}
theorem flat_step (h : k < ls.length) : ((ls.map Rw.s).take (k + 1)).flatten.length = ((ls.map Rw.s).take k).flatten.length + (ls.getD k default).s.length := by
  rw [R44.take_snoc (d := []) (by rw [List.length_map]; exact h), List.flatten_append, List.length_append]
  congr 1
  rw [List.getD_eq_getElem?_getD, List.getElem?_map, List.getD_eq_getElem?_getD, List.getElem?_eq_getElem h]; simp
theorem flat_le (hq : (ls.map Rw.s).flatten.length ≤ 1000000) : ((ls.map Rw.s).take k).flatten.length ≤ 1000000 := by
  have e := congrArg (fun l => l.flatten.length) (List.take_append_drop k (ls.map Rw.s))
  simp only [List.flatten_append, List.length_append] at e
  omega
theorem flat_snoc (h : k < ls.length) : ((ls.map Rw.s).take (k + 1)).flatten = ((ls.map Rw.s).take k).flatten ++ (ls.getD k default).s := by
  rw [R44.take_snoc (d := []) (by rw [List.length_map]; exact h), List.flatten_append]
  congr 1
  rw [List.getD_eq_getElem?_getD, List.getElem?_map, List.getD_eq_getElem?_getD, List.getElem?_eq_getElem h]; simp
theorem flat_all {out : List Bytes} (h : out = ((ls.map Rw.s).take k).flatten) (hk : k = ls.length) : out = (ls.map Rw.s).flatten := by
  rw [h, List.take_of_length_le (by rw [List.length_map]; omega)]
end
theorem inP_le (b : Bool) (l : List Bytes) : (inP b l).length ≤ l.length + 2 := by unfold inP; split <;> simp
theorem words_le (x : Node) : ∀ n, (wordsV x n).length ≤ 6 * (post x).length := by
  induction x with
  | leaf t i =>
    intro n; rw [wordsV]
    have h1 := inP_le (decide (2 < n)) (leafW t)
    have h2 : (leafW t).length ≤ 4 := by unfold leafW; (repeat' split) <;> simp
    show _ ≤ 6 * 1; omega
  | neg x ih => intro n; have h0 := ih 2; rw [wordsV]; have h1 := inP_le (decide (2 < n)) ([wNOT] ++ wordsV x 2); simp only [List.length_append, List.length_cons, List.length_nil, post] at *; omega
  | pair b x y ih1 ih2 => intro n; have h1 := ih1 (if b = true then 1 else 0); have h2 := ih2 ((if b = true then 1 else 0) + 1); rw [wordsV]; have h3 := inP_le (decide ((if b = true then 1 else 0) < n)) (wordsV x (if b = true then 1 else 0) ++ [if b = true then wAND else wOR] ++ wordsV y ((if b = true then 1 else 0) + 1)); simp only [List.length_append, List.length_cons, List.length_nil, post] at *; omega
theorem leaf_rng {P : Bytes → Bool} {t : Test} (h : leafOk P t = true) : (t.Kind = 0 → 0 ≤ t.Op ∧ t.Op ≤ 5 ∧ 0 ≤ t.N ∧ t.N ≤ 4095) := fun hk => by
  rcases leaf_any h with h2 | h2 | h2
  · rw [h2] at hk; cases hk
  · omega
  · exact ⟨h2.2.1, h2.2.2.1, h2.2.2.2.1, h2.2.2.2.2.1⟩
end R40
end Go.Proofs.YtngjdmhpljmkpaaGreatDoor

namespace Go.Proofs.YtngjdmhpljmkpaaGreatDoor
open Go.GV
namespace R40
section
variable {t : Test} {i : Int} {n : Nat} {x y : Node} {b : Bool}
theorem wd_leaf (hn : n ≤ 2) : wordsV (.leaf t i) n = leafW t := by rw [wordsV, inP, if_neg (by simp; omega)]
theorem wd_0 (hn : n ≤ 2) (h : t.Kind = 0) : wordsV (.leaf t i) n = [t.Step, wRC, rels.getD t.Op.toNat [], Lib.decDigits t.N.toNat] := by rw [wd_leaf hn, leafW, if_pos h]
theorem wd_1 (hn : n ≤ 2) (h : t.Kind = 1) : wordsV (.leaf t i) n = [t.Step, wFAILED] := by rw [wd_leaf hn, leafW, if_neg (by omega), if_pos h]
theorem wd_2 (hn : n ≤ 2) (h : t.Kind = 2) : wordsV (.leaf t i) n = [t.Step, wRAN] := by rw [wd_leaf hn, leafW, if_neg (by omega), if_neg (by omega), if_pos h]
theorem wd_3 (hn : n ≤ 2) (h0 : ¬ t.Kind = 0) (h1 : ¬ t.Kind = 1) (h2 : ¬ t.Kind = 2) : wordsV (.leaf t i) n = [wFAILED] := by rw [wd_leaf hn, leafW, if_neg h0, if_neg h1, if_neg h2]
theorem wd_n (hn : n ≤ 2) : wordsV (.neg x) n = [wNOT] ++ wordsV x 2 := by rw [wordsV, inP, if_neg (by simp; omega)]
theorem wd_pp (h : (if b = true then 1 else 0) < n) {w : Bytes} (hw : (if b = true then wAND else wOR) = w) : wordsV (.pair b x y) n = [[wLP], [wordsV x (if b = true then 1 else 0), [w], wordsV y ((if b = true then 1 else 0) + 1)].flatten, [wRP]].flatten := by
  rw [wordsV, inP, if_pos (decide_eq_true h), hw]; simp
theorem wd_p (h : ¬ (if b = true then 1 else 0) < n) {w : Bytes} (hw : (if b = true then wAND else wOR) = w) : wordsV (.pair b x y) n = [wordsV x (if b = true then 1 else 0), [w], wordsV y ((if b = true then 1 else 0) + 1)].flatten := by
  rw [wordsV, inP, if_neg (by simpa using h), hw]; simp
end
end R40
theorem ron_nil1 {α : Type} [Inhabited α] {S : List Nat} {w : World} {fA : α → Option Addr} {fl : α → List Value} (hd : RO S w (fA default) (fl default)) : ∀ i : Nat, RO S w (fA (([] : List α).getD i default)) (fl (([] : List α).getD i default)) := fun _ => hd
theorem ron_cons1 {α : Type} [Inhabited α] {S : List Nat} {w : World} {fA : α → Option Addr} {fl : α → List Value} {a : α} {l : List α} (h : RO S w (fA a) (fl a)) (h2 : ∀ i : Nat, RO S w (fA (l.getD i default)) (fl (l.getD i default))) : ∀ i : Nat, RO S w (fA ((a :: l).getD i default)) (fl ((a :: l).getD i default))
  | 0 => h
  | i + 1 => h2 i
end Go.Proofs.YtngjdmhpljmkpaaGreatDoor
