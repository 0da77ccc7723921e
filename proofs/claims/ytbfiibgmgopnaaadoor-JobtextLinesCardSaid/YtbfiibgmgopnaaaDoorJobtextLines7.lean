/- Pl39, St44, Srt, Od, Rq, Pl44, Pl44b, Wd44, Nm44, Pn44, Pl39b, Pl39c, Pl39d in one text. -/
import Derived.Test.YtbfiibgmgopnaaaDoorJobtextLines3
import Derived.Test.YtbfiibgmgopnaaaDoorJobtextLines4
import Derived.Test.YtbfiibgmgopnaaaDoorJobtextLines2
import Derived.Lib.Repeat
import Derived.Test.YtbfiibgmgopnaaaDoorJobtextLines5
import Derived.Lib.FieldsP
import Derived.Lib.TrimUEq
import Derived.Lib.SplitLaws
import Derived.Lib.IndexBytes
import Derived.Lib.ItoaNum
import Derived.Lib.AtoiAllCases
set_option linter.unusedVariables false
set_option linter.unusedSimpArgs false
namespace Go.Proofs.YtbfiibgmgopnaaaDoor
open Go.GV
namespace R39
def isW (c : UInt8) : Bool := decide ((32 : UInt8) < c) && decide (c ≤ (126 : UInt8)) && decide (c ≠ (39 : UInt8))
def trim (s : Bytes) : Bytes := s.dropWhile (· == 32)
def qw : Bytes → Option (Bytes × Bytes)
  | [] => none
  | [c] => if c = 39 then some ([], []) else none
  | c :: d :: t =>
    if c = 39 then (if d = 39 then (qw t).map fun p => (39 :: p.1, p.2) else some ([], d :: t))
    else if c < 32 ∨ 126 < c then none else (qw (d :: t)).map fun p => (c :: p.1, p.2)
def first : Bytes → Option (Bytes × Bytes)
  | [] => none
  | c :: t => if c = 39 then qw t else if isW c = true then some ((c :: t).takeWhile isW, (c :: t).dropWhile isW) else none
def scanN : Nat → Bytes → Option (List Bytes)
  | 0, _ => none
  | n + 1, s => if trim s = [] then some [] else match first (trim s) with
    | none => none
    | some (w, r) => if r = [] ∨ r.head? = some 32 then (scanN n r).map (w :: ·) else none
def scan (s : Bytes) : Option (List Bytes) := scanN (s.length + 1) s
def scanW (s : Bytes) : List Bytes := (scan s).getD []
theorem trim_le (s : Bytes) : (trim s).length ≤ s.length := (List.dropWhile_sublist _).length_le
theorem qw_le : ∀ {s w r : Bytes}, qw s = some (w, r) → w.length + r.length < s.length
  | [], w, r, h => by cases h
  | [c], w, r, h => by
    rw [qw] at h; split at h
    · cases h; simp
    · cases h
  | c :: d :: t, w, r, h => by
    rw [qw] at h; split at h
    · split at h
      · cases hq : qw t with
        | none => rw [hq] at h; cases h
        | some p =>
          rw [hq] at h; cases h
          have := qw_le (w := p.1) (r := p.2) hq
          simp only [List.length_cons]; omega
      · cases h; simp
    · split at h
      · cases h
      · cases hq : qw (d :: t) with
        | none => rw [hq] at h; cases h
        | some p =>
          rw [hq] at h; cases h
          have := qw_le (w := p.1) (r := p.2) hq
          simp only [List.length_cons] at *; omega
theorem first_le {s w r : Bytes} (h : first s = some (w, r)) : w.length + r.length ≤ s.length ∧ r.length < s.length := by
  cases s with
  | nil => cases h
  | cons c t =>
    rw [first] at h; split at h
    · have := qw_le h; simp only [List.length_cons]; omega
    · split at h
      · rename_i hw
        cases h
        have e := congrArg List.length (List.takeWhile_append_dropWhile (p := isW) (l := c :: t))
        rw [List.length_append] at e
        have h1 : 1 ≤ ((c :: t).takeWhile isW).length := by rw [List.takeWhile_cons, if_pos hw]; simp
        omega
      · cases h
theorem scanN_ok : ∀ (n m : Nat) (s : Bytes), s.length < n → s.length < m → scanN n s = scanN m s
  | 0, _, _, h, _ => absurd h (Nat.not_lt_zero _)
  | _ + 1, 0, _, _, h => absurd h (Nat.not_lt_zero _)
  | n + 1, m + 1, s, hn, hm => by
    rw [scanN, scanN]
    split
    · rfl
    · split
      · rfl
      · rename_i w r hf
        have h1 := (first_le hf).2; have h2 := trim_le s
        rw [scanN_ok n m r (by omega) (by omega)]
theorem scan_eq (s : Bytes) : scan s = if trim s = [] then some [] else match first (trim s) with
    | none => none
    | some (w, r) => if r = [] ∨ r.head? = some 32 then (scan r).map (w :: ·) else none := by
  unfold scan
  rw [scanN]
  split
  · rfl
  · split
    · rfl
    · rename_i w r hf
      have h1 := (first_le hf).2; have h2 := trim_le s
      rw [scanN_ok s.length (r.length + 1) r (by omega) (by omega)]
theorem trim_trim (s : Bytes) : trim (trim s) = trim s := by
  unfold trim
  induction s with
  | nil => rfl
  | cons c t ih =>
    rw [List.dropWhile_cons]; split
    · exact ih
    · rename_i h; rw [List.dropWhile_cons, if_neg h]
theorem scan_trim (s : Bytes) : scan (trim s) = scan s := by
  rw [scan_eq (trim s), trim_trim, scan_eq s]
theorem scan_nil {s : Bytes} (h : trim s = []) : scan s = some [] := by rw [scan_eq, if_pos h]
theorem scan_word {s w r : Bytes} (h : trim s ≠ []) (hf : first (trim s) = some (w, r)) (hr : r = [] ∨ r.head? = some 32) : scan s = (scan r).map (w :: ·) := by
  rw [scan_eq, if_neg h, hf]; exact if_pos hr
theorem scan_bad {s : Bytes} (h : trim s ≠ []) (hf : first (trim s) = none) : scan s = none := by
  rw [scan_eq, if_neg h, hf]
theorem scan_bad2 {s w r : Bytes} (h : trim s ≠ []) (hf : first (trim s) = some (w, r)) (hr : ¬ (r = [] ∨ r.head? = some 32)) : scan s = none := by
  rw [scan_eq, if_neg h, hf]; exact if_neg hr
end R39
end Go.Proofs.YtbfiibgmgopnaaaDoor

namespace Go.Proofs.YtbfiibgmgopnaaaDoor
open Go.GV
structure SortField where
  At : Int
  Length : Int
  Kind : Int
  Descending : Bool
deriving DecidableEq, Inhabited
def SortField.enc (a : SortField) : List Value := [vI a.At, vI a.Length, vI a.Kind, vB a.Descending]
end Go.Proofs.YtbfiibgmgopnaaaDoor

namespace Go.Proofs.YtbfiibgmgopnaaaDoor
namespace Srt
structure Cmp {α : Type} (c : α → α → Int) : Prop where
  anti : ∀ a b, c b a = -c a b
  trans : ∀ a b d, c a b ≤ 0 → c b d ≤ 0 → c a d ≤ 0
section
variable {α β : Type} {c : α → α → Int}
theorem Cmp.self (h : Cmp c) (a : α) : c a a = 0 := by have := h.anti a a; omega
theorem Cmp.le_lt (h : Cmp c) {a b d : α} (h1 : c a b ≤ 0) (h2 : c b d < 0) : c a d < 0 := by
  have h3 := h.trans a b d h1 (by omega)
  by_cases h4 : c a d = 0
  · have h5 := h.trans d a b (by have := h.anti a d; omega) h1
    have := h.anti b d; omega
  · omega
theorem Cmp.lt_le (h : Cmp c) {a b d : α} (h1 : c a b < 0) (h2 : c b d ≤ 0) : c a d < 0 := by
  have h3 := h.trans a b d (by omega) h2
  by_cases h4 : c a d = 0
  · have h5 := h.trans b d a h2 (by have := h.anti a d; omega)
    have := h.anti a b; omega
  · omega
def ins (c : α → α → Int) : List α → α → List α
  | [], x => [x]
  | y :: r, x => if c y x ≤ 0 then y :: ins c r x else x :: y :: r
def srt (c : α → α → Int) (l : List α) : List α := l.foldl (ins c) []
def lt (c : α → α → Int) (p q : α × Nat) : Prop := c p.1 q.1 < 0 ∨ (c p.1 q.1 = 0 ∧ p.2 < q.2)
theorem lt_asymm (h : Cmp c) {p q : α × Nat} (h1 : lt c p q) (h2 : lt c q p) : False := by
  have := h.anti p.1 q.1
  rcases h1 with h1 | h1 <;> rcases h2 with h2 | h2 <;> omega
theorem lt_le {p q : α × Nat} (h1 : lt c p q) : c p.1 q.1 ≤ 0 := by rcases h1 with h1 | h1 <;> omega
theorem lt_trans (h : Cmp c) {p q r : α × Nat} (h1 : lt c p q) (h2 : lt c q r) : lt c p r := by
  rcases h1 with h1 | ⟨h1, h3⟩
  · exact .inl (h.lt_le h1 (lt_le h2))
  · rcases h2 with h2 | ⟨h2, h4⟩
    · exact .inl (h.le_lt (by omega) h2)
    · refine .inr ⟨?_, by omega⟩
      have h5 := h.trans p.1 q.1 r.1 (by omega) (by omega)
      have h6 := h.trans r.1 q.1 p.1 (by have := h.anti q.1 r.1; omega) (by have := h.anti p.1 q.1; omega)
      have := h.anti p.1 r.1; omega
def Ordered (c : α → α → Int) (l : List α) : Prop := l.Pairwise fun a b => c a b ≤ 0
abbrev tc (c : α → α → Int) (p q : α × Nat) : Int := c p.1 q.1
theorem Cmp.tagged (h : Cmp c) : Cmp (tc c) := ⟨fun a b => h.anti a.1 b.1, fun a b d => h.trans a.1 b.1 d.1⟩
def hd (d : α) (l : List α) : α := l.headD d
def best (c : α → α → Int) (ls : List (List α)) : Nat → Option Nat
  | 0 => none
  | k + 1 => match ls.getD k [] with
    | [] => best c ls k
    | x :: _ => match best c ls k with
      | none => some k
      | some b => match ls.getD b [] with
        | [] => some k
        | y :: _ => if c x y < 0 then some k else some b
def BestOk (c : α → α → Int) (ls : List (List α)) (k : Nat) : Option Nat → Prop
  | none => ∀ j, j < k → ls.getD j [] = []
  | some b => b < k ∧ ∃ x r, ls.getD b [] = x :: r ∧ ∀ j, j < k → ∀ y s, ls.getD j [] = y :: s → c x y ≤ 0 ∧ (j < b → c x y < 0)
def mergeN (c : α → α → Int) : Nat → List (List α) → List α
  | 0, _ => []
  | n + 1, ls => match best c ls ls.length with
    | none => []
    | some b => match ls.getD b [] with
      | [] => []
      | x :: r => x :: mergeN c n (ls.set b r)
def total (ls : List (List α)) : Nat := ls.flatten.length
def merge (c : α → α → Int) (ls : List (List α)) : List α := mergeN c (total ls) ls
theorem getD_mem {ls : List (List α)} {b : Nat} {x : α} {r : List α} (h : ls.getD b [] = x :: r) : b < ls.length := by
  by_cases hb : b < ls.length
  · exact hb
  · rw [List.getD_eq_getElem?_getD, List.getElem?_eq_none (by omega)] at h; cases h
theorem set_perm : ∀ {ls : List (List α)} {b : Nat} {x : α} {r : List α}, ls.getD b [] = x :: r → ls.flatten.Perm (x :: (ls.set b r).flatten)
  | [], b, x, r, h => by cases h
  | l :: ls, 0, x, r, h => by
    have h : l = x :: r := h
    subst h; exact .refl _
  | l :: ls, b + 1, x, r, h => by
    have ih := set_perm (ls := ls) (b := b) h
    rw [List.set_cons_succ, List.flatten_cons, List.flatten_cons]
    exact (ih.append_left l).trans List.perm_middle
def Apart (c : α → α → Int) (l m : List (α × Nat)) : Prop := ∀ a ∈ l, ∀ b ∈ m, c a.1 b.1 = 0 → a.2 < b.2
structure Good (c : α → α → Int) (ls : List (List (α × Nat))) : Prop where
  each : ∀ l ∈ ls, l.Pairwise (lt c)
  cross : ls.Pairwise (Apart c)
theorem getD_of {ls : List (List β)} {j : Nat} (h : j < ls.length) : ls.getD j [] = ls[j] := by rw [List.getD_eq_getElem?_getD, List.getElem?_eq_getElem h]; rfl
theorem Good.set {ls : List (List (α × Nat))} (h : Good c ls) {b : Nat} {x : α × Nat} {r : List (α × Nat)} (hx : ls.getD b [] = x :: r) : Good c (ls.set b r) := by
  have hb := getD_mem hx
  rw [getD_of hb] at hx
  constructor
  · intro l hl
    rcases List.mem_or_eq_of_mem_set hl with hl | rfl
    · exact h.each l hl
    · have := h.each ls[b] (List.getElem_mem hb)
      rw [hx] at this
      exact (List.pairwise_cons.1 this).2
  · rw [List.pairwise_iff_getElem]
    intro i j hi hj hij
    have hc := List.pairwise_iff_getElem.1 h.cross i j (by simpa using hi) (by simpa using hj) hij
    intro p hp q hq
    refine hc p ?_ q ?_
    · rw [List.getElem_set] at hp
      split at hp
      · rename_i hbi; subst hbi; rw [hx]; exact List.mem_cons_of_mem _ hp
      · exact hp
    · rw [List.getElem_set] at hq
      split at hq
      · rename_i hbi; subst hbi; rw [hx]; exact List.mem_cons_of_mem _ hq
      · exact hq
def chunksN (n : Nat) : Nat → List α → List (List α)
  | 0, _ => []
  | m + 1, l => match l with
    | [] => []
    | x :: r => (x :: r).take n :: chunksN n m ((x :: r).drop n)
def chunks (n : Nat) (l : List α) : List (List α) := chunksN n l.length l
def pass (c : α → α → Int) (n : Nat) (ls : List (List α)) : List (List α) := (chunks n ls).map (merge c)
theorem Good.append {l m : List (List (α × Nat))} : Good c (l ++ m) ↔ Good c l ∧ Good c m ∧ ∀ x ∈ l, ∀ y ∈ m, Apart c x y := by
  constructor
  · intro h
    have h2 := List.pairwise_append.1 h.cross
    exact ⟨⟨fun x hx => h.each x (List.mem_append_left _ hx), h2.1⟩, ⟨fun x hx => h.each x (List.mem_append_right _ hx), h2.2.1⟩, h2.2.2⟩
  · rintro ⟨h1, h2, h3⟩
    exact ⟨fun x hx => (List.mem_append.1 hx).elim (h1.each x) (h2.each x), List.pairwise_append.2 ⟨h1.cross, h2.cross, h3⟩⟩
def roundsN (c : α → α → Int) (n : Nat) : Nat → List (List α) → List (List α) × Nat
  | 0, ls => (ls, 0)
  | m + 1, ls => if ls.length ≤ 1 then (ls, 0) else ((roundsN c n m (pass c n ls)).1, (roundsN c n m (pass c n ls)).2 + 1)
def rounds (c : α → α → Int) (n : Nat) (ls : List (List α)) : List (List α) × Nat := roundsN c n ls.length ls
def passes (fan : Nat) : Nat → Nat → Nat
  | 0, _ => 0
  | m + 1, n => if n ≤ 1 then 0 else passes fan m ((n + fan - 1) / fan) + 1
structure El (α : Type) where
  run : Nat
  no : Nat
  x : α
def El.tag (e : El α) : α × Nat := (e.x, e.no)
def El.lt (c : α → α → Int) (p q : El α) : Prop := p.run < q.run ∨ (p.run = q.run ∧ Srt.lt c p.tag q.tag)
instance (c : α → α → Int) (p q : El α) : Decidable (El.lt c p q) := by unfold El.lt Srt.lt; exact inferInstance
theorem El.tri (h : Cmp c) {p q : El α} (hn : p.no ≠ q.no) (hlt : ¬ El.lt c p q) : El.lt c q p := by
  unfold El.lt Srt.lt El.tag at *
  have := h.anti p.x q.x
  simp only at *
  omega
theorem El.asymm (h : Cmp c) {p q : El α} (h1 : El.lt c p q) (h2 : El.lt c q p) : False := by
  rcases h1 with h1 | ⟨h1, h3⟩ <;> rcases h2 with h2 | ⟨h2, h4⟩
  · omega
  · omega
  · omega
  · exact lt_asymm h h3 h4
theorem El.trans (h : Cmp c) {p q r : El α} (h1 : El.lt c p q) (h2 : El.lt c q r) : El.lt c p r := by
  rcases h1 with h1 | ⟨h1, h3⟩ <;> rcases h2 with h2 | ⟨h2, h4⟩
  · exact .inl (by omega)
  · exact .inl (by omega)
  · exact .inl (by omega)
  · exact .inr ⟨by omega, lt_trans h h3 h4⟩
def insE (c : α → α → Int) : List (El α) → El α → List (El α)
  | [], e => [e]
  | f :: r, e => if El.lt c f e then f :: insE c r e else e :: f :: r
theorem insE_perm : ∀ (l : List (El α)) (e : El α), (insE c l e).Perm (e :: l)
  | [], _ => .refl _
  | f :: r, e => by
    rw [insE]; split
    · exact ((insE_perm r e).cons f).trans (.swap _ _ _)
    · exact .refl _
theorem insE_mem {l : List (El α)} {e f : El α} : f ∈ insE c l e ↔ f = e ∨ f ∈ l := by rw [(insE_perm l e).mem_iff, List.mem_cons]
theorem insE_lt (h : Cmp c) : ∀ {l : List (El α)} {e : El α}, l.Pairwise (El.lt c) → (∀ f ∈ l, f.no < e.no) → (insE c l e).Pairwise (El.lt c)
  | [], _, _, _ => List.pairwise_singleton _ _
  | f :: r, e, ho, ht => by
    have ho' := List.pairwise_cons.1 ho
    rw [insE]; split
    · rename_i hc
      refine List.pairwise_cons.2 ⟨fun z hz => ?_, insE_lt h ho'.2 fun z hz => ht z (List.mem_cons_of_mem _ hz)⟩
      rcases insE_mem.1 hz with rfl | hz
      · exact hc
      · exact ho'.1 z hz
    · rename_i hc
      have hx := El.tri h (by have := ht f List.mem_cons_self; omega) hc
      refine List.pairwise_cons.2 ⟨fun z hz => ?_, ho⟩
      rcases List.mem_cons.1 hz with rfl | hz
      · exact hx
      · exact El.trans h hx (ho'.1 z hz)
def putR (out : List (List β)) (r : Nat) (p : β) : List (List β) := if r = out.length then out ++ [[p]] else out.set r (out.getD r [] ++ [p])
def sel (c : α → α → Int) : Nat → List (El α) → List (α × Nat) → List (List (α × Nat)) → List (List (α × Nat))
  | 0, _, _, out => out
  | _ + 1, [], _, out => out
  | m + 1, e :: mem, [], out => sel c m mem [] (putR out e.run e.tag)
  | m + 1, e :: mem, y :: rest, out => sel c m (insE c mem ⟨if c y.1 e.x < 0 then e.run + 1 else e.run, y.2, y.1⟩) rest (putR out e.run e.tag)
def fillE (c : α → α → Int) (l : List (α × Nat)) : List (El α) := l.foldl (fun m y => insE c m ⟨0, y.2, y.1⟩) []
def runsT (c : α → α → Int) (M : Nat) (l : List α) : List (List (α × Nat)) := sel c l.length (fillE c (l.zipIdx.take M)) (l.zipIdx.drop M) []
def runs (c : α → α → Int) (M : Nat) (l : List α) : List (List α) := (runsT c M l).map (List.map Prod.fst)
structure Sel (c : α → α → Int) (M : Nat) (l : List (α × Nat)) (mem : List (El α)) (rest : List (α × Nat)) (out : List (List (α × Nat))) (d : Nat) : Prop where
  ord : mem.Pairwise (El.lt c)
  good : Good c out
  runsE : ∀ e ∈ mem, e.run + 1 = out.length ∨ e.run = out.length
  later : ∀ i, ∀ p ∈ out.getD i [], ∀ e ∈ mem, i + 1 = out.length → e.run = i → lt c p e.tag
  less : ∀ i, i + 1 = out.length → ∀ e ∈ mem, e.run = out.length → ∃ p ∈ out.getD i [], c e.x p.1 < 0
  apart : ∀ i, ∀ p ∈ out.getD i [], ∀ e ∈ mem, i < e.run → c p.1 e.x = 0 → p.2 < e.no
  within : ∀ a ∈ mem, ∀ b ∈ mem, a.run < b.run → c a.x b.x = 0 → a.no < b.no
  tagsR : rest.Pairwise fun a b => a.2 < b.2
  tagsM : ∀ y ∈ rest, ∀ e ∈ mem, e.no < y.2
  tagsO : ∀ y ∈ rest, ∀ i, ∀ p ∈ out.getD i [], p.2 < y.2
  perm : (out.flatten ++ mem.map El.tag ++ rest).Perm l
  full : rest ≠ [] → mem.length + d = M
  ne : ∀ x ∈ out, x ≠ []
  long : ∀ i, i + 1 < out.length → M ≤ (out.getD i []).length
  now : (M ≤ (out.getD (out.length - 1) []).length + (mem.filter fun e => e.run + 1 == out.length).length ∧ out ≠ []) ∨ (rest = [] ∧ ((∀ e ∈ mem, e.run + 1 = out.length) ∨ out = [])) ∨ (out = [] ∧ M ≤ mem.length)
theorem Sel.push (h : Cmp c) {M : Nat} {l rest : List (α × Nat)} {e : El α} {y : α × Nat} {mem : List (El α)} {out : List (List (α × Nat))} (hs : Sel c M l mem (y :: rest) out 1)
    (hl : out.length = e.run + 1) (hle : ∀ p ∈ out.getD e.run [], p = e.tag ∨ lt c p e.tag) (hin : e.tag ∈ out.getD e.run []) :
    Sel c M l (insE c mem ⟨if c y.1 e.x < 0 then e.run + 1 else e.run, y.2, y.1⟩) rest out 0 := by
  have ht := List.pairwise_cons.1 hs.tagsR
  have hy : y ∈ y :: rest := List.mem_cons_self
  have hr' : ∀ z ∈ rest, z ∈ y :: rest := fun z hz => List.mem_cons_of_mem _ hz
  have hle' : ∀ p ∈ out.getD e.run [], c p.1 e.x ≤ 0 := fun p hp => by
    rcases hle p hp with rfl | h1
    · exact Int.le_of_eq (h.self _)
    · exact lt_le h1
  constructor
  · exact insE_lt h hs.ord (fun f hf => hs.tagsM y hy f hf)
  · exact hs.good
  · intro f hf
    rcases insE_mem.1 hf with rfl | hf
    · simp only; split
      · exact .inr (by omega)
      · exact .inl (by omega)
    · exact hs.runsE f hf
  · intro i p hp f hf hi hr
    rcases insE_mem.1 hf with rfl | hf
    · simp only at hr
      have hie : i = e.run := by omega
      subst hie
      split at hr
      · omega
      · rename_i hc
        have h1 := hle' p hp
        have h2 : c e.x y.1 ≤ 0 := by have := h.anti y.1 e.x; omega
        have h3 := h.trans _ _ _ h1 h2
        by_cases h0 : c p.1 y.1 = 0
        · exact .inr ⟨h0, hs.tagsO y hy _ p hp⟩
        · refine .inl ?_
          show c p.1 y.1 < 0
          omega
    · exact hs.later i p hp f hf hi hr
  · intro i hi f hf hr
    rcases insE_mem.1 hf with rfl | hf
    · simp only at hr
      split at hr
      · rename_i hc
        have hie : i = e.run := by omega
        subst hie
        exact ⟨e.tag, hin, hc⟩
      · omega
    · exact hs.less i hi f hf hr
  · intro i p hp f hf hi h0
    rcases insE_mem.1 hf with rfl | hf
    · exact hs.tagsO y hy i p hp
    · exact hs.apart i p hp f hf hi h0
  · intro a ha b hb hab h0
    rcases insE_mem.1 ha with rfl | ha
    · rcases insE_mem.1 hb with rfl | hb
      · exact absurd hab (Nat.lt_irrefl _)
      · simp only at hab h0
        have hbr := hs.runsE b hb
        split at hab
        · omega
        · rename_i hc
          obtain ⟨p, hp, hlt⟩ := hs.less e.run (by omega) b hb (by omega)
          have h1 := hle' p hp
          have h2 : c e.x y.1 ≤ 0 := by have := h.anti y.1 e.x; omega
          have h3 := h.lt_le hlt (h.trans _ _ _ h1 h2)
          have := h.anti y.1 b.x; omega
    · rcases insE_mem.1 hb with rfl | hb
      · exact hs.tagsM y hy a ha
      · exact hs.within a ha b hb hab h0
  · exact ht.2
  · intro z hz f hf
    rcases insE_mem.1 hf with rfl | hf
    · exact ht.1 z hz
    · exact hs.tagsM z (hr' z hz) f hf
  · exact fun z hz => hs.tagsO z (hr' z hz)
  · refine List.Perm.trans ?_ hs.perm
    rw [List.append_assoc, List.append_assoc]
    refine List.Perm.append_left _ ?_
    refine (((insE_perm _ _).map El.tag).append_right rest).trans ?_
    rw [List.map_cons]
    exact List.perm_middle.symm
  · intro hr
    have := hs.full (by simp)
    rw [(insE_perm _ _).length_eq, List.length_cons]; omega
  · exact hs.ne
  · exact hs.long
  · rcases hs.now with ⟨h1, h2⟩ | ⟨h1, _⟩ | ⟨h1, _⟩
    · refine .inl ⟨?_, h2⟩
      rw [((insE_perm _ _).filter _).length_eq]
      exact Nat.le_trans h1 (Nat.add_le_add_left ((List.sublist_cons_self _ _).filter _).length_le _)
    · cases h1
    · subst h1; simp at hl
end
end Srt
end Go.Proofs.YtbfiibgmgopnaaaDoor

namespace Go.Proofs.YtbfiibgmgopnaaaDoor
open Go.GV
namespace Ord
theorem less_self : ∀ (s : Bytes), Op.bytesLess s s = false
  | [] => rfl
  | x :: s => by unfold Op.bytesLess; simp [less_self s]
def lt (a b : Bytes) : Prop := Op.bytesLess a b = true
theorem irr (a : Bytes) : ¬ lt a a := by unfold lt; rw [less_self]; decide
theorem lt_cons {x y : UInt8} {a b : Bytes} : lt (x :: a) (y :: b) ↔ (x.toNat < y.toNat ∨ (x.toNat = y.toNat ∧ lt a b)) := by
  unfold lt
  rw [Op.bytesLess, Bool.or_eq_true, Bool.and_eq_true, decide_eq_true_eq, beq_iff_eq, UInt8.lt_iff_toNat_lt, ← UInt8.toNat_inj]
theorem trans : ∀ {a b c : Bytes}, lt a b → lt b c → lt a c
  | _, _, [], _, h => by simp [lt, Op.bytesLess] at h
  | _, [], _ :: _, h, _ => by simp [lt, Op.bytesLess] at h
  | [], _ :: _, _ :: _, _, _ => rfl
  | x :: a, y :: b, z :: c, h, h2 => by
    rw [lt_cons] at *
    rcases h with h | ⟨h, h3⟩ <;> rcases h2 with h2 | ⟨h2, h4⟩
    · left; omega
    · left; omega
    · left; omega
    · exact .inr ⟨by omega, trans h3 h4⟩
theorem tri : ∀ (a b : Bytes), lt a b ∨ a = b ∨ lt b a
  | [], [] => .inr (.inl rfl)
  | [], _ :: _ => .inl rfl
  | _ :: _, [] => .inr (.inr rfl)
  | x :: a, y :: b => by
    rw [lt_cons, lt_cons]
    rcases Nat.lt_trichotomy x.toNat y.toNat with h | h | h
    · exact .inl (.inl h)
    · rcases tri a b with h2 | h2 | h2
      · exact .inl (.inr ⟨h, h2⟩)
      · exact .inr (.inl (by rw [UInt8.toNat_inj.1 h, h2]))
      · exact .inr (.inr (.inr ⟨h.symm, h2⟩))
    · exact .inr (.inr (.inl h))
theorem asymm {a b : Bytes} (h : lt a b) : ¬ lt b a := fun h2 => irr a (trans h h2)
end Ord
end Go.Proofs.YtbfiibgmgopnaaaDoor

namespace Go.Proofs.YtbfiibgmgopnaaaDoor
open Go.GV Go.RowKit
def rep (s : Bytes) : Nat → Bytes
  | 0 => []
  | c + 1 => s ++ rep s c
end Go.Proofs.YtbfiibgmgopnaaaDoor

namespace Go.Proofs.YtbfiibgmgopnaaaDoor
open Go.GV
namespace R44
open Srt (Cmp)
def most (k : Int) : Int := if k = 0 then 200 else if k = 1 then 18 else if k = 2 then 8 else 0
def fok (f : SortField) : Bool := decide (0 ≤ f.At) && decide (f.At ≤ 1000) && decide (1 ≤ f.Length) && decide (f.Length ≤ most f.Kind) && decide (f.At + f.Length ≤ 1000)
def valid (l : List SortField) : Bool := l.all fok && decide ((l.length : Int) ≤ 8)
def fld (s : Bytes) (f : SortField) : Bytes := (List.range f.Length.toNat).map fun j => s.getD (f.At.toNat + j) 32
def num : Bytes → Int → Option Int
  | [], n => some n
  | c :: r, n => if 48 ≤ c.toNat ∧ c.toNat ≤ 57 then num r (10 * n + ((c.toNat : Int) - 48)) else none
def trimL (s : Bytes) : Bytes := s.dropWhile (· == 32)
def trimR (s : Bytes) : Bytes := (s.reverse.dropWhile (· == 32)).reverse
def dec (s : Bytes) : Option Int := if (trimR (trimL s)).head? = some 45 then (if (trimR (trimL s)).tail = [] then none else (num (trimR (trimL s)).tail 0).map fun n => -n) else if trimR (trimL s) = [] then none else num (trimR (trimL s)) 0
def bin (s : Bytes) : Int := s.tail.foldl (fun n c => 256 * n + c.toNat) (int8 (s.headD 0))
def cmpI (x y : Int) : Int := if x < y then -1 else if y < x then 1 else 0
def cmpO : Option Int → Option Int → Int
  | some x, some y => cmpI x y
  | some _, none => 1
  | none, some _ => -1
  | none, none => 0
def cmpS (a b : Bytes) : Int := if Op.bytesLess a b = true then -1 else if a = b then 0 else 1
def cmpF (f : SortField) (a b : Bytes) : Int := if f.Kind = 1 then cmpO (dec (fld a f)) (dec (fld b f)) else if f.Kind = 2 then cmpI (bin (fld a f)) (bin (fld b f)) else cmpS (fld a f) (fld b f)
def cmp1 (f : SortField) (a b : Bytes) : Int := if f.Descending = true then -cmpF f a b else cmpF f a b
def cmpL : List SortField → Bytes → Bytes → Int
  | [], _, _ => 0
  | f :: r, a, b => if cmp1 f a b ≠ 0 then cmp1 f a b else cmpL r a b
def Tri (n : Int) : Prop := n = -1 ∨ n = 0 ∨ n = 1
end R44
end Go.Proofs.YtbfiibgmgopnaaaDoor

namespace Go.Proofs.YtbfiibgmgopnaaaDoor
open Go.GV
namespace R44
def fldN (s : Bytes) (a k : Nat) : Bytes := (List.range k).map fun j => s.getD (a + j) 32
theorem drop_cons {α : Type} {l : List α} {k : Nat} {d : α} (h : k < l.length) : l.drop k = l.getD k d :: l.drop (k + 1) := by
  rw [List.drop_eq_getElem_cons h, List.getD_eq_getElem?_getD, List.getElem?_eq_getElem h]; rfl
def isDig (c : UInt8) : Bool := decide (48 ≤ c.toNat) && decide (c.toNat ≤ 57)
def val (l : Bytes) : Int := l.foldl (fun n c => 10 * n + ((c.toNat : Int) - 48)) 0
def RefNum (s : Bytes) (n : Int) (ok : Bool) : Prop := ok = (dec s).isSome ∧ ∀ x, dec s = some x → n = x
theorem take_snoc {α : Type} {l : List α} {k : Nat} {d : α} (h : k < l.length) : l.take (k + 1) = l.take k ++ [l.getD k d] := by
  rw [List.take_succ_eq_append_getElem h, List.getD_eq_getElem?_getD, List.getElem?_eq_getElem h]; rfl
theorem sub_snoc {s : Bytes} {j i : Nat} (hj : j ≤ i) (hi : i < s.length) : sub s j (i + 1) = sub s j i ++ [s.getD i 0] := by
  unfold sub
  rw [take_snoc (d := 0) hi, List.drop_append_of_le_length (by rw [List.length_take]; omega)]
theorem sub_none (s : Bytes) (i : Nat) : sub s i i = [] := by unfold sub; exact List.drop_of_length_le (by rw [List.length_take]; omega)
section
variable {f : SortField} {a b : Bytes}
variable {n m : Int} {o q : Bool}
end
def cmpV (l : List SortField) (a b : Bytes) : Int := if valid l = true then cmpL l a b else 0
theorem getD_mem {α : Type} {l : List α} {k : Nat} {d : α} (hk : k < l.length) : l.getD k d ∈ l := by
  rw [List.getD_eq_getElem?_getD, List.getElem?_eq_getElem hk]; exact List.getElem_mem hk
end R44
end Go.Proofs.YtbfiibgmgopnaaaDoor

namespace Go.Proofs.YtbfiibgmgopnaaaDoor
namespace R44
open Go.Lib
abbrev Bs := List UInt8
def wordsGo : Bs → Bs → List Bs
  | cur, [] => if cur = [] then [] else [cur]
  | cur, c :: r => if c = 32 then (if cur = [] then wordsGo [] r else cur :: wordsGo [] r) else wordsGo (cur ++ [c]) r
def words (s : Bs) : List Bs := wordsGo [] s
def piece (L : Bs) (x : Nat × Nat) : Bs := (L.drop x.1).take (x.2 - x.1)
theorem grow {L : Bs} {a pos w : Nat} (h : a ≤ pos) : (L.drop a).take (pos - a) ++ (L.drop pos).take w = (L.drop a).take (pos + w - a) := by
  have e : pos + w - a = (pos - a) + w := by omega
  rw [e, List.take_add, List.drop_drop, show a + (pos - a) = pos by omega]
def splitGo (b : UInt8) : Bs → Bs → List Bs
  | cur, [] => [cur]
  | cur, c :: r => if c = b then cur :: splitGo b [] r else splitGo b (cur ++ [c]) r
def splitC (b : UInt8) (s : Bs) : List Bs := splitGo b [] s
theorem splitGo_pre (b : UInt8) : ∀ (s cur : Bs), splitGo b cur s = (match splitGo b [] s with | [] => [] | x :: r => (cur ++ x) :: r)
  | [], cur => by simp [splitGo]
  | c :: r, cur => by
    rw [splitGo, splitGo]
    split
    · simp
    · rw [splitGo_pre b r (cur ++ [c]), splitGo_pre b r ([] ++ [c])]
      cases splitGo b [] r <;> simp
theorem splitGo_ne (b : UInt8) : ∀ (s cur : Bs), splitGo b cur s ≠ []
  | [], cur => by simp [splitGo]
  | c :: r, cur => by
    rw [splitGo]; split
    · exact List.cons_ne_nil _ _
    · exact splitGo_ne b r _
theorem splitK_go (b : UInt8) : ∀ (s : Bs) (k : Nat), s.count b ≤ k → splitK [b] 0 k s = splitC b s
  | [], 0, _ => rfl
  | [], k + 1, _ => rfl
  | c :: r, k, hk => by
    have hi : index (c :: r) [b] = if c = b then 0 else if index r [b] == -1 then -1 else index r [b] + 1 := by
      rw [index]
      by_cases h : c = b
      · subst h; rw [if_pos rfl, if_pos (by simp [List.isPrefixOf])]
      · rw [if_neg h, if_neg (by simp [List.isPrefixOf]; exact fun e => h e.symm)]
    by_cases h : c = b
    · subst h
      rw [List.count_cons_self] at hk
      obtain ⟨k, rfl⟩ : ∃ j, k = j + 1 := ⟨k - 1, by omega⟩
      rw [splitK, hi, if_pos rfl]
      show [] :: splitK [c] 0 k r = _
      rw [splitK_go c r k (by omega)]
      unfold splitC
      rw [splitGo, if_pos rfl]
    · rw [List.count_cons_of_ne (by simpa using h)] at hk
      unfold splitC
      rw [splitGo, if_neg h, splitGo_pre]
      have ih := splitK_go b r k hk
      unfold splitC at ih
      rw [← ih]
      cases k with
      | zero => rfl
      | succ k =>
        rw [splitK, splitK, hi, if_neg h]
        by_cases hm : index r [b] = -1
        · simp [hm]
        · have h0 := index_ge r [b]
          have e1 : (index r [b] == -1) = false := by simpa using hm
          have e2 : (index r [b] + 1 == -1) = false := by simp; omega
          have e3 : (index r [b] + 1).toNat = (index r [b]).toNat + 1 := by omega
          rw [e1]
          simp only [Bool.false_eq_true, if_false, e2, e3]
          simp
theorem split_lib (s : ByteArray) (b : UInt8) : (splitB ⟨#[b]⟩ 0 (countB s ⟨#[b]⟩) s).map (·.data.toList) = splitC b s.data.toList := by
  rw [splitB_data]
  refine splitK_go b _ _ ?_
  have : countB s ⟨#[b]⟩ = count s.data.toList [b] := rfl
  rw [this, count_one]; exact Nat.le_refl _
end R44
end Go.Proofs.YtbfiibgmgopnaaaDoor

namespace Go.Proofs.YtbfiibgmgopnaaaDoor
namespace R44
open Go.Lib
def vN (s : List UInt8) : Nat := s.foldl (fun n c => 10 * n + (c.toNat - 48)) 0
def isD (c : UInt8) : Bool := decide (48 ≤ c.toNat) && decide (c.toNat ≤ 57)
def numV (s : List UInt8) : Option Nat := if (s.length ≤ 4 ∧ s.all isD = true) ∧ decDigits (vN s) = s then some (vN s) else none
theorem dec_small {n : Nat} (h : n < 10) : decDigits n = [UInt8.ofNat (48 + n)] := by rw [decDigits, dif_pos h]
theorem dec_big {n : Nat} (h : ¬ n < 10) : decDigits n = decDigits (n / 10) ++ [UInt8.ofNat (48 + n % 10)] := by rw [decDigits, dif_neg h]
def AtoiJ (s : List UInt8) (n : Int) (er : Bool) : Prop := (er = true → atoiAll s = .ok n) ∧ (er = false → ∀ v, atoiAll s ≠ .ok v) ∧ -9223372036854775808 ≤ n ∧ n ≤ 9223372036854775807
def SmallJ (s : List UInt8) (n : Int) (ok : Bool) : Prop := (ok = true → numV s = some n.toNat ∧ 0 ≤ n ∧ n ≤ 9999) ∧ (ok = false → numV s = none)
def restD (m : Nat) : List UInt8 := if m = 0 then [] else decDigits m
def DigJ (n m : Nat) (s : List UInt8) : Prop := (s = [] ∧ m = n) ∨ (s ≠ [] ∧ decDigits n = restD m ++ s)
theorem DigJ.start (n : Nat) : DigJ n n [] := .inl ⟨rfl, rfl⟩
theorem dig_split {m : Nat} : decDigits m = restD (m / 10) ++ [UInt8.ofNat (48 + m % 10)] := by
  by_cases h : m < 10
  · rw [dec_small h]; unfold restD; rw [if_pos (by omega)]; simp; congr 2; omega
  · rw [dec_big h]; unfold restD; rw [if_neg (by omega)]
theorem DigJ.step {n m : Nat} {s : List UInt8} (h : DigJ n m s) (hc : 0 < m ∨ s = []) : DigJ n (m / 10) ([UInt8.ofNat (48 + m % 10)] ++ s) := by
  refine .inr ⟨by simp, ?_⟩
  rw [← List.append_assoc, ← dig_split]
  rcases h with ⟨h1, h2⟩ | ⟨h1, h2⟩
  · rw [h1, h2, List.append_nil]
  · rw [h2]
    rcases hc with hc | hc
    · unfold restD; rw [if_neg (by omega)]
    · exact absurd hc h1
theorem DigJ.stepI {n m : Nat} {s : List UInt8} (h : DigJ n m s) (hc : 0 < m ∨ s.length < 1) : DigJ n (m / 10) ([UInt8.ofNat (48 + m % 10)] ++ s) := h.step (hc.imp id fun e => List.length_eq_zero_iff.1 (by omega))
theorem DigJ.done {n m : Nat} {s : List UInt8} (h : DigJ n m s) (h0 : m = 0) (hs : s ≠ []) : s = decDigits n := by
  rcases h with ⟨h1, _⟩ | ⟨_, h2⟩
  · exact absurd h1 hs
  · rw [h2, h0]; rfl
end R44
end Go.Proofs.YtbfiibgmgopnaaaDoor

namespace Go.Proofs.YtbfiibgmgopnaaaDoor
open Go.GV
namespace R44
def isUp (c : UInt8) : Bool := decide ((65 : UInt8) ≤ c) && decide (c ≤ (90 : UInt8))
def isDg (c : UInt8) : Bool := decide ((48 : UInt8) ≤ c) && decide (c ≤ (57 : UInt8))
def isPl (c : UInt8) : Bool := isUp c || isDg c
def isSt (c : UInt8) : Bool := isUp c || decide (c = (42 : UInt8))
def isPs (c : UInt8) : Bool := isPl c || decide (c = (42 : UInt8))
def qualV (f g : UInt8 → Bool) (s : Bytes) : Bool := ((decide (1 ≤ s.length) && decide (s.length ≤ 8)) && f (s.getD 0 0)) && (s.drop 1).all g
section
variable {f g : UInt8 → Bool} {s : Bytes} {k : Nat}
theorem qual_0 (h : (((decide (((s.length : Nat) : Int) < 1)) || (decide ((8 : Int) < ((s.length : Nat) : Int)))) || (!(f (s.getD 0 0)))) = true) : false = qualV f g s := by
  have : ((decide (1 ≤ s.length) && decide (s.length ≤ 8)) && f (s.getD 0 0)) = false := by
    cases hf : f (s.getD 0 0) with
    | false => simp
    | true =>
      rw [hf] at h
      simp only [Bool.not_true, Bool.or_false, Bool.or_eq_true, decide_eq_true_eq] at h
      rw [Bool.and_true, Bool.and_eq_false_iff, decide_eq_false_iff_not, decide_eq_false_iff_not]
      omega
  unfold qualV; rw [this]; rfl
theorem qual_step (h : ∀ i, 1 ≤ i → i < k → g (s.getD i 0) = true) (hk : g (s.getD k 0) = true) : ∀ i, 1 ≤ i → i < k + 1 → g (s.getD i 0) = true := fun i h1 h2 => by
  by_cases e : i = k
  · subst e; exact hk
  · exact h i h1 (by omega)
theorem drop_at1 (h1 : 1 ≤ k) (h2 : k < s.length) : s.getD k 0 ∈ s.drop 1 := by
  rw [List.getD_eq_getElem?_getD, List.getElem?_eq_getElem h2, List.mem_iff_getElem]
  exact ⟨k - 1, by rw [List.length_drop]; omega, by rw [List.getElem_drop]; simp only [Option.getD_some]; congr 1; omega⟩
theorem qual_bad (h1 : 1 ≤ k) (h2 : k < s.length) (h : g (s.getD k 0) = false) : false = qualV f g s := by
  have : (s.drop 1).all g = false := by
    cases ha : (s.drop 1).all g with
    | false => rfl
    | true => have := List.all_eq_true.1 ha _ (drop_at1 h1 h2); rw [h] at this; cases this
  unfold qualV; rw [this, Bool.and_false]
theorem qual_end (h : (((decide (((s.length : Nat) : Int) < 1)) || (decide ((8 : Int) < ((s.length : Nat) : Int)))) || (!(f (s.getD 0 0)))) = false) (ha : ∀ i, 1 ≤ i → i < s.length → g (s.getD i 0) = true) : true = qualV f g s := by
  rw [Bool.or_eq_false_iff, Bool.or_eq_false_iff, decide_eq_false_iff_not, decide_eq_false_iff_not] at h
  have hf : f (s.getD 0 0) = true := by have := h.2; simpa using this
  have : (s.drop 1).all g = true := List.all_eq_true.2 fun x hx => by
    obtain ⟨i, hi, rfl⟩ := List.mem_iff_getElem.1 hx
    rw [List.length_drop] at hi
    have := ha (1 + i) (by omega) (by omega)
    rw [List.getD_eq_getElem?_getD, List.getElem?_eq_getElem (by omega)] at this
    rw [List.getElem_drop]; exact this
  unfold qualV
  rw [this, hf, decide_eq_true (by omega), decide_eq_true (by omega)]; rfl
end
def nameV (p : Bytes → Bool) (s : Bytes) : Bool := (decide (1 ≤ s.length) && decide (s.length ≤ 31)) && (splitC 46 s).all p
section
variable {p : Bytes → Bool} {s : Bytes} {k : Nat}
theorem name_0 (h : ((decide (((s.length : Nat) : Int) < 1)) || (decide ((31 : Int) < ((s.length : Nat) : Int)))) = true) : false = nameV p s := by
  have : (decide (1 ≤ s.length) && decide (s.length ≤ 31)) = false := by
    simp only [Bool.or_eq_true, decide_eq_true_eq] at h
    rw [Bool.and_eq_false_iff, decide_eq_false_iff_not, decide_eq_false_iff_not]; omega
  unfold nameV; rw [this]; rfl
theorem name_bad (hk : k < (splitC 46 s).length) (h : p ((splitC 46 s).getD k []) = false) : false = nameV p s := by
  have : (splitC 46 s).all p = false := by
    cases ha : (splitC 46 s).all p with
    | false => rfl
    | true => have := List.all_eq_true.1 ha _ (getD_mem (d := []) hk); rw [h] at this; cases this
  unfold nameV; rw [this, Bool.and_false]
theorem name_end (h : ((decide (((s.length : Nat) : Int) < 1)) || (decide ((31 : Int) < ((s.length : Nat) : Int)))) = false) (ha : ∀ i, i < (splitC 46 s).length → p ((splitC 46 s).getD i []) = true) : true = nameV p s := by
  rw [Bool.or_eq_false_iff, decide_eq_false_iff_not, decide_eq_false_iff_not] at h
  have : (splitC 46 s).all p = true := List.all_eq_true.2 fun x hx => by
    obtain ⟨i, hi, rfl⟩ := List.mem_iff_getElem.1 hx
    have := ha i hi
    rwa [List.getD_eq_getElem?_getD, List.getElem?_eq_getElem hi] at this
  unfold nameV
  rw [this, decide_eq_true (by omega), decide_eq_true (by omega)]; rfl
theorem all_step (h : ∀ i, i < k → p ((splitC 46 s).getD i []) = true) (hk : p ((splitC 46 s).getD k []) = true) : ∀ i, i < k + 1 → p ((splitC 46 s).getD i []) = true := fun i h2 => by
  by_cases e : i = k
  · subst e; exact hk
  · exact h i (by omega)
end
def patV (q : Bytes) : Bool := decide (q = [42, 42]) || (qualV isSt isPs q && !(Lib.contains q [42, 42]))
def groupV (s : Bytes) : Bool := (decide (((s.length : Nat) : Int) ≤ 22) && nameV (qualV isUp isPl) s) && true
def numG (q : Bytes) : Nat := if (q.length = 8 ∧ q.getD 0 0 = 71 ∧ q.drop 5 = [86, 48, 48]) ∧ ((q.drop 1).take 4).all isD = true then vN ((q.drop 1).take 4) else 0
end R44
end Go.Proofs.YtbfiibgmgopnaaaDoor

namespace Go.Proofs.YtbfiibgmgopnaaaDoor
open Go.GV
namespace R39
def dbl (w : Bytes) : Bytes := w.flatMap fun c => if c = 39 then [39, 39] else [c]
def quote (w : Bytes) : Bytes := if w ≠ [] ∧ ¬ (32 ∈ w ∨ 39 ∈ w) then w else [39] ++ dbl w ++ [39]
def blank (r : Bytes) : Prop := r = [] ∨ r.head? = some 32
theorem qw_dbl {r : Bytes} (hr : blank r) : ∀ {w : Bytes}, (∀ c ∈ w, (32 : UInt8) ≤ c ∧ c ≤ 126) → qw (dbl w ++ 39 :: r) = some (w, r)
  | [], _ => by
    rcases hr with rfl | hr
    · rfl
    · cases r with
      | nil => rfl
      | cons d t => cases hr; rfl
  | c :: w, hw => by
    have ih := qw_dbl hr (w := w) fun c h => hw c (List.mem_cons_of_mem _ h)
    unfold dbl at *
    rw [List.flatMap_cons]
    by_cases hc : c = 39
    · subst hc
      have e : qw (39 :: 39 :: (List.flatMap (fun c => if c = 39 then [39, 39] else [c]) w ++ 39 :: r)) = some (39 :: w, r) := by
        rw [qw, if_pos rfl, if_pos rfl, ih]; rfl
      exact e
    · rw [if_neg hc]
      have h := hw c List.mem_cons_self
      have h1 : ¬ (c < 32 ∨ 126 < c) := by
        rw [UInt8.le_iff_toNat_le, UInt8.le_iff_toNat_le] at h
        rw [UInt8.lt_iff_toNat_lt, UInt8.lt_iff_toNat_lt]; omega
      cases hq : List.flatMap (fun c => if c = 39 then [39, 39] else [c]) w ++ 39 :: r with
      | nil => simp at hq
      | cons d t =>
        have e : qw (c :: d :: t) = some (c :: w, r) := by
          rw [hq] at ih; rw [qw, if_neg hc, if_neg h1, ih]; rfl
        rw [← hq] at e; exact e
theorem isW_of {c : UInt8} (h : (32 : UInt8) ≤ c ∧ c ≤ 126) (h1 : c ≠ 32) (h2 : c ≠ 39) : isW c = true := by
  unfold isW
  rw [UInt8.le_iff_toNat_le] at h
  have : c.toNat ≠ (32 : UInt8).toNat := fun e => h1 (UInt8.toNat_inj.1 e)
  simp only [Bool.and_eq_true, decide_eq_true_eq, UInt8.lt_iff_toNat_lt]
  exact ⟨⟨by omega, h.2⟩, h2⟩
theorem take_all {w r : Bytes} (hw : ∀ c ∈ w, isW c = true) (hr : blank r) : (w ++ r).takeWhile isW = w ∧ (w ++ r).dropWhile isW = r := by
  induction w with
  | nil =>
    rcases hr with rfl | hr
    · exact ⟨rfl, rfl⟩
    · cases r with
      | nil => exact ⟨rfl, rfl⟩
      | cons d t => cases hr; exact ⟨rfl, rfl⟩
  | cons c w ih =>
    have hc := hw c List.mem_cons_self
    have ih := ih fun c h => hw c (List.mem_cons_of_mem _ h)
    rw [List.cons_append, List.takeWhile_cons, List.dropWhile_cons, if_pos hc, if_pos hc, ih.1, ih.2]
    exact ⟨rfl, rfl⟩
theorem quote_head {w : Bytes} (h : ¬ (32 ∈ w)) (hn : w ≠ []) : ∃ c t, w = c :: t ∧ c ≠ 32 := by
  cases w with
  | nil => exact absurd rfl hn
  | cons c t => exact ⟨c, t, rfl, fun e => h (e ▸ List.mem_cons_self)⟩
theorem trim_cons {c : UInt8} {t : Bytes} (h : c ≠ 32) : trim (c :: t) = c :: t := by
  unfold trim; rw [List.dropWhile_cons, if_neg (by simpa using h)]
theorem first_quote {w r : Bytes} (hw : ∀ c ∈ w, (32 : UInt8) ≤ c ∧ c ≤ 126) (hr : blank r) : trim (quote w ++ r) = quote w ++ r ∧ quote w ++ r ≠ [] ∧ first (quote w ++ r) = some (w, r) := by
  unfold quote
  split
  · rename_i h
    have hc := fun h2 => h.2 (.inl h2); have hq := fun h2 => h.2 (.inr h2)
    have hW : ∀ c ∈ w, isW c = true := fun c hm => isW_of (hw c hm) (fun e => hc (e ▸ hm)) (fun e => hq (e ▸ hm))
    have ht := take_all hW hr
    obtain ⟨c, t, rfl, h1⟩ := quote_head hc h.1
    refine ⟨trim_cons h1, List.cons_ne_nil _ _, ?_⟩
    rw [List.cons_append, first, if_neg (fun e : c = 39 => hq (by rw [e]; exact List.mem_cons_self)), if_pos (hW c List.mem_cons_self)]
    rw [List.cons_append] at ht
    rw [ht.1, ht.2]
  · have e : [39] ++ dbl w ++ [39] ++ r = 39 :: (dbl w ++ 39 :: r) := by simp
    rw [e]
    refine ⟨trim_cons (by decide), List.cons_ne_nil _ _, ?_⟩
    rw [first, if_pos rfl]; exact qw_dbl hr hw
theorem scan_quote {w r : Bytes} (hw : ∀ c ∈ w, (32 : UInt8) ≤ c ∧ c ≤ 126) (hr : blank r) : scan (quote w ++ r) = (scan r).map (w :: ·) := by
  obtain ⟨h1, h2, h3⟩ := first_quote hw hr
  exact scan_word (by rw [h1]; exact h2) (by rw [h1]; exact h3) hr
theorem trim_rep (n : Nat) (r : Bytes) : trim (rep [32] n ++ r) = trim r := by
  induction n with
  | zero => rfl
  | succ n ih =>
    show trim (32 :: (rep [32] n ++ r)) = _
    unfold trim at *
    rw [List.dropWhile_cons, if_pos (by rfl), ih]
theorem scan_rep (n : Nat) (r : Bytes) : scan (rep [32] n ++ r) = scan r := by
  rw [← scan_trim, trim_rep, scan_trim]
theorem blank_rep (n : Nat) (r : Bytes) : blank (rep [32] (n + 1) ++ r) := .inr rfl
theorem scan_none : scan [] = some [] := scan_nil rfl
def LineJ (ws : List Bytes) (n k : Nat) (line : Bytes) : Prop :=
  (k = 0 ∧ line = rep [32] n) ∨ (0 < k ∧ ∀ r, blank r → scan (line ++ r) = (scan r).map (ws.take k ++ ·))
section
variable {ws : List Bytes} {n k : Nat} {line : Bytes}
theorem LineJ.start : LineJ ws n 0 (rep [32] n) := .inl ⟨rfl, rfl⟩
theorem LineJ.more (h : LineJ ws n k line) (h0 : 0 < k) (hk : k < ws.length) {m : Nat} (hw : ∀ c ∈ ws.getD k [], (32 : UInt8) ≤ c ∧ c ≤ 126) : LineJ ws n (k + 1) ((line ++ rep [32] (m + 1)) ++ quote (ws.getD k [])) := by
  rcases h with ⟨h, _⟩ | ⟨_, h⟩
  · omega
  · refine .inr ⟨Nat.succ_pos _, fun r hr => ?_⟩
    rw [List.append_assoc, List.append_assoc, h _ (blank_rep m _), scan_rep, scan_quote hw hr, R44.take_snoc (d := []) hk]
    cases scan r with
    | none => rfl
    | some x => simp
theorem LineJ.done (h : LineJ ws n k line) (hk : k = ws.length) (m : Nat) : scan (line ++ rep [32] m) = some ws := by
  have e : ∀ m, scan (rep [32] m) = some [] := fun m => by have := scan_rep m []; rwa [List.append_nil, scan_none] at this
  rcases h with ⟨h, rfl⟩ | ⟨_, h⟩
  · rw [scan_rep, e]
    have : ws = [] := List.length_eq_zero_iff.1 (by omega)
    rw [this]
  · cases m with
    | zero => have e2 := h [] (.inl rfl); rw [scan_none, hk] at e2; show scan (line ++ []) = _; rw [e2]; simp
    | succ m => rw [h _ (by have := blank_rep m []; rwa [List.append_nil] at this), e, hk]; simp
end
end R39
end Go.Proofs.YtbfiibgmgopnaaaDoor

namespace Go.Proofs.YtbfiibgmgopnaaaDoor
open Go.GV
namespace R39
open R44 (qualV isUp isPl)
abbrev KV := Bytes × Bytes
def look (m : List KV) (k : Bytes) : Option Bytes := (m.find? fun p => p.1 = k).map (·.2)
abbrev Syms := Bytes → Option Bytes
def symV (s : Bytes) : Bool := qualV isUp isPl s
def cutB (b : UInt8) : Bytes → Option (Bytes × Bytes)
  | [] => none
  | c :: t => if c = b then some ([], t) else (cutB b t).map fun p => (c :: p.1, p.2)
theorem cutB_le {b : UInt8} : ∀ {s a r : Bytes}, cutB b s = some (a, r) → s = a ++ b :: r
  | [], a, r, h => by cases h
  | c :: t, a, r, h => by
    rw [cutB] at h; split at h
    · rename_i e; cases h; rw [e]; rfl
    · cases hq : cutB b t with
      | none => rw [hq] at h; cases h
      | some p =>
        rw [hq] at h; cases h
        rw [cutB_le (a := p.1) (r := p.2) hq]; rfl
def replN (m : Syms) : Nat → Bytes → Except Int Bytes
  | 0, _ => .ok []
  | _ + 1, [] => .ok []
  | n + 1, c :: t =>
    if c = 38 then
      (if t.head? = some 38 then (replN m n t.tail).map (38 :: ·)
      else match cutB 59 t with
        | none => .error 3
        | some (a, r) => if symV a = true then (match m a with
            | none => .error 4
            | some v => (replN m n r).map (v ++ ·)) else .error 3)
    else (replN m n t).map (c :: ·)
def repl (m : Syms) (s : Bytes) : Except Int Bytes := replN m (s.length + 1) s
def replV (m : Syms) (s : Bytes) : Except Int Bytes := match repl m s with
  | .ok x => if 1000 < x.length then .error 8 else .ok x
  | .error e => .error e
section
variable {m : Syms}
theorem replN_ok : ∀ (n k : Nat) (s : Bytes), s.length < n → s.length < k → replN m n s = replN m k s
  | 0, _, _, h, _ => absurd h (Nat.not_lt_zero _)
  | _ + 1, 0, _, _, h => absurd h (Nat.not_lt_zero _)
  | n + 1, k + 1, [], _, _ => rfl
  | n + 1, k + 1, c :: t, hn, hk => by
    rw [List.length_cons] at hn hk
    rw [replN, replN]
    split
    · split
      · have : t.tail.length ≤ t.length := by rw [List.length_tail]; omega
        rw [replN_ok n k t.tail (by omega) (by omega)]
      · split
        · rfl
        · rename_i a r hc
          have := congrArg List.length (cutB_le hc)
          rw [List.length_append, List.length_cons] at this
          split
          · split
            · rfl
            · rw [replN_ok n k r (by omega) (by omega)]
          · rfl
    · rw [replN_ok n k t (by omega) (by omega)]
theorem repl_of {n : Nat} {s : Bytes} (h : s.length < n) : replN m n s = repl m s := replN_ok n (s.length + 1) s h (Nat.lt_succ_self _)
theorem repl_nil : repl m [] = .ok [] := rfl
theorem repl_cons {c : UInt8} {t : Bytes} (h : c ≠ 38) : repl m (c :: t) = (repl m t).map (c :: ·) := by
  unfold repl; rw [replN, if_neg h]; rfl
theorem repl_two {t : Bytes} : repl m (38 :: 38 :: t) = (repl m t).map (38 :: ·) := by
  unfold repl
  rw [replN, if_pos rfl, if_pos (show (38 :: t).head? = some 38 from rfl)]
  show (replN m (t.length + 1 + 1) t).map _ = _
  rw [repl_of (by omega)]; rfl
theorem repl_sym {t : Bytes} (h : t.head? ≠ some 38) : repl m (38 :: t) = match cutB 59 t with
    | none => .error 3
    | some (a, r) => if symV a = true then (match m a with
        | none => .error 4
        | some v => (repl m r).map (v ++ ·)) else .error 3 := by
  unfold repl
  rw [replN, if_pos rfl, if_neg h]
  split
  · rfl
  · rename_i a r hc
    have := congrArg List.length (cutB_le hc)
    rw [List.length_append, List.length_cons] at this
    have e : replN m (t.length + 1) r = replN m (r.length + 1) r := replN_ok _ _ _ (by omega) (by omega)
    show (if symV a = true then (match m a with | none => Except.error 4 | some v => (replN m (t.length + 1) r).map (v ++ ·)) else _) = _
    rw [e]
theorem map_map (x : Except Int Bytes) (f g : Bytes → Bytes) : (x.map f).map g = x.map (g ∘ f) := by cases x <;> rfl
theorem map_id (x : Except Int Bytes) : x.map ([] ++ ·) = x := by cases x <;> rfl
theorem repl_app : ∀ {a b : Bytes}, 38 ∉ a → repl m (a ++ b) = (repl m b).map (a ++ ·)
  | [], b, _ => (map_id _).symm
  | c :: a, b, h => by
    rw [List.cons_append, repl_cons (fun e => h (by rw [e]; exact List.mem_cons_self)), repl_app (fun h2 => h (List.mem_cons_of_mem _ h2)), map_map]; rfl
theorem repl_plain {a : Bytes} (h : 38 ∉ a) : repl m a = .ok a := by
  have := repl_app (m := m) (b := []) h
  rw [List.append_nil, repl_nil] at this
  rw [this]; show Except.ok (a ++ []) = _; rw [List.append_nil]
def amp (s : Bytes) : Bytes := s.flatMap fun c => if c = 38 then [38, 38] else [c]
theorem repl_amp : ∀ {a b : Bytes}, repl m (amp a ++ b) = (repl m b).map (a ++ ·)
  | [], b => (map_id _).symm
  | c :: a, b => by
    have ih := repl_amp (a := a) (b := b)
    unfold amp at *
    rw [List.flatMap_cons]
    by_cases hc : c = 38
    · subst hc
      have e : repl m (38 :: 38 :: (a.flatMap (fun c => if c = 38 then [38, 38] else [c]) ++ b)) = (repl m b).map ((38 :: a) ++ ·) := by
        rw [repl_two, ih, map_map]; rfl
      exact e
    · rw [if_neg hc]
      have e : repl m (c :: (a.flatMap (fun c => if c = 38 then [38, 38] else [c]) ++ b)) = (repl m b).map ((c :: a) ++ ·) := by
        rw [repl_cons hc, ih, map_map]; rfl
      exact e
end
def DAY1 : Bytes := [68, 65, 89, 49]
def DAY : Bytes := [68, 65, 89]
theorem repl_day1 {m : Syms} {v b : Bytes} (h : m DAY1 = some v) : repl m ([38, 68, 65, 89, 49, 59] ++ b) = (repl m b).map (v ++ ·) := by
  have e : cutB 59 ([68, 65, 89, 49, 59] ++ b) = some (DAY1, b) := rfl
  show repl m (38 :: ([68, 65, 89, 49, 59] ++ b)) = _
  rw [repl_sym (by simp), e]
  show (if symV DAY1 = true then (match m DAY1 with | none => Except.error 4 | some v => (repl m b).map (v ++ ·)) else Except.error 3) = _
  rw [if_pos (by decide), h]
theorem repl_none {m : Syms} (h : m [78, 79, 78, 69] = none) : repl m [38, 78, 79, 78, 69, 59] = .error 4 := by
  rw [repl_sym (by simp)]
  show (if symV [78, 79, 78, 69] = true then (match m [78, 79, 78, 69] with | none => Except.error 4 | some v => (repl m []).map (v ++ ·)) else Except.error 3) = _
  rw [if_pos (by decide), h]
theorem repl_open {m : Syms} : repl m [38, 68, 65, 89, 49] = .error 3 := by
  rw [repl_sym (by simp)]; rfl
def SymJ (v line want : Bytes) : Prop := ∀ m b, m DAY1 = some v → repl m (line ++ b) = (repl m b).map (want ++ ·)
section
variable {v line want : Bytes}
theorem SymJ.start : SymJ v [] [] := fun _ _ _ => (map_id _).symm
theorem SymJ.text (h : SymJ v line want) (s : Bytes) : SymJ v (line ++ amp s) (want ++ s) := fun m b hm => by
  rw [List.append_assoc, h m _ hm, repl_amp, map_map]
  congr 1; funext x; exact (List.append_assoc _ _ _).symm
theorem SymJ.sym (h : SymJ v line want) : SymJ v (line ++ [38, 68, 65, 89, 49, 59]) (want ++ v) := fun m b hm => by
  rw [List.append_assoc, h m _ hm, repl_day1 hm, map_map]
  congr 1; funext x; exact (List.append_assoc _ _ _).symm
theorem SymJ.done (h : SymJ v line want) {m : Syms} (hm : m DAY1 = some v) : replV m line = if 1000 < want.length then .error 8 else .ok want := by
  have := h m [] hm
  rw [List.append_nil, repl_nil] at this
  have e : repl m line = .ok want := by rw [this]; show Except.ok (want ++ []) = _; rw [List.append_nil]
  unfold replV; rw [e]
theorem SymJ.none_ (h : SymJ v line want) {m : Syms} (hm : m DAY1 = some v) (hn : m [78, 79, 78, 69] = none) : replV m (line ++ [38, 78, 79, 78, 69, 59]) = .error 4 := by
  unfold replV; rw [h m _ hm, repl_none hn]; rfl
theorem SymJ.open_ (h : SymJ v line want) {m : Syms} (hm : m DAY1 = some v) : replV m (line ++ [38, 68, 65, 89, 49]) = .error 3 := by
  unfold replV; rw [h m _ hm, repl_open]; rfl
end
end R39
end Go.Proofs.YtbfiibgmgopnaaaDoor

namespace Go.Proofs.YtbfiibgmgopnaaaDoor
open Go.GV
namespace R39
structure Stm where
  line : Int
  call : Bytes
  words : List Bytes
  data : List Bytes
deriving DecidableEq
structure Pr where
  vals : List KV
  rows : List Row
structure RS where
  syms : Syms
  procs : List (Bytes × Pr)
  out : List Stm
abbrev Res (α : Type) := Except (Int × Int) α
def wJOB : Bytes := [106, 111, 98]
def wSTEP : Bytes := [115, 116, 101, 112]
def wDD : Bytes := [100, 100]
def wSET : Bytes := [115, 101, 116]
def wPROC : Bytes := [112, 114, 111, 99]
def wEND : Bytes := [101, 110, 100]
def wCALL : Bytes := [99, 97, 108, 108]
def wINL : Bytes := [105, 110, 108, 105, 110, 101]
def wSTOP : Bytes := [47, 42]
def setS (m : Syms) (k v : Bytes) : Syms := fun q => if q = k then some v else m q
def over (m : Syms) (l : List KV) : Syms := fun q => match look l q with
  | some v => some v
  | none => m q
def valsG : List KV → List Bytes → Option (List KV)
  | acc, [] => some acc
  | acc, w :: r => match cutB 61 w with
    | none => none
    | some (a, v) => if (look acc a).isSome = true ∨ symV a = false then none else valsG (acc ++ [(a, v)]) r
def valsV (ws : List Bytes) : Option (List KV) := valsG [] ws
def inl (n : Int) : Nat → List Row → Res (List Bytes)
  | _, [] => .error (n, 3)
  | k, x :: r => if x.text = wSTOP then .ok [] else if 64 ≤ k ∨ 200 < x.text.length then .error (x.number, 8) else (inl n (k + 1) r).map (x.text :: ·)
def idle (s : Bytes) : Bool := match trim s with
  | [] => true
  | c :: _ => decide (c = 35)
def stmV (n : Int) (call : Bytes) (ws : List Bytes) (rest : List Row) (s : RS) : Res (Nat × RS) :=
  if 400 ≤ s.out.length then .error (n, 8)
  else if ws.getD 0 [] = wDD ∧ ws.length = 3 ∧ ws.getD 2 [] = wINL then
    match inl n 0 rest with
    | .error e => .error e
    | .ok l => .ok (l.length + 1, { s with out := s.out ++ [⟨n, call, ws, l⟩] })
  else .ok (0, { s with out := s.out ++ [⟨n, call, ws, []⟩] })
def isEnd (s : Bytes) : Bool := decide (scan s = some [wEND])
def findEnd : List Row → Option Nat
  | [] => none
  | x :: r => if isEnd x.text = true then some 0 else (findEnd r).map (· + 1)
def findP (l : List (Bytes × Pr)) (k : Bytes) : Option Pr := (l.find? fun p => p.1 = k).map (·.2)
def procV (n : Int) (ws : List Bytes) (rest : List Row) (s : RS) : Res (Nat × RS) :=
  if ws.length < 2 ∨ symV (ws.getD 1 []) = false then .error (n, 3)
  else match valsV (ws.drop 2) with
    | none => .error (n, 3)
    | some v => if (findP s.procs (ws.getD 1 [])).isSome = true then .error (n, 5)
      else match findEnd rest with
        | none => .error (n, 3)
        | some i => .ok (i + 1, { s with procs := s.procs ++ [(ws.getD 1 [], ⟨v, rest.take i⟩)] })
def readG (lf : Row → List Row → RS → Res (Nat × RS)) : Nat → List Row → RS → Res RS
  | 0, _, s => .ok s
  | _ + 1, [], s => .ok s
  | n + 1, x :: r, s => match lf x r s with
    | .error e => .error e
    | .ok (k, s') => readG lf n (r.drop k) s'
def lineIn (call : Bytes) (x : Row) (rest : List Row) (s : RS) : Res (Nat × RS) :=
  if idle x.text = true then .ok (0, s) else
  match replV s.syms x.text with
  | .error e => .error (x.number, e)
  | .ok z => match scan z with
    | none => .error (x.number, 3)
    | some ws => if ws = [] then .ok (0, s)
      else if ws.getD 0 [] = wJOB ∨ ws.getD 0 [] = wSTEP ∨ ws.getD 0 [] = wDD then stmV x.number call ws rest s
      else if ws.getD 0 [] = wSET ∨ ws.getD 0 [] = wPROC ∨ ws.getD 0 [] = wEND ∨ ws.getD 0 [] = wCALL then .error (x.number, 9)
      else .error (x.number, 3)
def readIn (call : Bytes) (rows : List Row) (s : RS) : Res RS := readG (lineIn call) (rows.length + 1) rows s
def callV (n : Int) (ws : List Bytes) (s : RS) : Res (Nat × RS) :=
  if ws.length < 3 ∨ symV (ws.getD 1 []) = false ∨ symV (ws.getD 2 []) = false then .error (n, 3)
  else match valsV (ws.drop 3) with
    | none => .error (n, 3)
    | some v => match findP s.procs (ws.getD 2 []) with
      | none => .error (n, 4)
      | some p => if v.all (fun q => (look p.vals q.1).isSome) = true then
          (match readIn (ws.getD 1 []) p.rows { s with syms := over (over s.syms p.vals) v } with
            | .error e => .error e
            | .ok s' => .ok (0, { s' with syms := s.syms }))
        else .error (n, 4)
def lineOut (x : Row) (rest : List Row) (s : RS) : Res (Nat × RS) :=
  if idle x.text = true then .ok (0, s) else
  match replV s.syms x.text with
  | .error e => .error (x.number, e)
  | .ok z => match scan z with
    | none => .error (x.number, 3)
    | some ws => if ws = [] then .ok (0, s)
      else if ws.getD 0 [] = wJOB ∨ ws.getD 0 [] = wSTEP ∨ ws.getD 0 [] = wDD then stmV x.number [] ws rest s
      else if ws.getD 0 [] = wSET then
        (if ws.length ≠ 3 ∨ symV (ws.getD 1 []) = false then .error (x.number, 3) else .ok (0, { s with syms := setS s.syms (ws.getD 1 []) (ws.getD 2 []) }))
      else if ws.getD 0 [] = wPROC then procV x.number ws rest s
      else if ws.getD 0 [] = wEND then .error (x.number, 9)
      else if ws.getD 0 [] = wCALL then callV x.number ws s
      else .error (x.number, 3)
def readOut (rows : List Row) (s : RS) : Res RS := readG lineOut (rows.length + 1) rows s
def linesG : Bytes → Bytes → List Bytes
  | cur, [] => if cur = [] then [] else [cur]
  | cur, c :: r => if c = 10 then cur :: linesG [] r else linesG (cur ++ [c]) r
def linesV (s : Bytes) : List Bytes := linesG [] s
def number : Nat → List Bytes → List Row
  | _, [] => []
  | k, x :: r => ⟨((k + 1 : Nat) : Int), x⟩ :: number (k + 1) r
def rowsV (s : Bytes) : List Row := number 0 (linesV s)
def rs0 : RS := ⟨fun _ => none, [], []⟩
def expand (t : Bytes) : Res (List Stm) :=
  if 16384 < t.length ∨ 512 < (rowsV t).length then .error (0, 8) else (readOut (rowsV t) rs0).map (·.out)
theorem readG_ok (lf : Row → List Row → RS → Res (Nat × RS)) : ∀ (n m : Nat) (l : List Row) (s : RS), l.length < n → l.length < m → readG lf n l s = readG lf m l s
  | 0, _, _, _, h, _ => absurd h (Nat.not_lt_zero _)
  | _ + 1, 0, _, _, _, h => absurd h (Nat.not_lt_zero _)
  | n + 1, m + 1, [], s, _, _ => rfl
  | n + 1, m + 1, x :: r, s, hn, hm => by
    rw [List.length_cons] at hn hm
    rw [readG, readG]
    split
    · rfl
    · rename_i k s' _
      have : (r.drop k).length ≤ r.length := by rw [List.length_drop]; omega
      exact readG_ok lf n m _ s' (by omega) (by omega)
theorem readG_cons (lf : Row → List Row → RS → Res (Nat × RS)) (x : Row) (r : List Row) (s : RS) : readG lf ((x :: r).length + 1) (x :: r) s = match lf x r s with
    | .error e => .error e
    | .ok (k, s') => readG lf ((r.drop k).length + 1) (r.drop k) s' := by
  rw [readG]
  split
  · rfl
  · rename_i k s' _
    refine readG_ok lf _ _ _ s' ?_ (Nat.lt_succ_self _)
    rw [List.length_drop, List.length_cons]; omega
theorem readOut_cons (x : Row) (r : List Row) (s : RS) : readOut (x :: r) s = match lineOut x r s with
    | .error e => .error e
    | .ok (k, s') => readOut (r.drop k) s' := readG_cons _ _ _ _
theorem readIn_cons (c : Bytes) (x : Row) (r : List Row) (s : RS) : readIn c (x :: r) s = match lineIn c x r s with
    | .error e => .error e
    | .ok (k, s') => readIn c (r.drop k) s' := readG_cons _ _ _ _
end R39
end Go.Proofs.YtbfiibgmgopnaaaDoor
